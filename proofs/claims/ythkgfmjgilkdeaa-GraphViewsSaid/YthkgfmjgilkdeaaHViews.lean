/- GraphViews walked. -/
import Derived.Test.YthkgfmjgilkdeaaMG
namespace Go.Proofs.Ythkgfmjgilkdeaa
set_option linter.unusedVariables false
set_option linter.unusedSimpArgs false
open Go.RowKit Go.Shelf Go.Proofs.Ythkgfmjgilkdeaa.Q Go.Proofs.YthkgfmjgilkdeaaW.PrintWords Go.Proofs.YthkgfmjgilkdeaaW.PrintLast Go.Proofs.YthkgfmjgilkdeaaW.PrintMore
def LawR3.T4 : Bool × List (List Nat × List Nat) := (true, [([], []), ([0], [0]), ([1], [1]), ([2], [2]), ([2], [2]), ([3, 4, 2, 2], [2, 3, 4]), ([2], [2]), ([2], [2]), ([6, 7, 5, 2], [2, 6, 7]), ([5, 8, 8, 2], [2, 5, 8]), ([9, 2], [2, 9]), ([2, 10], [2, 10]), ([11, 9], [11]), ([12], [12]), ([12], [12]), ([13, 14, 12, 12], [12, 13, 14]), ([12], [12]), ([12], [12]), ([16, 17, 15, 12], [12, 16, 17]), ([15, 18, 18, 12], [12, 15, 18]), ([19, 12], [12, 19]), ([12, 20], [12, 20])])
def LawR3.B4 : List Nat := [0, 1, 3, 7, 7, 31, 7, 7, 255, 511, 1023, 2047, 4095, 8191, 8191, 32767, 8191, 8191, 262143, 524287, 1048575, 2097151]
theorem LawR3.tab4 : rtab .any (opsOf Try.f3 4) = LawR3.T4 := by kernel_rfl
theorem LawR3.bits4 : waitsOk LawR3.T4.2 LawR3.B4 = true := by kernel_rfl
def LawR3.T10 : Bool × List (List Nat × List Nat) := (true, [([], []), ([], []), ([0, 1], [0, 1]), ([], []), ([2, 3, 2], [2, 3]), ([4], [4]), ([5, 4], [5]), ([6], [6]), ([6], [6]), ([7, 8, 6, 6], [6, 7, 8]), ([6], [6]), ([6], [6]), ([10, 11, 9, 6], [6, 10, 11]), ([9, 12, 12, 6], [6, 9, 12]), ([13, 6], [6, 13]), ([6, 14], [6, 14])])
def LawR3.B10 : List Nat := [0, 0, 3, 0, 15, 31, 63, 127, 127, 511, 127, 127, 4095, 8191, 16383, 32767]
theorem LawR3.tab10 : rtab .any (opsOf Try.f3 10) = LawR3.T10 := by kernel_rfl
theorem LawR3.bits10 : waitsOk LawR3.T10.2 LawR3.B10 = true := by kernel_rfl
def LawR3.T23 : Bool × List (List Nat × List Nat) := (true, [([], []), ([], []), ([], []), ([2], [2]), ([0, 1, 3], [0, 1, 3]), ([4], [4]), ([5, 4], [5]), ([6], [6]), ([7, 6, 6], [6, 7]), ([8, 6], [6, 8]), ([6, 9], [6, 9]), ([10, 8], [10]), ([11], [11]), ([12, 11], [11, 12]), ([11, 13], [11, 13]), ([14, 11], [14]), ([15], [15]), ([16, 15, 15], [15, 16]), ([15], [15]), ([18, 15], [15, 18]), ([17, 19, 15], [15, 17, 19]), ([15, 20], [15, 20]), ([21, 17], [21]), ([22], [22]), ([23, 22, 22], [22, 23]), ([22], [22]), ([25, 24, 22], [22, 25]), ([26, 22], [22, 26]), ([24, 27, 26, 22], [22, 24, 27]), ([22, 28], [22, 28]), ([29, 28], [29]), ([30], [30]), ([31, 30, 30], [30, 31]), ([30], [30]), ([32, 33, 32, 30], [30, 32, 33]), ([30, 34], [30, 34]), ([35, 34, 0, 1, 2, 3, 4, 5, 6, 7, 8, 9, 10, 11, 12, 13, 14, 15, 16, 17, 18, 19, 20, 21, 22, 23, 24, 25, 26, 27, 28, 29, 30, 31, 32, 33, 34, 35], [35])])
def LawR3.B23 : List Nat := [0, 0, 0, 4, 15, 31, 63, 127, 255, 511, 1023, 2047, 4095, 8191, 16383, 32767, 65535, 131071, 65535, 327679, 1048575, 2097151, 4194303, 8388607, 16777215, 8388607, 67108863, 134217727, 268435455, 536870911, 1073741823, 2147483647, 4294967295, 2147483647, 17179869183, 34359738367, 68719476735]
theorem LawR3.tab23 : rtab .any (opsOf Try.f3 23) = LawR3.T23 := by kernel_rfl
theorem LawR3.bits23 : waitsOk LawR3.T23.2 LawR3.B23 = true := by kernel_rfl
theorem LG.drew {W : World} {b b8 N : Nat} {A5 : Option Addr} {c5 : Nat} {E : List S43} (h : LG W b b8 N A5 c5 E) : LG W.drew b b8 N A5 c5 E := h.below (below_drew1 (Below.refl _ _))
theorem LG.start {w W : World} {b N : Nat} {A5 : Option Addr} {c5 : Nat} {E : List S43} (hG : IsG W b (rowsOf N (E.map to44) true) (rowsOf N (E.map to44) false)) (hv : k43.R 43 W w.heap.size (fun _ => True) (.slice A5 (insL [] E).length c5) (insL [] E)) (ok : ∀ e, e ∈ E → okE (N : Int) e = true) (n1 : 1 ≤ N) (n2 : N ≤ 30) (el : E.length ≤ 120) :
    LG (W.alloc (.cells #[.int .i64 N, .slice A5 (insL [] E).length c5] 26)) b W.heap.size N A5 c5 E :=
  ⟨hG.alloc _, heap_alloc_last W _, Kd.C_below (Kd.R_reads' hv).2.2 (below_alloc (Below.refl _ _) _), (Kd.R_reads' hv).2.1, ok, n1, n2, el⟩
section
variable {W : World} {b b8 N br : Nat} {A5 : Option Addr} {c5 : Nat} {E : List S43}
/-- The graph turned round. -/
abbrev Rv (W : World) (br N : Nat) (E : List S43) : Prop := IsG W br (rowsOf N (E.map to44) false) (rowsOf N (E.map to44) true)
def zz (E : List S43) : List S43 := insL [] ((insL [] E).map swapE)
theorem zz_len (h : LG W b b8 N A5 c5 E) : (zz E).length ≤ 120 := by
  have h1 := insL_len ((insL [] E).map swapE) []
  have h2 := h.rl
  unfold zz
  simp at *
  omega
theorem lg_hastop (h : LG W b b8 N A5 c5 E) (i : Int) : Calls Try.prog 18 #[.pointer (some ⟨b, 0, none⟩), .int .i64 i, .int .i64 N] W fun e W' => e = .returned (.bool false) ∧ LG W' b b8 N A5 c5 E ∧ Below W.heap.size W W' := by
  by_cases hi : 0 ≤ i ∧ i < N
  · refine (lg_has h i N hi.1 hi.2).mono ?_
    rintro e W' ⟨rfl, h1, h2⟩
    refine ⟨?_, h1, h2⟩
    rw [decide_eq_false]
    intro hm
    rw [afterL_mem, ins_mem] at hm
    have := h.ok _ hm
    unfold okE at this
    simp only [Bool.and_eq_true, decide_eq_true_eq] at this
    omega
  · exact lg_hasnot h i N hi
theorem lg_reverse (h : LG W b b8 N A5 c5 E) : Calls Try.prog 19 #[.pointer (some ⟨b, 0, none⟩)] W fun e W' => ∃ br, e = .returned (.pointer (some ⟨br, 0, none⟩)) ∧ Rv W' br N E ∧ LG W' b b8 N A5 c5 E ∧ Below W.heap.size W W' :=
  (Reverse_calls h.g).mono fun e W' ⟨br, h1, h2, h3⟩ => ⟨br, h1, h2, h.below h3, h3⟩
theorem lg_nodes (h : LG W b b8 N A5 c5 E) (hr : Rv W br N E) : Calls Try.prog 20 #[.pointer (some ⟨br, 0, none⟩)] W fun e W' => e = .returned (.int .i64 N) ∧ LG W' b b8 N A5 c5 E ∧ Rv W' br N E ∧ Below W.heap.size W W' := by
  refine (Nodes_calls hr).mono ?_
  rintro e W' ⟨rfl, q, hq⟩
  have hb : Below W.heap.size W W' := by rw [hq]; exact pw_below_drewN (Below.refl _ _) q
  exact ⟨by rw [rowsT_len], h.below hb, hr.below hb, hb⟩
theorem lg_edges (h : LG W b b8 N A5 c5 E) (hr : Rv W br N E) : Calls Try.prog 22 #[.pointer (some ⟨br, 0, none⟩)] W fun e W' => ∃ A c, e = .returned (.slice A (zz E).length c) ∧ ((zz E).length ≤ c ∧ k44.C W' A (zz E).length ((zz E).map to44)) ∧ LG W' b b8 N A5 c5 E ∧ Rv W' br N E ∧ Below W.heap.size W W' := by
  refine (Edges_calls hr).mono ?_
  rintro e W' ⟨v, rfl, hv, hb⟩
  rw [rowsT_len, edgesTo_43, edges_rows_f h.ok] at hv
  obtain ⟨A, c, rfl, h1, h2⟩ := Kd.R_reads hv
  rw [List.length_map] at h1 h2 ⊢
  exact ⟨A, c, rfl, ⟨h1, h2⟩, h.below hb, hr.below hb, hb⟩
theorem lg_rrev (h : LG W b b8 N A5 c5 E) : Calls Try.prog 23 #[.agg #[.int .i64 N, .slice A5 (insL [] E).length c5]] W fun e W' => ∃ A c, e = .returned (.agg #[.int .i64 N, .slice A (zz E).length c]) ∧ ((zz E).length ≤ c ∧ k43.C W' A (zz E).length (zz E)) ∧ LG W' b b8 N A5 c5 E ∧ Below W.heap.size W W' := by
  have hrl := h.rl
  have hn := h.n2
  refine (replevinref08_Reverse.calls ((insL [] E).length + 1) (N : Int) A5 c5 (insL [] E) _ _ W h.ref h.rc (rev_f (by omega) (insL [] E) (ins_ok h.ok) (by omega) _ (by omega))).mono ?_
  rintro e W' ⟨v, rfl, hv, hb⟩
  obtain ⟨A, c, rfl, h1, h2⟩ := Kd.R_reads hv
  exact ⟨A, c, rfl, ⟨h1, h2⟩, h.below hb, hb⟩
theorem lg_edsame (h : LG W b b8 N A5 c5 E) {A B : Option Addr} {c d : Nat} (h1 : (zz E).length ≤ c ∧ k44.C W A (zz E).length ((zz E).map to44)) (h2 : (zz E).length ≤ d ∧ k43.C W B (zz E).length (zz E)) :
    Calls Try.prog 21 #[.slice A (zz E).length c, .slice B (zz E).length d] W fun e W' => e = .returned (.bool true) ∧ LG W' b b8 N A5 c5 E ∧ Below W.heap.size W W' := by
  have hz := zz_len h
  have hl : ((zz E).map to44).length = (zz E).length := List.length_map _
  have := replevinlaw08_sameEdges.calls ((zz E).length + 1) A c ((zz E).map to44) B d (zz E) true W (by rw [hl]; exact h1.2) (by rw [hl]; exact h1.1) h2.2 h2.1 (by rw [edges_f _ _ (by rw [hl]; omega) _ (by rw [hl]; omega)]; simp)
  rw [hl] at this
  refine this.mono ?_
  rintro e W' ⟨rfl, q, hq⟩
  have hb : Below W.heap.size W W' := by rw [hq]; exact pw_below_drewN (Below.refl _ _) q
  exact ⟨rfl, h.below hb, hb⟩
theorem lg_rev2 (h : LG W b b8 N A5 c5 E) (hr : Rv W br N E) : Calls Try.prog 19 #[.pointer (some ⟨br, 0, none⟩)] W fun e W' => ∃ b', e = .returned (.pointer (some ⟨b', 0, none⟩)) ∧ IsG W' b' (rowsOf N (E.map to44) true) (rowsOf N (E.map to44) false) ∧ LG W' b b8 N A5 c5 E ∧ Below W.heap.size W W' :=
  (Reverse_calls hr).mono fun e W' ⟨br, h1, h2, h3⟩ => ⟨br, h1, h2, h.below h3, h3⟩
theorem lg_equal (h : LG W b b8 N A5 c5 E) {b' : Nat} (hr : IsG W b' (rowsOf N (E.map to44) true) (rowsOf N (E.map to44) false)) : Calls Try.prog 24 #[.pointer (some ⟨b', 0, none⟩), .pointer (some ⟨b, 0, none⟩)] W fun e W' => e = .returned (.bool true) ∧ LG W' b b8 N A5 c5 E ∧ Below W.heap.size W W' :=
  (Equal_calls hr h.g).mono fun e W' ⟨h1, h3⟩ => ⟨by rw [h1]; simp, h.below h3, h3⟩
theorem there_step (L : List Int) (x : Int) (i : Nat) (h : i < L.length) : decide (x ∈ L.take (i + 1)) = (decide (x ∈ L.take i) || decide (L[i] = x)) := by
  rw [List.take_add_one, List.getElem?_eq_getElem h]
  simp only [Option.toList_some, List.mem_append, List.mem_singleton, Bool.decide_or]
  congr 1
  exact decide_eq_decide.mpr ⟨fun h => h.symm, fun h => h.symm⟩
end
set_option maxHeartbeats 8000000 in
set_option maxRecDepth 100000 in
theorem GraphViews_calls (a : Nat) (ha : a < 256) (A : Option Addr) (c : Nat) (l : List S43) (n : Int) (w : World) (hr : k43.C w A l.length l) (hc : l.length ≤ c) (hl : l.length ≤ 9223372036854775807) :
    Calls Try.prog 3 #[.int .u8 a, .slice A l.length c, .int .i64 n] w fun e w' => e = .returned (.bool true) ∧ Below w.heap.size w w' := by
  have HR := Aside0.mk hr
  have HC := Aside0.mk (And.intro hc hl)
  clear hr hc hl
  go_enter Try.func3, Try.ntmps3
  go_upto_region 4 with (first
    | (go_at_call 11; refine (known_calls _).mono ?_; rintro e w1 ⟨rfl, hb⟩; have HB1 := Aside0.mk hb; clear hb)
    | (go_at_call 12; refine (Make_calls a ha A c l _ (Kd.C_below HR.out HB1.out) HC.out.1 HC.out.2).mono ?_; rintro e w2 ⟨b, v, rfl, hK, hv, hb⟩; obtain ⟨A5, c5, e5⟩ := Kd.R_slice hv; subst e5; have HK := Aside0.mk hK; have HV := Aside0.mk hv; have HBw := Aside0.mk (below_step HB1.out hb); clear hK hv hb))
  have Hok := Aside0.mk (show ∀ e, e ∈ ownE (nOf a) l → okE ((nOf a : Nat) : Int) e = true from fun e he => own_ok (by unfold nOf; omega) he)
  have Hel := Aside0.mk (show (ownE (nOf a) l).length ≤ 120 by unfold ownE; simp; omega)
  have Hn := Aside0.mk (show 1 ≤ nOf a ∧ nOf a ≤ 30 by unfold nOf; omega)
  generalize ownE (nOf a) l = E at HK HV Hok Hel ⊢
  generalize nOf a = N at HK HV Hok Hn ⊢
  have HG := Aside0.mk (LG.start HK.out.here HV.out Hok.out Hn.out.1 Hn.out.2 Hel.out).drew
  have HBw := Aside0.mk (below_drew1 (below_alloc HBw.out (.cells #[.int .i64 N, .slice A5 (insL [] E).length c5] 26)))
  obtain ⟨w3, hw3⟩ : ∃ w3, w3 = w2.alloc (.cells #[.int .i64 N, .slice A5 (insL [] E).length c5] 26) := ⟨_, rfl⟩
  obtain ⟨b8, hb8⟩ : ∃ b8, b8 = w2.heap.size := ⟨_, rfl⟩
  rw [← hw3, ← hb8] at HG ⊢
  rw [← hw3] at HBw
  have hn30 := Hn.out.2
  clear hw3 hb8 HK HV Hok Hel HB1
  refine start_ (n := 22) (S := fun w' => w'.cell? ⟨b8, 0, none⟩ = some (.int .i64 N) ∧ w'.cell? ⟨b8, 1, none⟩ = some (.slice A5 (insL [] E).length c5)) (ds := []) #[false, false, false, false, false, false, false, false, false, false, false, false, false, false, false, false, false, false, false, false, false, false] (by kernel_rfl) rfl rfl ⟨HG.out.c0, HG.out.c1⟩ (fun hHeld => ?_)
  refine with_tabW LawR3.tab4 LawR3.bits4 (fun HT_ HW_ => ?_)
  generalize w3.drew = w4 at HG HBw hHeld ⊢
  refine pure_ (i := 0) (N := some 23) (v := ?_) (a' := ?_) #[true, false, false, false, false, false, false, false, false, false, false, false, false, false, false, false, false, false, false, false, false, false] rfl rfl (any_of HT_.out (by kernel_rfl)) (fun _ _ _ h => h) (Or.inl ⟨by rfl, ?_⟩) ?_ ?_
  rotate_left
  · intro w'
    go_simp
    with_reducible rfl
  rotate_left
  · simp only [Act.put, List.setIfInBounds_toArray, List.set_cons_zero, List.set_cons_succ, i64_w, i32_w]
    rfl
  refine pure_ (i := 1) (N := some 24) (v := ?_) (a' := ?_) #[true, true, false, false, false, false, false, false, false, false, false, false, false, false, false, false, false, false, false, false, false, false] rfl rfl (any_of HT_.out (by kernel_rfl)) (fun _ _ _ h => h) (Or.inl ⟨by rfl, ?_⟩) ?_ ?_
  rotate_left
  · intro w'
    go_simp
    with_reducible rfl
  rotate_left
  · simp only [Act.put, List.setIfInBounds_toArray, List.set_cons_zero, List.set_cons_succ, i64_w, i32_w]
    rfl
  refine pure_ (i := 2) (N := some 25) (v := ?_) (a' := ?_) #[true, true, true, false, false, false, false, false, false, false, false, false, false, false, false, false, false, false, false, false, false, false] rfl rfl (any_of HT_.out (by kernel_rfl)) (fun _ _ _ h => h) (Or.inl ⟨by rfl, ?_⟩) ?_ ?_
  rotate_left
  · intro w'
    go_simp
    with_reducible rfl
  rotate_left
  · simp only [Act.put, List.setIfInBounds_toArray, List.set_cons_zero, List.set_cons_succ, i64_w, i32_w]
    rfl
  refine pure_ (i := 3) (N := some 26) (v := ?_) (a' := ?_) #[true, true, true, true, false, false, false, false, false, false, false, false, false, false, false, false, false, false, false, false, false, false] rfl rfl (any_of HT_.out (by kernel_rfl)) (fun _ _ _ h => h) (Or.inl ⟨by rfl, ?_⟩) ?_ ?_
  rotate_left
  · intro w'
    go_simp
    with_reducible rfl
  rotate_left
  · simp only [Act.put, List.setIfInBounds_toArray, List.set_cons_zero, List.set_cons_succ, i64_w, i32_w]
    rfl
  refine pure_ (i := 4) (N := some 27) (v := ?_) (a' := ?_) #[true, true, true, true, true, false, false, false, false, false, false, false, false, false, false, false, false, false, false, false, false, false] rfl rfl (any_of HT_.out (by kernel_rfl)) (fun _ _ _ h => h) (Or.inl ⟨by rfl, ?_⟩) ?_ ?_
  rotate_left
  · intro w'
    go_simp
    with_reducible rfl
  rotate_left
  · simp only [Act.put, List.setIfInBounds_toArray, List.set_cons_zero, List.set_cons_succ, i64_w, i32_w]
    rfl
  refine pure_ (i := 7) (N := some 30) (v := ?_) (a' := ?_) #[true, true, true, true, true, false, false, true, false, false, false, false, false, false, false, false, false, false, false, false, false, false] rfl rfl (any_of HT_.out (by kernel_rfl)) (fun _ _ _ h => h) (Or.inl ⟨by rfl, ?_⟩) ?_ ?_
  rotate_left
  · intro w'
    go_simp
    with_reducible rfl
  rotate_left
  · simp only [Act.put, List.setIfInBounds_toArray, List.set_cons_zero, List.set_cons_succ, i64_w, i32_w]
    rfl
  refine take_ (i := 6) (N := some 29) (v := ?_) (a' := ?_) #[true, true, true, true, true, false, true, true, false, false, false, false, false, false, false, false, false, false, false, false, false, false] rfl rfl (take_ofW HT_.out HW_.out (by kernel_rfl)) (fun _ _ _ h => h) (Or.inl ⟨by rfl, ?_⟩) hHeld ?_ ?_
  rotate_left
  · rintro w' ⟨s0, s1⟩
    go_simp
    with_reducible rfl
  rotate_left
  · simp only [Act.put, List.setIfInBounds_toArray, List.set_cons_zero, List.set_cons_succ, i64_w, i32_w]
    rfl
  refine one_ (i := 5) (N := some 28) #[true, true, true, true, true, true, true, true, false, false, false, false, false, false, false, false, false, false, false, false, false, false] rfl rfl (one_of HT_.out (by kernel_rfl)) (by decide) (fun K hK => ?_)
  refine goes_ Try.func14 (by kernel_rfl) rfl #[.pointer (some ⟨b, 0, none⟩), .int .i64 n] (by rfl) rfl rfl (by simp only [List.map_toArray, List.map_cons, List.map_nil]; rfl) ?_
  with_reducible refine (lg_after HG.out n).mono ?_
  rintro e wz1 ⟨Aa1, ca1, rfl, hL, hG, hb⟩
  refine ⟨_, rfl, ?_⟩
  have HG := Aside0.mk hG
  have HBw := Aside0.mk (below_step HBw.out hb)
  have Ha1 := Aside0.mk hL
  clear hL hG hb
  refine hK.out _ _ ⟨HG.out.c0, HG.out.c1⟩ (fun hHeld => ?_)
  clear hK K
  refine norm_ (a' := ?_) ?_ ?_
  rotate_left
  · show Act.put _ (some 28) _ = _
    simp only [Act.put, List.setIfInBounds_toArray, List.set_cons_zero, List.set_cons_succ, i64_w, i32_w]
    rfl
  refine one_ (i := 8) (N := some 31) #[true, true, true, true, true, true, true, true, true, false, false, false, false, false, false, false, false, false, false, false, false, false] rfl rfl (one_of HT_.out (by kernel_rfl)) (by decide) (fun K hK => ?_)
  refine goes_ Try.func15 (by kernel_rfl) rfl #[.agg #[.int .i64 N, .slice A5 (insL [] E).length c5], .int .i64 n] (by rfl) rfl rfl (by simp only [List.map_toArray, List.map_cons, List.map_nil]; rfl) ?_
  with_reducible refine (lg_rafter HG.out n).mono ?_
  rintro e wz2 ⟨Aa2, ca2, rfl, hL, hG, hb⟩
  refine ⟨_, rfl, ?_⟩
  have HG := Aside0.mk hG
  have HBw := Aside0.mk (below_step HBw.out hb)
  have Ha1 := Aside0.mk (Ha1.out.below hb)
  have Ha2 := Aside0.mk hL
  clear hL hG hb
  refine hK.out _ _ ⟨HG.out.c0, HG.out.c1⟩ (fun hHeld => ?_)
  clear hK K
  refine norm_ (a' := ?_) ?_ ?_
  rotate_left
  · show Act.put _ (some 31) _ = _
    simp only [Act.put, List.setIfInBounds_toArray, List.set_cons_zero, List.set_cons_succ, i64_w, i32_w]
    rfl
  refine one_ (i := 9) (N := some 32) #[true, true, true, true, true, true, true, true, true, true, false, false, false, false, false, false, false, false, false, false, false, false] rfl rfl (one_of HT_.out (by kernel_rfl)) (by decide) (fun K hK => ?_)
  refine goes_ Try.func13 (by kernel_rfl) rfl #[.slice Aa1 (afterL (insL [] E) n).length ca1, .slice Aa2 (afterL (insL [] E) n).length ca2] (by rfl) rfl rfl (by simp only [List.map_toArray, List.map_cons, List.map_nil]; rfl) ?_
  with_reducible refine (lg_same HG.out Ha1.out Ha2.out (by have := HG.out.rl; have := afterL_len (insL [] E) n; omega)).mono ?_
  rintro e wz3 ⟨rfl, hG, hb⟩
  refine ⟨_, rfl, ?_⟩
  have HG := Aside0.mk hG
  have HBw := Aside0.mk (below_step HBw.out hb)
  clear hG hb
  refine hK.out _ _ ⟨HG.out.c0, HG.out.c1⟩ (fun hHeld => ?_)
  clear hK K
  refine norm_ (a' := ?_) ?_ ?_
  rotate_left
  · show Act.put _ (some 32) _ = _
    simp only [Act.put, List.setIfInBounds_toArray, List.set_cons_zero, List.set_cons_succ, i64_w, i32_w]
    rfl
  refine pure_ (i := 10) (N := some 33) (v := ?_) (a' := ?_) #[true, true, true, true, true, true, true, true, true, true, true, false, false, false, false, false, false, false, false, false, false, false] rfl rfl (any_of HT_.out (by kernel_rfl)) (fun _ _ _ h => h) (Or.inl ⟨by rfl, ?_⟩) ?_ ?_
  rotate_left
  · intro w'
    go_simp
    with_reducible rfl
  rotate_left
  · simp only [Act.put, List.setIfInBounds_toArray, List.set_cons_zero, List.set_cons_succ, i64_w, i32_w]
    rfl
  refine pure_ (i := 11) (N := some 34) (v := ?_) (a' := ?_) #[true, true, true, true, true, true, true, true, true, true, true, true, false, false, false, false, false, false, false, false, false, false] rfl rfl (any_of HT_.out (by kernel_rfl)) (fun _ _ _ h => h) (Or.inl ⟨by rfl, ?_⟩) ?_ ?_
  rotate_left
  · intro w'
    go_simp
    with_reducible rfl
  rotate_left
  · simp only [Act.put, List.setIfInBounds_toArray, List.set_cons_zero, List.set_cons_succ, i64_w, i32_w]
    rfl
  refine pure_ (i := 12) (N := some 35) (v := ?_) (a' := ?_) #[true, true, true, true, true, true, true, true, true, true, true, true, true, false, false, false, false, false, false, false, false, false] rfl rfl (any_of HT_.out (by kernel_rfl)) (fun _ _ _ h => h) (Or.inl ⟨by rfl, ?_⟩) ?_ ?_
  rotate_left
  · intro w'
    go_simp
    with_reducible rfl
  rotate_left
  · simp only [Act.put, List.setIfInBounds_toArray, List.set_cons_zero, List.set_cons_succ, i64_w, i32_w]
    rfl
  refine pure_ (i := 13) (N := some 36) (v := ?_) (a' := ?_) #[true, true, true, true, true, true, true, true, true, true, true, true, true, true, false, false, false, false, false, false, false, false] rfl rfl (any_of HT_.out (by kernel_rfl)) (fun _ _ _ h => h) (Or.inl ⟨by rfl, ?_⟩) ?_ ?_
  rotate_left
  · intro w'
    go_simp
    with_reducible rfl
  rotate_left
  · simp only [Act.put, List.setIfInBounds_toArray, List.set_cons_zero, List.set_cons_succ, i64_w, i32_w]
    rfl
  refine pure_ (i := 14) (N := some 37) (v := ?_) (a' := ?_) #[true, true, true, true, true, true, true, true, true, true, true, true, true, true, true, false, false, false, false, false, false, false] rfl rfl (any_of HT_.out (by kernel_rfl)) (fun _ _ _ h => h) (Or.inl ⟨by rfl, ?_⟩) ?_ ?_
  rotate_left
  · intro w'
    go_simp
    with_reducible rfl
  rotate_left
  · simp only [Act.put, List.setIfInBounds_toArray, List.set_cons_zero, List.set_cons_succ, i64_w, i32_w]
    rfl
  refine pure_ (i := 17) (N := some 40) (v := ?_) (a' := ?_) #[true, true, true, true, true, true, true, true, true, true, true, true, true, true, true, false, false, true, false, false, false, false] rfl rfl (any_of HT_.out (by kernel_rfl)) (fun _ _ _ h => h) (Or.inl ⟨by rfl, ?_⟩) ?_ ?_
  rotate_left
  · intro w'
    go_simp
    with_reducible rfl
  rotate_left
  · simp only [Act.put, List.setIfInBounds_toArray, List.set_cons_zero, List.set_cons_succ, i64_w, i32_w]
    rfl
  refine take_ (i := 16) (N := some 39) (v := ?_) (a' := ?_) #[true, true, true, true, true, true, true, true, true, true, true, true, true, true, true, false, true, true, false, false, false, false] rfl rfl (take_ofW HT_.out HW_.out (by kernel_rfl)) (fun _ _ _ h => h) (Or.inl ⟨by rfl, ?_⟩) hHeld ?_ ?_
  rotate_left
  · rintro w' ⟨s0, s1⟩
    go_simp
    with_reducible rfl
  rotate_left
  · simp only [Act.put, List.setIfInBounds_toArray, List.set_cons_zero, List.set_cons_succ, i64_w, i32_w]
    rfl
  refine one_ (i := 15) (N := some 38) #[true, true, true, true, true, true, true, true, true, true, true, true, true, true, true, true, true, true, false, false, false, false] rfl rfl (one_of HT_.out (by kernel_rfl)) (by decide) (fun K hK => ?_)
  refine goes_ Try.func16 (by kernel_rfl) rfl #[.pointer (some ⟨b, 0, none⟩), .int .i64 n] (by rfl) rfl rfl (by simp only [List.map_toArray, List.map_cons, List.map_nil]; rfl) ?_
  with_reducible refine (lg_before HG.out n).mono ?_
  rintro e wz4 ⟨Aa3, ca3, rfl, hL, hG, hb⟩
  refine ⟨_, rfl, ?_⟩
  have HG := Aside0.mk hG
  have HBw := Aside0.mk (below_step HBw.out hb)
  have Ha3 := Aside0.mk hL
  clear hL hG hb
  refine hK.out _ _ ⟨HG.out.c0, HG.out.c1⟩ (fun hHeld => ?_)
  clear hK K
  refine norm_ (a' := ?_) ?_ ?_
  rotate_left
  · show Act.put _ (some 38) _ = _
    simp only [Act.put, List.setIfInBounds_toArray, List.set_cons_zero, List.set_cons_succ, i64_w, i32_w]
    rfl
  refine one_ (i := 18) (N := some 41) #[true, true, true, true, true, true, true, true, true, true, true, true, true, true, true, true, true, true, true, false, false, false] rfl rfl (one_of HT_.out (by kernel_rfl)) (by decide) (fun K hK => ?_)
  refine goes_ Try.func17 (by kernel_rfl) rfl #[.agg #[.int .i64 N, .slice A5 (insL [] E).length c5], .int .i64 n] (by rfl) rfl rfl (by simp only [List.map_toArray, List.map_cons, List.map_nil]; rfl) ?_
  with_reducible refine (lg_rbefore HG.out n).mono ?_
  rintro e wz5 ⟨Aa4, ca4, rfl, hL, hG, hb⟩
  refine ⟨_, rfl, ?_⟩
  have HG := Aside0.mk hG
  have HBw := Aside0.mk (below_step HBw.out hb)
  have Ha3 := Aside0.mk (Ha3.out.below hb)
  have Ha4 := Aside0.mk hL
  clear hL hG hb
  refine hK.out _ _ ⟨HG.out.c0, HG.out.c1⟩ (fun hHeld => ?_)
  clear hK K
  refine norm_ (a' := ?_) ?_ ?_
  rotate_left
  · show Act.put _ (some 41) _ = _
    simp only [Act.put, List.setIfInBounds_toArray, List.set_cons_zero, List.set_cons_succ, i64_w, i32_w]
    rfl
  refine one_ (i := 19) (N := some 42) #[true, true, true, true, true, true, true, true, true, true, true, true, true, true, true, true, true, true, true, true, false, false] rfl rfl (one_of HT_.out (by kernel_rfl)) (by decide) (fun K hK => ?_)
  refine goes_ Try.func13 (by kernel_rfl) rfl #[.slice Aa3 (beforeL (insL [] E) n).length ca3, .slice Aa4 (beforeL (insL [] E) n).length ca4] (by rfl) rfl rfl (by simp only [List.map_toArray, List.map_cons, List.map_nil]; rfl) ?_
  with_reducible refine (lg_same HG.out Ha3.out Ha4.out (by have := HG.out.rl; have := beforeL_len (insL [] E) n; omega)).mono ?_
  rintro e wz6 ⟨rfl, hG, hb⟩
  refine ⟨_, rfl, ?_⟩
  have HG := Aside0.mk hG
  have HBw := Aside0.mk (below_step HBw.out hb)
  clear hG hb
  refine hK.out _ _ ⟨HG.out.c0, HG.out.c1⟩ (fun hHeld => ?_)
  clear hK K
  refine norm_ (a' := ?_) ?_ ?_
  rotate_left
  · show Act.put _ (some 42) _ = _
    simp only [Act.put, List.setIfInBounds_toArray, List.set_cons_zero, List.set_cons_succ, i64_w, i32_w]
    rfl
  refine pure_ (i := 20) (N := some 43) (v := ?_) (a' := ?_) #[true, true, true, true, true, true, true, true, true, true, true, true, true, true, true, true, true, true, true, true, true, false] rfl rfl (any_of HT_.out (by kernel_rfl)) (fun _ _ _ h => h) (Or.inl ⟨by rfl, ?_⟩) ?_ ?_
  rotate_left
  · intro w'
    go_simp
    with_reducible rfl
  rotate_left
  · simp only [Act.put, List.setIfInBounds_toArray, List.set_cons_zero, List.set_cons_succ, i64_w, i32_w]
    rfl
  refine pure_ (i := 21) (N := some 44) (v := ?_) (a' := ?_) #[true, true, true, true, true, true, true, true, true, true, true, true, true, true, true, true, true, true, true, true, true, true] rfl rfl (any_of HT_.out (by kernel_rfl)) (fun _ _ _ h => h) (Or.inl ⟨by rfl, ?_⟩) ?_ ?_
  rotate_left
  · intro w'
    go_simp
    with_reducible rfl
  rotate_left
  · simp only [Act.put, List.setIfInBounds_toArray, List.set_cons_zero, List.set_cons_succ, i64_w, i32_w]
    rfl
  refine done_ (done_of HT_.out (by kernel_rfl)) ?_

  go_wp2_with fail
  go_loopg [9, 10, 11, 12, 13] N (fun kq v9 v10 v11 v12 v13 w' => ∃ (j : Nat), v9 = .int .i64 j ∧ j + kq = N ∧ Aside0 (LG w' b b8 N A5 c5 E) ∧ Aside0 (Below w.heap.size w w'))
  case atStart => exact ⟨0, rfl, by omega, HG, HBw⟩
  case round =>
    clear HG HBw
    obtain ⟨j, rfl, hj, HG, HBw⟩ := hrel
    have q0 := HG.out.c0
    cases gk with
    | succ k1 =>
      have hjN : (j : Int) < (N : Int) := by omega
      have hj0 : (0 : Int) ≤ (j : Int) := by omega
      have q1 := HG.out.c1
      go_upto_region 10 with (go_at_call 15; refine (lg_rafter HG.out j).mono ?_; rintro e wb ⟨Ar, cr, rfl, hL, hG, hb⟩; have HG := Aside0.mk hG.drew; have HBw := Aside0.mk (below_drew1 (below_step HBw.out hb)); have Hr := Aside0.mk (hL.below (below_drew1 (Below.refl _ _))); clear hL hG hb)
      clear q0 q1
      refine start_ (n := 16) (S := fun w' => w'.cell? ⟨b8, 0, none⟩ = some (.int .i64 N) ∧ w'.cell? ⟨b8, 1, none⟩ = some (.slice A5 (insL [] E).length c5)) (ds := []) #[false, false, false, false, false, false, false, false, false, false, false, false, false, false, false, false] (by kernel_rfl) rfl rfl ⟨HG.out.c0, HG.out.c1⟩ (fun hHeld => ?_)
      refine with_tabW LawR3.tab10 LawR3.bits10 (fun HT_ HW_ => ?_)
      generalize wb.drew = w4 at HG HBw Hr hHeld ⊢
      refine pure_ (i := 0) (N := some 54) (v := ?_) (a' := ?_) #[true, false, false, false, false, false, false, false, false, false, false, false, false, false, false, false] rfl rfl (any_of HT_.out (by kernel_rfl)) (fun _ _ _ h => h) (Or.inl ⟨by rfl, ?_⟩) ?_ ?_
      rotate_left
      · intro w'
        go_simp
        with_reducible rfl
      rotate_left
      · simp only [Act.put, List.setIfInBounds_toArray, List.set_cons_zero, List.set_cons_succ, i64_w, i32_w]
        rfl
      refine pure_ (i := 1) (N := some 55) (v := ?_) (a' := ?_) #[true, true, false, false, false, false, false, false, false, false, false, false, false, false, false, false] rfl rfl (any_of HT_.out (by kernel_rfl)) (fun _ _ _ h => h) (Or.inl ⟨by rfl, ?_⟩) ?_ ?_
      rotate_left
      · intro w'
        go_simp
        with_reducible rfl
      rotate_left
      · simp only [Act.put, List.setIfInBounds_toArray, List.set_cons_zero, List.set_cons_succ, i64_w, i32_w]
        rfl
      refine pure_ (i := 3) (N := some 57) (v := ?_) (a' := ?_) #[true, true, false, true, false, false, false, false, false, false, false, false, false, false, false, false] rfl rfl (any_of HT_.out (by kernel_rfl)) (fun _ _ _ h => h) (Or.inl ⟨by rfl, ?_⟩) ?_ ?_
      rotate_left
      · intro w'
        go_simp
        with_reducible rfl
      rotate_left
      · simp only [Act.put, List.setIfInBounds_toArray, List.set_cons_zero, List.set_cons_succ, i64_w, i32_w]
        rfl
      refine one_ (i := 2) (N := some 56) #[true, true, true, true, false, false, false, false, false, false, false, false, false, false, false, false] rfl rfl (one_of HT_.out (by kernel_rfl)) (by decide) (fun K hK => ?_)
      refine goes_ Try.func14 (by kernel_rfl) rfl #[.pointer (some ⟨b, 0, none⟩), .int .i64 j] (by rfl) rfl rfl (by simp only [List.map_toArray, List.map_cons, List.map_nil]; rfl) ?_
      with_reducible refine (lg_after HG.out j).mono ?_
      rintro e wz7 ⟨Ab1, cb1, rfl, hL, hG, hb⟩
      refine ⟨_, rfl, ?_⟩
      have HG := Aside0.mk hG
      have HBw := Aside0.mk (below_step HBw.out hb)
      have Hr := Aside0.mk (Hr.out.below hb)
      have Hb1 := Aside0.mk hL
      clear hL hG hb
      refine hK.out _ _ ⟨HG.out.c0, HG.out.c1⟩ (fun hHeld => ?_)
      clear hK K
      refine norm_ (a' := ?_) ?_ ?_
      rotate_left
      · show Act.put _ (some 56) _ = _
        simp only [Act.put, List.setIfInBounds_toArray, List.set_cons_zero, List.set_cons_succ, i64_w, i32_w]
        rfl
      refine one_ (i := 4) (N := some 58) #[true, true, true, true, true, false, false, false, false, false, false, false, false, false, false, false] rfl rfl (one_of HT_.out (by kernel_rfl)) (by decide) (fun K hK => ?_)
      refine goes_ Try.func13 (by kernel_rfl) rfl #[.slice Ab1 (afterL (insL [] E) j).length cb1, .slice Ar (afterL (insL [] E) j).length cr] (by rfl) rfl rfl (by simp only [List.map_toArray, List.map_cons, List.map_nil]; rfl) ?_
      with_reducible refine (lg_same HG.out Hb1.out Hr.out (by have := HG.out.rl; have := afterL_len (insL [] E) j; omega)).mono ?_
      rintro e wz9 ⟨rfl, hG, hb⟩
      refine ⟨_, rfl, ?_⟩
      have HG := Aside0.mk hG
      have HBw := Aside0.mk (below_step HBw.out hb)
      have Hr := Aside0.mk (Hr.out.below hb)
      clear hG hb
      refine hK.out _ _ ⟨HG.out.c0, HG.out.c1⟩ (fun hHeld => ?_)
      clear hK K
      refine norm_ (a' := ?_) ?_ ?_
      rotate_left
      · show Act.put _ (some 58) _ = _
        simp only [Act.put, List.setIfInBounds_toArray, List.set_cons_zero, List.set_cons_succ, i64_w, i32_w]
        rfl
      refine pure_ (i := 5) (N := some 59) (v := ?_) (a' := ?_) #[true, true, true, true, true, true, false, false, false, false, false, false, false, false, false, false] rfl rfl (any_of HT_.out (by kernel_rfl)) (fun _ _ _ h => h) (Or.inl ⟨by rfl, ?_⟩) ?_ ?_
      rotate_left
      · intro w'
        go_simp
        with_reducible rfl
      rotate_left
      · simp only [Act.put, List.setIfInBounds_toArray, List.set_cons_zero, List.set_cons_succ, i64_w, i32_w]
        rfl
      refine pure_ (i := 6) (N := some 60) (v := ?_) (a' := ?_) #[true, true, true, true, true, true, true, false, false, false, false, false, false, false, false, false] rfl rfl (any_of HT_.out (by kernel_rfl)) (fun _ _ _ h => h) (Or.inl ⟨by rfl, ?_⟩) ?_ ?_
      rotate_left
      · intro w'
        go_simp
        with_reducible rfl
      rotate_left
      · simp only [Act.put, List.setIfInBounds_toArray, List.set_cons_zero, List.set_cons_succ, i64_w, i32_w]
        rfl
      refine pure_ (i := 7) (N := some 61) (v := ?_) (a' := ?_) #[true, true, true, true, true, true, true, true, false, false, false, false, false, false, false, false] rfl rfl (any_of HT_.out (by kernel_rfl)) (fun _ _ _ h => h) (Or.inl ⟨by rfl, ?_⟩) ?_ ?_
      rotate_left
      · intro w'
        go_simp
        with_reducible rfl
      rotate_left
      · simp only [Act.put, List.setIfInBounds_toArray, List.set_cons_zero, List.set_cons_succ, i64_w, i32_w]
        rfl
      refine pure_ (i := 8) (N := some 62) (v := ?_) (a' := ?_) #[true, true, true, true, true, true, true, true, true, false, false, false, false, false, false, false] rfl rfl (any_of HT_.out (by kernel_rfl)) (fun _ _ _ h => h) (Or.inl ⟨by rfl, ?_⟩) ?_ ?_
      rotate_left
      · intro w'
        go_simp
        with_reducible rfl
      rotate_left
      · simp only [Act.put, List.setIfInBounds_toArray, List.set_cons_zero, List.set_cons_succ, i64_w, i32_w]
        rfl
      refine pure_ (i := 11) (N := some 65) (v := ?_) (a' := ?_) #[true, true, true, true, true, true, true, true, true, false, false, true, false, false, false, false] rfl rfl (any_of HT_.out (by kernel_rfl)) (fun _ _ _ h => h) (Or.inl ⟨by rfl, ?_⟩) ?_ ?_
      rotate_left
      · intro w'
        go_simp
        with_reducible rfl
      rotate_left
      · simp only [Act.put, List.setIfInBounds_toArray, List.set_cons_zero, List.set_cons_succ, i64_w, i32_w]
        rfl
      refine take_ (i := 10) (N := some 64) (v := ?_) (a' := ?_) #[true, true, true, true, true, true, true, true, true, false, true, true, false, false, false, false] rfl rfl (take_ofW HT_.out HW_.out (by kernel_rfl)) (fun _ _ _ h => h) (Or.inl ⟨by rfl, ?_⟩) hHeld ?_ ?_
      rotate_left
      · rintro w' ⟨s0, s1⟩
        go_simp
        with_reducible rfl
      rotate_left
      · simp only [Act.put, List.setIfInBounds_toArray, List.set_cons_zero, List.set_cons_succ, i64_w, i32_w]
        rfl
      refine one_ (i := 9) (N := some 63) #[true, true, true, true, true, true, true, true, true, true, true, true, false, false, false, false] rfl rfl (one_of HT_.out (by kernel_rfl)) (by decide) (fun K hK => ?_)
      refine goes_ Try.func16 (by kernel_rfl) rfl #[.pointer (some ⟨b, 0, none⟩), .int .i64 j] (by rfl) rfl rfl (by simp only [List.map_toArray, List.map_cons, List.map_nil]; rfl) ?_
      with_reducible refine (lg_before HG.out j).mono ?_
      rintro e wz10 ⟨Ab3, cb3, rfl, hL, hG, hb⟩
      refine ⟨_, rfl, ?_⟩
      have HG := Aside0.mk hG
      have HBw := Aside0.mk (below_step HBw.out hb)
      have Hr := Aside0.mk (Hr.out.below hb)
      have Hb3 := Aside0.mk hL
      clear hL hG hb
      refine hK.out _ _ ⟨HG.out.c0, HG.out.c1⟩ (fun hHeld => ?_)
      clear hK K
      refine norm_ (a' := ?_) ?_ ?_
      rotate_left
      · show Act.put _ (some 63) _ = _
        simp only [Act.put, List.setIfInBounds_toArray, List.set_cons_zero, List.set_cons_succ, i64_w, i32_w]
        rfl
      refine one_ (i := 12) (N := some 66) #[true, true, true, true, true, true, true, true, true, true, true, true, true, false, false, false] rfl rfl (one_of HT_.out (by kernel_rfl)) (by decide) (fun K hK => ?_)
      refine goes_ Try.func17 (by kernel_rfl) rfl #[.agg #[.int .i64 N, .slice A5 (insL [] E).length c5], .int .i64 j] (by rfl) rfl rfl (by simp only [List.map_toArray, List.map_cons, List.map_nil]; rfl) ?_
      with_reducible refine (lg_rbefore HG.out j).mono ?_
      rintro e wz11 ⟨Ab4, cb4, rfl, hL, hG, hb⟩
      refine ⟨_, rfl, ?_⟩
      have HG := Aside0.mk hG
      have HBw := Aside0.mk (below_step HBw.out hb)
      have Hr := Aside0.mk (Hr.out.below hb)
      have Hb3 := Aside0.mk (Hb3.out.below hb)
      have Hb4 := Aside0.mk hL
      clear hL hG hb
      refine hK.out _ _ ⟨HG.out.c0, HG.out.c1⟩ (fun hHeld => ?_)
      clear hK K
      refine norm_ (a' := ?_) ?_ ?_
      rotate_left
      · show Act.put _ (some 66) _ = _
        simp only [Act.put, List.setIfInBounds_toArray, List.set_cons_zero, List.set_cons_succ, i64_w, i32_w]
        rfl
      refine one_ (i := 13) (N := some 67) #[true, true, true, true, true, true, true, true, true, true, true, true, true, true, false, false] rfl rfl (one_of HT_.out (by kernel_rfl)) (by decide) (fun K hK => ?_)
      refine goes_ Try.func13 (by kernel_rfl) rfl #[.slice Ab3 (beforeL (insL [] E) j).length cb3, .slice Ab4 (beforeL (insL [] E) j).length cb4] (by rfl) rfl rfl (by simp only [List.map_toArray, List.map_cons, List.map_nil]; rfl) ?_
      with_reducible refine (lg_same HG.out Hb3.out Hb4.out (by have := HG.out.rl; have := beforeL_len (insL [] E) j; omega)).mono ?_
      rintro e wz12 ⟨rfl, hG, hb⟩
      refine ⟨_, rfl, ?_⟩
      have HG := Aside0.mk hG
      have HBw := Aside0.mk (below_step HBw.out hb)
      have Hr := Aside0.mk (Hr.out.below hb)
      clear hG hb
      refine hK.out _ _ ⟨HG.out.c0, HG.out.c1⟩ (fun hHeld => ?_)
      clear hK K
      refine norm_ (a' := ?_) ?_ ?_
      rotate_left
      · show Act.put _ (some 67) _ = _
        simp only [Act.put, List.setIfInBounds_toArray, List.set_cons_zero, List.set_cons_succ, i64_w, i32_w]
        rfl
      refine pure_ (i := 14) (N := some 68) (v := ?_) (a' := ?_) #[true, true, true, true, true, true, true, true, true, true, true, true, true, true, true, false] rfl rfl (any_of HT_.out (by kernel_rfl)) (fun _ _ _ h => h) (Or.inl ⟨by rfl, ?_⟩) ?_ ?_
      rotate_left
      · intro w'
        go_simp
        with_reducible rfl
      rotate_left
      · simp only [Act.put, List.setIfInBounds_toArray, List.set_cons_zero, List.set_cons_succ, i64_w, i32_w]
        rfl
      refine pure_ (i := 15) (N := some 69) (v := ?_) (a' := ?_) #[true, true, true, true, true, true, true, true, true, true, true, true, true, true, true, true] rfl rfl (any_of HT_.out (by kernel_rfl)) (fun _ _ _ h => h) (Or.inl ⟨by rfl, ?_⟩) ?_ ?_
      rotate_left
      · intro w'
        go_simp
        with_reducible rfl
      rotate_left
      · simp only [Act.put, List.setIfInBounds_toArray, List.set_cons_zero, List.set_cons_succ, i64_w, i32_w]
        rfl
      refine done_ (done_of HT_.out (by kernel_rfl)) ?_

      go_wp2_with fail
      have hLl := Hr.out.1
      obtain ⟨L, hL⟩ : ∃ L, L = afterL (insL [] E) (j : Int) := ⟨_, rfl⟩
      have HLe := Aside0.mk hL
      have HLl := Aside0.mk (show L.length ≤ 120 by rw [hL]; have h1 := afterL_len (insL [] E) (j : Int); have h2 := HG.out.rl; omega)
      rw [← hL] at Hr ⊢
      clear hL hLl
      go_loopg [11, 12, 13] N (fun kq v11 v12 v13 w' => ∃ (k : Nat), v11 = .int .i64 k ∧ k + kq = N ∧ Aside0 (LG w' b b8 N A5 c5 E) ∧ Aside0 (Below w.heap.size w w') ∧ Aside0 (Ls w' Ar cr L))
      case atStart => exact ⟨0, rfl, by omega, HG, HBw, Hr⟩
      case round =>
        clear HG HBw Hr
        obtain ⟨k, rfl, hk, HG, HBw, Hr⟩ := hrel
        have q0 := HG.out.c0
        cases gk with
        | zero =>
          have ek : k = N := by omega
          rw [ek]
          clear ek hk
          go_wp2_with fail
          go_roundg k1
          case measure => omega
          case rel => exact ⟨j + 1, by go_num, by omega, HG, HBw⟩
        | succ k2 =>
          have hkN : (k : Int) < (N : Int) := by omega
          have hl120 := HLl.out
          go_wp2_with fail
          go_loopg [12, 13] L.length (fun kq v12 v13 w' => ∃ (i : Nat), v13 = .int .i64 i ∧ v12 = .bool (decide ((k : Int) ∈ L.take i)) ∧ i + kq = L.length ∧ Aside0 (LG w' b b8 N A5 c5 E) ∧ Aside0 (Below w.heap.size w w') ∧ Aside0 (Ls w' Ar cr L))
          case atStart => exact ⟨0, rfl, by simp, by omega, HG, HBw, Hr⟩
          case round =>
            clear HG HBw Hr q0
            obtain ⟨i, rfl, rfl, hi, HG, HBw, Hr⟩ := hrel
            cases gk with
            | zero =>
              have ei : i = L.length := by omega
              rw [ei, List.take_length]
              obtain ⟨rr, hrr⟩ : ∃ rr, rr = decide ((k : Int) ∈ L) := ⟨_, rfl⟩
              have HH := Aside0.mk (show Calls Try.prog 18 #[.pointer (some ⟨b, 0, none⟩), .int .i64 j, .int .i64 k] wr fun e W' => e = .returned (.bool rr) ∧ LG W' b b8 N A5 c5 E ∧ Below wr.heap.size wr W' from by
                rw [hrr, HLe.out]; exact lg_has HG.out j k hj0 hjN)
              rw [← hrr]
              clear hrr ei hi
              go_wp2_with (go_at_call 18; refine HH.out.mono ?_; rintro e wd ⟨rfl, hG, hb⟩; have HG2 := Aside0.mk hG; have HB2 := Aside0.mk (below_step HBw.out hb); have Hr2 := Aside0.mk (Hr.out.below hb); clear hG hb)
              go_roundg k2
              case measure => omega
              case rel => exact ⟨k + 1, by go_num, by omega, HG2, HB2, Hr2⟩
            | succ k3 =>
              have hiL : i < L.length := by omega
              obtain ⟨ad0, e0, hx2⟩ := Kd.at_int Hr.out.2 (i : Int) (by omega) (by omega)
              rw [Int.toNat_natCast] at hx2
              subst e0
              obtain ⟨x, hx⟩ : ∃ x, x = rd L (i : Int) := ⟨_, rfl⟩
              rw [← hx] at hx2
              have HX := Aside0.mk (show L[i] = x by rw [hx]; unfold rd; simp [hiL])
              have p2 : (0 : Int) ≤ (i : Int) := by omega
              have q3 : (i : Int) < (L.length : Int) := by omega
              have HS := Aside0.mk (there_step L (k : Int) i hiL)
              obtain ⟨tt, htt⟩ : ∃ tt, tt = decide ((k : Int) ∈ L.take i) := ⟨_, rfl⟩
              have HT := Aside0.mk htt
              rw [← htt]
              clear hx htt
              cases tt with
              | true =>
                go_wp2_with fail
                go_roundg k3
                case measure => omega
                case rel => exact ⟨i + 1, by go_num, by rw [HS.out, ← HT.out]; simp, by omega, HG, HBw, Hr⟩
              | false =>
                go_wp2_with fail
                go_roundg k3
                case measure => omega
                case rel => exact ⟨i + 1, by go_num, by rw [HS.out, ← HT.out, HX.out]; simp; rfl, by omega, HG, HBw, Hr⟩
    | zero =>
      have ej : j = N := by omega
      rw [ej]
      clear ej hj
      go_upto_region 23 with (go_at_call 19; refine (lg_reverse HG.out).mono ?_; rintro e wb ⟨br, rfl, hr, hG, hb⟩; have HG := Aside0.mk hG.drew; have HBw := Aside0.mk (below_drew1 (below_step HBw.out hb)); have HRv := Aside0.mk (hr.below (below_drew1 (Below.refl _ _))); clear hr hG hb)
      have hfd : ∀ (w : World) (n : Int) (A : Option Addr) (m c : Nat), (Instr.field 26 (.agg #[.int .i64 n, .slice A m c]) 1).run Try.prog w = .ok (.slice A m c) w := fun _ _ _ _ _ => by kernel_rfl
      refine start_ (n := 37) (S := fun w' => w'.cell? ⟨b8, 0, none⟩ = some (.int .i64 N) ∧ w'.cell? ⟨b8, 1, none⟩ = some (.slice A5 (insL [] E).length c5)) (ds := []) #[false, false, false, false, false, false, false, false, false, false, false, false, false, false, false, false, false, false, false, false, false, false, false, false, false, false, false, false, false, false, false, false, false, false, false, false, false] (by kernel_rfl) rfl rfl ⟨HG.out.c0, HG.out.c1⟩ (fun hHeld => ?_)
      refine with_tabW LawR3.tab23 LawR3.bits23 (fun HT_ HW_ => ?_)
      generalize wb.drew = w4 at HG HBw HRv hHeld ⊢
      refine pure_ (i := 0) (N := some 99) (v := ?_) (a' := ?_) #[true, false, false, false, false, false, false, false, false, false, false, false, false, false, false, false, false, false, false, false, false, false, false, false, false, false, false, false, false, false, false, false, false, false, false, false, false] rfl rfl (any_of HT_.out (by kernel_rfl)) (fun _ _ _ h => h) (Or.inl ⟨by rfl, ?_⟩) ?_ ?_
      rotate_left
      · intro w'
        go_simp
        with_reducible rfl
      rotate_left
      · simp only [Act.put, List.setIfInBounds_toArray, List.set_cons_zero, List.set_cons_succ, i64_w, i32_w]
        rfl
      refine pure_ (i := 1) (N := some 100) (v := ?_) (a' := ?_) #[true, true, false, false, false, false, false, false, false, false, false, false, false, false, false, false, false, false, false, false, false, false, false, false, false, false, false, false, false, false, false, false, false, false, false, false, false] rfl rfl (any_of HT_.out (by kernel_rfl)) (fun _ _ _ h => h) (Or.inl ⟨by rfl, ?_⟩) ?_ ?_
      rotate_left
      · intro w'
        go_simp
        with_reducible rfl
      rotate_left
      · simp only [Act.put, List.setIfInBounds_toArray, List.set_cons_zero, List.set_cons_succ, i64_w, i32_w]
        rfl
      refine pure_ (i := 2) (N := some 101) (v := ?_) (a' := ?_) #[true, true, true, false, false, false, false, false, false, false, false, false, false, false, false, false, false, false, false, false, false, false, false, false, false, false, false, false, false, false, false, false, false, false, false, false, false] rfl rfl (any_of HT_.out (by kernel_rfl)) (fun _ _ _ h => h) (Or.inl ⟨by rfl, ?_⟩) ?_ ?_
      rotate_left
      · intro w'
        go_simp
        with_reducible rfl
      rotate_left
      · simp only [Act.put, List.setIfInBounds_toArray, List.set_cons_zero, List.set_cons_succ, i64_w, i32_w]
        rfl
      refine take_ (i := 3) (N := some 102) (v := ?_) (a' := ?_) #[true, true, true, true, false, false, false, false, false, false, false, false, false, false, false, false, false, false, false, false, false, false, false, false, false, false, false, false, false, false, false, false, false, false, false, false, false] rfl rfl (take_ofW HT_.out HW_.out (by kernel_rfl)) (fun _ _ _ h => h) (Or.inl ⟨by rfl, ?_⟩) hHeld ?_ ?_
      rotate_left
      · rintro w' ⟨s0, s1⟩
        go_simp
        with_reducible rfl
      rotate_left
      · simp only [Act.put, List.setIfInBounds_toArray, List.set_cons_zero, List.set_cons_succ, i64_w, i32_w]
        rfl
      refine one_ (i := 4) (N := some 103) #[true, true, true, true, true, false, false, false, false, false, false, false, false, false, false, false, false, false, false, false, false, false, false, false, false, false, false, false, false, false, false, false, false, false, false, false, false] rfl rfl (one_of HT_.out (by kernel_rfl)) (by decide) (fun K hK => ?_)
      refine goes_ Try.func18 (by kernel_rfl) rfl #[.pointer (some ⟨b, 0, none⟩), .int .i64 n, .int .i64 N] (by rfl) rfl rfl (by simp only [List.map_toArray, List.map_cons, List.map_nil]; rfl) ?_
      with_reducible refine (lg_hastop HG.out n).mono ?_
      rintro e wz13 ⟨rfl, hG, hb⟩
      refine ⟨_, rfl, ?_⟩
      have HG := Aside0.mk hG
      have HBw := Aside0.mk (below_step HBw.out hb)
      have HRv := Aside0.mk (HRv.out.below hb)
      clear hG hb
      refine hK.out _ _ ⟨HG.out.c0, HG.out.c1⟩ (fun hHeld => ?_)
      clear hK K
      refine norm_ (a' := ?_) ?_ ?_
      rotate_left
      · show Act.put _ (some 103) _ = _
        simp only [Act.put, List.setIfInBounds_toArray, List.set_cons_zero, List.set_cons_succ, i64_w, i32_w]
        rfl
      refine pure_ (i := 5) (N := some 104) (v := ?_) (a' := ?_) #[true, true, true, true, true, true, false, false, false, false, false, false, false, false, false, false, false, false, false, false, false, false, false, false, false, false, false, false, false, false, false, false, false, false, false, false, false] rfl rfl (any_of HT_.out (by kernel_rfl)) (fun _ _ _ h => h) (Or.inl ⟨by rfl, ?_⟩) ?_ ?_
      rotate_left
      · intro w'
        go_simp
        with_reducible rfl
      rotate_left
      · simp only [Act.put, List.setIfInBounds_toArray, List.set_cons_zero, List.set_cons_succ, i64_w, i32_w]
        rfl
      refine pure_ (i := 6) (N := some 105) (v := ?_) (a' := ?_) #[true, true, true, true, true, true, true, false, false, false, false, false, false, false, false, false, false, false, false, false, false, false, false, false, false, false, false, false, false, false, false, false, false, false, false, false, false] rfl rfl (any_of HT_.out (by kernel_rfl)) (fun _ _ _ h => h) (Or.inl ⟨by rfl, ?_⟩) ?_ ?_
      rotate_left
      · intro w'
        go_simp
        with_reducible rfl
      rotate_left
      · simp only [Act.put, List.setIfInBounds_toArray, List.set_cons_zero, List.set_cons_succ, i64_w, i32_w]
        rfl
      refine pure_ (i := 7) (N := some 106) (v := ?_) (a' := ?_) #[true, true, true, true, true, true, true, true, false, false, false, false, false, false, false, false, false, false, false, false, false, false, false, false, false, false, false, false, false, false, false, false, false, false, false, false, false] rfl rfl (any_of HT_.out (by kernel_rfl)) (fun _ _ _ h => h) (Or.inl ⟨by rfl, ?_⟩) ?_ ?_
      rotate_left
      · intro w'
        go_simp
        with_reducible rfl
      rotate_left
      · simp only [Act.put, List.setIfInBounds_toArray, List.set_cons_zero, List.set_cons_succ, i64_w, i32_w]
        rfl
      refine one_ (i := 8) (N := some 107) #[true, true, true, true, true, true, true, true, true, false, false, false, false, false, false, false, false, false, false, false, false, false, false, false, false, false, false, false, false, false, false, false, false, false, false, false, false] rfl rfl (one_of HT_.out (by kernel_rfl)) (by decide) (fun K hK => ?_)
      refine goes_ Try.func18 (by kernel_rfl) rfl #[.pointer (some ⟨b, 0, none⟩), .int .i64 (-1), .int .i64 0] (by rfl) rfl rfl (by simp only [List.map_toArray, List.map_cons, List.map_nil]; rfl) ?_
      with_reducible refine (lg_hasnot HG.out (-1) 0 (by omega)).mono ?_
      rintro e wz14 ⟨rfl, hG, hb⟩
      refine ⟨_, rfl, ?_⟩
      have HG := Aside0.mk hG
      have HBw := Aside0.mk (below_step HBw.out hb)
      have HRv := Aside0.mk (HRv.out.below hb)
      clear hG hb
      refine hK.out _ _ ⟨HG.out.c0, HG.out.c1⟩ (fun hHeld => ?_)
      clear hK K
      refine norm_ (a' := ?_) ?_ ?_
      rotate_left
      · show Act.put _ (some 107) _ = _
        simp only [Act.put, List.setIfInBounds_toArray, List.set_cons_zero, List.set_cons_succ, i64_w, i32_w]
        rfl
      refine pure_ (i := 9) (N := some 108) (v := ?_) (a' := ?_) #[true, true, true, true, true, true, true, true, true, true, false, false, false, false, false, false, false, false, false, false, false, false, false, false, false, false, false, false, false, false, false, false, false, false, false, false, false] rfl rfl (any_of HT_.out (by kernel_rfl)) (fun _ _ _ h => h) (Or.inl ⟨by rfl, ?_⟩) ?_ ?_
      rotate_left
      · intro w'
        go_simp
        with_reducible rfl
      rotate_left
      · simp only [Act.put, List.setIfInBounds_toArray, List.set_cons_zero, List.set_cons_succ, i64_w, i32_w]
        rfl
      refine pure_ (i := 10) (N := some 109) (v := ?_) (a' := ?_) #[true, true, true, true, true, true, true, true, true, true, true, false, false, false, false, false, false, false, false, false, false, false, false, false, false, false, false, false, false, false, false, false, false, false, false, false, false] rfl rfl (any_of HT_.out (by kernel_rfl)) (fun _ _ _ h => h) (Or.inl ⟨by rfl, ?_⟩) ?_ ?_
      rotate_left
      · intro w'
        go_simp
        with_reducible rfl
      rotate_left
      · simp only [Act.put, List.setIfInBounds_toArray, List.set_cons_zero, List.set_cons_succ, i64_w, i32_w]
        rfl
      refine pure_ (i := 11) (N := some 110) (v := ?_) (a' := ?_) #[true, true, true, true, true, true, true, true, true, true, true, true, false, false, false, false, false, false, false, false, false, false, false, false, false, false, false, false, false, false, false, false, false, false, false, false, false] rfl rfl (any_of HT_.out (by kernel_rfl)) (fun _ _ _ h => h) (Or.inl ⟨by rfl, ?_⟩) ?_ ?_
      rotate_left
      · intro w'
        go_simp
        with_reducible rfl
      rotate_left
      · simp only [Act.put, List.setIfInBounds_toArray, List.set_cons_zero, List.set_cons_succ, i64_w, i32_w]
        rfl
      refine pure_ (i := 12) (N := some 111) (v := ?_) (a' := ?_) #[true, true, true, true, true, true, true, true, true, true, true, true, true, false, false, false, false, false, false, false, false, false, false, false, false, false, false, false, false, false, false, false, false, false, false, false, false] rfl rfl (any_of HT_.out (by kernel_rfl)) (fun _ _ _ h => h) (Or.inl ⟨by rfl, ?_⟩) ?_ ?_
      rotate_left
      · intro w'
        go_simp
        with_reducible rfl
      rotate_left
      · simp only [Act.put, List.setIfInBounds_toArray, List.set_cons_zero, List.set_cons_succ, i64_w, i32_w]
        rfl
      refine pure_ (i := 13) (N := some 112) (v := ?_) (a' := ?_) #[true, true, true, true, true, true, true, true, true, true, true, true, true, true, false, false, false, false, false, false, false, false, false, false, false, false, false, false, false, false, false, false, false, false, false, false, false] rfl rfl (any_of HT_.out (by kernel_rfl)) (fun _ _ _ h => h) (Or.inl ⟨by rfl, ?_⟩) ?_ ?_
      rotate_left
      · intro w'
        go_simp
        with_reducible rfl
      rotate_left
      · simp only [Act.put, List.setIfInBounds_toArray, List.set_cons_zero, List.set_cons_succ, i64_w, i32_w]
        rfl
      refine pure_ (i := 14) (N := some 113) (v := ?_) (a' := ?_) #[true, true, true, true, true, true, true, true, true, true, true, true, true, true, true, false, false, false, false, false, false, false, false, false, false, false, false, false, false, false, false, false, false, false, false, false, false] rfl rfl (any_of HT_.out (by kernel_rfl)) (fun _ _ _ h => h) (Or.inl ⟨by rfl, ?_⟩) ?_ ?_
      rotate_left
      · intro w'
        go_simp
        with_reducible rfl
      rotate_left
      · simp only [Act.put, List.setIfInBounds_toArray, List.set_cons_zero, List.set_cons_succ, i64_w, i32_w]
        rfl
      refine pure_ (i := 15) (N := some 114) (v := ?_) (a' := ?_) #[true, true, true, true, true, true, true, true, true, true, true, true, true, true, true, true, false, false, false, false, false, false, false, false, false, false, false, false, false, false, false, false, false, false, false, false, false] rfl rfl (any_of HT_.out (by kernel_rfl)) (fun _ _ _ h => h) (Or.inl ⟨by rfl, ?_⟩) ?_ ?_
      rotate_left
      · intro w'
        go_simp
        with_reducible rfl
      rotate_left
      · simp only [Act.put, List.setIfInBounds_toArray, List.set_cons_zero, List.set_cons_succ, i64_w, i32_w]
        rfl
      refine pure_ (i := 16) (N := some 115) (v := ?_) (a' := ?_) #[true, true, true, true, true, true, true, true, true, true, true, true, true, true, true, true, true, false, false, false, false, false, false, false, false, false, false, false, false, false, false, false, false, false, false, false, false] rfl rfl (any_of HT_.out (by kernel_rfl)) (fun _ _ _ h => h) (Or.inl ⟨by rfl, ?_⟩) ?_ ?_
      rotate_left
      · intro w'
        go_simp
        with_reducible rfl
      rotate_left
      · simp only [Act.put, List.setIfInBounds_toArray, List.set_cons_zero, List.set_cons_succ, i64_w, i32_w]
        rfl
      refine pure_ (i := 18) (N := some 117) (v := ?_) (a' := ?_) #[true, true, true, true, true, true, true, true, true, true, true, true, true, true, true, true, true, false, true, false, false, false, false, false, false, false, false, false, false, false, false, false, false, false, false, false, false] rfl rfl (any_of HT_.out (by kernel_rfl)) (fun _ _ _ h => h) (Or.inl ⟨by rfl, ?_⟩) ?_ ?_
      rotate_left
      · intro w'
        go_simp
        with_reducible rfl
      rotate_left
      · simp only [Act.put, List.setIfInBounds_toArray, List.set_cons_zero, List.set_cons_succ, i64_w, i32_w]
        rfl
      refine take_ (i := 19) (N := some 118) (v := ?_) (a' := ?_) #[true, true, true, true, true, true, true, true, true, true, true, true, true, true, true, true, true, false, true, true, false, false, false, false, false, false, false, false, false, false, false, false, false, false, false, false, false] rfl rfl (take_ofW HT_.out HW_.out (by kernel_rfl)) (fun _ _ _ h => h) (Or.inl ⟨by rfl, ?_⟩) hHeld ?_ ?_
      rotate_left
      · rintro w' ⟨s0, s1⟩
        go_simp
        with_reducible rfl
      rotate_left
      · simp only [Act.put, List.setIfInBounds_toArray, List.set_cons_zero, List.set_cons_succ, i64_w, i32_w]
        rfl
      refine one_ (i := 17) (N := some 116) #[true, true, true, true, true, true, true, true, true, true, true, true, true, true, true, true, true, true, true, true, false, false, false, false, false, false, false, false, false, false, false, false, false, false, false, false, false] rfl rfl (one_of HT_.out (by kernel_rfl)) (by decide) (fun K hK => ?_)
      refine goes_ Try.func20 (by kernel_rfl) rfl #[.pointer (some ⟨br, 0, none⟩)] (by rfl) rfl rfl (by simp only [List.map_toArray, List.map_cons, List.map_nil]; rfl) ?_
      with_reducible refine (lg_nodes HG.out HRv.out).mono ?_
      rintro e wz15 ⟨rfl, hG, hR, hb⟩
      refine ⟨_, rfl, ?_⟩
      have HG := Aside0.mk hG
      have HBw := Aside0.mk (below_step HBw.out hb)
      have HRv := Aside0.mk hR
      clear hG hR hb
      refine hK.out _ _ ⟨HG.out.c0, HG.out.c1⟩ (fun hHeld => ?_)
      clear hK K
      refine norm_ (a' := ?_) ?_ ?_
      rotate_left
      · show Act.put _ (some 116) _ = _
        simp only [Act.put, List.setIfInBounds_toArray, List.set_cons_zero, List.set_cons_succ, i64_w, i32_w]
        rfl
      refine pure_ (i := 20) (N := some 119) (v := ?_) (a' := ?_) #[true, true, true, true, true, true, true, true, true, true, true, true, true, true, true, true, true, true, true, true, true, false, false, false, false, false, false, false, false, false, false, false, false, false, false, false, false] rfl rfl (any_of HT_.out (by kernel_rfl)) (fun _ _ _ h => h) (Or.inl ⟨by rfl, ?_⟩) ?_ ?_
      rotate_left
      · intro w'
        go_simp
        with_reducible rfl
      rotate_left
      · simp only [Act.put, List.setIfInBounds_toArray, List.set_cons_zero, List.set_cons_succ, i64_w, i32_w]
        rfl
      refine pure_ (i := 21) (N := some 120) (v := ?_) (a' := ?_) #[true, true, true, true, true, true, true, true, true, true, true, true, true, true, true, true, true, true, true, true, true, true, false, false, false, false, false, false, false, false, false, false, false, false, false, false, false] rfl rfl (any_of HT_.out (by kernel_rfl)) (fun _ _ _ h => h) (Or.inl ⟨by rfl, ?_⟩) ?_ ?_
      rotate_left
      · intro w'
        go_simp
        with_reducible rfl
      rotate_left
      · simp only [Act.put, List.setIfInBounds_toArray, List.set_cons_zero, List.set_cons_succ, i64_w, i32_w]
        rfl
      refine pure_ (i := 22) (N := some 121) (v := ?_) (a' := ?_) #[true, true, true, true, true, true, true, true, true, true, true, true, true, true, true, true, true, true, true, true, true, true, true, false, false, false, false, false, false, false, false, false, false, false, false, false, false] rfl rfl (any_of HT_.out (by kernel_rfl)) (fun _ _ _ h => h) (Or.inl ⟨by rfl, ?_⟩) ?_ ?_
      rotate_left
      · intro w'
        go_simp
        with_reducible rfl
      rotate_left
      · simp only [Act.put, List.setIfInBounds_toArray, List.set_cons_zero, List.set_cons_succ, i64_w, i32_w]
        rfl
      refine pure_ (i := 23) (N := some 122) (v := ?_) (a' := ?_) #[true, true, true, true, true, true, true, true, true, true, true, true, true, true, true, true, true, true, true, true, true, true, true, true, false, false, false, false, false, false, false, false, false, false, false, false, false] rfl rfl (any_of HT_.out (by kernel_rfl)) (fun _ _ _ h => h) (Or.inl ⟨by rfl, ?_⟩) ?_ ?_
      rotate_left
      · intro w'
        go_simp
        with_reducible rfl
      rotate_left
      · simp only [Act.put, List.setIfInBounds_toArray, List.set_cons_zero, List.set_cons_succ, i64_w, i32_w]
        rfl
      refine take_ (i := 25) (N := some 124) (v := ?_) (a' := ?_) #[true, true, true, true, true, true, true, true, true, true, true, true, true, true, true, true, true, true, true, true, true, true, true, true, false, true, false, false, false, false, false, false, false, false, false, false, false] rfl rfl (take_ofW HT_.out HW_.out (by kernel_rfl)) (fun _ _ _ h => h) (Or.inl ⟨by rfl, ?_⟩) hHeld ?_ ?_
      rotate_left
      · rintro w' ⟨s0, s1⟩
        go_simp
        with_reducible rfl
      rotate_left
      · simp only [Act.put, List.setIfInBounds_toArray, List.set_cons_zero, List.set_cons_succ, i64_w, i32_w]
        rfl
      refine one_ (i := 24) (N := some 123) #[true, true, true, true, true, true, true, true, true, true, true, true, true, true, true, true, true, true, true, true, true, true, true, true, true, true, false, false, false, false, false, false, false, false, false, false, false] rfl rfl (one_of HT_.out (by kernel_rfl)) (by decide) (fun K hK => ?_)
      refine goes_ Try.func22 (by kernel_rfl) rfl #[.pointer (some ⟨br, 0, none⟩)] (by rfl) rfl rfl (by simp only [List.map_toArray, List.map_cons, List.map_nil]; rfl) ?_
      with_reducible refine (lg_edges HG.out HRv.out).mono ?_
      rintro e wz16 ⟨Ae, ce, rfl, hE, hG, hR, hb⟩
      refine ⟨_, rfl, ?_⟩
      have HG := Aside0.mk hG
      have HBw := Aside0.mk (below_step HBw.out hb)
      have HRv := Aside0.mk hR
      have HEd := Aside0.mk hE
      clear hE hG hR hb
      refine hK.out _ _ ⟨HG.out.c0, HG.out.c1⟩ (fun hHeld => ?_)
      clear hK K
      refine norm_ (a' := ?_) ?_ ?_
      rotate_left
      · show Act.put _ (some 123) _ = _
        simp only [Act.put, List.setIfInBounds_toArray, List.set_cons_zero, List.set_cons_succ, i64_w, i32_w]
        rfl
      refine one_ (i := 26) (N := some 125) #[true, true, true, true, true, true, true, true, true, true, true, true, true, true, true, true, true, true, true, true, true, true, true, true, true, true, true, false, false, false, false, false, false, false, false, false, false] rfl rfl (one_of HT_.out (by kernel_rfl)) (by decide) (fun K hK => ?_)
      refine goes_ Try.func23 (by kernel_rfl) rfl #[.agg #[.int .i64 N, .slice A5 (insL [] E).length c5]] (by rfl) rfl rfl (by simp only [List.map_toArray, List.map_cons, List.map_nil]; rfl) ?_
      with_reducible refine (lg_rrev HG.out).mono ?_
      rintro e wz17 ⟨Af, cf, rfl, hE, hG, hb⟩
      refine ⟨_, rfl, ?_⟩
      have HG := Aside0.mk hG
      have HBw := Aside0.mk (below_step HBw.out hb)
      have HRv := Aside0.mk (HRv.out.below hb)
      have HEd := Aside0.mk (And.intro HEd.out.1 (Kd.C_below HEd.out.2 hb))
      have HEf := Aside0.mk hE
      clear hE hG hb
      refine hK.out _ _ ⟨HG.out.c0, HG.out.c1⟩ (fun hHeld => ?_)
      clear hK K
      refine norm_ (a' := ?_) ?_ ?_
      rotate_left
      · show Act.put _ (some 125) _ = _
        simp only [Act.put, List.setIfInBounds_toArray, List.set_cons_zero, List.set_cons_succ, i64_w, i32_w]
        rfl
      refine pure_ (i := 27) (N := some 126) (v := ?_) (a' := ?_) #[true, true, true, true, true, true, true, true, true, true, true, true, true, true, true, true, true, true, true, true, true, true, true, true, true, true, true, true, false, false, false, false, false, false, false, false, false] rfl rfl (any_of HT_.out (by kernel_rfl)) (fun _ _ _ h => h) (Or.inl ⟨by rfl, ?_⟩) ?_ ?_
      rotate_left
      · intro w'
        go_simp
        with_reducible rfl
      rotate_left
      · simp only [Act.put, List.setIfInBounds_toArray, List.set_cons_zero, List.set_cons_succ, i64_w, i32_w]
        rfl
      refine one_ (i := 28) (N := some 127) #[true, true, true, true, true, true, true, true, true, true, true, true, true, true, true, true, true, true, true, true, true, true, true, true, true, true, true, true, true, false, false, false, false, false, false, false, false] rfl rfl (one_of HT_.out (by kernel_rfl)) (by decide) (fun K hK => ?_)
      refine goes_ Try.func21 (by kernel_rfl) rfl #[.slice Ae (zz E).length ce, .slice Af (zz E).length cf] (by rfl) rfl rfl (by simp only [List.map_toArray, List.map_cons, List.map_nil]; rfl) ?_
      with_reducible refine (lg_edsame HG.out HEd.out HEf.out).mono ?_
      rintro e wz18 ⟨rfl, hG, hb⟩
      refine ⟨_, rfl, ?_⟩
      have HG := Aside0.mk hG
      have HBw := Aside0.mk (below_step HBw.out hb)
      have HRv := Aside0.mk (HRv.out.below hb)
      clear hG hb
      refine hK.out _ _ ⟨HG.out.c0, HG.out.c1⟩ (fun hHeld => ?_)
      clear hK K
      refine norm_ (a' := ?_) ?_ ?_
      rotate_left
      · show Act.put _ (some 127) _ = _
        simp only [Act.put, List.setIfInBounds_toArray, List.set_cons_zero, List.set_cons_succ, i64_w, i32_w]
        rfl
      refine pure_ (i := 29) (N := some 128) (v := ?_) (a' := ?_) #[true, true, true, true, true, true, true, true, true, true, true, true, true, true, true, true, true, true, true, true, true, true, true, true, true, true, true, true, true, true, false, false, false, false, false, false, false] rfl rfl (any_of HT_.out (by kernel_rfl)) (fun _ _ _ h => h) (Or.inl ⟨by rfl, ?_⟩) ?_ ?_
      rotate_left
      · intro w'
        go_simp
        with_reducible rfl
      rotate_left
      · simp only [Act.put, List.setIfInBounds_toArray, List.set_cons_zero, List.set_cons_succ, i64_w, i32_w]
        rfl
      refine pure_ (i := 30) (N := some 129) (v := ?_) (a' := ?_) #[true, true, true, true, true, true, true, true, true, true, true, true, true, true, true, true, true, true, true, true, true, true, true, true, true, true, true, true, true, true, true, false, false, false, false, false, false] rfl rfl (any_of HT_.out (by kernel_rfl)) (fun _ _ _ h => h) (Or.inl ⟨by rfl, ?_⟩) ?_ ?_
      rotate_left
      · intro w'
        go_simp
        with_reducible rfl
      rotate_left
      · simp only [Act.put, List.setIfInBounds_toArray, List.set_cons_zero, List.set_cons_succ, i64_w, i32_w]
        rfl
      refine pure_ (i := 31) (N := some 130) (v := ?_) (a' := ?_) #[true, true, true, true, true, true, true, true, true, true, true, true, true, true, true, true, true, true, true, true, true, true, true, true, true, true, true, true, true, true, true, true, false, false, false, false, false] rfl rfl (any_of HT_.out (by kernel_rfl)) (fun _ _ _ h => h) (Or.inl ⟨by rfl, ?_⟩) ?_ ?_
      rotate_left
      · intro w'
        go_simp
        with_reducible rfl
      rotate_left
      · simp only [Act.put, List.setIfInBounds_toArray, List.set_cons_zero, List.set_cons_succ, i64_w, i32_w]
        rfl
      refine pure_ (i := 33) (N := some 132) (v := ?_) (a' := ?_) #[true, true, true, true, true, true, true, true, true, true, true, true, true, true, true, true, true, true, true, true, true, true, true, true, true, true, true, true, true, true, true, true, false, true, false, false, false] rfl rfl (any_of HT_.out (by kernel_rfl)) (fun _ _ _ h => h) (Or.inl ⟨by rfl, ?_⟩) ?_ ?_
      rotate_left
      · intro w'
        go_simp
        with_reducible rfl
      rotate_left
      · simp only [Act.put, List.setIfInBounds_toArray, List.set_cons_zero, List.set_cons_succ, i64_w, i32_w]
        rfl
      refine one_ (i := 32) (N := some 131) #[true, true, true, true, true, true, true, true, true, true, true, true, true, true, true, true, true, true, true, true, true, true, true, true, true, true, true, true, true, true, true, true, true, true, false, false, false] rfl rfl (one_of HT_.out (by kernel_rfl)) (by decide) (fun K hK => ?_)
      refine goes_ Try.func19 (by kernel_rfl) rfl #[.pointer (some ⟨br, 0, none⟩)] (by rfl) rfl rfl (by simp only [List.map_toArray, List.map_cons, List.map_nil]; rfl) ?_
      with_reducible refine (lg_rev2 HG.out HRv.out).mono ?_
      rintro e wz19 ⟨bq, rfl, hQ, hG, hb⟩
      refine ⟨_, rfl, ?_⟩
      have HG := Aside0.mk hG
      have HBw := Aside0.mk (below_step HBw.out hb)
      have HQ := Aside0.mk hQ
      clear hQ hG hb
      refine hK.out _ _ ⟨HG.out.c0, HG.out.c1⟩ (fun hHeld => ?_)
      clear hK K
      refine norm_ (a' := ?_) ?_ ?_
      rotate_left
      · show Act.put _ (some 131) _ = _
        simp only [Act.put, List.setIfInBounds_toArray, List.set_cons_zero, List.set_cons_succ, i64_w, i32_w]
        rfl
      refine one_ (i := 34) (N := some 133) #[true, true, true, true, true, true, true, true, true, true, true, true, true, true, true, true, true, true, true, true, true, true, true, true, true, true, true, true, true, true, true, true, true, true, true, false, false] rfl rfl (one_of HT_.out (by kernel_rfl)) (by decide) (fun K hK => ?_)
      refine goes_ Try.func24 (by kernel_rfl) rfl #[.pointer (some ⟨bq, 0, none⟩), .pointer (some ⟨b, 0, none⟩)] (by rfl) rfl rfl (by simp only [List.map_toArray, List.map_cons, List.map_nil]; rfl) ?_
      with_reducible refine (lg_equal HG.out HQ.out).mono ?_
      rintro e wz20 ⟨rfl, hG, hb⟩
      refine ⟨_, rfl, ?_⟩
      have HG := Aside0.mk hG
      have HBw := Aside0.mk (below_step HBw.out hb)
      clear hG hb
      refine hK.out _ _ ⟨HG.out.c0, HG.out.c1⟩ (fun hHeld => ?_)
      clear hK K
      refine norm_ (a' := ?_) ?_ ?_
      rotate_left
      · show Act.put _ (some 133) _ = _
        simp only [Act.put, List.setIfInBounds_toArray, List.set_cons_zero, List.set_cons_succ, i64_w, i32_w]
        rfl
      refine pure_ (i := 35) (N := some 134) (v := ?_) (a' := ?_) #[true, true, true, true, true, true, true, true, true, true, true, true, true, true, true, true, true, true, true, true, true, true, true, true, true, true, true, true, true, true, true, true, true, true, true, true, false] rfl rfl (any_of HT_.out (by kernel_rfl)) (fun _ _ _ h => h) (Or.inl ⟨by rfl, ?_⟩) ?_ ?_
      rotate_left
      · intro w'
        go_simp
        with_reducible rfl
      rotate_left
      · simp only [Act.put, List.setIfInBounds_toArray, List.set_cons_zero, List.set_cons_succ, i64_w, i32_w]
        rfl
      refine pure_ (i := 36) (N := some 6) (v := ?_) (a' := ?_) #[true, true, true, true, true, true, true, true, true, true, true, true, true, true, true, true, true, true, true, true, true, true, true, true, true, true, true, true, true, true, true, true, true, true, true, true, true] rfl rfl (any_of HT_.out (by kernel_rfl)) (fun _ _ _ h => h) (Or.inl ⟨by rfl, ?_⟩) ?_ ?_
      rotate_left
      · intro w'
        go_simp
        with_reducible rfl
      rotate_left
      · simp only [Act.put, List.setIfInBounds_toArray, List.set_cons_zero, List.set_cons_succ, i64_w, i32_w]
        rfl
      refine done_ (done_of HT_.out (by kernel_rfl)) ?_

      go_wp2_with fail
      go_ret
      exact ⟨rfl, HBw.out⟩
end Go.Proofs.Ythkgfmjgilkdeaa
