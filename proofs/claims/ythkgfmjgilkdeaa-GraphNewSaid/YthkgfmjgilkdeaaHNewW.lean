/- GraphNew walked. -/
import Derived.Test.YthkgfmjgilkdeaaHErr
import Derived.Test.YthkgfmjgilkdeaaHNewBad
import Derived.Test.YthkgfmjgilkdeaaMG
namespace Go.Proofs.Ythkgfmjgilkdeaa
set_option linter.unusedVariables false
set_option linter.unusedSimpArgs false
open Go.RowKit Go.Shelf Go.Proofs.Ythkgfmjgilkdeaa.Q Go.Proofs.YthkgfmjgilkdeaaW.PrintWords Go.Proofs.YthkgfmjgilkdeaaW.PrintLast Go.Proofs.YthkgfmjgilkdeaaW.PrintMore
def LawR7.T7 : Bool × List (List Nat × List Nat) := (true, [([], []), ([0], [0]), ([1], [1]), ([2], [2]), ([3, 2, 2], [2, 3]), ([2], [2]), ([4, 5, 2], [2, 4, 5]), ([6, 4, 2], [2, 6]), ([7], [7]), ([8, 7, 7], [7, 8]), ([7], [7]), ([10, 7], [7, 10]), ([9, 11, 9, 7], [7, 9, 11]), ([7, 12, 2], [2, 7, 12]), ([2, 13], [2, 13]), ([14, 12, 0, 1, 2, 3, 4, 5, 6, 7, 8, 9, 10, 11, 12, 13, 14], [14])])
def LawR7.B7 : List Nat := [0, 1, 3, 7, 15, 7, 63, 127, 255, 511, 255, 1279, 4095, 8191, 16383, 32767]
theorem LawR7.tab7 : rtab .any (opsOf Try.f7 7) = LawR7.T7 := by kernel_rfl
theorem LawR7.bits7 : waitsOk LawR7.T7.2 LawR7.B7 = true := by kernel_rfl
theorem first_bad (n : Int) : ∀ l : List S43, (¬ ∀ e, e ∈ l → okE n e = true) → ∃ pb, pb < l.length ∧ (∀ e, e ∈ l.take pb → okE n e = true) ∧ okE n (l.getD pb z43) = false
  | [], h => absurd (fun e he => absurd he (by simp)) h
  | e :: es, h => by
    by_cases he : okE n e = true
    · obtain ⟨p, h1, h2, h3⟩ := first_bad n es (fun h' => h (by
        intro x hx
        rcases List.mem_cons.mp hx with rfl | hx
        · exact he
        · exact h' x hx))
      refine ⟨p + 1, by simpa using h1, ?_, by simpa using h3⟩
      intro x hx
      rw [List.take_succ_cons] at hx
      rcases List.mem_cons.mp hx with rfl | hx
      · exact he
      · exact h2 x hx
    · exact ⟨0, by simp, by simp, by simpa using he⟩
theorem insAll_bad (n : Int) : ∀ (l g : List S43), (¬ ∀ e, e ∈ l → okE n e = true) → insAll n l g = none
  | [], g, h => absurd (fun e he => absurd he (by simp)) h
  | e :: es, g, h => by
    unfold insAll
    by_cases he : okE n e = true
    · rw [if_pos he]
      exact insAll_bad n es _ (fun h' => h (by
        intro x hx
        rcases List.mem_cons.mp hx with rfl | hx
        · exact he
        · exact h' x hx))
    · rw [if_neg he]
theorem ok_iff (N : Nat) (e : S43) : okEdge N (to44 e) ↔ okE (N : Int) e = true := by
  unfold okEdge okE to44
  simp only [Bool.and_eq_true, decide_eq_true_eq]
  constructor
  · intro h; exact ⟨⟨⟨h.1.1, h.1.2⟩, h.2.1⟩, h.2.2⟩
  · intro h; exact ⟨⟨h.1.1.1, h.1.1.2⟩, h.1.2, h.2⟩
theorem new_outcome (n : Int) (l : List S43) (E : List S44) (hE : E = l.map to44) (hl : l.length ≤ 65536) :
    (∃ N : Nat, n = N ∧ N ≤ 4096 ∧ ∀ e, e ∈ l → okE (N : Int) e = true) ∨
    (∃ k : Int, (k = 2 ∨ k = 8) ∧ replevinref08_New.f n l = some (0, [], k) ∧ ∀ A c W, k44.C W A E.length E → Calls Try.prog 33 #[.int .i64 n, .slice A E.length c] W fun e w' => e = .returned (.tuple #[.pointer none, .int .i64 k]) ∧ Below W.heap.size W w') := by
  subst hE
  by_cases hn : 0 ≤ n ∧ n ≤ 4096
  · obtain ⟨N, rfl⟩ := Int.eq_ofNat_of_zero_le hn.1
    by_cases hok : ∀ e, e ∈ l → okE (N : Int) e = true
    · exact .inl ⟨N, rfl, by omega, hok⟩
    · refine .inr ⟨8, .inr rfl, ?_, fun A c W hC => ?_⟩
      · unfold replevinref08_New.f
        rw [if_pos hn, if_pos hl, insAll_bad _ _ _ hok]
      · obtain ⟨pb, h1, h2, h3⟩ := first_bad (N : Int) l hok
        refine New_bad N A c _ pb W (by omega) (by rw [List.length_map]; exact hl) (by rw [List.length_map]; exact h1) ?_ ?_ hC
        · intro e he
          rw [← List.map_take] at he
          obtain ⟨x, hx, rfl⟩ := List.mem_map.1 he
          exact (ok_iff N x).mpr (h2 x hx)
        · have e : rd_T44 (l.map to44) (pb : Int) = to44 (l.getD pb z43) := by
            unfold rd_T44
            rw [Int.toNat_natCast, List.getD_eq_getElem?_getD, List.getD_eq_getElem?_getD, List.getElem?_map, List.getElem?_eq_getElem h1]
            rfl
          rw [e, ok_iff, h3]
          simp
  · refine .inr ⟨2, .inl rfl, ?_, fun A c W _ => New_range n A _ c W hn⟩
    unfold replevinref08_New.f
    rw [if_neg hn]
/-- The graph in block b, the reference's graph in the box b8: any number of nodes. -/
structure LN (W : World) (b b8 N : Nat) (A5 : Option Addr) (c5 : Nat) (E : List S43) : Prop where
  g : IsG W b (rowsOf N (E.map to44) true) (rowsOf N (E.map to44) false)
  box : W.heap[b8]? = some (.cells #[.int .i64 N, .slice A5 (insL [] E).length c5] 26 (0, 0))
  ref : k43.C W A5 (insL [] E).length (insL [] E)
  rc : (insL [] E).length ≤ c5
  ok : ∀ e, e ∈ E → okE (N : Int) e = true
  el : E.length ≤ 100
section
variable {W W' : World} {b b8 N : Nat} {A5 : Option Addr} {c5 : Nat} {E : List S43}
theorem LN.below (h : LN W b b8 N A5 c5 E) (hb : Below W.heap.size W W') : LN W' b b8 N A5 c5 E := ⟨h.g.below hb, blk_below h.box hb, Kd.C_below h.ref hb, h.rc, h.ok, h.el⟩
theorem LN.rl (h : LN W b b8 N A5 c5 E) : (insL [] E).length ≤ 100 := by
  have := insL_len E []
  have := h.el
  simp at *
  omega
theorem LN.c1 (h : LN W b b8 N A5 c5 E) : W.cell? ⟨b8, 1, none⟩ = some (.slice A5 (insL [] E).length c5) := (blk_cell h.box 1).trans rfl
theorem ln_nodes (h : LN W b b8 N A5 c5 E) : Calls Try.prog 20 #[.pointer (some ⟨b, 0, none⟩)] W fun e W' => e = .returned (.int .i64 N) ∧ LN W' b b8 N A5 c5 E ∧ Below W.heap.size W W' := by
  refine (Nodes_calls h.g).mono ?_
  rintro e W' ⟨rfl, q, hq⟩
  have hb : Below W.heap.size W W' := by rw [hq]; exact pw_below_drewN (Below.refl _ _) q
  exact ⟨by rw [rowsT_len], h.below hb, hb⟩
theorem ln_edges (h : LN W b b8 N A5 c5 E) : Calls Try.prog 22 #[.pointer (some ⟨b, 0, none⟩)] W fun e W' => ∃ A c, e = .returned (.slice A (insL [] E).length c) ∧ ((insL [] E).length ≤ c ∧ k44.C W' A (insL [] E).length ((insL [] E).map to44)) ∧ LN W' b b8 N A5 c5 E ∧ Below W.heap.size W W' := by
  refine (Edges_calls h.g).mono ?_
  rintro e W' ⟨v, rfl, hv, hb⟩
  rw [rowsT_len, edgesTo_43, edges_rows h.ok] at hv
  obtain ⟨A, c, rfl, h1, h2⟩ := Kd.R_reads hv
  rw [List.length_map] at h1 h2 ⊢
  exact ⟨A, c, rfl, ⟨h1, h2⟩, h.below hb, hb⟩
theorem ln_edsame (h : LN W b b8 N A5 c5 E) {A : Option Addr} {c : Nat} (h1 : (insL [] E).length ≤ c ∧ k44.C W A (insL [] E).length ((insL [] E).map to44)) :
    Calls Try.prog 21 #[.slice A (insL [] E).length c, .slice A5 (insL [] E).length c5] W fun e W' => e = .returned (.bool true) ∧ LN W' b b8 N A5 c5 E ∧ Below W.heap.size W W' := by
  have hz := h.rl
  have hl : ((insL [] E).map to44).length = (insL [] E).length := List.length_map _
  have := replevinlaw08_sameEdges.calls ((insL [] E).length + 1) A c ((insL [] E).map to44) A5 c5 (insL [] E) true W (by rw [hl]; exact h1.2) (by rw [hl]; exact h1.1) h.ref h.rc (by rw [edges_f _ _ (by rw [hl]; omega) _ (by rw [hl]; omega)]; simp)
  rw [hl] at this
  refine this.mono ?_
  rintro e W' ⟨rfl, q, hq⟩
  have hb : Below W.heap.size W W' := by rw [hq]; exact pw_below_drewN (Below.refl _ _) q
  exact ⟨rfl, h.below hb, hb⟩
end
set_option maxHeartbeats 8000000 in
set_option maxRecDepth 100000 in
theorem GraphNew_calls (n : Int) (A : Option Addr) (c : Nat) (l : List S43) (w : World) (hr : k43.C w A l.length l) (hc : l.length ≤ c) (hl : l.length ≤ 9223372036854775807) :
    Calls Try.prog 7 #[.int .i64 n, .slice A l.length c] w fun e w' => e = .returned (.bool true) ∧ Below w.heap.size w w' := by
  have HR := Aside0.mk hr
  have HC := Aside0.mk (And.intro hc hl)
  have T1 : True := trivial
  clear hr hc hl
  by_cases hlen : l.length ≤ 100
  · have p0 := eq_false (show ¬ (l.length : Int) > 100 by omega)
    obtain ⟨E, hE⟩ : ∃ E, E = l.map to44 := ⟨_, rfl⟩
    have HTo := Aside0.mk (show replevinlaw08_To.f (l.length + 1) l = some E by rw [hE]; exact to_f l (by omega))
    have HLl := Aside0.mk hlen
    have HEe := Aside0.mk hE
    rcases new_outcome n l E hE (by omega) with ⟨N, rfl, hN, hok⟩ | ⟨k, hk, hf, hnew⟩
    · have HOK := Aside0.mk hok
      have HN := Aside0.mk hN
      clear hok hE hlen hN
      go_enter Try.func7, Try.ntmps7
      go_upto_region 5 with (first
        | (go_at_call 11; refine (known_calls _).mono ?_; rintro e w1 ⟨rfl, hb⟩; have HB1 := Aside0.mk hb; clear hb)
        | (go_at_call 34; refine (replevinlaw08_To.calls (l.length + 1) A c l E _ (Kd.C_below HR.out HB1.out) HC.out.1 HTo.out).mono ?_; rintro e w3 ⟨v3, rfl, hv, hb⟩; obtain ⟨A3, c3, e3⟩ := Kd.R_slice hv; subst e3; have HV3 := Aside0.mk hv; have HB3 := Aside0.mk (below_step HB1.out hb); clear hv hb)
        | (go_at_call 33; refine (New_calls N A3 c3 E _ HN.out (by rw [HEe.out, List.length_map]; have := HLl.out; omega) (by rw [HEe.out]; exact ok44 HOK.out) (Kd.R_reads' HV3.out).2.2).mono ?_; rintro e w4 ⟨b, rfl, hG, hb⟩; have HG4 := Aside0.mk hG; have HB4 := Aside0.mk (below_step HB3.out hb); clear hG hb)
        | (go_at_call 35; refine (replevinref08_New.calls (N : Int) A c l _ _ _ _ (Kd.C_below HR.out HB4.out) HC.out.1 (refnew_f HN.out (by have := HLl.out; omega) HOK.out)).mono ?_; rintro e w5 ⟨v5, rfl, hv, hb⟩; obtain ⟨A5, c5, e5⟩ := Kd.R_slice hv; subst e5; have HR5 := Aside0.mk hv; have HG5 := Aside0.mk (HG4.out.below hb); have HB5 := Aside0.mk (below_step HB4.out hb); clear hv hb))
      have HL := Aside0.mk (show LN (w5.alloc (.cells #[.int .i64 N, .slice A5 (insL [] l).length c5] 26)) b w5.heap.size N A5 c5 l from ⟨(by have h := HG5.out.alloc (.cells #[.int .i64 N, .slice A5 (insL [] l).length c5] 26); rw [HEe.out] at h; exact h), heap_alloc_last _ _, Kd.C_below (Kd.R_reads' HR5.out).2.2 (below_alloc (Below.refl _ _) _), (Kd.R_reads' HR5.out).2.1, HOK.out, HLl.out⟩)
      have HBw := Aside0.mk (below_alloc HB5.out (.cells #[.int .i64 N, .slice A5 (insL [] l).length c5] 26))
      obtain ⟨w6, hw6⟩ : ∃ w6, w6 = w5.alloc (.cells #[.int .i64 N, .slice A5 (insL [] l).length c5] 26) := ⟨_, rfl⟩
      obtain ⟨b8, hb8⟩ : ∃ b8, b8 = w5.heap.size := ⟨_, rfl⟩
      rw [← hw6, ← hb8] at HL
      rw [← hw6] at HBw
      rw [← hw6, ← hb8]
      clear hw6 hb8 HR5 HG5 HG4 HV3 HB5 HB4 HB3 HB1
      go_upto_region 7 with fail
      have HG := Aside0.mk (HL.out.below (below_drew1 (Below.refl _ _)))
      have HBw := Aside0.mk (below_drew1 HBw.out)
      refine start_ (n := 16) (S := fun w' => w'.cell? ⟨b8, 1, none⟩ = some (.slice A5 (insL [] l).length c5)) (ds := []) #[false, false, false, false, false, false, false, false, false, false, false, false, false, false, false, false] (by kernel_rfl) rfl rfl (HG.out.c1) (fun hHeld => ?_)
      refine with_tabW LawR7.tab7 LawR7.bits7 (fun HT_ HW_ => ?_)
      generalize w6.drew = w7 at HG HBw hHeld ⊢
      refine pure_ (i := 0) (N := some 40) (v := ?_) (a' := ?_) #[true, false, false, false, false, false, false, false, false, false, false, false, false, false, false, false] rfl rfl (any_of HT_.out (by kernel_rfl)) (fun _ _ _ h => h) (Or.inl ⟨by rfl, ?_⟩) ?_ ?_
      rotate_left
      · intro w'
        go_simp
        with_reducible rfl
      rotate_left
      · simp only [Act.put, List.setIfInBounds_toArray, List.set_cons_zero, List.set_cons_succ, i64_w, i32_w]
        rfl
      refine pure_ (i := 1) (N := some 41) (v := ?_) (a' := ?_) #[true, true, false, false, false, false, false, false, false, false, false, false, false, false, false, false] rfl rfl (any_of HT_.out (by kernel_rfl)) (fun _ _ _ h => h) (Or.inl ⟨by rfl, ?_⟩) ?_ ?_
      rotate_left
      · intro w'
        go_simp
        with_reducible rfl
      rotate_left
      · simp only [Act.put, List.setIfInBounds_toArray, List.set_cons_zero, List.set_cons_succ, i64_w, i32_w]
        rfl
      refine pure_ (i := 2) (N := some 42) (v := ?_) (a' := ?_) #[true, true, true, false, false, false, false, false, false, false, false, false, false, false, false, false] rfl rfl (any_of HT_.out (by kernel_rfl)) (fun _ _ _ h => h) (Or.inl ⟨by rfl, ?_⟩) ?_ ?_
      rotate_left
      · intro w'
        go_simp
        with_reducible rfl
      rotate_left
      · simp only [Act.put, List.setIfInBounds_toArray, List.set_cons_zero, List.set_cons_succ, i64_w, i32_w]
        rfl
      refine pure_ (i := 3) (N := some 43) (v := ?_) (a' := ?_) #[true, true, true, true, false, false, false, false, false, false, false, false, false, false, false, false] rfl rfl (any_of HT_.out (by kernel_rfl)) (fun _ _ _ h => h) (Or.inl ⟨by rfl, ?_⟩) ?_ ?_
      rotate_left
      · intro w'
        go_simp
        with_reducible rfl
      rotate_left
      · simp only [Act.put, List.setIfInBounds_toArray, List.set_cons_zero, List.set_cons_succ, i64_w, i32_w]
        rfl
      refine pure_ (i := 5) (N := some 45) (v := ?_) (a' := ?_) #[true, true, true, true, false, true, false, false, false, false, false, false, false, false, false, false] rfl rfl (any_of HT_.out (by kernel_rfl)) (fun _ _ _ h => h) (Or.inl ⟨by rfl, ?_⟩) ?_ ?_
      rotate_left
      · intro w'
        go_simp
        with_reducible rfl
      rotate_left
      · simp only [Act.put, List.setIfInBounds_toArray, List.set_cons_zero, List.set_cons_succ, i64_w, i32_w]
        rfl
      refine one_ (i := 4) (N := some 44) #[true, true, true, true, true, true, false, false, false, false, false, false, false, false, false, false] rfl rfl (one_of HT_.out (by kernel_rfl)) (by decide) (fun K hK => ?_)
      refine goes_ Try.func20 (by kernel_rfl) rfl #[.pointer (some ⟨b, 0, none⟩)] (by rfl) rfl rfl (by simp only [List.map_toArray, List.map_cons, List.map_nil]; rfl) ?_
      with_reducible refine (ln_nodes HG.out).mono ?_
      rintro e wz1 ⟨rfl, hG, hb⟩
      refine ⟨_, rfl, ?_⟩
      have HG := Aside0.mk hG
      have HBw := Aside0.mk (below_step HBw.out hb)
      clear hG hb
      refine hK.out _ _ (HG.out.c1) (fun hHeld => ?_)
      clear hK K
      refine norm_ (a' := ?_) ?_ ?_
      rotate_left
      · show Act.put _ (some 44) _ = _
        simp only [Act.put, List.setIfInBounds_toArray, List.set_cons_zero, List.set_cons_succ, i64_w, i32_w]
        rfl
      refine pure_ (i := 6) (N := some 46) (v := ?_) (a' := ?_) #[true, true, true, true, true, true, true, false, false, false, false, false, false, false, false, false] rfl rfl (any_of HT_.out (by kernel_rfl)) (fun _ _ _ h => h) (Or.inl ⟨by rfl, ?_⟩) ?_ ?_
      rotate_left
      · intro w'
        go_simp
        with_reducible rfl
      rotate_left
      · simp only [Act.put, List.setIfInBounds_toArray, List.set_cons_zero, List.set_cons_succ, i64_w, i32_w]
        rfl
      refine pure_ (i := 7) (N := some 47) (v := ?_) (a' := ?_) #[true, true, true, true, true, true, true, true, false, false, false, false, false, false, false, false] rfl rfl (any_of HT_.out (by kernel_rfl)) (fun _ _ _ h => h) (Or.inl ⟨by rfl, ?_⟩) ?_ ?_
      rotate_left
      · intro w'
        go_simp
        with_reducible rfl
      rotate_left
      · simp only [Act.put, List.setIfInBounds_toArray, List.set_cons_zero, List.set_cons_succ, i64_w, i32_w]
        rfl
      refine pure_ (i := 8) (N := some 48) (v := ?_) (a' := ?_) #[true, true, true, true, true, true, true, true, true, false, false, false, false, false, false, false] rfl rfl (any_of HT_.out (by kernel_rfl)) (fun _ _ _ h => h) (Or.inl ⟨by rfl, ?_⟩) ?_ ?_
      rotate_left
      · intro w'
        go_simp
        with_reducible rfl
      rotate_left
      · simp only [Act.put, List.setIfInBounds_toArray, List.set_cons_zero, List.set_cons_succ, i64_w, i32_w]
        rfl
      refine pure_ (i := 10) (N := some 50) (v := ?_) (a' := ?_) #[true, true, true, true, true, true, true, true, true, false, true, false, false, false, false, false] rfl rfl (any_of HT_.out (by kernel_rfl)) (fun _ _ _ h => h) (Or.inl ⟨by rfl, ?_⟩) ?_ ?_
      rotate_left
      · intro w'
        go_simp
        with_reducible rfl
      rotate_left
      · simp only [Act.put, List.setIfInBounds_toArray, List.set_cons_zero, List.set_cons_succ, i64_w, i32_w]
        rfl
      refine take_ (i := 11) (N := some 51) (v := ?_) (a' := ?_) #[true, true, true, true, true, true, true, true, true, false, true, true, false, false, false, false] rfl rfl (take_ofW HT_.out HW_.out (by kernel_rfl)) (fun _ _ _ h => h) (Or.inl ⟨by rfl, ?_⟩) hHeld ?_ ?_
      rotate_left
      · intro w' s0
        go_simp
        with_reducible rfl
      rotate_left
      · simp only [Act.put, List.setIfInBounds_toArray, List.set_cons_zero, List.set_cons_succ, i64_w, i32_w]
        rfl
      refine one_ (i := 9) (N := some 49) #[true, true, true, true, true, true, true, true, true, true, true, true, false, false, false, false] rfl rfl (one_of HT_.out (by kernel_rfl)) (by decide) (fun K hK => ?_)
      refine goes_ Try.func22 (by kernel_rfl) rfl #[.pointer (some ⟨b, 0, none⟩)] (by rfl) rfl rfl (by simp only [List.map_toArray, List.map_cons, List.map_nil]; rfl) ?_
      with_reducible refine (ln_edges HG.out).mono ?_
      rintro e wz2 ⟨Ae, ce, rfl, hE, hG, hb⟩
      refine ⟨_, rfl, ?_⟩
      have HG := Aside0.mk hG
      have HBw := Aside0.mk (below_step HBw.out hb)
      have HEd := Aside0.mk hE
      clear hE hG hb
      refine hK.out _ _ (HG.out.c1) (fun hHeld => ?_)
      clear hK K
      refine norm_ (a' := ?_) ?_ ?_
      rotate_left
      · show Act.put _ (some 49) _ = _
        simp only [Act.put, List.setIfInBounds_toArray, List.set_cons_zero, List.set_cons_succ, i64_w, i32_w]
        rfl
      refine one_ (i := 12) (N := some 52) #[true, true, true, true, true, true, true, true, true, true, true, true, true, false, false, false] rfl rfl (one_of HT_.out (by kernel_rfl)) (by decide) (fun K hK => ?_)
      refine goes_ Try.func21 (by kernel_rfl) rfl #[.slice Ae (insL [] l).length ce, .slice A5 (insL [] l).length c5] (by rfl) rfl rfl (by simp only [List.map_toArray, List.map_cons, List.map_nil]; rfl) ?_
      with_reducible refine (ln_edsame HG.out HEd.out).mono ?_
      rintro e wz3 ⟨rfl, hG, hb⟩
      refine ⟨_, rfl, ?_⟩
      have HG := Aside0.mk hG
      have HBw := Aside0.mk (below_step HBw.out hb)
      clear hG hb
      refine hK.out _ _ (HG.out.c1) (fun hHeld => ?_)
      clear hK K
      refine norm_ (a' := ?_) ?_ ?_
      rotate_left
      · show Act.put _ (some 52) _ = _
        simp only [Act.put, List.setIfInBounds_toArray, List.set_cons_zero, List.set_cons_succ, i64_w, i32_w]
        rfl
      refine pure_ (i := 13) (N := some 53) (v := ?_) (a' := ?_) #[true, true, true, true, true, true, true, true, true, true, true, true, true, true, false, false] rfl rfl (any_of HT_.out (by kernel_rfl)) (fun _ _ _ h => h) (Or.inl ⟨by rfl, ?_⟩) ?_ ?_
      rotate_left
      · intro w'
        go_simp
        with_reducible rfl
      rotate_left
      · simp only [Act.put, List.setIfInBounds_toArray, List.set_cons_zero, List.set_cons_succ, i64_w, i32_w]
        rfl
      refine pure_ (i := 14) (N := some 54) (v := ?_) (a' := ?_) #[true, true, true, true, true, true, true, true, true, true, true, true, true, true, true, false] rfl rfl (any_of HT_.out (by kernel_rfl)) (fun _ _ _ h => h) (Or.inl ⟨by rfl, ?_⟩) ?_ ?_
      rotate_left
      · intro w'
        go_simp
        with_reducible rfl
      rotate_left
      · simp only [Act.put, List.setIfInBounds_toArray, List.set_cons_zero, List.set_cons_succ, i64_w, i32_w]
        rfl
      refine pure_ (i := 15) (N := some 4) (v := ?_) (a' := ?_) #[true, true, true, true, true, true, true, true, true, true, true, true, true, true, true, true] rfl rfl (any_of HT_.out (by kernel_rfl)) (fun _ _ _ h => h) (Or.inl ⟨by rfl, ?_⟩) ?_ ?_
      rotate_left
      · intro w'
        go_simp
        with_reducible rfl
      rotate_left
      · simp only [Act.put, List.setIfInBounds_toArray, List.set_cons_zero, List.set_cons_succ, i64_w, i32_w]
        rfl
      refine done_ (done_of HT_.out (by kernel_rfl)) ?_

      go_wp2_with fail
      go_ret
      exact ⟨rfl, HBw.out⟩
    · have HNw := Aside0.mk hnew
      have HF := Aside0.mk hf
      clear hnew hf hE hlen
      rcases hk with rfl | rfl
      all_goals
        go_enter Try.func7, Try.ntmps7
        go_upto_region 7 with (first
          | (go_at_call 11; refine (known_calls _).mono ?_; rintro e w1 ⟨rfl, hb⟩; have HB1 := Aside0.mk hb; clear hb)
          | (go_at_call 34; refine (replevinlaw08_To.calls (l.length + 1) A c l E _ (Kd.C_below HR.out HB1.out) HC.out.1 HTo.out).mono ?_; rintro e w3 ⟨v3, rfl, hv, hb⟩; obtain ⟨A3, c3, e3⟩ := Kd.R_slice hv; subst e3; have HV3 := Aside0.mk hv; have HB3 := Aside0.mk (below_step HB1.out hb); clear hv hb)
          | (go_at_call 33; refine (HNw.out A3 c3 _ (Kd.R_reads' HV3.out).2.2).mono ?_; rintro e w4 ⟨rfl, hb⟩; have HB4 := Aside0.mk (below_step HB3.out hb); clear hb)
          | (go_at_call 35; refine (replevinref08_New.calls n A c l _ _ _ _ (Kd.C_below HR.out HB4.out) HC.out.1 HF.out).mono ?_; rintro e w5 ⟨v5, rfl, hv, hb⟩; obtain ⟨A5, c5, e5⟩ := Kd.R_slice hv; subst e5; have HB5 := Aside0.mk (below_step HB4.out hb); clear hv hb))
        refine start_ (n := 16) (S := fun w' => True) (ds := []) #[false, false, false, false, false, false, false, false, false, false, false, false, false, false, false, false] (by kernel_rfl) rfl rfl trivial (fun hHeld => ?_)
        refine with_tabW LawR7.tab7 LawR7.bits7 (fun HT_ HW_ => ?_)
        refine pure_ (i := 0) (N := some 40) (v := ?_) (a' := ?_) #[true, false, false, false, false, false, false, false, false, false, false, false, false, false, false, false] rfl rfl (any_of HT_.out (by kernel_rfl)) (fun _ _ _ h => h) (Or.inl ⟨by rfl, ?_⟩) ?_ ?_
        rotate_left
        · intro w'
          go_simp
          with_reducible rfl
        rotate_left
        · simp only [Act.put, List.setIfInBounds_toArray, List.set_cons_zero, List.set_cons_succ, i64_w, i32_w]
          rfl
        refine pure_ (i := 1) (N := some 41) (v := ?_) (a' := ?_) #[true, true, false, false, false, false, false, false, false, false, false, false, false, false, false, false] rfl rfl (any_of HT_.out (by kernel_rfl)) (fun _ _ _ h => h) (Or.inl ⟨by rfl, ?_⟩) ?_ ?_
        rotate_left
        · intro w'
          go_simp
          with_reducible rfl
        rotate_left
        · simp only [Act.put, List.setIfInBounds_toArray, List.set_cons_zero, List.set_cons_succ, i64_w, i32_w]
          rfl
        refine pure_ (i := 2) (N := some 42) (v := ?_) (a' := ?_) #[true, true, true, false, false, false, false, false, false, false, false, false, false, false, false, false] rfl rfl (any_of HT_.out (by kernel_rfl)) (fun _ _ _ h => h) (Or.inl ⟨by rfl, ?_⟩) ?_ ?_
        rotate_left
        · intro w'
          go_simp
          with_reducible rfl
        rotate_left
        · simp only [Act.put, List.setIfInBounds_toArray, List.set_cons_zero, List.set_cons_succ, i64_w, i32_w]
          rfl
        refine pure_ (i := 3) (N := some 43) (v := undef) (a' := ?_) #[true, true, true, true, false, false, false, false, false, false, false, false, false, false, false, false] rfl rfl (any_of HT_.out (by kernel_rfl)) (fun _ _ _ h => h) (Or.inr ⟨by rfl, rfl⟩) ?_ ?_
        rotate_left
        · simp only [Act.put, List.setIfInBounds_toArray, List.set_cons_zero, List.set_cons_succ, i64_w, i32_w]
          rfl
        refine pure_ (i := 4) (N := some 44) (v := undef) (a' := ?_) #[true, true, true, true, true, false, false, false, false, false, false, false, false, false, false, false] rfl rfl (any_of HT_.out (by kernel_rfl)) (fun _ _ _ h => h) (Or.inr ⟨by rfl, rfl⟩) ?_ ?_
        rotate_left
        · simp only [Act.put, List.setIfInBounds_toArray, List.set_cons_zero, List.set_cons_succ, i64_w, i32_w]
          rfl
        refine pure_ (i := 5) (N := some 45) (v := undef) (a' := ?_) #[true, true, true, true, true, true, false, false, false, false, false, false, false, false, false, false] rfl rfl (any_of HT_.out (by kernel_rfl)) (fun _ _ _ h => h) (Or.inr ⟨by rfl, rfl⟩) ?_ ?_
        rotate_left
        · simp only [Act.put, List.setIfInBounds_toArray, List.set_cons_zero, List.set_cons_succ, i64_w, i32_w]
          rfl
        refine pure_ (i := 6) (N := some 46) (v := undef) (a' := ?_) #[true, true, true, true, true, true, true, false, false, false, false, false, false, false, false, false] rfl rfl (any_of HT_.out (by kernel_rfl)) (fun _ _ _ h => h) (Or.inr ⟨by rfl, rfl⟩) ?_ ?_
        rotate_left
        · simp only [Act.put, List.setIfInBounds_toArray, List.set_cons_zero, List.set_cons_succ, i64_w, i32_w]
          rfl
        refine pure_ (i := 7) (N := some 47) (v := undef) (a' := ?_) #[true, true, true, true, true, true, true, true, false, false, false, false, false, false, false, false] rfl rfl (any_of HT_.out (by kernel_rfl)) (fun _ _ _ h => h) (Or.inr ⟨by rfl, rfl⟩) ?_ ?_
        rotate_left
        · simp only [Act.put, List.setIfInBounds_toArray, List.set_cons_zero, List.set_cons_succ, i64_w, i32_w]
          rfl
        refine pure_ (i := 8) (N := some 48) (v := undef) (a' := ?_) #[true, true, true, true, true, true, true, true, true, false, false, false, false, false, false, false] rfl rfl (any_of HT_.out (by kernel_rfl)) (fun _ _ _ h => h) (Or.inr ⟨by rfl, rfl⟩) ?_ ?_
        rotate_left
        · simp only [Act.put, List.setIfInBounds_toArray, List.set_cons_zero, List.set_cons_succ, i64_w, i32_w]
          rfl
        refine pure_ (i := 9) (N := some 49) (v := undef) (a' := ?_) #[true, true, true, true, true, true, true, true, true, true, false, false, false, false, false, false] rfl rfl (any_of HT_.out (by kernel_rfl)) (fun _ _ _ h => h) (Or.inr ⟨by rfl, rfl⟩) ?_ ?_
        rotate_left
        · simp only [Act.put, List.setIfInBounds_toArray, List.set_cons_zero, List.set_cons_succ, i64_w, i32_w]
          rfl
        refine pure_ (i := 10) (N := some 50) (v := undef) (a' := ?_) #[true, true, true, true, true, true, true, true, true, true, true, false, false, false, false, false] rfl rfl (any_of HT_.out (by kernel_rfl)) (fun _ _ _ h => h) (Or.inr ⟨by rfl, rfl⟩) ?_ ?_
        rotate_left
        · simp only [Act.put, List.setIfInBounds_toArray, List.set_cons_zero, List.set_cons_succ, i64_w, i32_w]
          rfl
        refine pure_ (i := 11) (N := some 51) (v := undef) (a' := ?_) #[true, true, true, true, true, true, true, true, true, true, true, true, false, false, false, false] rfl rfl (any_of HT_.out (by kernel_rfl)) (fun _ _ _ h => h) (Or.inr ⟨by rfl, rfl⟩) ?_ ?_
        rotate_left
        · simp only [Act.put, List.setIfInBounds_toArray, List.set_cons_zero, List.set_cons_succ, i64_w, i32_w]
          rfl
        refine pure_ (i := 12) (N := some 52) (v := undef) (a' := ?_) #[true, true, true, true, true, true, true, true, true, true, true, true, true, false, false, false] rfl rfl (any_of HT_.out (by kernel_rfl)) (fun _ _ _ h => h) (Or.inr ⟨by rfl, rfl⟩) ?_ ?_
        rotate_left
        · simp only [Act.put, List.setIfInBounds_toArray, List.set_cons_zero, List.set_cons_succ, i64_w, i32_w]
          rfl
        refine pure_ (i := 13) (N := some 53) (v := undef) (a' := ?_) #[true, true, true, true, true, true, true, true, true, true, true, true, true, true, false, false] rfl rfl (any_of HT_.out (by kernel_rfl)) (fun _ _ _ h => h) (Or.inr ⟨by rfl, rfl⟩) ?_ ?_
        rotate_left
        · simp only [Act.put, List.setIfInBounds_toArray, List.set_cons_zero, List.set_cons_succ, i64_w, i32_w]
          rfl
        refine pure_ (i := 14) (N := some 54) (v := ?_) (a' := ?_) #[true, true, true, true, true, true, true, true, true, true, true, true, true, true, true, false] rfl rfl (any_of HT_.out (by kernel_rfl)) (fun _ _ _ h => h) (Or.inl ⟨by rfl, ?_⟩) ?_ ?_
        rotate_left
        · intro w'
          go_simp
          with_reducible rfl
        rotate_left
        · simp only [Act.put, List.setIfInBounds_toArray, List.set_cons_zero, List.set_cons_succ, i64_w, i32_w]
          rfl
        refine pure_ (i := 15) (N := some 4) (v := ?_) (a' := ?_) #[true, true, true, true, true, true, true, true, true, true, true, true, true, true, true, true] rfl rfl (any_of HT_.out (by kernel_rfl)) (fun _ _ _ h => h) (Or.inl ⟨by rfl, ?_⟩) ?_ ?_
        rotate_left
        · intro w'
          go_simp
          with_reducible rfl
        rotate_left
        · simp only [Act.put, List.setIfInBounds_toArray, List.set_cons_zero, List.set_cons_succ, i64_w, i32_w]
          rfl
        refine done_ (done_of HT_.out (by kernel_rfl)) ?_

        go_wp2_with fail
        go_ret
        exact ⟨rfl, by repeat (first | exact HB5.out | apply pw_below_drewN | apply below_drew1 | apply below_alloc)⟩
  · have p0 := eq_true (show (l.length : Int) > 100 by omega)
    clear hlen
    go_enter Try.func7, Try.ntmps7
    go_wp2_with (first
      | (go_at_call 11; clear T1; refine (known_calls _).mono ?_; rintro e w1 ⟨rfl, hb⟩; have HB1 := Aside0.mk hb; clear hb)
      | (go_at_call 11; refine (known_calls _).mono ?_; rintro e w2 ⟨rfl, hb⟩; have HB2 := Aside0.mk (below_step HB1.out hb); clear hb))
    go_ret
    exact ⟨rfl, HB2.out⟩
end Go.Proofs.Ythkgfmjgilkdeaa
