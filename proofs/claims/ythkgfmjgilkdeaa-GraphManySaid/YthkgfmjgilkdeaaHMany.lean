/- GraphMany walked. -/
import Derived.Test.YthkgfmjgilkdeaaHErr
import Derived.Test.YthkgfmjgilkdeaaMG
namespace Go.Proofs.Ythkgfmjgilkdeaa
set_option linter.unusedVariables false
set_option linter.unusedSimpArgs false
open Go.RowKit Go.Shelf Go.Proofs.Ythkgfmjgilkdeaa.Q Go.Proofs.YthkgfmjgilkdeaaW.PrintWords Go.Proofs.YthkgfmjgilkdeaaW.PrintLast Go.Proofs.YthkgfmjgilkdeaaW.PrintMore
theorem addM0 (g k : Nat) : (⟨g, 0, none⟩ : Addr).add k = ⟨g, k, none⟩ := by unfold Addr.add; by_cases h : k = 0 <;> simp [h]
theorem sizeM44 : (Try.prog.info? 44).map (·.size) = some 2 := by kernel_rfl
theorem M44x {W : World} {base : Nat} {ok : Nat → Prop} {cc : List Value} (x : S44) (h : cc.length = k44.sz) : k44.M W base ok x (cc.take 0 ++ [.int .i64 x.f0, .int .i64 x.f1] ++ cc.drop (0 + ([.int .i64 x.f0, .int .i64 x.f1] : List Value).length)) := by
  have h2 : cc.length = 2 := h
  have e : cc.drop (0 + ([.int .i64 x.f0, .int .i64 x.f1] : List Value).length) = [] := List.drop_eq_nil_of_le (by simp [h2])
  rw [e]
  exact k44_mkM _ _ _ x
theorem one44x (x y : Int) : ∀ q ∈ ([.int .i64 x, .int .i64 y] : List Value), q.oneCell' = true := by simp [Value.oneCell']
theorem same_set {L : List S44} {e : S44} {j : Nat} (hj : j < L.length) (h : ∀ i, i < j → L[i]? = some e) : ∀ i, i < j + 1 → (L.set j e)[i]? = some e := by
  intro i hi
  by_cases hij : i = j
  · subst hij
    simp [hj]
  · rw [List.getElem?_set_ne (by omega)]
    exact h i (by omega)
theorem same_end {L : List S44} {e : S44} (h : ∀ i, i < L.length → L[i]? = some e) : L = List.replicate L.length e := by
  refine List.eq_replicate_iff.mpr ⟨rfl, fun b hb => ?_⟩
  obtain ⟨i, hi, rfl⟩ := List.getElem_of_mem hb
  have := h i hi
  rw [List.getElem?_eq_getElem hi] at this
  injection this
/-- The graph of one edge, however often it was given. -/
structure OneG (W : World) (b : Nat) (x y : Int) (n : Nat) : Prop where
  g : IsG W b (rowsOf 256 ((List.replicate n (⟨x, y⟩ : S43)).map to44) true) (rowsOf 256 ((List.replicate n (⟨x, y⟩ : S43)).map to44) false)
  x0 : 0 ≤ x
  x1 : x < 256
  y0 : 0 ≤ y
  y1 : y < 256
  n0 : 0 < n
theorem OneG.below {W W' : World} {b n : Nat} {x y : Int} (h : OneG W b x y n) (hb : Below W.heap.size W W') : OneG W' b x y n := ⟨h.g.below hb, h.x0, h.x1, h.y0, h.y1, h.n0⟩
theorem OneG.ok {W : World} {b n : Nat} {x y : Int} (h : OneG W b x y n) : ∀ e, e ∈ List.replicate n (⟨x, y⟩ : S43) → okE ((256 : Nat) : Int) e = true := by
  intro e he
  obtain rfl := (List.mem_replicate.mp he).2
  have := h.x0; have := h.x1; have := h.y0; have := h.y1
  unfold okE
  simp only [Bool.and_eq_true, decide_eq_true_eq]
  omega
theorem ins_rep (n : Nat) (e : S43) (h : 0 < n) : insL [] (List.replicate n e) = [e] := by
  refine sorted_ext (ins_sorted _) (List.pairwise_singleton _ _) fun x => ?_
  rw [ins_mem, List.mem_replicate, List.mem_singleton]
  constructor
  · exact fun h => h.2
  · exact fun hx => ⟨by omega, hx⟩
theorem one_edges {W : World} {b n : Nat} {x y : Int} (h : OneG W b x y n) : Calls Try.prog 22 #[.pointer (some ⟨b, 0, none⟩)] W fun e W' => ∃ A c, e = .returned (.slice A 1 c) ∧ OneG W' b x y n ∧ Below W.heap.size W W' := by
  refine (Edges_calls h.g).mono ?_
  rintro e W' ⟨v, rfl, hv, hb⟩
  rw [rowsT_len, edgesTo_43, edges_rows h.ok, ins_rep n _ h.n0] at hv
  obtain ⟨A, c, rfl, h1, h2⟩ := Kd.R_reads hv
  exact ⟨A, c, rfl, h.below hb, hb⟩
theorem one_has {W : World} {b n : Nat} {x y : Int} (h : OneG W b x y n) : Calls Try.prog 18 #[.pointer (some ⟨b, 0, none⟩), .int .i64 x, .int .i64 y] W fun e W' => e = .returned (.bool true) ∧ OneG W' b x y n ∧ Below W.heap.size W W' := by
  have hi := ins_rep n (⟨x, y⟩ : S43) h.n0
  have hal := afterL_len (insL [] (List.replicate n (⟨x, y⟩ : S43))) x
  rw [hi] at hal
  obtain ⟨t, ht⟩ := bin_f (afterL (insL [] (List.replicate n (⟨x, y⟩ : S43))) x) y (afterL_sorted (ins_sorted _) x) (by rw [hi]; simp at hal; omega)
  rw [← row_after h.ok x] at ht
  have h1 := h.x1
  refine (Has_in h.g x y h.x0 (by rw [rowsT_len]; omega) _ t _ ht).mono ?_
  rintro e W' ⟨rfl, q, hq⟩
  have hb : Below W.heap.size W W' := by rw [hq]; exact pw_below_drewN (Below.refl _ _) q
  refine ⟨?_, h.below hb, hb⟩
  rw [row_after h.ok x, decide_eq_true]
  rw [afterL_mem, ins_mem]
  exact List.mem_replicate.mpr ⟨by have := h.n0; omega, rfl⟩
set_option maxHeartbeats 8000000 in
set_option maxRecDepth 100000 in
theorem GraphMany_calls (a : Nat) (ha : a < 256) (b : Nat) (hb : b < 256) (more : Bool) (w : World) :
    Calls Try.prog 10 #[.int .u8 a, .int .u8 b, .bool more] w fun e w' => e = .returned (.bool true) ∧ Below w.heap.size w w' := by
  have HA := Aside0.mk (And.intro ha hb)
  clear ha hb
  go_enter Try.func10, Try.ntmps10
  go_upto_region 4 with (first
    | (go_at_call 11; refine (known_calls _).mono ?_; rintro e w1 ⟨rfl, hb⟩; have HB1 := Aside0.mk hb; clear hb)
    | ((with_reducible refine gate_dst (N := 15) rfl ?_); refine Kd.R_make k44 (w0 := w) w.heap.size 44 ?hg (N := 15) ?hd 37 (.const (.int .i64 65536)) (.const (.int .i64 65536)) ?ho 65536 ?hx ?hy Try.underlying37 (.agg #[.int .i64 0, .int .i64 0]) 16 ?hinfo ?hz ?hs0 ?hb0 z44 (okp := fun _ => False) (ok := fun _ => True) ?hzero ?hok ?hfresh ?h0 ?hl HB1.out ?hbase ?_; (case hg => rfl); (case hd => rfl); (case ho => rfl); (case hx => rfl); (case hy => rfl); (case hinfo => kernel_rfl); (case hz => rfl); (case hs0 => decide); (case hb0 => decide); (case hzero => exact k44_mkM _ _ _ z44); (case hok => exact fun _ h => h.elim); (case hfresh => trivial); (case h0 => decide); (case hl => decide); (case hbase => exact below_size HB1.out); intro v2 w2 hr2 hb2 hg2 hat2; have HR2 := Aside0.mk hr2; have HB2 := Aside0.mk hb2; clear hr2 hb2 hg2 hat2))
  obtain ⟨A7, c7, e7⟩ := Kd.R_slice HR2.out
  subst e7
  have Hl := Aside0.mk (show (List.replicate (65536 : Int).toNat z44).length = 65536 by rw [List.length_replicate]; rfl)
  generalize List.replicate (65536 : Int).toNat z44 = L0 at HR2 Hl ⊢
  obtain ⟨NN, hNN⟩ : ∃ NN, NN = L0.length := ⟨_, rfl⟩
  have HNN := Aside0.mk (show NN = 65536 by rw [hNN, Hl.out])
  have HLN := Aside0.mk hNN
  rw [← hNN]
  clear hNN Hl HB1
  have hx0 : NN ≤ 65536 := by rw [HNN.out]; exact Nat.le_refl _
  go_wp2_with fail
  go_loopg [8] NN (fun kq v8 w' => ∃ (j : Nat) (LL : List S44), v8 = .int .i64 j ∧ j + kq = NN ∧ Aside0 (NN = LL.length) ∧ Aside0 (∀ i, i < j → LL[i]? = some ⟨(a : Int), (b : Int)⟩) ∧ Aside0 (k44.R 44 w' w.heap.size (fun _ => True) (.slice A7 NN c7) LL) ∧ Aside0 (Below w.heap.size w w'))
  case atStart => exact ⟨0, L0, rfl, by omega, HLN, ⟨fun i hi => absurd hi (by omega)⟩, ⟨by rw [HLN.out]; exact HR2.out⟩, HB2⟩
  case round =>
    clear HR2 HB2 HLN
    obtain ⟨j, LL, rfl, hj, HLN, HE, HR2, HB2⟩ := hrel
    cases gk with
    | succ k1 =>
      have hlj : j < LL.length := by have := HLN.out; omega
      obtain ⟨g, cap, eg, hbg, -, -⟩ := Kd.R_form HR2.out (by omega)
      obtain ⟨rfl, -, rfl⟩ : A7 = some ⟨g, 0, none⟩ ∧ NN = LL.length ∧ c7 = cap := by injection eg with h1 h2 h3; exact ⟨h1, h2, h3⟩
      obtain ⟨ad, cc, e0, hcl, hck, hcc⟩ := Kd.C_get (Kd.R_reads' HR2.out).2.2 z44 (j : Int) (by omega) (by omega)
      obtain rfl : (⟨g, 0, none⟩ : Addr) = ad := by injection e0
      have HCC := Aside0.mk (And.intro hcl (show ∀ q u, cc[q]? = some u → wr.cell? ⟨g, (j : Int).toNat * k44.sz + q, none⟩ = some u from fun q u h => by have := hcc q u h; rwa [addM0] at this))
      have HS := Aside0.mk (same_set hlj HE.out)
      have p2' : (0 : Int) ≤ (j : Int) := by omega
      have q3' : (j : Int) < (NN : Int) := by omega
      have p2 : (0 : Int) ≤ (j : Int) := by omega
      have q3 : (j : Int) < (NN : Int) := by omega
      have HOF := Aside0.mk (show j * 2 = (j : Int).toNat * k44.sz + 0 by rw [Int.toNat_natCast]; rfl)
      have ha := HA.out.1
      have hb := HA.out.2
      clear eg e0 hcl hck hcc hlj hbg
      go_wp2_with ((with_reducible refine gate_store (t := 44) (p := 29) (v := .tmp 28) rfl ?_); refine Kd.R_store k44 (w0 := w) w.heap.size ?hn ?hg0 44 (.tmp 29) (.tmp 28) ?ho 44 (g := g) (n := NN) (cap := c7) (o' := j * 2) (j : Int) 0 LL ⟨(a : Int), (b : Int)⟩ (.agg #[.int .i64 a, .int .i64 b]) [.int .i64 a, .int .i64 b] cc (fun _ => True) (fun _ => False) ?had ?hof ?hx ?hu ?ht ?h1 HR2.out p2' q3' HCC.out.1 ?hcc ?hj ?hM ?hokp HB2.out ?_; (case hn => rfl); (case hg0 => rfl); (case ho => rfl); (case had => first | (go_simp; done) | (go_simp; rfl) | rfl); (case hx => first | (go_simp; done) | (go_simp; rfl) | rfl); (case hof => exact HOF.out); (case hu => rfl); (case ht => exact sizeM44); (case h1 => exact one44x _ _); (case hcc => exact HCC.out.2); (case hj => exact Nat.le_refl 2); (case hM => exact M44x ⟨(a : Int), (b : Int)⟩ HCC.out.1); (case hokp => exact fun _ h => h.elim); intro w8 hr8 hb8 hg8; have HR8 := Aside0.mk hr8; have HB8 := Aside0.mk hb8; clear hr8 hb8 hg8)
      go_roundg k1
      case measure => omega
      case rel => exact ⟨j + 1, _, by go_num, by omega, ⟨by rw [List.length_set]; exact HLN.out⟩, ⟨by rw [Int.toNat_natCast]; exact HS.out⟩, HR8, HB8⟩
    | zero =>
      have ej : ¬ ((j : Int) < (NN : Int)) := by omega
      have HLL := Aside0.mk (show LL = List.replicate NN ⟨(a : Int), (b : Int)⟩ by
        have h1 := HLN.out
        have h2 := same_end (L := LL) (e := ⟨(a : Int), (b : Int)⟩) (fun i hi => HE.out i (by omega))
        rw [← h1] at h2
        exact h2)
      cases more with
      | true =>
        obtain ⟨ad, e0, x1, x2⟩ := at_T44 (Kd.R_reads' HR2.out).2.2 (0 : Int) (by omega) (by have h1 := HNN.out; have h2 := HLN.out; omega)
        subst e0
        rw [show (0 : Int).toNat * 2 = 0 from rfl, Addr.add_zero'] at x1 x2
        have pz : (0 : Int) < (NN : Int) := by have h1 := HNN.out; omega
        go_wp2_with (first
          | ((with_reducible refine gate_builtin (b := .append) (xs := #[.tmp 32, .tmp 36]) rfl ?_); at_builtin; refine Kd.R_append k44 (w0 := w) w.heap.size rfl (.tmp 32) (.tmp 36) 37 44 (.agg #[.int .i64 0, .int .i64 0]) 16 rfl Try.underlying37 info44 rfl (by decide) (by decide) (.slice (some ad) NN c7) LL (rd_T44 LL 0) [.int .i64 (rd_T44 LL 0).f0, .int .i64 (rd_T44 LL 0).f1] (fun _ => True) (fun _ => False) ?ae ?ax (k44_mkM _ _ _ _) (fun _ h => h.elim) (fun _ _ => trivial) ?aO ?aB ?aS ?aL ?_; (case ae => first | (go_simp; done) | (go_simp; rfl) | rfl); (case ax => first | (go_simp; done) | (go_simp; rfl) | simp); (case aO => exact HR2.out); (case aB => exact HB2.out); (case aS => exact (below_size HB2.out)); (case aL => have h1 := HLN.out; omega); intro v1 w7 ho hbb hg hatt; obtain ⟨A9, c9, e9⟩ := Kd.R_slice ho; subst e9; have HB7 := Aside0.mk hbb; have HL9 := Aside0.mk (show 65536 < (LL ++ [rd_T44 LL 0]).length by rw [List.length_append]; simp only [List.length_cons, List.length_nil]; have h1 := HLN.out; have h2 := HNN.out; omega); generalize (LL ++ [rd_T44 LL 0]).length = mm at HL9 ⊢; clear ho hbb hg hatt)
          | (go_at_call 33; refine (New_limit 256 _ _ _ _ (by decide) (by decide) HL9.out).mono ?_; rintro e w9 ⟨rfl, hb⟩; have HB9 := Aside0.mk (below_step HB7.out hb); clear hb))
        go_ret
        exact ⟨rfl, HB9.out⟩
      | false =>
        have Hok := Aside0.mk (show ∀ e, e ∈ LL → okEdge 256 e by
          intro e he
          rw [HLL.out] at he
          obtain rfl := (List.mem_replicate.mp he).2
          have := HA.out
          unfold okEdge
          simp only
          omega)
        have HNw := Aside0.mk (show Calls Try.prog 33 #[.int .i64 256, .slice A7 NN c7] wr fun e w' => ∃ b, e = .returned (.tuple #[.pointer (some ⟨b, 0, none⟩), .int .i64 0]) ∧ IsG w' b (rowsOf 256 LL true) (rowsOf 256 LL false) ∧ Below wr.heap.size wr w' by
          have h := New_calls 256 A7 c7 LL wr (by omega) (by have h1 := HLN.out; omega) Hok.out (Kd.R_reads' HR2.out).2.2
          rw [← HLN.out] at h
          exact h)
        go_upto_region 12 with (go_at_call 33; refine HNw.out.mono ?_; rintro e w9 ⟨g, rfl, hg, hb⟩; have HG := Aside0.mk hg; have HB9 := Aside0.mk (below_step HB2.out hb); clear hg hb)
        have H1 := Aside0.mk (show OneG w9 g (a : Int) (b : Int) NN from by
          have h1 := HG.out
          have h2 := HA.out
          have h3 := HNN.out
          rw [HLL.out] at h1
          refine ⟨?_, by omega, by omega, by omega, by omega, by omega⟩
          rw [List.map_replicate]
          exact h1)
        have ha := HA.out.1
        have hb := HA.out.2
        clear HG Hok HNw
        go_wp2_with (first
          | (go_at_call 22; refine (one_edges H1.out).mono ?_; rintro e wa ⟨Ae, ce, rfl, hg, hbb⟩; have H2 := Aside0.mk hg; have HBa := Aside0.mk (below_step HB9.out hbb); clear hg hbb)
          | (go_at_call 18; refine (one_has H2.out).mono ?_; rintro e wb ⟨rfl, hg, hbb⟩; have HBb := Aside0.mk (below_step HBa.out hbb); clear hg hbb))
        go_ret
        exact ⟨rfl, HBb.out⟩
end Go.Proofs.Ythkgfmjgilkdeaa
