/- instr.DecodeAll, walked by hand: a loop over the bytes, four at a time. -/
import Derived.Test.YtdnhekgdpolenaaQx21
namespace Go.Proofs.Ytdnhekgdpolenaa
set_option linter.unusedVariables false
set_option linter.unusedSimpArgs false
open Go.RowKit Go.Proofs.Ytdnhekgdpolenaa.Q Go.Proofs.YtdnhekgdpolenaaW.PrintWords Go.Proofs.YtdnhekgdpolenaaW.PrintLast Go.Proofs.YtdnhekgdpolenaaW.PrintMore
def instr_DecodeAll.l0 : Nat → List Int → List S26 → Nat → Option (List S26 × Int × Int)
  | 0, _, _, _ => none
  | k + 1, l, out, at_ => if at_ + 4 ≤ l.length then
      (instr_Decode.f k (rd l (at_ : Int)) (rd l ((at_ : Int) + 1)) (rd l ((at_ : Int) + 2)) (rd l ((at_ : Int) + 3))).bind fun t =>
        if t.2.2.2.2 = 0 then instr_DecodeAll.l0 k l (out ++ [⟨t.1, t.2.1, t.2.2.1, t.2.2.2.1⟩]) (at_ + 4) else some ([], (at_ : Int), t.2.2.2.2)
    else if l.length % 4 = 0 then some (out, 0, 0) else some ([], (l.length : Int) - (l.length % 4 : Nat), 28)
def instr_DecodeAll.f (l : List Int) : Option (List S26 × Int × Int) := if l.length ≤ 1000 then instr_DecodeAll.l0 1010 l [] 0 else none
theorem run_slice4 (ad : Addr) (n c a : Nat) (h : a + 4 ≤ n) (hc : n ≤ c) (W : World) :
    (Instr.sliceAt 52 (.slice (some ad) n c) (some (.int .i64 a)) (some (.int .i64 ((a : Int) + 4))) none).run Try.prog W = .ok (.slice (some (ad.add a)) 4 (c - a)) W := by
  unfold Instr.sliceAt Instr.slice Instr.sliceBounds Instr.sliceBound
  have h1 : (0 : Int) ≤ (a : Int) + 4 ∧ (a : Int) + 4 ≤ c := by omega
  have h2 : (0 : Int) ≤ (a : Int) ∧ (a : Int) ≤ (((a : Int) + 4).toNat : Nat) := by omega
  have h3 : ((a : Int) + 4).toNat - a = 4 := by omega
  have h4 : ¬ c = a := by omega
  simp [run_underlying Try.underlying52, asIntOf, h1, h2, h3, h4, Try.sizeOf5]
  intro hlt
  omega
theorem run_arrayAt4 (ad : Option Addr) (c : Nat) (W : World) : (Instr.arrayAt 41 (.slice ad 4 c)).run Try.prog W = .ok (.pointer ad) W := by
  unfold Instr.arrayAt
  simp [run_underlying Try.underlying41]
theorem run_load4 (ad : Addr) (x0 x1 x2 x3 : Value) (W : World) (h0 : W.cell? (ad.add 0) = some x0) (h1 : W.cell? (ad.add 1) = some x1) (h2 : W.cell? (ad.add 2) = some x2) (h3 : W.cell? (ad.add 3) = some x3) :
    (Instr.loadAt 41 (.pointer (some ad))).run Try.prog W = .ok (.agg #[x0, x1, x2, x3]) W := by
  have hl := run_loadCells_list (P := Try.prog) W ad [x0, x1, x2, x3] (fun j v hv => by
    match j, hv with
    | 0, hv => simp at hv; subst hv; exact h0
    | 1, hv => simp at hv; subst hv; exact h1
    | 2, hv => simp at hv; subst hv; exact h2
    | 3, hv => simp at hv; subst hv; exact h3)
  have hl' : (loadCells ad 4).run Try.prog W = .ok #[x0, x1, x2, x3] W := by simpa using hl
  simp [Instr.loadAt, Instr.sureAddr, loadVar, Try.isAgg41, Try.sizeOf41, hl']
set_option maxHeartbeats 2000000 in
set_option maxRecDepth 100000 in
theorem instr_DecodeAll.calls (A0 : Option Addr) (c0 : Nat) (l0 : List Int) (r1 : List S26) (r2 r3 : Int) (w : World) (hr0 : Kd.C (Kd.int .u8) w A0 l0.length l0) (hc0 : l0.length ≤ c0) (h : instr_DecodeAll.f l0 = some (r1, r2, r3)) :
    Calls Try.prog 28 #[.slice A0 l0.length c0] w fun e w' => ∃ v0_ : Value, e = .returned (.tuple #[v0_, .int .i64 r2, .int .i64 r3]) ∧ Kd.R k26 26 w' w.heap.size (fun _ => True) v0_ r1 ∧ Below w.heap.size w w' := by
  unfold instr_DecodeAll.f at h
  by_cases hlen : l0.length ≤ 1000
  case neg => rw [if_neg hlen] at h; cases h
  rw [if_pos hlen] at h
  have hu26 := Try.underlying26
  have hu41 := Try.underlying41
  have HR0 := Aside0.mk hr0
  have HC0 := Aside0.mk hc0
  clear hr0 hc0
  have HB := Aside0.mk (Below.refl w.heap.size w)
  have H' := Aside0.mk h
  clear h
  go_enter Try.func28, Try.ntmps28
  go_wp2
  go_loopg [5, 6] 1010 (fun kq v5 v6 w' => ∃ (x5_1 : List S26) (a : Nat), v6 = .int .i64 a ∧ a ≤ l0.length ∧ Aside0 (instr_DecodeAll.l0 kq l0 x5_1 a = some (r1, r2, r3)) ∧ Aside0 (kq ≤ 1010) ∧ Aside0 (x5_1.length ≤ a) ∧ Aside0 (Kd.R k26 26 w' w.heap.size (fun _ => True) v5 x5_1) ∧ Aside0 (Below w.heap.size w w'))
  case atStart => exact ⟨[], 0, rfl, Nat.zero_le _, H', ⟨Nat.le_refl _⟩, ⟨Nat.le_refl _⟩, ⟨Kd.R_nil _ _ _ _ _⟩, HB⟩
  case round =>
    clear H'
    obtain ⟨x5_1, a, rfl, hal, HA, HK1, HX, HO, HB⟩ := hrel
    cases gk with
    | zero => exact absurd HA.out (by simp [instr_DecodeAll.l0])
    | succ k1 =>
      have H := HA.out
      clear HA
      simp only [instr_DecodeAll.l0] at H
      by_cases c2 : a + 4 ≤ l0.length
      · rw [if_pos c2] at H
        obtain ⟨t, A4, H⟩ := Option.bind_eq_some_iff.mp H
        obtain ⟨t0, t1, t2, t3, t4⟩ := t
        simp only at H
        obtain ⟨ad, rfl, hx0⟩ := Kd.at_int HR0.out (a : Int) (by omega) (by omega)
        obtain ⟨ad1, e1, hx1⟩ := Kd.at_int HR0.out ((a + 1 : Nat) : Int) (by omega) (by omega)
        obtain rfl : ad = ad1 := by injection e1
        obtain ⟨ad2, e2, hx2⟩ := Kd.at_int HR0.out ((a + 2 : Nat) : Int) (by omega) (by omega)
        obtain rfl : ad = ad2 := by injection e2
        obtain ⟨ad3, e3, hx3⟩ := Kd.at_int HR0.out ((a + 3 : Nat) : Int) (by omega) (by omega)
        obtain rfl : ad = ad3 := by injection e3
        clear e1 e2 e3
        rw [Int.toNat_natCast] at hx0 hx1 hx2 hx3
        have hb := HB.out
        have hsl := run_slice4 ad l0.length c0 a c2 HC0.out
        have har := run_arrayAt4 (some (ad.add a)) (c0 - a)
        have hc0 := (hb.cell (World.block_lt_of_cell? w _ hx0)).trans hx0
        have hc1 := (hb.cell (World.block_lt_of_cell? w _ hx1)).trans hx1
        have hc2 := (hb.cell (World.block_lt_of_cell? w _ hx2)).trans hx2
        have hc3 := (hb.cell (World.block_lt_of_cell? w _ hx3)).trans hx3
        rw [add_field ad a 1 (by decide)] at hc1
        rw [add_field ad a 2 (by decide)] at hc2
        rw [add_field ad a 3 (by decide)] at hc3
        clear hx0 hx1 hx2 hx3
        simp only [Int.natCast_add, Int.cast_ofNat_Int] at hc1 hc2 hc3
        obtain ⟨y, hy⟩ : ∃ y, y = x5_1 ++ [(⟨t0, t1, t2, t3⟩ : S26)] := ⟨_, rfl⟩
        rw [← hy] at H
        have Ny := Aside0.mk hy
        clear hy
        have A4' := Aside0.mk A4
        clear A4
        clear hb
        by_cases h4 : t4 = 0
        · rw [if_pos h4] at H
          have H' := Aside0.mk H
          clear H
          have b1 : (t4 != 0) = false := bne_eq_false_iff_eq.mpr h4
          clear h4
          go_wp2_with (first | (go_at_call 25; (refine (instr_Decode.calls k1 _ _ _ _ t0 t1 t2 t3 t4 _ A4'.out).mono ?_); rintro e w6 ⟨rfl, hb6⟩; have n0_ := Aside0.mk (Kd.R_below HO.out hb6); have n1_ := Aside0.mk (below_step HB.out hb6); clear HO HB hb6; have HO := n0_; have HB := n1_; clear n0_ n1_) | ((with_reducible refine gate_builtin (b := .append) (xs := #[.tmp 32, .tmp 34]) rfl ?_); at_builtin; refine Kd.R_append k26 (w0 := w) w.heap.size rfl (.tmp 32) (.tmp 34) 53 26 (.agg #[(.int .i64 0), (.int .i64 0), (.int .i64 0), (.int .i64 0)]) 32 rfl Try.underlying53 info26 rfl (by decide) (by omega) u5 x5_1 (⟨t0, t1, t2, t3⟩ : S26) [.int .i64 t0, .int .i64 t1, .int .i64 t2, .int .i64 t3] (fun _ => True) (fun _ => False) rfl (by first | (go_simp; done) | (go_simp; rfl) | simp) ?aP (fun _ hk => hk.elim) ?aF ?aO ?aB ?aS ?aL ?_; (case aP => exact k26_mkM _ _ _ (⟨t0, t1, t2, t3⟩ : S26)); (case aB => exact (by repeat (first | (with_reducible first | exact HB.out | apply below_alloc | apply pw_below_drewN | apply below_drew1) | exact HB.out))); (case aF => exact (fun _ _ => trivial)); (case aO => exact (by (with_reducible repeat (first | apply Kd.R_alloc | apply Kd.R_drewN | apply Kd.R_drew)); exact HO.out)); (case aS => exact (below_size (by repeat (first | (with_reducible first | exact HB.out | apply below_alloc | apply pw_below_drewN | apply below_drew1) | exact HB.out)))); (case aL => have := HX.out; omega); intro v272 w7 ho hb hg hat; rw [← Ny.out] at ho; have n0_ := Aside0.mk (hb); have n1_ := Aside0.mk (ho); clear HB; clear HO; have HB := n0_; have HO := n1_; clear n0_ n1_; clear ho hb hg hat))
          go_roundg k1
          case measure => have := HK1.out; omega
          case rel => exact ⟨y, a + 4, by go_num, c2, ⟨H'.out⟩, ⟨by have := HK1.out; omega⟩, ⟨by have := HX.out; rw [Ny.out]; simp; omega⟩, HO, HB⟩
        · rw [if_neg h4] at H
          simp only [Option.some.injEq, Prod.mk.injEq] at H
          obtain ⟨rfl, rfl, rfl⟩ := H
          have b1 : (t4 != 0) = true := bne_iff_ne.mpr h4
          clear h4
          go_wp2_with (go_at_call 25; (refine (instr_Decode.calls k1 _ _ _ _ t0 t1 t2 t3 t4 _ A4'.out).mono ?_); rintro e w6 ⟨rfl, hb6⟩; have n0_ := Aside0.mk (Kd.R_below HO.out hb6); have n1_ := Aside0.mk (below_step HB.out hb6); clear HO HB hb6; have HO := n0_; have HB := n1_; clear n0_ n1_)
          go_ret3
          exact ⟨_, rfl, Kd.R_nil _ _ _ _ _, by repeat (first | exact HB.out | apply below_alloc)⟩
      · rw [if_neg c2] at H
        by_cases h4 : l0.length % 4 = 0
        · rw [if_pos h4] at H
          simp only [Option.some.injEq, Prod.mk.injEq] at H
          obtain ⟨rfl, rfl, rfl⟩ := H
          go_wp2_with fail
          go_ret3
          exact ⟨_, rfl, HO.out, HB.out⟩
        · rw [if_neg h4] at H
          simp only [Option.some.injEq, Prod.mk.injEq] at H
          obtain ⟨rfl, rfl, rfl⟩ := H
          go_wp2_with fail
          go_ret3
          exact ⟨_, rfl, Kd.R_nil _ _ _ _ _, HB.out⟩
end Go.Proofs.Ytdnhekgdpolenaa
