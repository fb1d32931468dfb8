/- instr.EncodeAll, walked by hand: a loop over the instructions; each gives four bytes, appended from an array. -/
import Derived.Test.YtdnhekgdpolenaaQx7
namespace Go.Proofs.Ytdnhekgdpolenaa
set_option linter.unusedVariables false
set_option linter.unusedSimpArgs false
open Go.RowKit Go.Proofs.Ytdnhekgdpolenaa.Q Go.Proofs.YtdnhekgdpolenaaW.PrintWords Go.Proofs.YtdnhekgdpolenaaW.PrintLast Go.Proofs.YtdnhekgdpolenaaW.PrintMore
def instr_EncodeAll.l0 : Nat → List S26 → List Int → Nat → Option (List Int × Int × Int)
  | 0, _, _, _ => none
  | k + 1, l, out, i => if i < l.length then
      (instr_Encode.f k (rd_T26 l (i : Int)).f0 (rd_T26 l (i : Int)).f1 (rd_T26 l (i : Int)).f2 (rd_T26 l (i : Int)).f3).bind fun t =>
        if t.2.2.2.2 = 0 then instr_EncodeAll.l0 k l (out ++ [t.1, t.2.1, t.2.2.1, t.2.2.2.1]) (i + 1) else some ([], (i : Int), t.2.2.2.2)
    else some (out, 0, 0)
def instr_EncodeAll.f (l : List S26) : Option (List Int × Int × Int) := if l.length ≤ 1000 then instr_EncodeAll.l0 1010 l [] 0 else none
theorem run_sliceArr (g : Nat) (W : World) :
    (Instr.sliceAt 41 (.pointer (some ⟨g, 0, none⟩)) none none none).run Try.prog W = .ok (.slice (some ⟨g, 0, none⟩) 4 4) W := by
  unfold Instr.sliceAt Instr.slice Instr.sliceBounds Instr.sliceBound
  simp [run_underlying Try.underlying41, asIntOf, Try.sizeOf5, Instr.sureAddr, Addr.add]
theorem reads4 {W : World} {g : Nat} {x0 x1 x2 x3 : Int} {t : TypeId} (h : W.heap[g]? = some (.cells #[.int .u8 x0, .int .u8 x1, .int .u8 x2, .int .u8 x3] t (0, 0))) : (Kd.int .u8).C W (some ⟨g, 0, none⟩) 4 [x0, x1, x2, x3] := by
  have hc : ∀ j, W.cell? ⟨g, j, none⟩ = (#[Value.int .u8 x0, .int .u8 x1, .int .u8 x2, .int .u8 x3] : Array Value)[j]? := fun j => blk_cell h j
  refine Kd.C_of_reads (d := 0) ⟨rfl, by decide, fun _ => ⟨_, rfl, fun j hj => ?_⟩⟩
  have hz : (⟨g, 0, none⟩ : Addr).add j = ⟨g, j, none⟩ := by
    unfold Addr.add
    by_cases h0 : j = 0
    · rw [if_pos h0, h0]
    · rw [if_neg h0, Nat.zero_add]
  rw [hz, hc]
  match j, hj with
  | 0, _ => rfl
  | 1, _ => rfl
  | 2, _ => rfl
  | 3, _ => rfl
set_option maxHeartbeats 2000000 in
set_option maxRecDepth 100000 in
theorem instr_EncodeAll.calls (A0 : Option Addr) (c0 : Nat) (l0 : List S26) (r1 : List Int) (r2 r3 : Int) (w : World) (hr0 : Kd.C k26 w A0 l0.length l0) (hc0 : l0.length ≤ c0) (h : instr_EncodeAll.f l0 = some (r1, r2, r3)) :
    Calls Try.prog 38 #[.slice A0 l0.length c0] w fun e w' => ∃ v0_ : Value, e = .returned (.tuple #[v0_, .int .i64 r2, .int .i64 r3]) ∧ Kd.R (Kd.int .u8) 5 w' w.heap.size (fun _ => True) v0_ r1 ∧ Below w.heap.size w w' := by
  unfold instr_EncodeAll.f at h
  by_cases hlen : l0.length ≤ 1000
  case neg => rw [if_neg hlen] at h; cases h
  rw [if_pos hlen] at h
  have hu26 := Try.underlying26
  have hu41 := Try.underlying41
  have HR0 := Aside0.mk hr0
  have HC0 := Aside0.mk hc0
  clear hr0 hc0
  have HB := Aside0.mk (Below.refl w.heap.size w)
  have H' := Aside0.mk h
  clear h
  go_enter Try.func38, Try.ntmps38
  go_wp2
  go_loopg [5, 12] 1010 (fun kq v5 v12 w' => ∃ (x5_1 : List Int) (i : Nat), v12 = .int .i64 i ∧ i ≤ l0.length ∧ Aside0 (instr_EncodeAll.l0 kq l0 x5_1 i = some (r1, r2, r3)) ∧ Aside0 (kq ≤ 1010) ∧ Aside0 (x5_1.length = 4 * i) ∧ Aside0 (Kd.R (Kd.int .u8) 5 w' w.heap.size (fun _ => True) v5 x5_1) ∧ Aside0 (Below w.heap.size w w'))
  case atStart => exact ⟨[], 0, rfl, Nat.zero_le _, H', ⟨Nat.le_refl _⟩, ⟨rfl⟩, ⟨Kd.R_nil _ _ _ _ _⟩, HB⟩
  case round =>
    clear H'
    obtain ⟨x5_1, i, rfl, hil, HA, HK1, HX, HO, HB⟩ := hrel
    cases gk with
    | zero => exact absurd HA.out (by simp [instr_EncodeAll.l0])
    | succ k1 =>
      have H := HA.out
      clear HA
      simp only [instr_EncodeAll.l0] at H
      by_cases c2 : i < l0.length
      · rw [if_pos c2] at H
        obtain ⟨t, A4, H⟩ := Option.bind_eq_some_iff.mp H
        obtain ⟨t0, t1, t2, t3, t4⟩ := t
        simp only at H
        obtain ⟨ad, e1, hx0, hx1, hx2, hx3⟩ := at_T26 HR0.out (i : Int) (by omega) (by omega)
        cases e1
        rw [Int.toNat_natCast] at hx0 hx1 hx2 hx3
        replace hx0 := (HB.out.cell (World.block_lt_of_cell? w _ hx0)).trans hx0
        replace hx1 := (HB.out.cell (World.block_lt_of_cell? w _ hx1)).trans hx1
        replace hx2 := (HB.out.cell (World.block_lt_of_cell? w _ hx2)).trans hx2
        replace hx3 := (HB.out.cell (World.block_lt_of_cell? w _ hx3)).trans hx3
        have hsl := run_sliceArr
        obtain ⟨y, hy⟩ : ∃ y, y = x5_1 ++ [t0, t1, t2, t3] := ⟨_, rfl⟩
        rw [← hy] at H
        have Ny := Aside0.mk hy
        clear hy
        have A4' := Aside0.mk A4
        clear A4
        by_cases h4 : t4 = 0
        · rw [if_pos h4] at H
          have H' := Aside0.mk H
          clear H
          have b1 : (t4 != 0) = false := bne_eq_false_iff_eq.mpr h4
          clear h4
          go_wp2_with (first | (go_at_call 23; (refine (instr_Encode.calls k1 _ _ _ _ t0 t1 t2 t3 t4 _ A4'.out).mono ?_); rintro e w6 ⟨rfl, hb6⟩; have n0_ := Aside0.mk (Kd.R_below (by (with_reducible repeat (first | apply Kd.R_alloc | apply Kd.R_drewN | apply Kd.R_drew)); exact HO.out) hb6); have n1_ := Aside0.mk (below_step (by repeat (first | (with_reducible first | exact HB.out | apply below_alloc | apply pw_below_drewN | apply below_drew1) | exact HB.out)) hb6); clear HO HB hb6; have HO := n0_; have HB := n1_; clear n0_ n1_) | ((with_reducible refine gate_builtin (b := .append) (xs := #[.tmp 26, .tmp 27]) rfl ?_); at_builtin; refine Kd.R_append_row (.int .u8) (0 : Int) (h1 := fun _ => rfl) (w0 := w) w.heap.size rfl (.tmp 26) (.tmp 27) 52 5 (.int .u8 0) 1 rfl Try.underlying52 info5 rfl (by decide) u5 x5_1 [t0, t1, t2, t3] _ 4 4 (fun _ => True) rfl rfl ?aF ?aO ?aR ?aB ?aS ?aL ?_; (case aR => exact reads4 (by first | exact heap_alloc_last _ _ | (go_simp; done))); (case aB => exact (by repeat (first | (with_reducible first | exact HB.out | apply below_alloc | apply pw_below_drewN | apply below_drew1) | exact HB.out))); (case aF => exact (fun _ _ => trivial)); (case aO => exact (by (with_reducible repeat (first | apply Kd.R_alloc | apply Kd.R_drewN | apply Kd.R_drew)); exact HO.out)); (case aS => exact (below_size (by repeat (first | (with_reducible first | exact HB.out | apply below_alloc | apply pw_below_drewN | apply below_drew1) | exact HB.out)))); (case aL => have := HX.out; omega); intro v272 w7 ho hb hg hat; replace ho := (show Kd.R (Kd.int .u8) 5 w7 w.heap.size (fun _ => True) v272 _ from ho); rw [← Ny.out] at ho; have n0_ := Aside0.mk (hb); have n1_ := Aside0.mk (ho); clear HB; clear HO; have HB := n0_; have HO := n1_; clear n0_ n1_; clear ho hb hg hat))
          go_roundg k1
          case measure => have := HK1.out; omega
          case rel => exact ⟨y, i + 1, by go_num, c2, ⟨H'.out⟩, ⟨by have := HK1.out; omega⟩, ⟨by have := HX.out; rw [Ny.out]; simp; omega⟩, HO, HB⟩
        · rw [if_neg h4] at H
          simp only [Option.some.injEq, Prod.mk.injEq] at H
          obtain ⟨rfl, rfl, rfl⟩ := H
          have b1 : (t4 != 0) = true := bne_iff_ne.mpr h4
          clear h4
          go_wp2_with (go_at_call 23; (refine (instr_Encode.calls k1 _ _ _ _ t0 t1 t2 t3 t4 _ A4'.out).mono ?_); rintro e w6 ⟨rfl, hb6⟩; have n0_ := Aside0.mk (Kd.R_below (by (with_reducible repeat (first | apply Kd.R_alloc | apply Kd.R_drewN | apply Kd.R_drew)); exact HO.out) hb6); have n1_ := Aside0.mk (below_step (by repeat (first | (with_reducible first | exact HB.out | apply below_alloc | apply pw_below_drewN | apply below_drew1) | exact HB.out)) hb6); clear HO HB hb6; have HO := n0_; have HB := n1_; clear n0_ n1_)
          go_ret3
          exact ⟨_, rfl, Kd.R_nil _ _ _ _ _, by repeat (first | exact HB.out | apply below_alloc)⟩
      · rw [if_neg c2] at H
        simp only [Option.some.injEq, Prod.mk.injEq] at H
        obtain ⟨rfl, rfl, rfl⟩ := H
        go_wp2_with fail
        go_ret3
        exact ⟨_, rfl, HO.out, HB.out⟩
end Go.Proofs.Ytdnhekgdpolenaa
