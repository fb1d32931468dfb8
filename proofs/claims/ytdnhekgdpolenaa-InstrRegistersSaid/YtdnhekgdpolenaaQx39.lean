/- Functions of the seat and their walks, written by a program of this session. -/
import Derived.Test.YtdnhekgdpolenaaQx0
import Derived.Test.YtdnhekgdpolenaaQx4
import Derived.Test.YtdnhekgdpolenaaQx6
import Derived.Test.YtdnhekgdpolenaaQx38
import Derived.Test.YtdnhekgdpolenaaHOps
import Derived.Test.YtdnhekgdpolenaaHReg
namespace Go.Proofs.Ytdnhekgdpolenaa.Q
open Go.RowKit Go.Proofs.YtdnhekgdpolenaaW.PrintWords Go.Proofs.YtdnhekgdpolenaaW.PrintLast Go.Proofs.YtdnhekgdpolenaaW.PrintMore
attribute [local go_sem] max2_int min2_int max_two min_two max_three min_three max_four min_four   -- for this text's walks alone
set_option linter.unusedVariables false
set_option linter.unusedSimpArgs false

/-! ### instr_Instr_Reads: function 42 -/
def instr_Instr_Reads.j0 : Nat → List Int → Int → Int → Int → Int → ByteArray → Int → Int → Int → Option (List Int)
  | 0, _, _, _, _, _, _, _, _, _ => none
  | k + 1, x5, x430000, x430001, x430002, x430003, x437000, x437001, x437002, x437003 => (instr_operation_hasB.f x437000 x437001 x437002 x437003).bind fun t444 => (if t444 = true then (if x5.length < 17592186044416 then ((some (x5 ++ [x430002] : List Int)).bind fun y445 => (if x437001 = 3 then (if y445.length < 17592186044416 then ((instr_registers.f (y445 ++ [x430003])).bind fun t451 => (some t451)) else (none)) else ((instr_registers.f y445).bind fun t454 => (some t454)))) else (none)) else (if x437001 = 3 then (if x5.length < 17592186044416 then ((instr_registers.f (x5 ++ [x430003])).bind fun t460 => (some t460)) else (none)) else ((instr_registers.f x5).bind fun t463 => (some t463))))
def instr_Instr_Reads.f (k : Nat) (a0_0 : Int) (a0_1 : Int) (a0_2 : Int) (a0_3 : Int) : Option (List Int) := (instr_Instr_Check.f k a0_0 a0_1 a0_2 a0_3).bind fun t430 => (if t430 = 0 then ((instr_of.f a0_0).bind fun bt431 => ((slices_Contains_int_int.f k (([3, 18, 20, 22, 23, 25] : List Int)) a0_0).bind fun t440 => (if t440 = true then (if ([] : List Int).length < 17592186044416 then (instr_Instr_Reads.j0 k (([] : List Int) ++ [a0_1]) a0_0 a0_1 a0_2 a0_3 bt431.1 bt431.2.1 bt431.2.2.1 bt431.2.2.2.1) else (none)) else (instr_Instr_Reads.j0 k ([] : List Int) a0_0 a0_1 a0_2 a0_3 bt431.1 bt431.2.1 bt431.2.2.1 bt431.2.2.2.1)))) else (some ([] : List Int)))
theorem instr_Instr_Reads.mono_l : ∀ k, (∀ y0 y1 y2 y3 y4 y5 y6 y7 y8, LeO (instr_Instr_Reads.j0 k y0 y1 y2 y3 y4 y5 y6 y7 y8) (instr_Instr_Reads.j0 (k + 1) y0 y1 y2 y3 y4 y5 y6 y7 y8))
  | 0 => fun _ _ _ _ _ _ _ _ _ r h => by simp [instr_Instr_Reads.j0] at h
  | k + 1 => by
    have ih0 := instr_Instr_Reads.mono_l k
    · intro y0 y1 y2 y3 y4 y5 y6 y7 y8
      unfold instr_Instr_Reads.j0
      repeat' first
      | (with_reducible exact ih0 _ _ _ _ _ _ _ _ _)
      | (with_reducible exact instr_Instr_Check.mono _ _ _ _ _)
      | (with_reducible exact slices_Contains_int_int.mono _ _ _)
      | (with_reducible exact LeO.refl _)
      | (with_reducible exact LeO.none _)
      | (with_reducible refine LeO.ite ?_ ?_)
      | (with_reducible refine LeO.bind ?_ (fun _ => ?_))
      | exact ih0 _ _ _ _ _ _ _ _ _
      | exact instr_Instr_Check.mono _ _ _ _ _
      | exact slices_Contains_int_int.mono _ _ _
      | exact LeO.none _
      | refine LeO.ite ?_ ?_
      | refine LeO.bind ?_ (fun _ => ?_)
theorem instr_Instr_Reads.mono : ∀ a0 a1 a2 a3 k, LeO (instr_Instr_Reads.f k a0 a1 a2 a3) (instr_Instr_Reads.f (k + 1) a0 a1 a2 a3) := by
  intro a0 a1 a2 a3 k
  have ih0 := instr_Instr_Reads.mono_l k
  unfold instr_Instr_Reads.f
  repeat' first
      | (with_reducible exact ih0 _ _ _ _ _ _ _ _ _)
      | (with_reducible exact instr_Instr_Check.mono _ _ _ _ _)
      | (with_reducible exact slices_Contains_int_int.mono _ _ _)
      | (with_reducible exact LeO.refl _)
      | (with_reducible exact LeO.none _)
      | (with_reducible refine LeO.ite ?_ ?_)
      | (with_reducible refine LeO.bind ?_ (fun _ => ?_))
      | exact ih0 _ _ _ _ _ _ _ _ _
      | exact instr_Instr_Check.mono _ _ _ _ _
      | exact slices_Contains_int_int.mono _ _ _
      | exact LeO.none _
      | refine LeO.ite ?_ ?_
      | refine LeO.bind ?_ (fun _ => ?_)
set_option maxHeartbeats 8000000 in
set_option maxRecDepth 100000 in
theorem instr_Instr_Reads.calls (k : Nat) (a0_0 : Int) (a0_1 : Int) (a0_2 : Int) (a0_3 : Int) (r : List Int) (w : World) (h : instr_Instr_Reads.f k a0_0 a0_1 a0_2 a0_3 = some r) :
    Calls Try.prog 42 #[.agg #[.int .i64 a0_0, .int .i64 a0_1, .int .i64 a0_2, .int .i64 a0_3]] w fun e w' => ∃ v0_ : Value, e = .returned (v0_) ∧ Kd.R (Kd.int .i64) 3 w' w.heap.size (fun _ => True) v0_ r ∧ Below w.heap.size w w' := by
  have hu26 := Try.underlying26
  have hu83 := Try.underlying83
  have HB := Aside0.mk (Below.refl w.heap.size w)
  have H : ((instr_Instr_Check.f k a0_0 a0_1 a0_2 a0_3).bind fun t430 => (if t430 = 0 then ((instr_of.f a0_0).bind fun bt431 => ((slices_Contains_int_int.f k (([3, 18, 20, 22, 23, 25] : List Int)) a0_0).bind fun t440 => (if t440 = true then (if ([] : List Int).length < 17592186044416 then (instr_Instr_Reads.j0 k (([] : List Int) ++ [a0_1]) a0_0 a0_1 a0_2 a0_3 bt431.1 bt431.2.1 bt431.2.2.1 bt431.2.2.2.1) else (none)) else (instr_Instr_Reads.j0 k ([] : List Int) a0_0 a0_1 a0_2 a0_3 bt431.1 bt431.2.1 bt431.2.2.1 bt431.2.2.2.1)))) else (some ([] : List Int)))) = some r := h
  clear h
  replace H := Option.bind_eq_some_iff.mp H
  obtain ⟨t430, A20, H⟩ := H
  replace H : (if t430 = 0 then ((instr_of.f a0_0).bind fun bt431 => ((slices_Contains_int_int.f k (([3, 18, 20, 22, 23, 25] : List Int)) a0_0).bind fun t440 => (if t440 = true then (if ([] : List Int).length < 17592186044416 then (instr_Instr_Reads.j0 k (([] : List Int) ++ [a0_1]) a0_0 a0_1 a0_2 a0_3 bt431.1 bt431.2.1 bt431.2.2.1 bt431.2.2.2.1) else (none)) else (instr_Instr_Reads.j0 k ([] : List Int) a0_0 a0_1 a0_2 a0_3 bt431.1 bt431.2.1 bt431.2.2.1 bt431.2.2.2.1)))) else (some ([] : List Int))) = some r := H
  have A2 := Aside0.mk A20
  clear A20
  by_cases c3 : t430 = 0
  · rw [if_pos c3] at H
    have c3b0 : (t430 == 0) = true := beq_iff_eq.mpr c3
    have c3b1 : (t430 != 0) = false := bne_eq_false_iff_eq.mpr c3
    clear c3
    replace H := Option.bind_eq_some_iff.mp H
    obtain ⟨⟨t431, t432, t433, t434, t435⟩, A40, H⟩ := H
    replace H : ((slices_Contains_int_int.f k (([3, 18, 20, 22, 23, 25] : List Int)) a0_0).bind fun t440 => (if t440 = true then (if ([] : List Int).length < 17592186044416 then (instr_Instr_Reads.j0 k (([] : List Int) ++ [a0_1]) a0_0 a0_1 a0_2 a0_3 t431 t432 t433 t434) else (none)) else (instr_Instr_Reads.j0 k ([] : List Int) a0_0 a0_1 a0_2 a0_3 t431 t432 t433 t434))) = some r := H
    have A4 := Aside0.mk A40
    clear A40
    obtain ⟨y437, hy437⟩ : ∃ y_ : List Int, y_ = (([3, 18, 20, 22, 23, 25] : List Int)) := ⟨_, rfl⟩
    replace H : ((slices_Contains_int_int.f k y437 a0_0).bind fun t440 => (if t440 = true then (if ([] : List Int).length < 17592186044416 then (instr_Instr_Reads.j0 k (([] : List Int) ++ [a0_1]) a0_0 a0_1 a0_2 a0_3 t431 t432 t433 t434) else (none)) else (instr_Instr_Reads.j0 k ([] : List Int) a0_0 a0_1 a0_2 a0_3 t431 t432 t433 t434))) = some r := by first | (rw [hy437]; with_reducible exact H) | (have H2_ := (Option.bind_some _ _).symm.trans H; rw [hy437]; with_reducible exact H2_) | (have H2_ := (Option.bind_some _ _).symm.trans H; with_reducible exact H2_) | with_reducible exact H | (rw [hy437]; exact H) | exact H
    have Ny437 := Aside0.mk hy437
    clear hy437
    replace H := Option.bind_eq_some_iff.mp H
    obtain ⟨t440, A50, H⟩ := H
    replace H : (if t440 = true then (if ([] : List Int).length < 17592186044416 then (instr_Instr_Reads.j0 k (([] : List Int) ++ [a0_1]) a0_0 a0_1 a0_2 a0_3 t431 t432 t433 t434) else (none)) else (instr_Instr_Reads.j0 k ([] : List Int) a0_0 a0_1 a0_2 a0_3 t431 t432 t433 t434)) = some r := H
    have A5 := Aside0.mk A50
    clear A50
    have HC6 := Aside0.mk H
    clear H
    go_enter Try.func42, Try.ntmps42
    go_upto_if 18 with (first | ((with_reducible refine gate_dst (N := 1) rfl ?_); refine box_event ?hg (N := 1) ?hd (cs := #[.int .i64 a0_0, .int .i64 a0_1, .int .i64 a0_2, .int .i64 a0_3]) (t := 26) ?hr ?_; (case hd => rfl); (case hg => rfl); (case hr => first | (go_simp; done) | (go_simp; rfl)); intro gb429 hg w7 hbox hb; have n0_ := Aside0.mk (below_step (by repeat (first | (with_reducible first | exact HB.out | apply below_alloc | apply pw_below_drewN | apply below_drew1) | exact HB.out)) hb); have n1_ := Aside0.mk (hbox); have n2_ := Aside0.mk ((by rw [hg]; exact (below_size (by repeat (first | (with_reducible first | exact HB.out | apply below_alloc | apply pw_below_drewN | apply below_drew1) | exact HB.out))) : w.heap.size ≤ gb429)); have n3_ := Aside0.mk ((by rw [hg]; exact (below_size (by repeat (first | (with_reducible first | exact HB.out | apply below_alloc | apply pw_below_drewN | apply below_drew1) | exact HB.out))) : w.heap.size ≤ gb429)); clear HB; have HB := n0_; have BK429 := n1_; have GW429 := n2_; have GE429 := n3_; clear n0_ n1_ n2_ n3_; clear hb hbox hg; have hcz8_0 : w7.cell? ⟨gb429, 0, none⟩ = some (.int .i64 a0_0) := (blk_cell BK429.out 0).trans rfl; have hcz8_1 : w7.cell? ⟨gb429, 1, none⟩ = some (.int .i64 a0_1) := (blk_cell BK429.out 1).trans rfl; have hcz8_2 : w7.cell? ⟨gb429, 2, none⟩ = some (.int .i64 a0_2) := (blk_cell BK429.out 2).trans rfl; have hcz8_3 : w7.cell? ⟨gb429, 3, none⟩ = some (.int .i64 a0_3) := (blk_cell BK429.out 3).trans rfl; have hfz8_0 := blk_frozen BK429.out 0; have hfz8_1 := blk_frozen BK429.out 1; have hfz8_2 := blk_frozen BK429.out 2; have hfz8_3 := blk_frozen BK429.out 3) | ((with_reducible refine gate_callee (f := 15) rfl ?_); refine goesL_ (some 7) rfl rfl Try.func15 (by kernel_rfl) rfl #[.agg #[.int .i64 a0_0, .int .i64 a0_1, .int .i64 a0_2, .int .i64 a0_3]] rfl (by (try simp only [List.map_toArray, List.map_cons, List.map_nil]); first | done | rfl | (simp only [List.length_drop, List.length_take]; rfl)) ?_; (with_reducible refine (instr_Instr_Check.calls k a0_0 a0_1 a0_2 a0_3 t430 _ A2.out).mono ?_); rintro e w9 ⟨rfl, hb⟩; refine ⟨_, rfl, ?_⟩; have n0_ := Aside0.mk (blk_below (g := gb429) (o := .cells #[.int .i64 a0_0, .int .i64 a0_1, .int .i64 a0_2, .int .i64 a0_3] 26 (0, 0)) (by (with_reducible repeat (first | refine blk_drewN ?_ _ | refine blk_drew ?_ | refine blk_alloc ?_ _)); exact BK429.out) hb); have n1_ := Aside0.mk (below_step (by repeat (first | (with_reducible first | exact HB.out | apply below_alloc | apply pw_below_drewN | apply below_drew1 | refine below_set ?_ GE429.out) | exact HB.out)) hb); clear BK429; clear HB; have BK429 := n0_; have HB := n1_; clear n0_ n1_; (try clear hb); (try clear hb2); (try clear hk); (try clear hi); have hcz10_0 : w9.cell? ⟨gb429, 0, none⟩ = some (.int .i64 a0_0) := (blk_cell BK429.out 0).trans rfl; have hcz10_1 : w9.cell? ⟨gb429, 1, none⟩ = some (.int .i64 a0_1) := (blk_cell BK429.out 1).trans rfl; have hcz10_2 : w9.cell? ⟨gb429, 2, none⟩ = some (.int .i64 a0_2) := (blk_cell BK429.out 2).trans rfl; have hcz10_3 : w9.cell? ⟨gb429, 3, none⟩ = some (.int .i64 a0_3) := (blk_cell BK429.out 3).trans rfl; have hfz10_0 := blk_frozen BK429.out 0; have hfz10_1 := blk_frozen BK429.out 1; have hfz10_2 := blk_frozen BK429.out 2; have hfz10_3 := blk_frozen BK429.out 3) | ((with_reducible refine gate_callee (f := 46) rfl ?_); refine goesL_ (some 12) rfl rfl Try.func46 (by kernel_rfl) rfl #[.int .i64 a0_0] rfl (by (try simp only [List.map_toArray, List.map_cons, List.map_nil]); first | done | rfl | (simp only [List.length_drop, List.length_take]; rfl)) ?_; (with_reducible refine (instr_of.calls a0_0 t431 t432 t433 t434 t435 _ A4.out).mono ?_); rintro e w11 ⟨rfl, hb⟩; refine ⟨_, rfl, ?_⟩; have n0_ := Aside0.mk (blk_below (g := gb429) (o := .cells #[.int .i64 a0_0, .int .i64 a0_1, .int .i64 a0_2, .int .i64 a0_3] 26 (0, 0)) (by (with_reducible repeat (first | refine blk_drewN ?_ _ | refine blk_drew ?_ | refine blk_alloc ?_ _)); exact BK429.out) hb); have n1_ := Aside0.mk (below_step (by repeat (first | (with_reducible first | exact HB.out | apply below_alloc | apply pw_below_drewN | apply below_drew1 | refine below_set ?_ GE429.out) | exact HB.out)) hb); clear BK429; clear HB; have BK429 := n0_; have HB := n1_; clear n0_ n1_; (try clear hb); (try clear hb2); (try clear hk); (try clear hi)) | ((with_reducible refine gate_dst (N := 3) rfl ?_); refine box_event ?hg (N := 3) ?hd (cs := #[.string (⟨#[]⟩ : ByteArray), .int .i64 0, .int .i64 0, .int .i64 0]) (t := 83) ?hr ?_; (case hd => rfl); (case hg => rfl); (case hr => first | (go_simp; done) | (go_simp; rfl)); intro gb436 hg w12 hbox hb; have n0_ := Aside0.mk (blk_below (g := gb429) (o := .cells #[.int .i64 a0_0, .int .i64 a0_1, .int .i64 a0_2, .int .i64 a0_3] 26 (0, 0)) (by (with_reducible repeat (first | refine blk_drewN ?_ _ | refine blk_drew ?_ | refine blk_alloc ?_ _)); exact BK429.out) hb); have n1_ := Aside0.mk (below_step (by repeat (first | (with_reducible first | exact HB.out | apply below_alloc | apply pw_below_drewN | apply below_drew1 | refine below_set ?_ GE429.out) | exact HB.out)) hb); have n2_ := Aside0.mk (hbox); have n3_ := Aside0.mk ((by rw [hg]; exact (below_size (by repeat (first | (with_reducible first | exact HB.out | apply below_alloc | apply pw_below_drewN | apply below_drew1 | refine below_set ?_ GE429.out) | exact HB.out))) : w.heap.size ≤ gb436)); have n4_ := Aside0.mk ((by rw [hg]; exact (below_size (by repeat (first | (with_reducible first | exact HB.out | apply below_alloc | apply pw_below_drewN | apply below_drew1 | refine below_set ?_ GE429.out) | exact HB.out))) : w.heap.size ≤ gb436)); have n5_ := Aside0.mk ((by rw [hg]; exact Nat.ne_of_lt (blk_lt (g := gb429) (o := .cells #[.int .i64 a0_0, .int .i64 a0_1, .int .i64 a0_2, .int .i64 a0_3] 26 (0, 0)) (by (with_reducible repeat (first | refine blk_drewN ?_ _ | refine blk_drew ?_ | refine blk_alloc ?_ _)); exact BK429.out)) : gb429 ≠ gb436)); have n6_ := Aside0.mk ((by rw [hg]; exact Nat.ne_of_gt (blk_lt (g := gb429) (o := .cells #[.int .i64 a0_0, .int .i64 a0_1, .int .i64 a0_2, .int .i64 a0_3] 26 (0, 0)) (by (with_reducible repeat (first | refine blk_drewN ?_ _ | refine blk_drew ?_ | refine blk_alloc ?_ _)); exact BK429.out)) : gb436 ≠ gb429)); clear BK429; clear HB; have BK429 := n0_; have HB := n1_; have BK436 := n2_; have GW436 := n3_; have GE436 := n4_; have NB429_436 := n5_; have NB436_429 := n6_; clear n0_ n1_ n2_ n3_ n4_ n5_ n6_; clear hb hbox hg; have hnb13 := NB436_429.out; have hnc13 := NB429_436.out; have hcz14_0 : w12.cell? ⟨gb436, 0, none⟩ = some (.string (⟨#[]⟩ : ByteArray)) := (blk_cell BK436.out 0).trans rfl; have hcz14_1 : w12.cell? ⟨gb436, 1, none⟩ = some (.int .i64 0) := (blk_cell BK436.out 1).trans rfl; have hcz14_2 : w12.cell? ⟨gb436, 2, none⟩ = some (.int .i64 0) := (blk_cell BK436.out 2).trans rfl; have hcz14_3 : w12.cell? ⟨gb436, 3, none⟩ = some (.int .i64 0) := (blk_cell BK436.out 3).trans rfl; have hfz14_0 := blk_frozen BK436.out 0; have hfz14_1 := blk_frozen BK436.out 1; have hfz14_2 := blk_frozen BK436.out 2; have hfz14_3 := blk_frozen BK436.out 3) | ((with_reducible refine gate_dst (N := 15) rfl ?_); refine Kd.R_lit (Kd.int .i64) _ 3 ?hg (N := 15) ?hd (xs := ([3, 18, 20, 22, 23, 25] : List Int)) (inner := [.int .i64 3, .int .i64 18, .int .i64 20, .int .i64 22, .int .i64 23, .int .i64 25]) (ok := fun _ => True) (okp := fun _ => True) ?hr ?hp (fun _ hk => hk) trivial (Below.refl _ _) (Nat.le_refl _) (by simp) ?_; (case hd => rfl); (case hg => rfl); (case hr => first | (go_simp; done) | (go_simp; rfl)); (case hp => exact (Reps.one (show Kd.M (Kd.int .i64) _ _ _ 3 [.int .i64 3] from rfl) (Reps.one (show Kd.M (Kd.int .i64) _ _ _ 18 [.int .i64 18] from rfl) (Reps.one (show Kd.M (Kd.int .i64) _ _ _ 20 [.int .i64 20] from rfl) (Reps.one (show Kd.M (Kd.int .i64) _ _ _ 22 [.int .i64 22] from rfl) (Reps.one (show Kd.M (Kd.int .i64) _ _ _ 23 [.int .i64 23] from rfl) (Reps.one (show Kd.M (Kd.int .i64) _ _ _ 25 [.int .i64 25] from rfl) (Reps.none _ _)))))))); intro v438 w15 ho16 hb hg_ hnew_; clear hg_ hnew_; (first | rw [← Ny437.out] at ho16 | (simp only [Int.reduceToNat] at ho16; rw [← Ny437.out] at ho16)); have n0_ := Aside0.mk (Kd.R_lower ho16 (below_size (by repeat (first | (with_reducible first | exact HB.out | apply below_alloc | apply pw_below_drewN | apply below_drew1 | refine below_set ?_ GE429.out | refine below_set ?_ GE436.out) | exact HB.out)))); have n1_ := Aside0.mk (blk_below (g := gb429) (o := .cells #[.int .i64 a0_0, .int .i64 a0_1, .int .i64 a0_2, .int .i64 a0_3] 26 (0, 0)) (by (with_reducible repeat (first | refine blk_drewN ?_ _ | refine blk_drew ?_ | refine blk_alloc ?_ _)); refine blk_far ?_ NB429_436.out _; (with_reducible repeat (first | refine blk_drewN ?_ _ | refine blk_drew ?_ | refine blk_alloc ?_ _)); refine blk_far ?_ NB429_436.out _; (with_reducible repeat (first | refine blk_drewN ?_ _ | refine blk_drew ?_ | refine blk_alloc ?_ _)); refine blk_far ?_ NB429_436.out _; (with_reducible repeat (first | refine blk_drewN ?_ _ | refine blk_drew ?_ | refine blk_alloc ?_ _)); refine blk_far ?_ NB429_436.out _; (with_reducible repeat (first | refine blk_drewN ?_ _ | refine blk_drew ?_ | refine blk_alloc ?_ _)); exact BK429.out) hb); have n2_ := Aside0.mk (blk_below (g := gb436) (o := .cells #[.string t431, .int .i64 t432, .int .i64 t433, .int .i64 t434] 83 (0, 0)) (by (with_reducible repeat (first | refine blk_drewN ?_ _ | refine blk_drew ?_ | refine blk_alloc ?_ _)); refine blk_put (cs := #[.string t431, .int .i64 t432, .int .i64 t433, .int .i64 0]) ?_ 3 _ rfl; (with_reducible repeat (first | refine blk_drewN ?_ _ | refine blk_drew ?_ | refine blk_alloc ?_ _)); refine blk_put (cs := #[.string t431, .int .i64 t432, .int .i64 0, .int .i64 0]) ?_ 2 _ rfl; (with_reducible repeat (first | refine blk_drewN ?_ _ | refine blk_drew ?_ | refine blk_alloc ?_ _)); refine blk_put (cs := #[.string t431, .int .i64 0, .int .i64 0, .int .i64 0]) ?_ 1 _ rfl; (with_reducible repeat (first | refine blk_drewN ?_ _ | refine blk_drew ?_ | refine blk_alloc ?_ _)); refine blk_put (cs := #[.string (⟨#[]⟩ : ByteArray), .int .i64 0, .int .i64 0, .int .i64 0]) ?_ 0 _ rfl; (with_reducible repeat (first | refine blk_drewN ?_ _ | refine blk_drew ?_ | refine blk_alloc ?_ _)); exact BK436.out) hb); have n3_ := Aside0.mk (below_step (by repeat (first | (with_reducible first | exact HB.out | apply below_alloc | apply pw_below_drewN | apply below_drew1 | refine below_set ?_ GE429.out | refine below_set ?_ GE436.out) | exact HB.out)) hb); clear BK429; clear BK436; clear HB; have HO439 := n0_; have BK429 := n1_; have BK436 := n2_; have HB := n3_; clear n0_ n1_ n2_ n3_; clear hb ho16; have hcz17_0 : w15.cell? ⟨gb429, 0, none⟩ = some (.int .i64 a0_0) := (blk_cell BK429.out 0).trans rfl; have hcz17_1 : w15.cell? ⟨gb429, 1, none⟩ = some (.int .i64 a0_1) := (blk_cell BK429.out 1).trans rfl; have hcz17_2 : w15.cell? ⟨gb429, 2, none⟩ = some (.int .i64 a0_2) := (blk_cell BK429.out 2).trans rfl; have hcz17_3 : w15.cell? ⟨gb429, 3, none⟩ = some (.int .i64 a0_3) := (blk_cell BK429.out 3).trans rfl; have hfz17_0 := blk_frozen BK429.out 0; have hfz17_1 := blk_frozen BK429.out 1; have hfz17_2 := blk_frozen BK429.out 2; have hfz17_3 := blk_frozen BK429.out 3; obtain ⟨Ao18, co18, eo18⟩ := Kd.R_slice HO439.out; subst eo18) | ((with_reducible refine gate_callee (f := 61) rfl ?_); refine goesL_ (some 18) rfl rfl Try.func61 (by kernel_rfl) rfl #[.slice Ao18 y437.length co18, .int .i64 a0_0] rfl (by (try simp only [List.map_toArray, List.map_cons, List.map_nil]); first | done | rfl | (simp only [List.length_drop, List.length_take]; rfl)) ?_; (with_reducible refine (slices_Contains_int_int.calls k _ _ y437 a0_0 t440 _ ?side1 ?side2 A5.out).mono ?_); (case side1 => repeat (first | exact (Kd.R_reads' HO439.out).2.2 | (with_reducible refine Kd.C_alloc ?_ _) | (with_reducible refine Kd.C_drewN ?_ _) | (with_reducible refine Kd.C_drew ?_))); (case side2 => exact (Kd.R_reads' HO439.out).2.1); rintro e w' ⟨rfl, ⟨nd, rfl⟩⟩; refine ⟨_, rfl, ?_⟩))
    (try simp only [Act.put, List.setIfInBounds_toArray, List.set_cons_zero, List.set_cons_succ])
    go_cut [5] (fun v5 wc => ∃ (kq : Nat) (x5_5 : List Int), Aside0 (instr_Instr_Reads.j0 kq x5_5 a0_0 a0_1 a0_2 a0_3 t431 t432 t433 t434 = some r) ∧ Aside0 (kq ≤ k) ∧ Aside0 (Kd.R (Kd.int .i64) 3 wc w.heap.size (fun _ => True) v5 x5_5) ∧ Aside0 (wc.heap[gb429]? = some (.cells #[.int .i64 a0_0, .int .i64 a0_1, .int .i64 a0_2, .int .i64 a0_3] 26 (0, 0))) ∧ Aside0 (wc.heap[gb436]? = some (.cells #[.string t431, .int .i64 t432, .int .i64 t433, .int .i64 t434] 83 (0, 0))) ∧ Aside0 (Below w.heap.size w wc))
    case first =>
      have H := HC6.out
      clear HC6
      by_cases c19 : t440 = true
      · subst c19
        have H1 : (if ([] : List Int).length < 17592186044416 then (instr_Instr_Reads.j0 k (([] : List Int) ++ [a0_1]) a0_0 a0_1 a0_2 a0_3 t431 t432 t433 t434) else (none)) = some r := by rw [if_pos rfl] at H; exact H
        clear H
        have H := H1
        clear H1
        by_cases c20 : ([] : List Int).length < 17592186044416
        · rw [if_pos c20] at H
          have LMc20 := Aside0.mk c20
          clear c20
          obtain ⟨y441, hy441⟩ : ∃ y_ : List Int, y_ = (([] : List Int) ++ [a0_1]) := ⟨_, rfl⟩
          replace H : (instr_Instr_Reads.j0 k y441 a0_0 a0_1 a0_2 a0_3 t431 t432 t433 t434) = some r := by first | (rw [hy441]; with_reducible exact H) | (have H2_ := (Option.bind_some _ _).symm.trans H; rw [hy441]; with_reducible exact H2_) | (have H2_ := (Option.bind_some _ _).symm.trans H; with_reducible exact H2_) | with_reducible exact H | (rw [hy441]; exact H) | exact H
          have Ny441 := Aside0.mk hy441
          clear hy441
          have H' := Aside0.mk H
          clear H
          have hnb21 := NB429_436.out
          have hnc21 := NB436_429.out
          have hcz22_0 : w15.cell? ⟨gb429, 0, none⟩ = some (.int .i64 a0_0) := (blk_cell BK429.out 0).trans rfl
          have hcz22_1 : w15.cell? ⟨gb429, 1, none⟩ = some (.int .i64 a0_1) := (blk_cell BK429.out 1).trans rfl
          have hcz22_2 : w15.cell? ⟨gb429, 2, none⟩ = some (.int .i64 a0_2) := (blk_cell BK429.out 2).trans rfl
          have hcz22_3 : w15.cell? ⟨gb429, 3, none⟩ = some (.int .i64 a0_3) := (blk_cell BK429.out 3).trans rfl
          have hfz22_0 := blk_frozen BK429.out 0
          have hfz22_1 := blk_frozen BK429.out 1
          have hfz22_2 := blk_frozen BK429.out 2
          have hfz22_3 := blk_frozen BK429.out 3
          go_wp2_with (first | ((with_reducible refine gate_builtin (b := .append) (xs := #[.tmp 19, .tmp 22]) rfl ?_); at_builtin; refine Kd.R_append (Kd.int .i64) (w0 := w) w.heap.size rfl (.tmp 19) (.tmp 22) 79 3 (.int .i64 0) 8 rfl Try.underlying79 info3 rfl (by decide) (by omega) (.slice none 0 0) ([] : List Int) a0_1 [.int .i64 a0_1] (fun k_ => some k_ ≠ (.slice Ao18 y437.length co18 : Value).ownBlock) (fun _ => False) rfl rfl ?aP (fun _ hk => hk.elim) ?aF ?aO ?aB ?aS ?aL ?_; (case aP => exact rfl); (case aB => exact (by repeat (first | (with_reducible first | exact HB.out | apply below_alloc | apply pw_below_drewN | apply below_drew1 | refine below_set ?_ GE429.out | refine below_set ?_ GE436.out) | exact HB.out))); (case aF => exact (fun k_ hk => Kd.fresh' (Kd.R_lt (by (with_reducible repeat (first | apply Kd.R_alloc | apply Kd.R_drewN | apply Kd.R_drew)); exact HO439.out)) k_ hk)); (case aO => exact ((Kd.R_nil _ _ _ _ (fun k_ => some k_ ≠ (.slice Ao18 y437.length co18 : Value).ownBlock)))); (case aS => exact (below_size (by repeat (first | (with_reducible first | exact HB.out | apply below_alloc | apply pw_below_drewN | apply below_drew1 | refine below_set ?_ GE429.out | refine below_set ?_ GE436.out) | exact HB.out)))); (case aL => have := LMc20.out; omega); intro v442 w23 ho hb hg hat; rw [← Ny441.out] at ho; have n0_ := Aside0.mk (blk_grown (g := gb429) (o := .cells #[.int .i64 a0_0, .int .i64 a0_1, .int .i64 a0_2, .int .i64 a0_3] 26 (0, 0)) (by (with_reducible repeat (first | refine blk_drewN ?_ _ | refine blk_drew ?_ | refine blk_alloc ?_ _)); exact BK429.out) hg (by simp [Value.ownBlock])); have n1_ := Aside0.mk (blk_grown (g := gb436) (o := .cells #[.string t431, .int .i64 t432, .int .i64 t433, .int .i64 t434] 83 (0, 0)) (by (with_reducible repeat (first | refine blk_drewN ?_ _ | refine blk_drew ?_ | refine blk_alloc ?_ _)); exact BK436.out) hg (by simp [Value.ownBlock])); have n2_ := Aside0.mk (Kd.R_after (Kd.R_apart_nil (by (with_reducible repeat (first | apply Kd.R_alloc | apply Kd.R_drewN | apply Kd.R_drew)); exact HO439.out)) hg hat); have n3_ := Aside0.mk (hb); have n4_ := Aside0.mk (ho); clear BK429; clear BK436; clear HO439; clear HB; have BK429 := n0_; have BK436 := n1_; have HO439 := n2_; have HB := n3_; have HO443 := n4_; clear n0_ n1_ n2_ n3_ n4_; clear ho hb hg hat))
          go_meet
          case rel => exact ⟨_, (y441), H', ⟨by first | omega | exact Nat.le_refl _⟩, ⟨by (with_reducible repeat (first | apply Kd.R_alloc | apply Kd.R_drewN | apply Kd.R_drew)); exact Kd.R_mono HO443.out (fun _ hk => trivial)⟩, ⟨by (with_reducible repeat (first | refine blk_drewN ?_ _ | refine blk_drew ?_ | refine blk_alloc ?_ _)); exact BK429.out⟩, ⟨by (with_reducible repeat (first | refine blk_drewN ?_ _ | refine blk_drew ?_ | refine blk_alloc ?_ _)); exact BK436.out⟩, ⟨by repeat (first | (with_reducible first | exact HB.out | apply below_alloc | apply pw_below_drewN | apply below_drew1 | refine below_set ?_ GE429.out | refine below_set ?_ GE436.out) | exact HB.out)⟩⟩
        · rw [if_neg c20] at H
          exact absurd H (by simp)
      · replace c19 := Bool.eq_false_iff.mpr c19
        subst c19
        have H1 : (instr_Instr_Reads.j0 k ([] : List Int) a0_0 a0_1 a0_2 a0_3 t431 t432 t433 t434) = some r := by rw [if_neg (show ¬ (false = true) by decide)] at H; exact H
        clear H
        have H := H1
        clear H1
        have H' := Aside0.mk H
        clear H
        go_wp2
        go_meet
        case rel => exact ⟨_, (([] : List Int)), H', ⟨by first | omega | exact Nat.le_refl _⟩, ⟨by first | exact Kd.R_nil _ _ _ _ _ | exact Kd.N_nil _ _ _ _ _ | exact Kd.V_nil _ _ _ _ _ | exact Kd.Q_nil _ _ _ _ _ | exact Kd.S_nil _ _ _ _ _⟩, ⟨by (with_reducible repeat (first | refine blk_drewN ?_ _ | refine blk_drew ?_ | refine blk_alloc ?_ _)); exact BK429.out⟩, ⟨by (with_reducible repeat (first | refine blk_drewN ?_ _ | refine blk_drew ?_ | refine blk_alloc ?_ _)); exact BK436.out⟩, ⟨by repeat (first | (with_reducible first | exact HB.out | apply below_alloc | apply pw_below_drewN | apply below_drew1 | refine below_set ?_ GE429.out | refine below_set ?_ GE436.out) | exact HB.out)⟩⟩
    case rest =>
      clear HC6
      try clear c1
      try clear c2
      try clear p2
      try clear c3
      try clear c3b0
      try clear c3b1
      try clear c4
      try clear c6
      try clear c13
      try clear c15
      try clear c19
      try clear c20
      try clear c21
      try clear hcz10_0
      try clear hcz10_1
      try clear hcz10_2
      try clear hcz10_3
      try clear hcz14_0
      try clear hcz14_1
      try clear hcz14_2
      try clear hcz14_3
      try clear hcz17_0
      try clear hcz17_1
      try clear hcz17_2
      try clear hcz17_3
      try clear hcz22_0
      try clear hcz22_1
      try clear hcz22_2
      try clear hcz22_3
      try clear hcz8_0
      try clear hcz8_1
      try clear hcz8_2
      try clear hcz8_3
      try clear hfz10_0
      try clear hfz10_1
      try clear hfz10_2
      try clear hfz10_3
      try clear hfz14_0
      try clear hfz14_1
      try clear hfz14_2
      try clear hfz14_3
      try clear hfz17_0
      try clear hfz17_1
      try clear hfz17_2
      try clear hfz17_3
      try clear hfz22_0
      try clear hfz22_1
      try clear hfz22_2
      try clear hfz22_3
      try clear hfz8_0
      try clear hfz8_1
      try clear hfz8_2
      try clear hfz8_3
      obtain ⟨kq, x5_5, HA, HJ5, HO_5, BK429, BK436, HB⟩ := hcut
      cases kq with
      | zero => exact absurd HA.out (by simp [instr_Instr_Reads.j0])
      | succ kj5 =>
        have H := HA.out
        clear HA
        simp only [instr_Instr_Reads.j0] at H
        replace H := Option.bind_eq_some_iff.mp H
        obtain ⟨t444, A240, H⟩ := H
        replace H : (if t444 = true then (if x5_5.length < 17592186044416 then ((some (x5_5 ++ [a0_2] : List Int)).bind fun y445 => (if t432 = 3 then (if y445.length < 17592186044416 then ((instr_registers.f (y445 ++ [a0_3])).bind fun t451 => (some t451)) else (none)) else ((instr_registers.f y445).bind fun t454 => (some t454)))) else (none)) else (if t432 = 3 then (if x5_5.length < 17592186044416 then ((instr_registers.f (x5_5 ++ [a0_3])).bind fun t460 => (some t460)) else (none)) else ((instr_registers.f x5_5).bind fun t463 => (some t463)))) = some r := H
        have A24 := Aside0.mk A240
        clear A240
        by_cases c25 : t444 = true
        · subst c25
          have H1 : (if x5_5.length < 17592186044416 then ((some (x5_5 ++ [a0_2] : List Int)).bind fun y445 => (if t432 = 3 then (if y445.length < 17592186044416 then ((instr_registers.f (y445 ++ [a0_3])).bind fun t451 => (some t451)) else (none)) else ((instr_registers.f y445).bind fun t454 => (some t454)))) else (none)) = some r := by rw [if_pos rfl] at H; exact H
          clear H
          have H := H1
          clear H1
          by_cases c26 : x5_5.length < 17592186044416
          · rw [if_pos c26] at H
            have LMc26 := Aside0.mk c26
            clear c26
            obtain ⟨y445, hy445⟩ : ∃ y_ : List Int, y_ = (x5_5 ++ [a0_2]) := ⟨_, rfl⟩
            replace H : (if t432 = 3 then (if y445.length < 17592186044416 then ((instr_registers.f (y445 ++ [a0_3])).bind fun t451 => (some t451)) else (none)) else ((instr_registers.f y445).bind fun t454 => (some t454))) = some r := by first | (rw [hy445]; with_reducible exact H) | (have H2_ := (Option.bind_some _ _).symm.trans H; rw [hy445]; with_reducible exact H2_) | (have H2_ := (Option.bind_some _ _).symm.trans H; with_reducible exact H2_) | with_reducible exact H | (rw [hy445]; exact H) | exact H
            have Ny445 := Aside0.mk hy445
            clear hy445
            by_cases c27 : t432 = 3
            · rw [if_pos c27] at H
              have c27b0 : (t432 == 3) = true := beq_iff_eq.mpr c27
              have c27b1 : (t432 != 3) = false := bne_eq_false_iff_eq.mpr c27
              clear c27
              by_cases c28 : y445.length < 17592186044416
              · rw [if_pos c28] at H
                have LMc28 := Aside0.mk c28
                clear c28
                obtain ⟨y448, hy448⟩ : ∃ y_ : List Int, y_ = (y445 ++ [a0_3]) := ⟨_, rfl⟩
                replace H : ((instr_registers.f y448).bind fun t451 => (some t451)) = some r := by first | (rw [hy448]; with_reducible exact H) | (have H2_ := (Option.bind_some _ _).symm.trans H; rw [hy448]; with_reducible exact H2_) | (have H2_ := (Option.bind_some _ _).symm.trans H; with_reducible exact H2_) | with_reducible exact H | (rw [hy448]; exact H) | exact H
                have Ny448 := Aside0.mk hy448
                clear hy448
                replace H := Option.bind_eq_some_iff.mp H
                obtain ⟨t451, A290, H⟩ := H
                replace H : (some t451) = some r := H
                have A29 := Aside0.mk A290
                clear A290
                obtain rfl := Option.some.inj H
                have hnb30 := NB436_429.out
                have hnc30 := NB429_436.out
                have hcz31_0 : wc.cell? ⟨gb436, 0, none⟩ = some (.string t431) := (blk_cell BK436.out 0).trans rfl
                have hcz31_1 : wc.cell? ⟨gb436, 1, none⟩ = some (.int .i64 t432) := (blk_cell BK436.out 1).trans rfl
                have hcz31_2 : wc.cell? ⟨gb436, 2, none⟩ = some (.int .i64 t433) := (blk_cell BK436.out 2).trans rfl
                have hcz31_3 : wc.cell? ⟨gb436, 3, none⟩ = some (.int .i64 t434) := (blk_cell BK436.out 3).trans rfl
                have hfz31_0 := blk_frozen BK436.out 0
                have hfz31_1 := blk_frozen BK436.out 1
                have hfz31_2 := blk_frozen BK436.out 2
                have hfz31_3 := blk_frozen BK436.out 3
                go_wp2_with (first | ((with_reducible refine gate_callee (f := 48) rfl ?_); refine goesL_ (some 25) rfl rfl Try.func48 (by kernel_rfl) rfl #[.agg #[.string t431, .int .i64 t432, .int .i64 t433, .int .i64 t434]] rfl (by (try simp only [List.map_toArray, List.map_cons, List.map_nil]); first | done | rfl | (simp only [List.length_drop, List.length_take]; rfl)) ?_; (with_reducible refine (instr_operation_hasB.calls t431 t432 t433 t434 true _ A24.out).mono ?_); rintro e w32 ⟨rfl, hb⟩; refine ⟨_, rfl, ?_⟩; have n0_ := Aside0.mk (Kd.R_below (by (with_reducible repeat (first | apply Kd.R_alloc | apply Kd.R_drewN | apply Kd.R_drew)); exact HO_5.out) hb); have n1_ := Aside0.mk (blk_below (g := gb429) (o := .cells #[.int .i64 a0_0, .int .i64 a0_1, .int .i64 a0_2, .int .i64 a0_3] 26 (0, 0)) (by (with_reducible repeat (first | refine blk_drewN ?_ _ | refine blk_drew ?_ | refine blk_alloc ?_ _)); exact BK429.out) hb); have n2_ := Aside0.mk (blk_below (g := gb436) (o := .cells #[.string t431, .int .i64 t432, .int .i64 t433, .int .i64 t434] 83 (0, 0)) (by (with_reducible repeat (first | refine blk_drewN ?_ _ | refine blk_drew ?_ | refine blk_alloc ?_ _)); exact BK436.out) hb); have n3_ := Aside0.mk (below_step (by repeat (first | (with_reducible first | exact HB.out | apply below_alloc | apply pw_below_drewN | apply below_drew1 | refine below_set ?_ GE429.out | refine below_set ?_ GE436.out) | exact HB.out)) hb); clear HO_5; clear BK429; clear BK436; clear HB; have HO_5 := n0_; have BK429 := n1_; have BK436 := n2_; have HB := n3_; clear n0_ n1_ n2_ n3_; (try clear hb); (try clear hb2); (try clear hk); (try clear hi); have hcz33_0 : w32.cell? ⟨gb429, 0, none⟩ = some (.int .i64 a0_0) := (blk_cell BK429.out 0).trans rfl; have hcz33_1 : w32.cell? ⟨gb429, 1, none⟩ = some (.int .i64 a0_1) := (blk_cell BK429.out 1).trans rfl; have hcz33_2 : w32.cell? ⟨gb429, 2, none⟩ = some (.int .i64 a0_2) := (blk_cell BK429.out 2).trans rfl; have hcz33_3 : w32.cell? ⟨gb429, 3, none⟩ = some (.int .i64 a0_3) := (blk_cell BK429.out 3).trans rfl; have hfz33_0 := blk_frozen BK429.out 0; have hfz33_1 := blk_frozen BK429.out 1; have hfz33_2 := blk_frozen BK429.out 2; have hfz33_3 := blk_frozen BK429.out 3) | ((with_reducible refine gate_builtin (b := .append) (xs := #[.tmp 26, .tmp 29]) rfl ?_); at_builtin; refine Kd.R_append (Kd.int .i64) (w0 := w) w.heap.size rfl (.tmp 26) (.tmp 29) 79 3 (.int .i64 0) 8 rfl Try.underlying79 info3 rfl (by decide) (by omega) u5 x5_5 a0_2 [.int .i64 a0_2] (fun _ => True) (fun _ => False) rfl rfl ?aP (fun _ hk => hk.elim) ?aF ?aO ?aB ?aS ?aL ?_; (case aP => exact rfl); (case aB => exact (by repeat (first | (with_reducible first | exact HB.out | apply below_alloc | apply pw_below_drewN | apply below_drew1 | refine below_set ?_ GE429.out | refine below_set ?_ GE436.out) | exact HB.out))); (case aF => exact (fun _ _ => trivial)); (case aO => exact (by (with_reducible repeat (first | apply Kd.R_alloc | apply Kd.R_drewN | apply Kd.R_drew)); exact HO_5.out)); (case aS => exact (below_size (by repeat (first | (with_reducible first | exact HB.out | apply below_alloc | apply pw_below_drewN | apply below_drew1 | refine below_set ?_ GE429.out | refine below_set ?_ GE436.out) | exact HB.out)))); (case aL => have := LMc26.out; omega); intro v446 w34 ho hb hg hat; rw [← Ny445.out] at ho; have n0_ := Aside0.mk (blk_grown (g := gb429) (o := .cells #[.int .i64 a0_0, .int .i64 a0_1, .int .i64 a0_2, .int .i64 a0_3] 26 (0, 0)) (by (with_reducible repeat (first | refine blk_drewN ?_ _ | refine blk_drew ?_ | refine blk_alloc ?_ _)); exact BK429.out) hg (Kd.R_ne HO_5.out BK429.out (by decide))); have n1_ := Aside0.mk (blk_grown (g := gb436) (o := .cells #[.string t431, .int .i64 t432, .int .i64 t433, .int .i64 t434] 83 (0, 0)) (by (with_reducible repeat (first | refine blk_drewN ?_ _ | refine blk_drew ?_ | refine blk_alloc ?_ _)); exact BK436.out) hg (Kd.R_ne HO_5.out BK436.out (by decide))); have n2_ := Aside0.mk (hb); have n3_ := Aside0.mk (ho); clear BK429; clear BK436; clear HB; clear HO_5; have BK429 := n0_; have BK436 := n1_; have HB := n2_; have HO447 := n3_; clear n0_ n1_ n2_ n3_; clear ho hb hg hat; have hcz35_0 : w34.cell? ⟨gb436, 0, none⟩ = some (.string t431) := (blk_cell BK436.out 0).trans rfl; have hcz35_1 : w34.cell? ⟨gb436, 1, none⟩ = some (.int .i64 t432) := (blk_cell BK436.out 1).trans rfl; have hcz35_2 : w34.cell? ⟨gb436, 2, none⟩ = some (.int .i64 t433) := (blk_cell BK436.out 2).trans rfl; have hcz35_3 : w34.cell? ⟨gb436, 3, none⟩ = some (.int .i64 t434) := (blk_cell BK436.out 3).trans rfl; have hfz35_0 := blk_frozen BK436.out 0; have hfz35_1 := blk_frozen BK436.out 1; have hfz35_2 := blk_frozen BK436.out 2; have hfz35_3 := blk_frozen BK436.out 3; have hcz36_0 : w34.cell? ⟨gb429, 0, none⟩ = some (.int .i64 a0_0) := (blk_cell BK429.out 0).trans rfl; have hcz36_1 : w34.cell? ⟨gb429, 1, none⟩ = some (.int .i64 a0_1) := (blk_cell BK429.out 1).trans rfl; have hcz36_2 : w34.cell? ⟨gb429, 2, none⟩ = some (.int .i64 a0_2) := (blk_cell BK429.out 2).trans rfl; have hcz36_3 : w34.cell? ⟨gb429, 3, none⟩ = some (.int .i64 a0_3) := (blk_cell BK429.out 3).trans rfl; have hfz36_0 := blk_frozen BK429.out 0; have hfz36_1 := blk_frozen BK429.out 1; have hfz36_2 := blk_frozen BK429.out 2; have hfz36_3 := blk_frozen BK429.out 3) | ((with_reducible refine gate_builtin (b := .append) (xs := #[.tmp 34, .tmp 37]) rfl ?_); at_builtin; refine Kd.R_append (Kd.int .i64) (w0 := w) w.heap.size rfl (.tmp 34) (.tmp 37) 79 3 (.int .i64 0) 8 rfl Try.underlying79 info3 rfl (by decide) (by omega) v446 y445 a0_3 [.int .i64 a0_3] (fun _ => True) (fun _ => False) rfl rfl ?aP (fun _ hk => hk.elim) ?aF ?aO ?aB ?aS ?aL ?_; (case aP => exact rfl); (case aB => exact (by repeat (first | (with_reducible first | exact HB.out | apply below_alloc | apply pw_below_drewN | apply below_drew1 | refine below_set ?_ GE429.out | refine below_set ?_ GE436.out) | exact HB.out))); (case aF => exact (fun _ _ => trivial)); (case aO => exact (by (with_reducible repeat (first | apply Kd.R_alloc | apply Kd.R_drewN | apply Kd.R_drew)); exact HO447.out)); (case aS => exact (below_size (by repeat (first | (with_reducible first | exact HB.out | apply below_alloc | apply pw_below_drewN | apply below_drew1 | refine below_set ?_ GE429.out | refine below_set ?_ GE436.out) | exact HB.out)))); (case aL => have := LMc28.out; omega); intro v449 w37 ho hb hg hat; rw [← Ny448.out] at ho; have n0_ := Aside0.mk (blk_grown (g := gb429) (o := .cells #[.int .i64 a0_0, .int .i64 a0_1, .int .i64 a0_2, .int .i64 a0_3] 26 (0, 0)) (by (with_reducible repeat (first | refine blk_drewN ?_ _ | refine blk_drew ?_ | refine blk_alloc ?_ _)); exact BK429.out) hg (Kd.R_ne HO447.out BK429.out (by decide))); have n1_ := Aside0.mk (blk_grown (g := gb436) (o := .cells #[.string t431, .int .i64 t432, .int .i64 t433, .int .i64 t434] 83 (0, 0)) (by (with_reducible repeat (first | refine blk_drewN ?_ _ | refine blk_drew ?_ | refine blk_alloc ?_ _)); exact BK436.out) hg (Kd.R_ne HO447.out BK436.out (by decide))); have n2_ := Aside0.mk (hb); have n3_ := Aside0.mk (ho); clear BK429; clear BK436; clear HB; clear HO447; have BK429 := n0_; have BK436 := n1_; have HB := n2_; have HO450 := n3_; clear n0_ n1_ n2_ n3_; clear ho hb hg hat; obtain ⟨Ao38, co38, eo38⟩ := Kd.R_slice HO450.out; subst eo38) | ((with_reducible refine gate_callee (f := 62) rfl ?_); refine goesL_ (some 40) rfl rfl Try.func62 (by kernel_rfl) rfl #[.slice Ao38 y448.length co38] rfl (by (try simp only [List.map_toArray, List.map_cons, List.map_nil]); first | done | rfl | (simp only [List.length_drop, List.length_take]; rfl)) ?_; (with_reducible refine (registers_R (w0 := w) _ _ y448 t451 ?side1 ?side2 A29.out).mono ?_); (case side1 => (with_reducible repeat (first | apply Kd.R_alloc | apply Kd.R_drewN | apply Kd.R_drew)); exact Kd.R_mono HO450.out (fun _ _ => trivial)); (case side2 => exact (by repeat (first | (with_reducible first | exact HB.out | apply below_alloc | apply pw_below_drewN | apply below_drew1 | refine below_set ?_ GE429.out | refine below_set ?_ GE436.out) | exact HB.out))); rintro e w39 ⟨v452, rfl, ho0, hb⟩; refine ⟨_, rfl, ?_⟩; have n0_ := Aside0.mk (ho0); have n1_ := Aside0.mk (hb); clear ho0 hb; clear HO450; clear BK429; clear BK436; clear HB; have HO453 := n0_; have HB := n1_; clear n0_ n1_))
                go_ret
                exact ⟨_, by first | rfl | (simp [errW_none, errW_some] <;> rfl) | (simp [*, errW_none, errW_some] <;> rfl), by (with_reducible repeat (first | apply Kd.R_alloc | apply Kd.R_drewN | apply Kd.R_drew)); exact Kd.R_mono HO453.out (fun _ hk => trivial), by repeat (first | (with_reducible first | exact HB.out | apply below_alloc | apply pw_below_drewN | apply below_drew1 | refine below_set ?_ GE429.out | refine below_set ?_ GE436.out) | exact HB.out)⟩
              · rw [if_neg c28] at H
                exact absurd H (by simp)
            · rw [if_neg c27] at H
              have c27b0 : (t432 == 3) = false := beq_eq_false_iff_ne.mpr c27
              have c27b1 : (t432 != 3) = true := bne_iff_ne.mpr c27
              replace H := Option.bind_eq_some_iff.mp H
              obtain ⟨t454, A400, H⟩ := H
              replace H : (some t454) = some r := H
              have A40 := Aside0.mk A400
              clear A400
              obtain rfl := Option.some.inj H
              have hnb41 := NB436_429.out
              have hnc41 := NB429_436.out
              have hcz42_0 : wc.cell? ⟨gb436, 0, none⟩ = some (.string t431) := (blk_cell BK436.out 0).trans rfl
              have hcz42_1 : wc.cell? ⟨gb436, 1, none⟩ = some (.int .i64 t432) := (blk_cell BK436.out 1).trans rfl
              have hcz42_2 : wc.cell? ⟨gb436, 2, none⟩ = some (.int .i64 t433) := (blk_cell BK436.out 2).trans rfl
              have hcz42_3 : wc.cell? ⟨gb436, 3, none⟩ = some (.int .i64 t434) := (blk_cell BK436.out 3).trans rfl
              have hfz42_0 := blk_frozen BK436.out 0
              have hfz42_1 := blk_frozen BK436.out 1
              have hfz42_2 := blk_frozen BK436.out 2
              have hfz42_3 := blk_frozen BK436.out 3
              go_wp2_with (first | ((with_reducible refine gate_callee (f := 48) rfl ?_); refine goesL_ (some 25) rfl rfl Try.func48 (by kernel_rfl) rfl #[.agg #[.string t431, .int .i64 t432, .int .i64 t433, .int .i64 t434]] rfl (by (try simp only [List.map_toArray, List.map_cons, List.map_nil]); first | done | rfl | (simp only [List.length_drop, List.length_take]; rfl)) ?_; (with_reducible refine (instr_operation_hasB.calls t431 t432 t433 t434 true _ A24.out).mono ?_); rintro e w43 ⟨rfl, hb⟩; refine ⟨_, rfl, ?_⟩; have n0_ := Aside0.mk (Kd.R_below (by (with_reducible repeat (first | apply Kd.R_alloc | apply Kd.R_drewN | apply Kd.R_drew)); exact HO_5.out) hb); have n1_ := Aside0.mk (blk_below (g := gb429) (o := .cells #[.int .i64 a0_0, .int .i64 a0_1, .int .i64 a0_2, .int .i64 a0_3] 26 (0, 0)) (by (with_reducible repeat (first | refine blk_drewN ?_ _ | refine blk_drew ?_ | refine blk_alloc ?_ _)); exact BK429.out) hb); have n2_ := Aside0.mk (blk_below (g := gb436) (o := .cells #[.string t431, .int .i64 t432, .int .i64 t433, .int .i64 t434] 83 (0, 0)) (by (with_reducible repeat (first | refine blk_drewN ?_ _ | refine blk_drew ?_ | refine blk_alloc ?_ _)); exact BK436.out) hb); have n3_ := Aside0.mk (below_step (by repeat (first | (with_reducible first | exact HB.out | apply below_alloc | apply pw_below_drewN | apply below_drew1 | refine below_set ?_ GE429.out | refine below_set ?_ GE436.out) | exact HB.out)) hb); clear HO_5; clear BK429; clear BK436; clear HB; have HO_5 := n0_; have BK429 := n1_; have BK436 := n2_; have HB := n3_; clear n0_ n1_ n2_ n3_; (try clear hb); (try clear hb2); (try clear hk); (try clear hi); have hcz44_0 : w43.cell? ⟨gb429, 0, none⟩ = some (.int .i64 a0_0) := (blk_cell BK429.out 0).trans rfl; have hcz44_1 : w43.cell? ⟨gb429, 1, none⟩ = some (.int .i64 a0_1) := (blk_cell BK429.out 1).trans rfl; have hcz44_2 : w43.cell? ⟨gb429, 2, none⟩ = some (.int .i64 a0_2) := (blk_cell BK429.out 2).trans rfl; have hcz44_3 : w43.cell? ⟨gb429, 3, none⟩ = some (.int .i64 a0_3) := (blk_cell BK429.out 3).trans rfl; have hfz44_0 := blk_frozen BK429.out 0; have hfz44_1 := blk_frozen BK429.out 1; have hfz44_2 := blk_frozen BK429.out 2; have hfz44_3 := blk_frozen BK429.out 3) | ((with_reducible refine gate_builtin (b := .append) (xs := #[.tmp 26, .tmp 29]) rfl ?_); at_builtin; refine Kd.R_append (Kd.int .i64) (w0 := w) w.heap.size rfl (.tmp 26) (.tmp 29) 79 3 (.int .i64 0) 8 rfl Try.underlying79 info3 rfl (by decide) (by omega) u5 x5_5 a0_2 [.int .i64 a0_2] (fun _ => True) (fun _ => False) rfl rfl ?aP (fun _ hk => hk.elim) ?aF ?aO ?aB ?aS ?aL ?_; (case aP => exact rfl); (case aB => exact (by repeat (first | (with_reducible first | exact HB.out | apply below_alloc | apply pw_below_drewN | apply below_drew1 | refine below_set ?_ GE429.out | refine below_set ?_ GE436.out) | exact HB.out))); (case aF => exact (fun _ _ => trivial)); (case aO => exact (by (with_reducible repeat (first | apply Kd.R_alloc | apply Kd.R_drewN | apply Kd.R_drew)); exact HO_5.out)); (case aS => exact (below_size (by repeat (first | (with_reducible first | exact HB.out | apply below_alloc | apply pw_below_drewN | apply below_drew1 | refine below_set ?_ GE429.out | refine below_set ?_ GE436.out) | exact HB.out)))); (case aL => have := LMc26.out; omega); intro v446 w45 ho hb hg hat; rw [← Ny445.out] at ho; have n0_ := Aside0.mk (blk_grown (g := gb429) (o := .cells #[.int .i64 a0_0, .int .i64 a0_1, .int .i64 a0_2, .int .i64 a0_3] 26 (0, 0)) (by (with_reducible repeat (first | refine blk_drewN ?_ _ | refine blk_drew ?_ | refine blk_alloc ?_ _)); exact BK429.out) hg (Kd.R_ne HO_5.out BK429.out (by decide))); have n1_ := Aside0.mk (blk_grown (g := gb436) (o := .cells #[.string t431, .int .i64 t432, .int .i64 t433, .int .i64 t434] 83 (0, 0)) (by (with_reducible repeat (first | refine blk_drewN ?_ _ | refine blk_drew ?_ | refine blk_alloc ?_ _)); exact BK436.out) hg (Kd.R_ne HO_5.out BK436.out (by decide))); have n2_ := Aside0.mk (hb); have n3_ := Aside0.mk (ho); clear BK429; clear BK436; clear HB; clear HO_5; have BK429 := n0_; have BK436 := n1_; have HB := n2_; have HO447 := n3_; clear n0_ n1_ n2_ n3_; clear ho hb hg hat; have hcz46_0 : w45.cell? ⟨gb436, 0, none⟩ = some (.string t431) := (blk_cell BK436.out 0).trans rfl; have hcz46_1 : w45.cell? ⟨gb436, 1, none⟩ = some (.int .i64 t432) := (blk_cell BK436.out 1).trans rfl; have hcz46_2 : w45.cell? ⟨gb436, 2, none⟩ = some (.int .i64 t433) := (blk_cell BK436.out 2).trans rfl; have hcz46_3 : w45.cell? ⟨gb436, 3, none⟩ = some (.int .i64 t434) := (blk_cell BK436.out 3).trans rfl; have hfz46_0 := blk_frozen BK436.out 0; have hfz46_1 := blk_frozen BK436.out 1; have hfz46_2 := blk_frozen BK436.out 2; have hfz46_3 := blk_frozen BK436.out 3; obtain ⟨Ao47, co47, eo47⟩ := Kd.R_slice HO447.out; subst eo47) | ((with_reducible refine gate_callee (f := 62) rfl ?_); refine goesL_ (some 40) rfl rfl Try.func62 (by kernel_rfl) rfl #[.slice Ao47 y445.length co47] rfl (by (try simp only [List.map_toArray, List.map_cons, List.map_nil]); first | done | rfl | (simp only [List.length_drop, List.length_take]; rfl)) ?_; (with_reducible refine (registers_R (w0 := w) _ _ y445 t454 ?side1 ?side2 A40.out).mono ?_); (case side1 => (with_reducible repeat (first | apply Kd.R_alloc | apply Kd.R_drewN | apply Kd.R_drew)); exact Kd.R_mono HO447.out (fun _ _ => trivial)); (case side2 => exact (by repeat (first | (with_reducible first | exact HB.out | apply below_alloc | apply pw_below_drewN | apply below_drew1 | refine below_set ?_ GE429.out | refine below_set ?_ GE436.out) | exact HB.out))); rintro e w48 ⟨v455, rfl, ho0, hb⟩; refine ⟨_, rfl, ?_⟩; have n0_ := Aside0.mk (ho0); have n1_ := Aside0.mk (hb); clear ho0 hb; clear HO447; clear BK429; clear BK436; clear HB; have HO456 := n0_; have HB := n1_; clear n0_ n1_))
              go_ret
              exact ⟨_, by first | rfl | (simp [errW_none, errW_some] <;> rfl) | (simp [*, errW_none, errW_some] <;> rfl), by (with_reducible repeat (first | apply Kd.R_alloc | apply Kd.R_drewN | apply Kd.R_drew)); exact Kd.R_mono HO456.out (fun _ hk => trivial), by repeat (first | (with_reducible first | exact HB.out | apply below_alloc | apply pw_below_drewN | apply below_drew1 | refine below_set ?_ GE429.out | refine below_set ?_ GE436.out) | exact HB.out)⟩
          · rw [if_neg c26] at H
            exact absurd H (by simp)
        · replace c25 := Bool.eq_false_iff.mpr c25
          subst c25
          have H1 : (if t432 = 3 then (if x5_5.length < 17592186044416 then ((instr_registers.f (x5_5 ++ [a0_3])).bind fun t460 => (some t460)) else (none)) else ((instr_registers.f x5_5).bind fun t463 => (some t463))) = some r := by rw [if_neg (show ¬ (false = true) by decide)] at H; exact H
          clear H
          have H := H1
          clear H1
          by_cases c49 : t432 = 3
          · rw [if_pos c49] at H
            have c49b0 : (t432 == 3) = true := beq_iff_eq.mpr c49
            have c49b1 : (t432 != 3) = false := bne_eq_false_iff_eq.mpr c49
            clear c49
            by_cases c50 : x5_5.length < 17592186044416
            · rw [if_pos c50] at H
              have LMc50 := Aside0.mk c50
              clear c50
              obtain ⟨y457, hy457⟩ : ∃ y_ : List Int, y_ = (x5_5 ++ [a0_3]) := ⟨_, rfl⟩
              replace H : ((instr_registers.f y457).bind fun t460 => (some t460)) = some r := by first | (rw [hy457]; with_reducible exact H) | (have H2_ := (Option.bind_some _ _).symm.trans H; rw [hy457]; with_reducible exact H2_) | (have H2_ := (Option.bind_some _ _).symm.trans H; with_reducible exact H2_) | with_reducible exact H | (rw [hy457]; exact H) | exact H
              have Ny457 := Aside0.mk hy457
              clear hy457
              replace H := Option.bind_eq_some_iff.mp H
              obtain ⟨t460, A510, H⟩ := H
              replace H : (some t460) = some r := H
              have A51 := Aside0.mk A510
              clear A510
              obtain rfl := Option.some.inj H
              have hnb52 := NB436_429.out
              have hnc52 := NB429_436.out
              have hcz53_0 : wc.cell? ⟨gb436, 0, none⟩ = some (.string t431) := (blk_cell BK436.out 0).trans rfl
              have hcz53_1 : wc.cell? ⟨gb436, 1, none⟩ = some (.int .i64 t432) := (blk_cell BK436.out 1).trans rfl
              have hcz53_2 : wc.cell? ⟨gb436, 2, none⟩ = some (.int .i64 t433) := (blk_cell BK436.out 2).trans rfl
              have hcz53_3 : wc.cell? ⟨gb436, 3, none⟩ = some (.int .i64 t434) := (blk_cell BK436.out 3).trans rfl
              have hfz53_0 := blk_frozen BK436.out 0
              have hfz53_1 := blk_frozen BK436.out 1
              have hfz53_2 := blk_frozen BK436.out 2
              have hfz53_3 := blk_frozen BK436.out 3
              go_wp2_with (first | ((with_reducible refine gate_callee (f := 48) rfl ?_); refine goesL_ (some 25) rfl rfl Try.func48 (by kernel_rfl) rfl #[.agg #[.string t431, .int .i64 t432, .int .i64 t433, .int .i64 t434]] rfl (by (try simp only [List.map_toArray, List.map_cons, List.map_nil]); first | done | rfl | (simp only [List.length_drop, List.length_take]; rfl)) ?_; (with_reducible refine (instr_operation_hasB.calls t431 t432 t433 t434 false _ A24.out).mono ?_); rintro e w54 ⟨rfl, hb⟩; refine ⟨_, rfl, ?_⟩; have n0_ := Aside0.mk (Kd.R_below (by (with_reducible repeat (first | apply Kd.R_alloc | apply Kd.R_drewN | apply Kd.R_drew)); exact HO_5.out) hb); have n1_ := Aside0.mk (blk_below (g := gb429) (o := .cells #[.int .i64 a0_0, .int .i64 a0_1, .int .i64 a0_2, .int .i64 a0_3] 26 (0, 0)) (by (with_reducible repeat (first | refine blk_drewN ?_ _ | refine blk_drew ?_ | refine blk_alloc ?_ _)); exact BK429.out) hb); have n2_ := Aside0.mk (blk_below (g := gb436) (o := .cells #[.string t431, .int .i64 t432, .int .i64 t433, .int .i64 t434] 83 (0, 0)) (by (with_reducible repeat (first | refine blk_drewN ?_ _ | refine blk_drew ?_ | refine blk_alloc ?_ _)); exact BK436.out) hb); have n3_ := Aside0.mk (below_step (by repeat (first | (with_reducible first | exact HB.out | apply below_alloc | apply pw_below_drewN | apply below_drew1 | refine below_set ?_ GE429.out | refine below_set ?_ GE436.out) | exact HB.out)) hb); clear HO_5; clear BK429; clear BK436; clear HB; have HO_5 := n0_; have BK429 := n1_; have BK436 := n2_; have HB := n3_; clear n0_ n1_ n2_ n3_; (try clear hb); (try clear hb2); (try clear hk); (try clear hi); have hcz55_0 : w54.cell? ⟨gb436, 0, none⟩ = some (.string t431) := (blk_cell BK436.out 0).trans rfl; have hcz55_1 : w54.cell? ⟨gb436, 1, none⟩ = some (.int .i64 t432) := (blk_cell BK436.out 1).trans rfl; have hcz55_2 : w54.cell? ⟨gb436, 2, none⟩ = some (.int .i64 t433) := (blk_cell BK436.out 2).trans rfl; have hcz55_3 : w54.cell? ⟨gb436, 3, none⟩ = some (.int .i64 t434) := (blk_cell BK436.out 3).trans rfl; have hfz55_0 := blk_frozen BK436.out 0; have hfz55_1 := blk_frozen BK436.out 1; have hfz55_2 := blk_frozen BK436.out 2; have hfz55_3 := blk_frozen BK436.out 3; have hcz56_0 : w54.cell? ⟨gb429, 0, none⟩ = some (.int .i64 a0_0) := (blk_cell BK429.out 0).trans rfl; have hcz56_1 : w54.cell? ⟨gb429, 1, none⟩ = some (.int .i64 a0_1) := (blk_cell BK429.out 1).trans rfl; have hcz56_2 : w54.cell? ⟨gb429, 2, none⟩ = some (.int .i64 a0_2) := (blk_cell BK429.out 2).trans rfl; have hcz56_3 : w54.cell? ⟨gb429, 3, none⟩ = some (.int .i64 a0_3) := (blk_cell BK429.out 3).trans rfl; have hfz56_0 := blk_frozen BK429.out 0; have hfz56_1 := blk_frozen BK429.out 1; have hfz56_2 := blk_frozen BK429.out 2; have hfz56_3 := blk_frozen BK429.out 3) | ((with_reducible refine gate_builtin (b := .append) (xs := #[.tmp 34, .tmp 37]) rfl ?_); at_builtin; refine Kd.R_append (Kd.int .i64) (w0 := w) w.heap.size rfl (.tmp 34) (.tmp 37) 79 3 (.int .i64 0) 8 rfl Try.underlying79 info3 rfl (by decide) (by omega) u5 x5_5 a0_3 [.int .i64 a0_3] (fun _ => True) (fun _ => False) rfl rfl ?aP (fun _ hk => hk.elim) ?aF ?aO ?aB ?aS ?aL ?_; (case aP => exact rfl); (case aB => exact (by repeat (first | (with_reducible first | exact HB.out | apply below_alloc | apply pw_below_drewN | apply below_drew1 | refine below_set ?_ GE429.out | refine below_set ?_ GE436.out) | exact HB.out))); (case aF => exact (fun _ _ => trivial)); (case aO => exact (by (with_reducible repeat (first | apply Kd.R_alloc | apply Kd.R_drewN | apply Kd.R_drew)); exact HO_5.out)); (case aS => exact (below_size (by repeat (first | (with_reducible first | exact HB.out | apply below_alloc | apply pw_below_drewN | apply below_drew1 | refine below_set ?_ GE429.out | refine below_set ?_ GE436.out) | exact HB.out)))); (case aL => have := LMc50.out; omega); intro v458 w57 ho hb hg hat; rw [← Ny457.out] at ho; have n0_ := Aside0.mk (blk_grown (g := gb429) (o := .cells #[.int .i64 a0_0, .int .i64 a0_1, .int .i64 a0_2, .int .i64 a0_3] 26 (0, 0)) (by (with_reducible repeat (first | refine blk_drewN ?_ _ | refine blk_drew ?_ | refine blk_alloc ?_ _)); exact BK429.out) hg (Kd.R_ne HO_5.out BK429.out (by decide))); have n1_ := Aside0.mk (blk_grown (g := gb436) (o := .cells #[.string t431, .int .i64 t432, .int .i64 t433, .int .i64 t434] 83 (0, 0)) (by (with_reducible repeat (first | refine blk_drewN ?_ _ | refine blk_drew ?_ | refine blk_alloc ?_ _)); exact BK436.out) hg (Kd.R_ne HO_5.out BK436.out (by decide))); have n2_ := Aside0.mk (hb); have n3_ := Aside0.mk (ho); clear BK429; clear BK436; clear HB; clear HO_5; have BK429 := n0_; have BK436 := n1_; have HB := n2_; have HO459 := n3_; clear n0_ n1_ n2_ n3_; clear ho hb hg hat; obtain ⟨Ao58, co58, eo58⟩ := Kd.R_slice HO459.out; subst eo58) | ((with_reducible refine gate_callee (f := 62) rfl ?_); refine goesL_ (some 40) rfl rfl Try.func62 (by kernel_rfl) rfl #[.slice Ao58 y457.length co58] rfl (by (try simp only [List.map_toArray, List.map_cons, List.map_nil]); first | done | rfl | (simp only [List.length_drop, List.length_take]; rfl)) ?_; (with_reducible refine (registers_R (w0 := w) _ _ y457 t460 ?side1 ?side2 A51.out).mono ?_); (case side1 => (with_reducible repeat (first | apply Kd.R_alloc | apply Kd.R_drewN | apply Kd.R_drew)); exact Kd.R_mono HO459.out (fun _ _ => trivial)); (case side2 => exact (by repeat (first | (with_reducible first | exact HB.out | apply below_alloc | apply pw_below_drewN | apply below_drew1 | refine below_set ?_ GE429.out | refine below_set ?_ GE436.out) | exact HB.out))); rintro e w59 ⟨v461, rfl, ho0, hb⟩; refine ⟨_, rfl, ?_⟩; have n0_ := Aside0.mk (ho0); have n1_ := Aside0.mk (hb); clear ho0 hb; clear HO459; clear BK429; clear BK436; clear HB; have HO462 := n0_; have HB := n1_; clear n0_ n1_))
              go_ret
              exact ⟨_, by first | rfl | (simp [errW_none, errW_some] <;> rfl) | (simp [*, errW_none, errW_some] <;> rfl), by (with_reducible repeat (first | apply Kd.R_alloc | apply Kd.R_drewN | apply Kd.R_drew)); exact Kd.R_mono HO462.out (fun _ hk => trivial), by repeat (first | (with_reducible first | exact HB.out | apply below_alloc | apply pw_below_drewN | apply below_drew1 | refine below_set ?_ GE429.out | refine below_set ?_ GE436.out) | exact HB.out)⟩
            · rw [if_neg c50] at H
              exact absurd H (by simp)
          · rw [if_neg c49] at H
            have c49b0 : (t432 == 3) = false := beq_eq_false_iff_ne.mpr c49
            have c49b1 : (t432 != 3) = true := bne_iff_ne.mpr c49
            replace H := Option.bind_eq_some_iff.mp H
            obtain ⟨t463, A600, H⟩ := H
            replace H : (some t463) = some r := H
            have A60 := Aside0.mk A600
            clear A600
            obtain rfl := Option.some.inj H
            have hnb61 := NB436_429.out
            have hnc61 := NB429_436.out
            have hcz62_0 : wc.cell? ⟨gb436, 0, none⟩ = some (.string t431) := (blk_cell BK436.out 0).trans rfl
            have hcz62_1 : wc.cell? ⟨gb436, 1, none⟩ = some (.int .i64 t432) := (blk_cell BK436.out 1).trans rfl
            have hcz62_2 : wc.cell? ⟨gb436, 2, none⟩ = some (.int .i64 t433) := (blk_cell BK436.out 2).trans rfl
            have hcz62_3 : wc.cell? ⟨gb436, 3, none⟩ = some (.int .i64 t434) := (blk_cell BK436.out 3).trans rfl
            have hfz62_0 := blk_frozen BK436.out 0
            have hfz62_1 := blk_frozen BK436.out 1
            have hfz62_2 := blk_frozen BK436.out 2
            have hfz62_3 := blk_frozen BK436.out 3
            go_wp2_with (first | ((with_reducible refine gate_callee (f := 48) rfl ?_); refine goesL_ (some 25) rfl rfl Try.func48 (by kernel_rfl) rfl #[.agg #[.string t431, .int .i64 t432, .int .i64 t433, .int .i64 t434]] rfl (by (try simp only [List.map_toArray, List.map_cons, List.map_nil]); first | done | rfl | (simp only [List.length_drop, List.length_take]; rfl)) ?_; (with_reducible refine (instr_operation_hasB.calls t431 t432 t433 t434 false _ A24.out).mono ?_); rintro e w63 ⟨rfl, hb⟩; refine ⟨_, rfl, ?_⟩; have n0_ := Aside0.mk (Kd.R_below (by (with_reducible repeat (first | apply Kd.R_alloc | apply Kd.R_drewN | apply Kd.R_drew)); exact HO_5.out) hb); have n1_ := Aside0.mk (blk_below (g := gb429) (o := .cells #[.int .i64 a0_0, .int .i64 a0_1, .int .i64 a0_2, .int .i64 a0_3] 26 (0, 0)) (by (with_reducible repeat (first | refine blk_drewN ?_ _ | refine blk_drew ?_ | refine blk_alloc ?_ _)); exact BK429.out) hb); have n2_ := Aside0.mk (blk_below (g := gb436) (o := .cells #[.string t431, .int .i64 t432, .int .i64 t433, .int .i64 t434] 83 (0, 0)) (by (with_reducible repeat (first | refine blk_drewN ?_ _ | refine blk_drew ?_ | refine blk_alloc ?_ _)); exact BK436.out) hb); have n3_ := Aside0.mk (below_step (by repeat (first | (with_reducible first | exact HB.out | apply below_alloc | apply pw_below_drewN | apply below_drew1 | refine below_set ?_ GE429.out | refine below_set ?_ GE436.out) | exact HB.out)) hb); clear HO_5; clear BK429; clear BK436; clear HB; have HO_5 := n0_; have BK429 := n1_; have BK436 := n2_; have HB := n3_; clear n0_ n1_ n2_ n3_; (try clear hb); (try clear hb2); (try clear hk); (try clear hi); have hcz64_0 : w63.cell? ⟨gb436, 0, none⟩ = some (.string t431) := (blk_cell BK436.out 0).trans rfl; have hcz64_1 : w63.cell? ⟨gb436, 1, none⟩ = some (.int .i64 t432) := (blk_cell BK436.out 1).trans rfl; have hcz64_2 : w63.cell? ⟨gb436, 2, none⟩ = some (.int .i64 t433) := (blk_cell BK436.out 2).trans rfl; have hcz64_3 : w63.cell? ⟨gb436, 3, none⟩ = some (.int .i64 t434) := (blk_cell BK436.out 3).trans rfl; have hfz64_0 := blk_frozen BK436.out 0; have hfz64_1 := blk_frozen BK436.out 1; have hfz64_2 := blk_frozen BK436.out 2; have hfz64_3 := blk_frozen BK436.out 3; obtain ⟨Ao65, co65, eo65⟩ := Kd.R_slice HO_5.out; subst eo65) | ((with_reducible refine gate_callee (f := 62) rfl ?_); refine goesL_ (some 40) rfl rfl Try.func62 (by kernel_rfl) rfl #[.slice Ao65 x5_5.length co65] rfl (by (try simp only [List.map_toArray, List.map_cons, List.map_nil]); first | done | rfl | (simp only [List.length_drop, List.length_take]; rfl)) ?_; (with_reducible refine (registers_R (w0 := w) _ _ x5_5 t463 ?side1 ?side2 A60.out).mono ?_); (case side1 => (with_reducible repeat (first | apply Kd.R_alloc | apply Kd.R_drewN | apply Kd.R_drew)); exact Kd.R_mono HO_5.out (fun _ _ => trivial)); (case side2 => exact (by repeat (first | (with_reducible first | exact HB.out | apply below_alloc | apply pw_below_drewN | apply below_drew1 | refine below_set ?_ GE429.out | refine below_set ?_ GE436.out) | exact HB.out))); rintro e w66 ⟨v464, rfl, ho0, hb⟩; refine ⟨_, rfl, ?_⟩; have n0_ := Aside0.mk (ho0); have n1_ := Aside0.mk (hb); clear ho0 hb; clear HO_5; clear BK429; clear BK436; clear HB; have HO465 := n0_; have HB := n1_; clear n0_ n1_))
            go_ret
            exact ⟨_, by first | rfl | (simp [errW_none, errW_some] <;> rfl) | (simp [*, errW_none, errW_some] <;> rfl), by (with_reducible repeat (first | apply Kd.R_alloc | apply Kd.R_drewN | apply Kd.R_drew)); exact Kd.R_mono HO465.out (fun _ hk => trivial), by repeat (first | (with_reducible first | exact HB.out | apply below_alloc | apply pw_below_drewN | apply below_drew1 | refine below_set ?_ GE429.out | refine below_set ?_ GE436.out) | exact HB.out)⟩
  · rw [if_neg c3] at H
    have c3b0 : (t430 == 0) = false := beq_eq_false_iff_ne.mpr c3
    have c3b1 : (t430 != 0) = true := bne_iff_ne.mpr c3
    obtain rfl := Option.some.inj H
    go_enter Try.func42, Try.ntmps42
    go_wp2_with (first | ((with_reducible refine gate_dst (N := 1) rfl ?_); refine box_event ?hg (N := 1) ?hd (cs := #[.int .i64 a0_0, .int .i64 a0_1, .int .i64 a0_2, .int .i64 a0_3]) (t := 26) ?hr ?_; (case hd => rfl); (case hg => rfl); (case hr => first | (go_simp; done) | (go_simp; rfl)); intro gb429 hg w67 hbox hb; have n0_ := Aside0.mk (below_step (by repeat (first | (with_reducible first | exact HB.out | apply below_alloc | apply pw_below_drewN | apply below_drew1) | exact HB.out)) hb); have n1_ := Aside0.mk (hbox); have n2_ := Aside0.mk ((by rw [hg]; exact (below_size (by repeat (first | (with_reducible first | exact HB.out | apply below_alloc | apply pw_below_drewN | apply below_drew1) | exact HB.out))) : w.heap.size ≤ gb429)); have n3_ := Aside0.mk ((by rw [hg]; exact (below_size (by repeat (first | (with_reducible first | exact HB.out | apply below_alloc | apply pw_below_drewN | apply below_drew1) | exact HB.out))) : w.heap.size ≤ gb429)); clear HB; have HB := n0_; have BK429 := n1_; have GW429 := n2_; have GE429 := n3_; clear n0_ n1_ n2_ n3_; clear hb hbox hg; have hcz68_0 : w67.cell? ⟨gb429, 0, none⟩ = some (.int .i64 a0_0) := (blk_cell BK429.out 0).trans rfl; have hcz68_1 : w67.cell? ⟨gb429, 1, none⟩ = some (.int .i64 a0_1) := (blk_cell BK429.out 1).trans rfl; have hcz68_2 : w67.cell? ⟨gb429, 2, none⟩ = some (.int .i64 a0_2) := (blk_cell BK429.out 2).trans rfl; have hcz68_3 : w67.cell? ⟨gb429, 3, none⟩ = some (.int .i64 a0_3) := (blk_cell BK429.out 3).trans rfl; have hfz68_0 := blk_frozen BK429.out 0; have hfz68_1 := blk_frozen BK429.out 1; have hfz68_2 := blk_frozen BK429.out 2; have hfz68_3 := blk_frozen BK429.out 3) | ((with_reducible refine gate_callee (f := 15) rfl ?_); refine goesL_ (some 7) rfl rfl Try.func15 (by kernel_rfl) rfl #[.agg #[.int .i64 a0_0, .int .i64 a0_1, .int .i64 a0_2, .int .i64 a0_3]] rfl (by (try simp only [List.map_toArray, List.map_cons, List.map_nil]); first | done | rfl | (simp only [List.length_drop, List.length_take]; rfl)) ?_; (with_reducible refine (instr_Instr_Check.calls k a0_0 a0_1 a0_2 a0_3 t430 _ A2.out).mono ?_); rintro e w69 ⟨rfl, hb⟩; refine ⟨_, rfl, ?_⟩; have n0_ := Aside0.mk (blk_below (g := gb429) (o := .cells #[.int .i64 a0_0, .int .i64 a0_1, .int .i64 a0_2, .int .i64 a0_3] 26 (0, 0)) (by (with_reducible repeat (first | refine blk_drewN ?_ _ | refine blk_drew ?_ | refine blk_alloc ?_ _)); exact BK429.out) hb); have n1_ := Aside0.mk (below_step (by repeat (first | (with_reducible first | exact HB.out | apply below_alloc | apply pw_below_drewN | apply below_drew1 | refine below_set ?_ GE429.out) | exact HB.out)) hb); clear BK429; clear HB; have BK429 := n0_; have HB := n1_; clear n0_ n1_; (try clear hb); (try clear hb2); (try clear hk); (try clear hi)))
    go_ret
    exact ⟨_, by first | rfl | (simp [errW_none, errW_some] <;> rfl) | (simp [*, errW_none, errW_some] <;> rfl), by first | exact Kd.R_nil _ _ _ _ _ | exact Kd.N_nil _ _ _ _ _ | exact Kd.V_nil _ _ _ _ _ | exact Kd.Q_nil _ _ _ _ _ | exact Kd.S_nil _ _ _ _ _, by repeat (first | (with_reducible first | exact HB.out | apply below_alloc | apply pw_below_drewN | apply below_drew1 | refine below_set ?_ GE429.out) | exact HB.out)⟩

end Go.Proofs.Ytdnhekgdpolenaa.Q
