/- Functions of the seat and their walks, written by a program of this session. -/
import Derived.Test.YtdnhekgdpolenaaQx0
import Derived.Test.YtdnhekgdpolenaaQx11
import Derived.Test.YtdnhekgdpolenaaQx13
namespace Go.Proofs.Ytdnhekgdpolenaa.Q
open Go.RowKit Go.Proofs.YtdnhekgdpolenaaW.PrintWords Go.Proofs.YtdnhekgdpolenaaW.PrintLast Go.Proofs.YtdnhekgdpolenaaW.PrintMore
attribute [local go_sem] max2_int min2_int max_two min_two max_three min_three max_four min_four   -- for this text's walks alone
set_option linter.unusedVariables false
set_option linter.unusedSimpArgs false

/-! ### replevinref16_Decode: function 27 -/
def replevinref16_Decode.j0 : Nat → Bool → Int → Int → Int → Int → Option (Int × Int × Int × Int × Int)
  | 0, _, _, _, _, _ => none
  | k + 1, x45, x268000, x268001, x268002, x268003 => if x45 = true then ((replevinref16_Check.f k x268000 x268001 x268002 (wrap64 (x268003 - 65536))).bind fun t271 => (if t271 = 0 then (some (x268000, x268001, x268002, wrap64 (x268003 - 65536), 0)) else (some (0, 0, 0, 0, 24)))) else ((replevinref16_Check.f k x268000 x268001 x268002 x268003).bind fun t272 => (if t272 = 0 then (some (x268000, x268001, x268002, x268003, 0)) else (some (0, 0, 0, 0, 24))))
def replevinref16_Decode.f (k : Nat) (a0_0 : Int) (a0_1 : Int) (a0_2 : Int) (a0_3 : Int) : Option (Int × Int × Int × Int × Int) := (replevinref16_Limits.f k (wrap64 (a0_0))).bind fun bt268 => (if bt268.2.2 = 0 then (if bt268.1 < 0 then (replevinref16_Decode.j0 k (decide ((wrap64 ((wrap64 (a0_2)) + (wrap64 (256 * (wrap64 (a0_3)))))) > 32767)) (wrap64 (a0_0)) (wrap64 (Int.tdiv (wrap64 (a0_1)) 16)) (Int.tmod (wrap64 (a0_1)) 16) (wrap64 ((wrap64 (a0_2)) + (wrap64 (256 * (wrap64 (a0_3))))))) else (replevinref16_Decode.j0 k false (wrap64 (a0_0)) (wrap64 (Int.tdiv (wrap64 (a0_1)) 16)) (Int.tmod (wrap64 (a0_1)) 16) (wrap64 ((wrap64 (a0_2)) + (wrap64 (256 * (wrap64 (a0_3)))))))) else (replevinref16_Decode.j0 k false (wrap64 (a0_0)) (wrap64 (Int.tdiv (wrap64 (a0_1)) 16)) (Int.tmod (wrap64 (a0_1)) 16) (wrap64 ((wrap64 (a0_2)) + (wrap64 (256 * (wrap64 (a0_3))))))))
theorem replevinref16_Decode.mono_l : ∀ k, (∀ y0 y1 y2 y3 y4, LeO (replevinref16_Decode.j0 k y0 y1 y2 y3 y4) (replevinref16_Decode.j0 (k + 1) y0 y1 y2 y3 y4))
  | 0 => fun _ _ _ _ _ r h => by simp [replevinref16_Decode.j0] at h
  | k + 1 => by
    have ih0 := replevinref16_Decode.mono_l k
    · intro y0 y1 y2 y3 y4
      unfold replevinref16_Decode.j0
      repeat' first
      | (with_reducible exact ih0 _ _ _ _ _)
      | (with_reducible exact replevinref16_Check.mono _ _ _ _ _)
      | (with_reducible exact replevinref16_Limits.mono _ _)
      | (with_reducible exact LeO.refl _)
      | (with_reducible exact LeO.none _)
      | (with_reducible refine LeO.ite ?_ ?_)
      | (with_reducible refine LeO.bind ?_ (fun _ => ?_))
      | exact ih0 _ _ _ _ _
      | exact replevinref16_Check.mono _ _ _ _ _
      | exact replevinref16_Limits.mono _ _
      | exact LeO.none _
      | refine LeO.ite ?_ ?_
      | refine LeO.bind ?_ (fun _ => ?_)
theorem replevinref16_Decode.mono : ∀ a0 a1 a2 a3 k, LeO (replevinref16_Decode.f k a0 a1 a2 a3) (replevinref16_Decode.f (k + 1) a0 a1 a2 a3) := by
  intro a0 a1 a2 a3 k
  have ih0 := replevinref16_Decode.mono_l k
  unfold replevinref16_Decode.f
  repeat' first
      | (with_reducible exact ih0 _ _ _ _ _)
      | (with_reducible exact replevinref16_Check.mono _ _ _ _ _)
      | (with_reducible exact replevinref16_Limits.mono _ _)
      | (with_reducible exact LeO.refl _)
      | (with_reducible exact LeO.none _)
      | (with_reducible refine LeO.ite ?_ ?_)
      | (with_reducible refine LeO.bind ?_ (fun _ => ?_))
      | exact ih0 _ _ _ _ _
      | exact replevinref16_Check.mono _ _ _ _ _
      | exact replevinref16_Limits.mono _ _
      | exact LeO.none _
      | refine LeO.ite ?_ ?_
      | refine LeO.bind ?_ (fun _ => ?_)
set_option maxHeartbeats 8000000 in
set_option maxRecDepth 100000 in
theorem replevinref16_Decode.calls (k : Nat) (a0_0 : Int) (a0_1 : Int) (a0_2 : Int) (a0_3 : Int) (r1 : Int) (r2 : Int) (r3 : Int) (r4 : Int) (r5 : Int) (w : World) (h : replevinref16_Decode.f k a0_0 a0_1 a0_2 a0_3 = some (r1, r2, r3, r4, r5)) :
    Calls Try.prog 27 #[.agg #[.int .u8 a0_0, .int .u8 a0_1, .int .u8 a0_2, .int .u8 a0_3]] w fun e w' => e = .returned (.tuple #[.agg #[.int .i64 r1, .int .i64 r2, .int .i64 r3, .int .i64 r4], .int .i64 r5]) ∧ Below w.heap.size w w' := by
  have hu41 := Try.underlying41
  have hu23 := Try.underlying23
  have HB := Aside0.mk (Below.refl w.heap.size w)
  have H : ((replevinref16_Limits.f k (wrap64 (a0_0))).bind fun bt268 => (if bt268.2.2 = 0 then (if bt268.1 < 0 then (replevinref16_Decode.j0 k (decide ((wrap64 ((wrap64 (a0_2)) + (wrap64 (256 * (wrap64 (a0_3)))))) > 32767)) (wrap64 (a0_0)) (wrap64 (Int.tdiv (wrap64 (a0_1)) 16)) (Int.tmod (wrap64 (a0_1)) 16) (wrap64 ((wrap64 (a0_2)) + (wrap64 (256 * (wrap64 (a0_3))))))) else (replevinref16_Decode.j0 k false (wrap64 (a0_0)) (wrap64 (Int.tdiv (wrap64 (a0_1)) 16)) (Int.tmod (wrap64 (a0_1)) 16) (wrap64 ((wrap64 (a0_2)) + (wrap64 (256 * (wrap64 (a0_3)))))))) else (replevinref16_Decode.j0 k false (wrap64 (a0_0)) (wrap64 (Int.tdiv (wrap64 (a0_1)) 16)) (Int.tmod (wrap64 (a0_1)) 16) (wrap64 ((wrap64 (a0_2)) + (wrap64 (256 * (wrap64 (a0_3))))))))) = some (r1, r2, r3, r4, r5) := h
  clear h
  replace H := Option.bind_eq_some_iff.mp H
  obtain ⟨⟨t268, t269, t270⟩, A20, H⟩ := H
  replace H : (if t270 = 0 then (if t268 < 0 then (replevinref16_Decode.j0 k (decide ((wrap64 ((wrap64 (a0_2)) + (wrap64 (256 * (wrap64 (a0_3)))))) > 32767)) (wrap64 (a0_0)) (wrap64 (Int.tdiv (wrap64 (a0_1)) 16)) (Int.tmod (wrap64 (a0_1)) 16) (wrap64 ((wrap64 (a0_2)) + (wrap64 (256 * (wrap64 (a0_3))))))) else (replevinref16_Decode.j0 k false (wrap64 (a0_0)) (wrap64 (Int.tdiv (wrap64 (a0_1)) 16)) (Int.tmod (wrap64 (a0_1)) 16) (wrap64 ((wrap64 (a0_2)) + (wrap64 (256 * (wrap64 (a0_3)))))))) else (replevinref16_Decode.j0 k false (wrap64 (a0_0)) (wrap64 (Int.tdiv (wrap64 (a0_1)) 16)) (Int.tmod (wrap64 (a0_1)) 16) (wrap64 ((wrap64 (a0_2)) + (wrap64 (256 * (wrap64 (a0_3)))))))) = some (r1, r2, r3, r4, r5) := H
  have A2 := Aside0.mk A20
  clear A20
  have HC3 := Aside0.mk H
  clear H
  go_enter Try.func27, Try.ntmps27
  go_upto_region 3 with (first | ((with_reducible refine gate_dst (N := 1) rfl ?_); refine box_event ?hg (N := 1) ?hd (cs := #[.int .u8 a0_0, .int .u8 a0_1, .int .u8 a0_2, .int .u8 a0_3]) (t := 41) ?hr ?_; (case hd => rfl); (case hg => rfl); (case hr => first | (go_simp; done) | (go_simp; rfl)); intro gb265 hg w4 hbox hb; have n0_ := Aside0.mk (below_step (by repeat (first | (with_reducible first | exact HB.out | apply below_alloc | apply pw_below_drewN | apply below_drew1) | exact HB.out)) hb); have n1_ := Aside0.mk (hbox); have n2_ := Aside0.mk ((by rw [hg]; exact (below_size (by repeat (first | (with_reducible first | exact HB.out | apply below_alloc | apply pw_below_drewN | apply below_drew1) | exact HB.out))) : w.heap.size ≤ gb265)); have n3_ := Aside0.mk ((by rw [hg]; exact (below_size (by repeat (first | (with_reducible first | exact HB.out | apply below_alloc | apply pw_below_drewN | apply below_drew1) | exact HB.out))) : w.heap.size ≤ gb265)); clear HB; have HB := n0_; have BK265 := n1_; have GW265 := n2_; have GE265 := n3_; clear n0_ n1_ n2_ n3_; clear hb hbox hg) | ((with_reducible refine gate_dst (N := 2) rfl ?_); refine box_event ?hg (N := 2) ?hd (cs := #[.int .i64 0, .int .i64 0, .int .i64 0, .int .i64 0]) (t := 23) ?hr ?_; (case hd => rfl); (case hg => rfl); (case hr => first | (go_simp; done) | (go_simp; rfl)); intro gb266 hg w5 hbox hb; have n0_ := Aside0.mk (blk_below (g := gb265) (o := .cells #[.int .u8 a0_0, .int .u8 a0_1, .int .u8 a0_2, .int .u8 a0_3] 41 (0, 0)) (by (with_reducible repeat (first | refine blk_drewN ?_ _ | refine blk_drew ?_ | refine blk_alloc ?_ _)); exact BK265.out) hb); have n1_ := Aside0.mk (below_step (by repeat (first | (with_reducible first | exact HB.out | apply below_alloc | apply pw_below_drewN | apply below_drew1 | refine below_set ?_ GE265.out) | exact HB.out)) hb); have n2_ := Aside0.mk (hbox); have n3_ := Aside0.mk ((by rw [hg]; exact (below_size (by repeat (first | (with_reducible first | exact HB.out | apply below_alloc | apply pw_below_drewN | apply below_drew1 | refine below_set ?_ GE265.out) | exact HB.out))) : w.heap.size ≤ gb266)); have n4_ := Aside0.mk ((by rw [hg]; exact (below_size (by repeat (first | (with_reducible first | exact HB.out | apply below_alloc | apply pw_below_drewN | apply below_drew1 | refine below_set ?_ GE265.out) | exact HB.out))) : w.heap.size ≤ gb266)); have n5_ := Aside0.mk ((by rw [hg]; exact Nat.ne_of_lt (blk_lt (g := gb265) (o := .cells #[.int .u8 a0_0, .int .u8 a0_1, .int .u8 a0_2, .int .u8 a0_3] 41 (0, 0)) (by (with_reducible repeat (first | refine blk_drewN ?_ _ | refine blk_drew ?_ | refine blk_alloc ?_ _)); exact BK265.out)) : gb265 ≠ gb266)); have n6_ := Aside0.mk ((by rw [hg]; exact Nat.ne_of_gt (blk_lt (g := gb265) (o := .cells #[.int .u8 a0_0, .int .u8 a0_1, .int .u8 a0_2, .int .u8 a0_3] 41 (0, 0)) (by (with_reducible repeat (first | refine blk_drewN ?_ _ | refine blk_drew ?_ | refine blk_alloc ?_ _)); exact BK265.out)) : gb266 ≠ gb265)); clear BK265; clear HB; have BK265 := n0_; have HB := n1_; have BK266 := n2_; have GW266 := n3_; have GE266 := n4_; have NB265_266 := n5_; have NB266_265 := n6_; clear n0_ n1_ n2_ n3_ n4_ n5_ n6_; clear hb hbox hg; have hnb6 := NB265_266.out; have hnc6 := NB266_265.out; have hcz7_0 : w5.cell? ⟨gb265, 0, none⟩ = some (.int .u8 a0_0) := (blk_cell BK265.out 0).trans rfl; have hcz7_1 : w5.cell? ⟨gb265, 1, none⟩ = some (.int .u8 a0_1) := (blk_cell BK265.out 1).trans rfl; have hcz7_2 : w5.cell? ⟨gb265, 2, none⟩ = some (.int .u8 a0_2) := (blk_cell BK265.out 2).trans rfl; have hcz7_3 : w5.cell? ⟨gb265, 3, none⟩ = some (.int .u8 a0_3) := (blk_cell BK265.out 3).trans rfl; have hfz7_0 := blk_frozen BK265.out 0; have hfz7_1 := blk_frozen BK265.out 1; have hfz7_2 := blk_frozen BK265.out 2; have hfz7_3 := blk_frozen BK265.out 3) | ((with_reducible refine gate_dst (N := 4) rfl ?_); refine box_event ?hg (N := 4) ?hd (cs := #[.int .i64 0, .int .i64 0, .int .i64 0, .int .i64 0]) (t := 23) ?hr ?_; (case hd => rfl); (case hg => rfl); (case hr => first | (go_simp; done) | (go_simp; rfl)); intro gb267 hg w8 hbox hb; have n0_ := Aside0.mk (blk_below (g := gb265) (o := .cells #[.int .u8 a0_0, .int .u8 a0_1, .int .u8 a0_2, .int .u8 a0_3] 41 (0, 0)) (by (with_reducible repeat (first | refine blk_drewN ?_ _ | refine blk_drew ?_ | refine blk_alloc ?_ _)); exact BK265.out) hb); have n1_ := Aside0.mk (blk_below (g := gb266) (o := .cells #[.int .i64 0, .int .i64 0, .int .i64 0, .int .i64 0] 23 (0, 0)) (by (with_reducible repeat (first | refine blk_drewN ?_ _ | refine blk_drew ?_ | refine blk_alloc ?_ _)); exact BK266.out) hb); have n2_ := Aside0.mk (below_step (by repeat (first | (with_reducible first | exact HB.out | apply below_alloc | apply pw_below_drewN | apply below_drew1 | refine below_set ?_ GE265.out | refine below_set ?_ GE266.out) | exact HB.out)) hb); have n3_ := Aside0.mk (hbox); have n4_ := Aside0.mk ((by rw [hg]; exact (below_size (by repeat (first | (with_reducible first | exact HB.out | apply below_alloc | apply pw_below_drewN | apply below_drew1 | refine below_set ?_ GE265.out | refine below_set ?_ GE266.out) | exact HB.out))) : w.heap.size ≤ gb267)); have n5_ := Aside0.mk ((by rw [hg]; exact (below_size (by repeat (first | (with_reducible first | exact HB.out | apply below_alloc | apply pw_below_drewN | apply below_drew1 | refine below_set ?_ GE265.out | refine below_set ?_ GE266.out) | exact HB.out))) : w.heap.size ≤ gb267)); have n6_ := Aside0.mk ((by rw [hg]; exact Nat.ne_of_lt (blk_lt (g := gb265) (o := .cells #[.int .u8 a0_0, .int .u8 a0_1, .int .u8 a0_2, .int .u8 a0_3] 41 (0, 0)) (by (with_reducible repeat (first | refine blk_drewN ?_ _ | refine blk_drew ?_ | refine blk_alloc ?_ _)); exact BK265.out)) : gb265 ≠ gb267)); have n7_ := Aside0.mk ((by rw [hg]; exact Nat.ne_of_gt (blk_lt (g := gb265) (o := .cells #[.int .u8 a0_0, .int .u8 a0_1, .int .u8 a0_2, .int .u8 a0_3] 41 (0, 0)) (by (with_reducible repeat (first | refine blk_drewN ?_ _ | refine blk_drew ?_ | refine blk_alloc ?_ _)); exact BK265.out)) : gb267 ≠ gb265)); have n8_ := Aside0.mk ((by rw [hg]; exact Nat.ne_of_lt (blk_lt (g := gb266) (o := .cells #[.int .i64 0, .int .i64 0, .int .i64 0, .int .i64 0] 23 (0, 0)) (by (with_reducible repeat (first | refine blk_drewN ?_ _ | refine blk_drew ?_ | refine blk_alloc ?_ _)); exact BK266.out)) : gb266 ≠ gb267)); have n9_ := Aside0.mk ((by rw [hg]; exact Nat.ne_of_gt (blk_lt (g := gb266) (o := .cells #[.int .i64 0, .int .i64 0, .int .i64 0, .int .i64 0] 23 (0, 0)) (by (with_reducible repeat (first | refine blk_drewN ?_ _ | refine blk_drew ?_ | refine blk_alloc ?_ _)); exact BK266.out)) : gb267 ≠ gb266)); clear BK265; clear BK266; clear HB; have BK265 := n0_; have BK266 := n1_; have HB := n2_; have BK267 := n3_; have GW267 := n4_; have GE267 := n5_; have NB265_267 := n6_; have NB267_265 := n7_; have NB266_267 := n8_; have NB267_266 := n9_; clear n0_ n1_ n2_ n3_ n4_ n5_ n6_ n7_ n8_ n9_; clear hb hbox hg; have hnb9 := NB267_265.out; have hnc9 := NB265_267.out; have hnb10 := NB267_266.out; have hnc10 := NB266_267.out; have hcz11_0 : w8.cell? ⟨gb267, 0, none⟩ = some (.int .i64 0) := (blk_cell BK267.out 0).trans rfl; have hcz11_1 : w8.cell? ⟨gb267, 1, none⟩ = some (.int .i64 0) := (blk_cell BK267.out 1).trans rfl; have hcz11_2 : w8.cell? ⟨gb267, 2, none⟩ = some (.int .i64 0) := (blk_cell BK267.out 2).trans rfl; have hcz11_3 : w8.cell? ⟨gb267, 3, none⟩ = some (.int .i64 0) := (blk_cell BK267.out 3).trans rfl; have hfz11_0 := blk_frozen BK267.out 0; have hfz11_1 := blk_frozen BK267.out 1; have hfz11_2 := blk_frozen BK267.out 2; have hfz11_3 := blk_frozen BK267.out 3) | ((with_reducible refine gate_callee (f := 33) rfl ?_); refine goesL_ (some 31) rfl rfl Try.func33 (by kernel_rfl) rfl #[.int .i64 (wrap64 (a0_0))] rfl (by (try simp only [List.map_toArray, List.map_cons, List.map_nil]); first | done | rfl | (simp only [List.length_drop, List.length_take]; rfl)) ?_; (with_reducible refine (replevinref16_Limits.calls k (wrap64 (a0_0)) t268 t269 t270 _ A2.out).mono ?_); rintro e w' ⟨rfl, ⟨nd, rfl⟩⟩; refine ⟨_, rfl, ?_⟩))
  (try simp only [Act.put, List.setIfInBounds_toArray, List.set_cons_zero, List.set_cons_succ])
  go_cut [45] (fun v45 wc => ∃ (kq : Nat) (x45_2 : Bool), v45 = .bool x45_2 ∧ Aside0 (replevinref16_Decode.j0 kq x45_2 (wrap64 (a0_0)) (wrap64 (Int.tdiv (wrap64 (a0_1)) 16)) (Int.tmod (wrap64 (a0_1)) 16) (wrap64 ((wrap64 (a0_2)) + (wrap64 (256 * (wrap64 (a0_3)))))) = some (r1, r2, r3, r4, r5)) ∧ Aside0 (kq ≤ k) ∧ Aside0 (wc.heap[gb265]? = some (.cells #[.int .u8 a0_0, .int .u8 a0_1, .int .u8 a0_2, .int .u8 a0_3] 41 (0, 0))) ∧ Aside0 (wc.heap[gb266]? = some (.cells #[.int .i64 0, .int .i64 0, .int .i64 0, .int .i64 0] 23 (0, 0))) ∧ Aside0 (wc.heap[gb267]? = some (.cells #[.int .i64 (wrap64 (a0_0)), .int .i64 (wrap64 (Int.tdiv (wrap64 (a0_1)) 16)), .int .i64 (Int.tmod (wrap64 (a0_1)) 16), .int .i64 (wrap64 ((wrap64 (a0_2)) + (wrap64 (256 * (wrap64 (a0_3))))))] 23 (0, 0))) ∧ Aside0 (Below w.heap.size w wc))
  case first =>
    have H := HC3.out
    clear HC3
    by_cases c12 : t270 = 0
    · rw [if_pos c12] at H
      have c12b0 : (t270 == 0) = true := beq_iff_eq.mpr c12
      have c12b1 : (t270 != 0) = false := bne_eq_false_iff_eq.mpr c12
      clear c12
      (first | rw [c12b0] | (simp only [i64_w, i32_w]; rw [c12b0]) | skip)
      by_cases c13 : t268 < 0
      · rw [if_pos c13] at H
        have c13b0 : decide (t268 < 0) = true := decide_eq_true c13
        clear c13
        have H' := Aside0.mk H
        clear H
        have hnb14 := NB267_265.out
        have hnc14 := NB265_267.out
        have hnb15 := NB267_266.out
        have hnc15 := NB266_267.out
        have hcz16_0 : w8.cell? ⟨gb267, 0, none⟩ = some (.int .i64 0) := (blk_cell BK267.out 0).trans rfl
        have hcz16_1 : w8.cell? ⟨gb267, 1, none⟩ = some (.int .i64 0) := (blk_cell BK267.out 1).trans rfl
        have hcz16_2 : w8.cell? ⟨gb267, 2, none⟩ = some (.int .i64 0) := (blk_cell BK267.out 2).trans rfl
        have hcz16_3 : w8.cell? ⟨gb267, 3, none⟩ = some (.int .i64 0) := (blk_cell BK267.out 3).trans rfl
        have hfz16_0 := blk_frozen BK267.out 0
        have hfz16_1 := blk_frozen BK267.out 1
        have hfz16_2 := blk_frozen BK267.out 2
        have hfz16_3 := blk_frozen BK267.out 3
        go_wp2
        go_meet
        case rel => exact ⟨_, (decide ((wrap64 ((wrap64 (a0_2)) + (wrap64 (256 * (wrap64 (a0_3)))))) > 32767)), (by first | rfl | (simp; done) | (simp [*]; done)), H', ⟨by first | omega | exact Nat.le_refl _⟩, ⟨by (with_reducible repeat (first | refine blk_drewN ?_ _ | refine blk_drew ?_ | refine blk_alloc ?_ _)); refine blk_far ?_ NB265_267.out _; (with_reducible repeat (first | refine blk_drewN ?_ _ | refine blk_drew ?_ | refine blk_alloc ?_ _)); refine blk_far ?_ NB265_267.out _; (with_reducible repeat (first | refine blk_drewN ?_ _ | refine blk_drew ?_ | refine blk_alloc ?_ _)); refine blk_far ?_ NB265_267.out _; (with_reducible repeat (first | refine blk_drewN ?_ _ | refine blk_drew ?_ | refine blk_alloc ?_ _)); refine blk_far ?_ NB265_267.out _; (with_reducible repeat (first | refine blk_drewN ?_ _ | refine blk_drew ?_ | refine blk_alloc ?_ _)); exact BK265.out⟩, ⟨by (with_reducible repeat (first | refine blk_drewN ?_ _ | refine blk_drew ?_ | refine blk_alloc ?_ _)); refine blk_far ?_ NB266_267.out _; (with_reducible repeat (first | refine blk_drewN ?_ _ | refine blk_drew ?_ | refine blk_alloc ?_ _)); refine blk_far ?_ NB266_267.out _; (with_reducible repeat (first | refine blk_drewN ?_ _ | refine blk_drew ?_ | refine blk_alloc ?_ _)); refine blk_far ?_ NB266_267.out _; (with_reducible repeat (first | refine blk_drewN ?_ _ | refine blk_drew ?_ | refine blk_alloc ?_ _)); refine blk_far ?_ NB266_267.out _; (with_reducible repeat (first | refine blk_drewN ?_ _ | refine blk_drew ?_ | refine blk_alloc ?_ _)); exact BK266.out⟩, ⟨by (with_reducible repeat (first | refine blk_drewN ?_ _ | refine blk_drew ?_ | refine blk_alloc ?_ _)); refine blk_put (cs := #[.int .i64 (wrap64 (a0_0)), .int .i64 (wrap64 (Int.tdiv (wrap64 (a0_1)) 16)), .int .i64 (Int.tmod (wrap64 (a0_1)) 16), .int .i64 0]) ?_ 3 _ rfl; (with_reducible repeat (first | refine blk_drewN ?_ _ | refine blk_drew ?_ | refine blk_alloc ?_ _)); refine blk_put (cs := #[.int .i64 (wrap64 (a0_0)), .int .i64 (wrap64 (Int.tdiv (wrap64 (a0_1)) 16)), .int .i64 0, .int .i64 0]) ?_ 2 _ rfl; (with_reducible repeat (first | refine blk_drewN ?_ _ | refine blk_drew ?_ | refine blk_alloc ?_ _)); refine blk_put (cs := #[.int .i64 (wrap64 (a0_0)), .int .i64 0, .int .i64 0, .int .i64 0]) ?_ 1 _ rfl; (with_reducible repeat (first | refine blk_drewN ?_ _ | refine blk_drew ?_ | refine blk_alloc ?_ _)); refine blk_put (cs := #[.int .i64 0, .int .i64 0, .int .i64 0, .int .i64 0]) ?_ 0 _ rfl; (with_reducible repeat (first | refine blk_drewN ?_ _ | refine blk_drew ?_ | refine blk_alloc ?_ _)); exact BK267.out⟩, ⟨by repeat (first | (with_reducible first | exact HB.out | apply below_alloc | apply pw_below_drewN | apply below_drew1 | refine below_set ?_ GE265.out | refine below_set ?_ GE266.out | refine below_set ?_ GE267.out) | exact HB.out)⟩⟩
      · rw [if_neg c13] at H
        have c13b0 : decide (t268 < 0) = false := decide_eq_false c13
        clear c13
        have H' := Aside0.mk H
        clear H
        go_wp2
        go_meet
        case rel => exact ⟨_, (false), (by first | rfl | (simp; done) | (simp [*]; done)), H', ⟨by first | omega | exact Nat.le_refl _⟩, ⟨by (with_reducible repeat (first | refine blk_drewN ?_ _ | refine blk_drew ?_ | refine blk_alloc ?_ _)); refine blk_far ?_ NB265_267.out _; (with_reducible repeat (first | refine blk_drewN ?_ _ | refine blk_drew ?_ | refine blk_alloc ?_ _)); refine blk_far ?_ NB265_267.out _; (with_reducible repeat (first | refine blk_drewN ?_ _ | refine blk_drew ?_ | refine blk_alloc ?_ _)); refine blk_far ?_ NB265_267.out _; (with_reducible repeat (first | refine blk_drewN ?_ _ | refine blk_drew ?_ | refine blk_alloc ?_ _)); refine blk_far ?_ NB265_267.out _; (with_reducible repeat (first | refine blk_drewN ?_ _ | refine blk_drew ?_ | refine blk_alloc ?_ _)); exact BK265.out⟩, ⟨by (with_reducible repeat (first | refine blk_drewN ?_ _ | refine blk_drew ?_ | refine blk_alloc ?_ _)); refine blk_far ?_ NB266_267.out _; (with_reducible repeat (first | refine blk_drewN ?_ _ | refine blk_drew ?_ | refine blk_alloc ?_ _)); refine blk_far ?_ NB266_267.out _; (with_reducible repeat (first | refine blk_drewN ?_ _ | refine blk_drew ?_ | refine blk_alloc ?_ _)); refine blk_far ?_ NB266_267.out _; (with_reducible repeat (first | refine blk_drewN ?_ _ | refine blk_drew ?_ | refine blk_alloc ?_ _)); refine blk_far ?_ NB266_267.out _; (with_reducible repeat (first | refine blk_drewN ?_ _ | refine blk_drew ?_ | refine blk_alloc ?_ _)); exact BK266.out⟩, ⟨by (with_reducible repeat (first | refine blk_drewN ?_ _ | refine blk_drew ?_ | refine blk_alloc ?_ _)); refine blk_put (cs := #[.int .i64 (wrap64 (a0_0)), .int .i64 (wrap64 (Int.tdiv (wrap64 (a0_1)) 16)), .int .i64 (Int.tmod (wrap64 (a0_1)) 16), .int .i64 0]) ?_ 3 _ rfl; (with_reducible repeat (first | refine blk_drewN ?_ _ | refine blk_drew ?_ | refine blk_alloc ?_ _)); refine blk_put (cs := #[.int .i64 (wrap64 (a0_0)), .int .i64 (wrap64 (Int.tdiv (wrap64 (a0_1)) 16)), .int .i64 0, .int .i64 0]) ?_ 2 _ rfl; (with_reducible repeat (first | refine blk_drewN ?_ _ | refine blk_drew ?_ | refine blk_alloc ?_ _)); refine blk_put (cs := #[.int .i64 (wrap64 (a0_0)), .int .i64 0, .int .i64 0, .int .i64 0]) ?_ 1 _ rfl; (with_reducible repeat (first | refine blk_drewN ?_ _ | refine blk_drew ?_ | refine blk_alloc ?_ _)); refine blk_put (cs := #[.int .i64 0, .int .i64 0, .int .i64 0, .int .i64 0]) ?_ 0 _ rfl; (with_reducible repeat (first | refine blk_drewN ?_ _ | refine blk_drew ?_ | refine blk_alloc ?_ _)); exact BK267.out⟩, ⟨by repeat (first | (with_reducible first | exact HB.out | apply below_alloc | apply pw_below_drewN | apply below_drew1 | refine below_set ?_ GE265.out | refine below_set ?_ GE266.out | refine below_set ?_ GE267.out) | exact HB.out)⟩⟩
    · rw [if_neg c12] at H
      have c12b0 : (t270 == 0) = false := beq_eq_false_iff_ne.mpr c12
      have c12b1 : (t270 != 0) = true := bne_iff_ne.mpr c12
      (first | rw [c12b0] | (simp only [i64_w, i32_w]; rw [c12b0]) | skip)
      have H' := Aside0.mk H
      clear H
      go_wp2
      go_meet
      case rel => exact ⟨_, (false), (by first | rfl | (simp; done) | (simp [*]; done)), H', ⟨by first | omega | exact Nat.le_refl _⟩, ⟨by (with_reducible repeat (first | refine blk_drewN ?_ _ | refine blk_drew ?_ | refine blk_alloc ?_ _)); refine blk_far ?_ NB265_267.out _; (with_reducible repeat (first | refine blk_drewN ?_ _ | refine blk_drew ?_ | refine blk_alloc ?_ _)); refine blk_far ?_ NB265_267.out _; (with_reducible repeat (first | refine blk_drewN ?_ _ | refine blk_drew ?_ | refine blk_alloc ?_ _)); refine blk_far ?_ NB265_267.out _; (with_reducible repeat (first | refine blk_drewN ?_ _ | refine blk_drew ?_ | refine blk_alloc ?_ _)); refine blk_far ?_ NB265_267.out _; (with_reducible repeat (first | refine blk_drewN ?_ _ | refine blk_drew ?_ | refine blk_alloc ?_ _)); exact BK265.out⟩, ⟨by (with_reducible repeat (first | refine blk_drewN ?_ _ | refine blk_drew ?_ | refine blk_alloc ?_ _)); refine blk_far ?_ NB266_267.out _; (with_reducible repeat (first | refine blk_drewN ?_ _ | refine blk_drew ?_ | refine blk_alloc ?_ _)); refine blk_far ?_ NB266_267.out _; (with_reducible repeat (first | refine blk_drewN ?_ _ | refine blk_drew ?_ | refine blk_alloc ?_ _)); refine blk_far ?_ NB266_267.out _; (with_reducible repeat (first | refine blk_drewN ?_ _ | refine blk_drew ?_ | refine blk_alloc ?_ _)); refine blk_far ?_ NB266_267.out _; (with_reducible repeat (first | refine blk_drewN ?_ _ | refine blk_drew ?_ | refine blk_alloc ?_ _)); exact BK266.out⟩, ⟨by (with_reducible repeat (first | refine blk_drewN ?_ _ | refine blk_drew ?_ | refine blk_alloc ?_ _)); refine blk_put (cs := #[.int .i64 (wrap64 (a0_0)), .int .i64 (wrap64 (Int.tdiv (wrap64 (a0_1)) 16)), .int .i64 (Int.tmod (wrap64 (a0_1)) 16), .int .i64 0]) ?_ 3 _ rfl; (with_reducible repeat (first | refine blk_drewN ?_ _ | refine blk_drew ?_ | refine blk_alloc ?_ _)); refine blk_put (cs := #[.int .i64 (wrap64 (a0_0)), .int .i64 (wrap64 (Int.tdiv (wrap64 (a0_1)) 16)), .int .i64 0, .int .i64 0]) ?_ 2 _ rfl; (with_reducible repeat (first | refine blk_drewN ?_ _ | refine blk_drew ?_ | refine blk_alloc ?_ _)); refine blk_put (cs := #[.int .i64 (wrap64 (a0_0)), .int .i64 0, .int .i64 0, .int .i64 0]) ?_ 1 _ rfl; (with_reducible repeat (first | refine blk_drewN ?_ _ | refine blk_drew ?_ | refine blk_alloc ?_ _)); refine blk_put (cs := #[.int .i64 0, .int .i64 0, .int .i64 0, .int .i64 0]) ?_ 0 _ rfl; (with_reducible repeat (first | refine blk_drewN ?_ _ | refine blk_drew ?_ | refine blk_alloc ?_ _)); exact BK267.out⟩, ⟨by repeat (first | (with_reducible first | exact HB.out | apply below_alloc | apply pw_below_drewN | apply below_drew1 | refine below_set ?_ GE265.out | refine below_set ?_ GE266.out | refine below_set ?_ GE267.out) | exact HB.out)⟩⟩
  case rest =>
    clear HC3
    try clear c1
    try clear c2
    try clear p2
    try clear c3
    try clear c6
    try clear p6
    try clear c9
    try clear c10
    try clear c12
    try clear c12b0
    try clear c12b1
    try clear c13
    try clear c13b0
    try clear c14
    try clear c15
    try clear hcz11_0
    try clear hcz11_1
    try clear hcz11_2
    try clear hcz11_3
    try clear hcz16_0
    try clear hcz16_1
    try clear hcz16_2
    try clear hcz16_3
    try clear hcz7_0
    try clear hcz7_1
    try clear hcz7_2
    try clear hcz7_3
    try clear hfz11_0
    try clear hfz11_1
    try clear hfz11_2
    try clear hfz11_3
    try clear hfz16_0
    try clear hfz16_1
    try clear hfz16_2
    try clear hfz16_3
    try clear hfz7_0
    try clear hfz7_1
    try clear hfz7_2
    try clear hfz7_3
    obtain ⟨kq, x45_2, rfl, HA, HJ2, BK265, BK266, BK267, HB⟩ := hcut
    cases kq with
    | zero => exact absurd HA.out (by simp [replevinref16_Decode.j0])
    | succ kj2 =>
      have H := HA.out
      clear HA
      simp only [replevinref16_Decode.j0] at H
      by_cases c17 : x45_2 = true
      · subst c17
        have H1 : ((replevinref16_Check.f kj2 (wrap64 (a0_0)) (wrap64 (Int.tdiv (wrap64 (a0_1)) 16)) (Int.tmod (wrap64 (a0_1)) 16) (wrap64 ((wrap64 ((wrap64 (a0_2)) + (wrap64 (256 * (wrap64 (a0_3)))))) - 65536))).bind fun t271 => (if t271 = 0 then (some ((wrap64 (a0_0)), (wrap64 (Int.tdiv (wrap64 (a0_1)) 16)), (Int.tmod (wrap64 (a0_1)) 16), wrap64 ((wrap64 ((wrap64 (a0_2)) + (wrap64 (256 * (wrap64 (a0_3)))))) - 65536), 0)) else (some (0, 0, 0, 0, 24)))) = some (r1, r2, r3, r4, r5) := by rw [if_pos rfl] at H; exact H
        clear H
        have H := H1
        clear H1
        replace H := Option.bind_eq_some_iff.mp H
        obtain ⟨t271, A180, H⟩ := H
        replace H : (if t271 = 0 then (some ((wrap64 (a0_0)), (wrap64 (Int.tdiv (wrap64 (a0_1)) 16)), (Int.tmod (wrap64 (a0_1)) 16), wrap64 ((wrap64 ((wrap64 (a0_2)) + (wrap64 (256 * (wrap64 (a0_3)))))) - 65536), 0)) else (some (0, 0, 0, 0, 24))) = some (r1, r2, r3, r4, r5) := H
        have A18 := Aside0.mk A180
        clear A180
        by_cases c19 : t271 = 0
        · rw [if_pos c19] at H
          have c19b0 : (t271 == 0) = true := beq_iff_eq.mpr c19
          have c19b1 : (t271 != 0) = false := bne_eq_false_iff_eq.mpr c19
          clear c19
          simp only [Option.some.injEq, Prod.mk.injEq] at H
          obtain ⟨rfl, rfl, rfl, rfl, rfl⟩ := H
          have hnb20 := NB267_265.out
          have hnc20 := NB265_267.out
          have hnb21 := NB267_266.out
          have hnc21 := NB266_267.out
          have hcz22_0 : wc.cell? ⟨gb267, 0, none⟩ = some (.int .i64 (wrap64 (a0_0))) := (blk_cell BK267.out 0).trans rfl
          have hcz22_1 : wc.cell? ⟨gb267, 1, none⟩ = some (.int .i64 (wrap64 (Int.tdiv (wrap64 (a0_1)) 16))) := (blk_cell BK267.out 1).trans rfl
          have hcz22_2 : wc.cell? ⟨gb267, 2, none⟩ = some (.int .i64 (Int.tmod (wrap64 (a0_1)) 16)) := (blk_cell BK267.out 2).trans rfl
          have hcz22_3 : wc.cell? ⟨gb267, 3, none⟩ = some (.int .i64 (wrap64 ((wrap64 (a0_2)) + (wrap64 (256 * (wrap64 (a0_3))))))) := (blk_cell BK267.out 3).trans rfl
          have hfz22_0 := blk_frozen BK267.out 0
          have hfz22_1 := blk_frozen BK267.out 1
          have hfz22_2 := blk_frozen BK267.out 2
          have hfz22_3 := blk_frozen BK267.out 3
          go_wp2_with (first | ((with_reducible refine gate_callee (f := 16) rfl ?_); refine goesL_ (some 51) rfl rfl Try.func16 (by kernel_rfl) rfl #[.agg #[.int .i64 (wrap64 (a0_0)), .int .i64 (wrap64 (Int.tdiv (wrap64 (a0_1)) 16)), .int .i64 (Int.tmod (wrap64 (a0_1)) 16), .int .i64 (wrap64 ((wrap64 ((wrap64 (a0_2)) + (wrap64 (256 * (wrap64 (a0_3)))))) - 65536))]] rfl (by (try simp only [List.map_toArray, List.map_cons, List.map_nil]); first | done | rfl | (simp only [List.length_drop, List.length_take]; rfl)) ?_; (with_reducible refine (replevinref16_Check.calls kj2 (wrap64 (a0_0)) (wrap64 (Int.tdiv (wrap64 (a0_1)) 16)) (Int.tmod (wrap64 (a0_1)) 16) (wrap64 ((wrap64 ((wrap64 (a0_2)) + (wrap64 (256 * (wrap64 (a0_3)))))) - 65536)) t271 _ A18.out).mono ?_); rintro e w23 ⟨rfl, hb⟩; refine ⟨_, rfl, ?_⟩; have n0_ := Aside0.mk (blk_below (g := gb265) (o := .cells #[.int .u8 a0_0, .int .u8 a0_1, .int .u8 a0_2, .int .u8 a0_3] 41 (0, 0)) (by (with_reducible repeat (first | refine blk_drewN ?_ _ | refine blk_drew ?_ | refine blk_alloc ?_ _)); refine blk_far ?_ NB265_267.out _; (with_reducible repeat (first | refine blk_drewN ?_ _ | refine blk_drew ?_ | refine blk_alloc ?_ _)); exact BK265.out) hb); have n1_ := Aside0.mk (blk_below (g := gb266) (o := .cells #[.int .i64 0, .int .i64 0, .int .i64 0, .int .i64 0] 23 (0, 0)) (by (with_reducible repeat (first | refine blk_drewN ?_ _ | refine blk_drew ?_ | refine blk_alloc ?_ _)); refine blk_far ?_ NB266_267.out _; (with_reducible repeat (first | refine blk_drewN ?_ _ | refine blk_drew ?_ | refine blk_alloc ?_ _)); exact BK266.out) hb); have n2_ := Aside0.mk (blk_below (g := gb267) (o := .cells #[.int .i64 (wrap64 (a0_0)), .int .i64 (wrap64 (Int.tdiv (wrap64 (a0_1)) 16)), .int .i64 (Int.tmod (wrap64 (a0_1)) 16), .int .i64 (wrap64 ((wrap64 ((wrap64 (a0_2)) + (wrap64 (256 * (wrap64 (a0_3)))))) - 65536))] 23 (0, 0)) (by (with_reducible repeat (first | refine blk_drewN ?_ _ | refine blk_drew ?_ | refine blk_alloc ?_ _)); refine blk_put (cs := #[.int .i64 (wrap64 (a0_0)), .int .i64 (wrap64 (Int.tdiv (wrap64 (a0_1)) 16)), .int .i64 (Int.tmod (wrap64 (a0_1)) 16), .int .i64 (wrap64 ((wrap64 (a0_2)) + (wrap64 (256 * (wrap64 (a0_3))))))]) ?_ 3 _ rfl; (with_reducible repeat (first | refine blk_drewN ?_ _ | refine blk_drew ?_ | refine blk_alloc ?_ _)); exact BK267.out) hb); have n3_ := Aside0.mk (below_step (by repeat (first | (with_reducible first | exact HB.out | apply below_alloc | apply pw_below_drewN | apply below_drew1 | refine below_set ?_ GE265.out | refine below_set ?_ GE266.out | refine below_set ?_ GE267.out) | exact HB.out)) hb); clear BK265; clear BK266; clear BK267; clear HB; have BK265 := n0_; have BK266 := n1_; have BK267 := n2_; have HB := n3_; clear n0_ n1_ n2_ n3_; (try clear hb); (try clear hb2); (try clear hk); (try clear hi); have hcz24_0 : w23.cell? ⟨gb267, 0, none⟩ = some (.int .i64 (wrap64 (a0_0))) := (blk_cell BK267.out 0).trans rfl; have hcz24_1 : w23.cell? ⟨gb267, 1, none⟩ = some (.int .i64 (wrap64 (Int.tdiv (wrap64 (a0_1)) 16))) := (blk_cell BK267.out 1).trans rfl; have hcz24_2 : w23.cell? ⟨gb267, 2, none⟩ = some (.int .i64 (Int.tmod (wrap64 (a0_1)) 16)) := (blk_cell BK267.out 2).trans rfl; have hcz24_3 : w23.cell? ⟨gb267, 3, none⟩ = some (.int .i64 (wrap64 ((wrap64 ((wrap64 (a0_2)) + (wrap64 (256 * (wrap64 (a0_3)))))) - 65536))) := (blk_cell BK267.out 3).trans rfl; have hfz24_0 := blk_frozen BK267.out 0; have hfz24_1 := blk_frozen BK267.out 1; have hfz24_2 := blk_frozen BK267.out 2; have hfz24_3 := blk_frozen BK267.out 3; have hnb25 := NB266_265.out; have hnc25 := NB265_266.out; have hcz26_0 : w23.cell? ⟨gb266, 0, none⟩ = some (.int .i64 0) := (blk_cell BK266.out 0).trans rfl; have hcz26_1 : w23.cell? ⟨gb266, 1, none⟩ = some (.int .i64 0) := (blk_cell BK266.out 1).trans rfl; have hcz26_2 : w23.cell? ⟨gb266, 2, none⟩ = some (.int .i64 0) := (blk_cell BK266.out 2).trans rfl; have hcz26_3 : w23.cell? ⟨gb266, 3, none⟩ = some (.int .i64 0) := (blk_cell BK266.out 3).trans rfl; have hfz26_0 := blk_frozen BK266.out 0; have hfz26_1 := blk_frozen BK266.out 1; have hfz26_2 := blk_frozen BK266.out 2; have hfz26_3 := blk_frozen BK266.out 3))
          refine bodyPost_ret (results_ct rfl _ _ gb266 23 #[.int .i64 (wrap64 (a0_0)), .int .i64 (wrap64 (Int.tdiv (wrap64 (a0_1)) 16)), .int .i64 (Int.tmod (wrap64 (a0_1)) 16), .int .i64 (wrap64 ((wrap64 ((wrap64 (a0_2)) + (wrap64 (256 * (wrap64 (a0_3)))))) - 65536))] (0, 0) _ rfl (by (with_reducible repeat (first | refine blk_drewN ?_ _ | refine blk_drew ?_ | refine blk_alloc ?_ _)); refine blk_put (cs := #[.int .i64 (wrap64 (a0_0)), .int .i64 (wrap64 (Int.tdiv (wrap64 (a0_1)) 16)), .int .i64 (Int.tmod (wrap64 (a0_1)) 16), .int .i64 0]) ?_ 3 _ rfl; (with_reducible repeat (first | refine blk_drewN ?_ _ | refine blk_drew ?_ | refine blk_alloc ?_ _)); refine blk_put (cs := #[.int .i64 (wrap64 (a0_0)), .int .i64 (wrap64 (Int.tdiv (wrap64 (a0_1)) 16)), .int .i64 0, .int .i64 0]) ?_ 2 _ rfl; (with_reducible repeat (first | refine blk_drewN ?_ _ | refine blk_drew ?_ | refine blk_alloc ?_ _)); refine blk_put (cs := #[.int .i64 (wrap64 (a0_0)), .int .i64 0, .int .i64 0, .int .i64 0]) ?_ 1 _ rfl; (with_reducible repeat (first | refine blk_drewN ?_ _ | refine blk_drew ?_ | refine blk_alloc ?_ _)); refine blk_put (cs := #[.int .i64 0, .int .i64 0, .int .i64 0, .int .i64 0]) ?_ 0 _ rfl; (with_reducible repeat (first | refine blk_drewN ?_ _ | refine blk_drew ?_ | refine blk_alloc ?_ _)); exact BK266.out) Try.underlying23 rfl (by kernel_rfl)) rfl ?_
          exact ⟨by first | rfl | (simp [errW_none, errW_some] <;> rfl) | (simp [*, errW_none, errW_some] <;> rfl), by repeat (first | (with_reducible first | exact HB.out | apply below_alloc | apply pw_below_drewN | apply below_drew1 | refine below_set ?_ GE265.out | refine below_set ?_ GE266.out | refine below_set ?_ GE267.out) | exact HB.out)⟩
        · rw [if_neg c19] at H
          have c19b0 : (t271 == 0) = false := beq_eq_false_iff_ne.mpr c19
          have c19b1 : (t271 != 0) = true := bne_iff_ne.mpr c19
          simp only [Option.some.injEq, Prod.mk.injEq] at H
          obtain ⟨rfl, rfl, rfl, rfl, rfl⟩ := H
          have hnb27 := NB267_265.out
          have hnc27 := NB265_267.out
          have hnb28 := NB267_266.out
          have hnc28 := NB266_267.out
          have hcz29_0 : wc.cell? ⟨gb267, 0, none⟩ = some (.int .i64 (wrap64 (a0_0))) := (blk_cell BK267.out 0).trans rfl
          have hcz29_1 : wc.cell? ⟨gb267, 1, none⟩ = some (.int .i64 (wrap64 (Int.tdiv (wrap64 (a0_1)) 16))) := (blk_cell BK267.out 1).trans rfl
          have hcz29_2 : wc.cell? ⟨gb267, 2, none⟩ = some (.int .i64 (Int.tmod (wrap64 (a0_1)) 16)) := (blk_cell BK267.out 2).trans rfl
          have hcz29_3 : wc.cell? ⟨gb267, 3, none⟩ = some (.int .i64 (wrap64 ((wrap64 (a0_2)) + (wrap64 (256 * (wrap64 (a0_3))))))) := (blk_cell BK267.out 3).trans rfl
          have hfz29_0 := blk_frozen BK267.out 0
          have hfz29_1 := blk_frozen BK267.out 1
          have hfz29_2 := blk_frozen BK267.out 2
          have hfz29_3 := blk_frozen BK267.out 3
          go_wp2_with (first | ((with_reducible refine gate_callee (f := 16) rfl ?_); refine goesL_ (some 51) rfl rfl Try.func16 (by kernel_rfl) rfl #[.agg #[.int .i64 (wrap64 (a0_0)), .int .i64 (wrap64 (Int.tdiv (wrap64 (a0_1)) 16)), .int .i64 (Int.tmod (wrap64 (a0_1)) 16), .int .i64 (wrap64 ((wrap64 ((wrap64 (a0_2)) + (wrap64 (256 * (wrap64 (a0_3)))))) - 65536))]] rfl (by (try simp only [List.map_toArray, List.map_cons, List.map_nil]); first | done | rfl | (simp only [List.length_drop, List.length_take]; rfl)) ?_; (with_reducible refine (replevinref16_Check.calls kj2 (wrap64 (a0_0)) (wrap64 (Int.tdiv (wrap64 (a0_1)) 16)) (Int.tmod (wrap64 (a0_1)) 16) (wrap64 ((wrap64 ((wrap64 (a0_2)) + (wrap64 (256 * (wrap64 (a0_3)))))) - 65536)) t271 _ A18.out).mono ?_); rintro e w30 ⟨rfl, hb⟩; refine ⟨_, rfl, ?_⟩; have n0_ := Aside0.mk (blk_below (g := gb265) (o := .cells #[.int .u8 a0_0, .int .u8 a0_1, .int .u8 a0_2, .int .u8 a0_3] 41 (0, 0)) (by (with_reducible repeat (first | refine blk_drewN ?_ _ | refine blk_drew ?_ | refine blk_alloc ?_ _)); refine blk_far ?_ NB265_267.out _; (with_reducible repeat (first | refine blk_drewN ?_ _ | refine blk_drew ?_ | refine blk_alloc ?_ _)); exact BK265.out) hb); have n1_ := Aside0.mk (blk_below (g := gb266) (o := .cells #[.int .i64 0, .int .i64 0, .int .i64 0, .int .i64 0] 23 (0, 0)) (by (with_reducible repeat (first | refine blk_drewN ?_ _ | refine blk_drew ?_ | refine blk_alloc ?_ _)); refine blk_far ?_ NB266_267.out _; (with_reducible repeat (first | refine blk_drewN ?_ _ | refine blk_drew ?_ | refine blk_alloc ?_ _)); exact BK266.out) hb); have n2_ := Aside0.mk (blk_below (g := gb267) (o := .cells #[.int .i64 (wrap64 (a0_0)), .int .i64 (wrap64 (Int.tdiv (wrap64 (a0_1)) 16)), .int .i64 (Int.tmod (wrap64 (a0_1)) 16), .int .i64 (wrap64 ((wrap64 ((wrap64 (a0_2)) + (wrap64 (256 * (wrap64 (a0_3)))))) - 65536))] 23 (0, 0)) (by (with_reducible repeat (first | refine blk_drewN ?_ _ | refine blk_drew ?_ | refine blk_alloc ?_ _)); refine blk_put (cs := #[.int .i64 (wrap64 (a0_0)), .int .i64 (wrap64 (Int.tdiv (wrap64 (a0_1)) 16)), .int .i64 (Int.tmod (wrap64 (a0_1)) 16), .int .i64 (wrap64 ((wrap64 (a0_2)) + (wrap64 (256 * (wrap64 (a0_3))))))]) ?_ 3 _ rfl; (with_reducible repeat (first | refine blk_drewN ?_ _ | refine blk_drew ?_ | refine blk_alloc ?_ _)); exact BK267.out) hb); have n3_ := Aside0.mk (below_step (by repeat (first | (with_reducible first | exact HB.out | apply below_alloc | apply pw_below_drewN | apply below_drew1 | refine below_set ?_ GE265.out | refine below_set ?_ GE266.out | refine below_set ?_ GE267.out) | exact HB.out)) hb); clear BK265; clear BK266; clear BK267; clear HB; have BK265 := n0_; have BK266 := n1_; have BK267 := n2_; have HB := n3_; clear n0_ n1_ n2_ n3_; (try clear hb); (try clear hb2); (try clear hk); (try clear hi); have hnb31 := NB266_265.out; have hnc31 := NB265_266.out; have hcz32_0 : w30.cell? ⟨gb266, 0, none⟩ = some (.int .i64 0) := (blk_cell BK266.out 0).trans rfl; have hcz32_1 : w30.cell? ⟨gb266, 1, none⟩ = some (.int .i64 0) := (blk_cell BK266.out 1).trans rfl; have hcz32_2 : w30.cell? ⟨gb266, 2, none⟩ = some (.int .i64 0) := (blk_cell BK266.out 2).trans rfl; have hcz32_3 : w30.cell? ⟨gb266, 3, none⟩ = some (.int .i64 0) := (blk_cell BK266.out 3).trans rfl; have hfz32_0 := blk_frozen BK266.out 0; have hfz32_1 := blk_frozen BK266.out 1; have hfz32_2 := blk_frozen BK266.out 2; have hfz32_3 := blk_frozen BK266.out 3))
          refine bodyPost_ret (results_ct rfl _ _ gb266 23 #[.int .i64 0, .int .i64 0, .int .i64 0, .int .i64 0] (0, 0) _ rfl (by (with_reducible repeat (first | refine blk_drewN ?_ _ | refine blk_drew ?_ | refine blk_alloc ?_ _)); refine blk_put (cs := #[.int .i64 0, .int .i64 0, .int .i64 0, .int .i64 0]) ?_ 3 _ rfl; (with_reducible repeat (first | refine blk_drewN ?_ _ | refine blk_drew ?_ | refine blk_alloc ?_ _)); refine blk_put (cs := #[.int .i64 0, .int .i64 0, .int .i64 0, .int .i64 0]) ?_ 2 _ rfl; (with_reducible repeat (first | refine blk_drewN ?_ _ | refine blk_drew ?_ | refine blk_alloc ?_ _)); refine blk_put (cs := #[.int .i64 0, .int .i64 0, .int .i64 0, .int .i64 0]) ?_ 1 _ rfl; (with_reducible repeat (first | refine blk_drewN ?_ _ | refine blk_drew ?_ | refine blk_alloc ?_ _)); refine blk_put (cs := #[.int .i64 0, .int .i64 0, .int .i64 0, .int .i64 0]) ?_ 0 _ rfl; (with_reducible repeat (first | refine blk_drewN ?_ _ | refine blk_drew ?_ | refine blk_alloc ?_ _)); exact BK266.out) Try.underlying23 rfl (by kernel_rfl)) rfl ?_
          exact ⟨by first | rfl | (simp [errW_none, errW_some] <;> rfl) | (simp [*, errW_none, errW_some] <;> rfl), by repeat (first | (with_reducible first | exact HB.out | apply below_alloc | apply pw_below_drewN | apply below_drew1 | refine below_set ?_ GE265.out | refine below_set ?_ GE266.out | refine below_set ?_ GE267.out) | exact HB.out)⟩
      · replace c17 := Bool.eq_false_iff.mpr c17
        subst c17
        have H1 : ((replevinref16_Check.f kj2 (wrap64 (a0_0)) (wrap64 (Int.tdiv (wrap64 (a0_1)) 16)) (Int.tmod (wrap64 (a0_1)) 16) (wrap64 ((wrap64 (a0_2)) + (wrap64 (256 * (wrap64 (a0_3))))))).bind fun t272 => (if t272 = 0 then (some ((wrap64 (a0_0)), (wrap64 (Int.tdiv (wrap64 (a0_1)) 16)), (Int.tmod (wrap64 (a0_1)) 16), (wrap64 ((wrap64 (a0_2)) + (wrap64 (256 * (wrap64 (a0_3)))))), 0)) else (some (0, 0, 0, 0, 24)))) = some (r1, r2, r3, r4, r5) := by rw [if_neg (show ¬ (false = true) by decide)] at H; exact H
        clear H
        have H := H1
        clear H1
        replace H := Option.bind_eq_some_iff.mp H
        obtain ⟨t272, A330, H⟩ := H
        replace H : (if t272 = 0 then (some ((wrap64 (a0_0)), (wrap64 (Int.tdiv (wrap64 (a0_1)) 16)), (Int.tmod (wrap64 (a0_1)) 16), (wrap64 ((wrap64 (a0_2)) + (wrap64 (256 * (wrap64 (a0_3)))))), 0)) else (some (0, 0, 0, 0, 24))) = some (r1, r2, r3, r4, r5) := H
        have A33 := Aside0.mk A330
        clear A330
        by_cases c34 : t272 = 0
        · rw [if_pos c34] at H
          have c34b0 : (t272 == 0) = true := beq_iff_eq.mpr c34
          have c34b1 : (t272 != 0) = false := bne_eq_false_iff_eq.mpr c34
          clear c34
          simp only [Option.some.injEq, Prod.mk.injEq] at H
          obtain ⟨rfl, rfl, rfl, rfl, rfl⟩ := H
          have hnb35 := NB267_265.out
          have hnc35 := NB265_267.out
          have hnb36 := NB267_266.out
          have hnc36 := NB266_267.out
          have hcz37_0 : wc.cell? ⟨gb267, 0, none⟩ = some (.int .i64 (wrap64 (a0_0))) := (blk_cell BK267.out 0).trans rfl
          have hcz37_1 : wc.cell? ⟨gb267, 1, none⟩ = some (.int .i64 (wrap64 (Int.tdiv (wrap64 (a0_1)) 16))) := (blk_cell BK267.out 1).trans rfl
          have hcz37_2 : wc.cell? ⟨gb267, 2, none⟩ = some (.int .i64 (Int.tmod (wrap64 (a0_1)) 16)) := (blk_cell BK267.out 2).trans rfl
          have hcz37_3 : wc.cell? ⟨gb267, 3, none⟩ = some (.int .i64 (wrap64 ((wrap64 (a0_2)) + (wrap64 (256 * (wrap64 (a0_3))))))) := (blk_cell BK267.out 3).trans rfl
          have hfz37_0 := blk_frozen BK267.out 0
          have hfz37_1 := blk_frozen BK267.out 1
          have hfz37_2 := blk_frozen BK267.out 2
          have hfz37_3 := blk_frozen BK267.out 3
          go_wp2_with (first | ((with_reducible refine gate_callee (f := 16) rfl ?_); refine goesL_ (some 51) rfl rfl Try.func16 (by kernel_rfl) rfl #[.agg #[.int .i64 (wrap64 (a0_0)), .int .i64 (wrap64 (Int.tdiv (wrap64 (a0_1)) 16)), .int .i64 (Int.tmod (wrap64 (a0_1)) 16), .int .i64 (wrap64 ((wrap64 (a0_2)) + (wrap64 (256 * (wrap64 (a0_3))))))]] rfl (by (try simp only [List.map_toArray, List.map_cons, List.map_nil]); first | done | rfl | (simp only [List.length_drop, List.length_take]; rfl)) ?_; (with_reducible refine (replevinref16_Check.calls kj2 (wrap64 (a0_0)) (wrap64 (Int.tdiv (wrap64 (a0_1)) 16)) (Int.tmod (wrap64 (a0_1)) 16) (wrap64 ((wrap64 (a0_2)) + (wrap64 (256 * (wrap64 (a0_3)))))) t272 _ A33.out).mono ?_); rintro e w38 ⟨rfl, hb⟩; refine ⟨_, rfl, ?_⟩; have n0_ := Aside0.mk (blk_below (g := gb265) (o := .cells #[.int .u8 a0_0, .int .u8 a0_1, .int .u8 a0_2, .int .u8 a0_3] 41 (0, 0)) (by (with_reducible repeat (first | refine blk_drewN ?_ _ | refine blk_drew ?_ | refine blk_alloc ?_ _)); exact BK265.out) hb); have n1_ := Aside0.mk (blk_below (g := gb266) (o := .cells #[.int .i64 0, .int .i64 0, .int .i64 0, .int .i64 0] 23 (0, 0)) (by (with_reducible repeat (first | refine blk_drewN ?_ _ | refine blk_drew ?_ | refine blk_alloc ?_ _)); exact BK266.out) hb); have n2_ := Aside0.mk (blk_below (g := gb267) (o := .cells #[.int .i64 (wrap64 (a0_0)), .int .i64 (wrap64 (Int.tdiv (wrap64 (a0_1)) 16)), .int .i64 (Int.tmod (wrap64 (a0_1)) 16), .int .i64 (wrap64 ((wrap64 (a0_2)) + (wrap64 (256 * (wrap64 (a0_3))))))] 23 (0, 0)) (by (with_reducible repeat (first | refine blk_drewN ?_ _ | refine blk_drew ?_ | refine blk_alloc ?_ _)); exact BK267.out) hb); have n3_ := Aside0.mk (below_step (by repeat (first | (with_reducible first | exact HB.out | apply below_alloc | apply pw_below_drewN | apply below_drew1 | refine below_set ?_ GE265.out | refine below_set ?_ GE266.out | refine below_set ?_ GE267.out) | exact HB.out)) hb); clear BK265; clear BK266; clear BK267; clear HB; have BK265 := n0_; have BK266 := n1_; have BK267 := n2_; have HB := n3_; clear n0_ n1_ n2_ n3_; (try clear hb); (try clear hb2); (try clear hk); (try clear hi); have hcz39_0 : w38.cell? ⟨gb267, 0, none⟩ = some (.int .i64 (wrap64 (a0_0))) := (blk_cell BK267.out 0).trans rfl; have hcz39_1 : w38.cell? ⟨gb267, 1, none⟩ = some (.int .i64 (wrap64 (Int.tdiv (wrap64 (a0_1)) 16))) := (blk_cell BK267.out 1).trans rfl; have hcz39_2 : w38.cell? ⟨gb267, 2, none⟩ = some (.int .i64 (Int.tmod (wrap64 (a0_1)) 16)) := (blk_cell BK267.out 2).trans rfl; have hcz39_3 : w38.cell? ⟨gb267, 3, none⟩ = some (.int .i64 (wrap64 ((wrap64 (a0_2)) + (wrap64 (256 * (wrap64 (a0_3))))))) := (blk_cell BK267.out 3).trans rfl; have hfz39_0 := blk_frozen BK267.out 0; have hfz39_1 := blk_frozen BK267.out 1; have hfz39_2 := blk_frozen BK267.out 2; have hfz39_3 := blk_frozen BK267.out 3; have hnb40 := NB266_265.out; have hnc40 := NB265_266.out; have hcz41_0 : w38.cell? ⟨gb266, 0, none⟩ = some (.int .i64 0) := (blk_cell BK266.out 0).trans rfl; have hcz41_1 : w38.cell? ⟨gb266, 1, none⟩ = some (.int .i64 0) := (blk_cell BK266.out 1).trans rfl; have hcz41_2 : w38.cell? ⟨gb266, 2, none⟩ = some (.int .i64 0) := (blk_cell BK266.out 2).trans rfl; have hcz41_3 : w38.cell? ⟨gb266, 3, none⟩ = some (.int .i64 0) := (blk_cell BK266.out 3).trans rfl; have hfz41_0 := blk_frozen BK266.out 0; have hfz41_1 := blk_frozen BK266.out 1; have hfz41_2 := blk_frozen BK266.out 2; have hfz41_3 := blk_frozen BK266.out 3))
          refine bodyPost_ret (results_ct rfl _ _ gb266 23 #[.int .i64 (wrap64 (a0_0)), .int .i64 (wrap64 (Int.tdiv (wrap64 (a0_1)) 16)), .int .i64 (Int.tmod (wrap64 (a0_1)) 16), .int .i64 (wrap64 ((wrap64 (a0_2)) + (wrap64 (256 * (wrap64 (a0_3))))))] (0, 0) _ rfl (by (with_reducible repeat (first | refine blk_drewN ?_ _ | refine blk_drew ?_ | refine blk_alloc ?_ _)); refine blk_put (cs := #[.int .i64 (wrap64 (a0_0)), .int .i64 (wrap64 (Int.tdiv (wrap64 (a0_1)) 16)), .int .i64 (Int.tmod (wrap64 (a0_1)) 16), .int .i64 0]) ?_ 3 _ rfl; (with_reducible repeat (first | refine blk_drewN ?_ _ | refine blk_drew ?_ | refine blk_alloc ?_ _)); refine blk_put (cs := #[.int .i64 (wrap64 (a0_0)), .int .i64 (wrap64 (Int.tdiv (wrap64 (a0_1)) 16)), .int .i64 0, .int .i64 0]) ?_ 2 _ rfl; (with_reducible repeat (first | refine blk_drewN ?_ _ | refine blk_drew ?_ | refine blk_alloc ?_ _)); refine blk_put (cs := #[.int .i64 (wrap64 (a0_0)), .int .i64 0, .int .i64 0, .int .i64 0]) ?_ 1 _ rfl; (with_reducible repeat (first | refine blk_drewN ?_ _ | refine blk_drew ?_ | refine blk_alloc ?_ _)); refine blk_put (cs := #[.int .i64 0, .int .i64 0, .int .i64 0, .int .i64 0]) ?_ 0 _ rfl; (with_reducible repeat (first | refine blk_drewN ?_ _ | refine blk_drew ?_ | refine blk_alloc ?_ _)); exact BK266.out) Try.underlying23 rfl (by kernel_rfl)) rfl ?_
          exact ⟨by first | rfl | (simp [errW_none, errW_some] <;> rfl) | (simp [*, errW_none, errW_some] <;> rfl), by repeat (first | (with_reducible first | exact HB.out | apply below_alloc | apply pw_below_drewN | apply below_drew1 | refine below_set ?_ GE265.out | refine below_set ?_ GE266.out | refine below_set ?_ GE267.out) | exact HB.out)⟩
        · rw [if_neg c34] at H
          have c34b0 : (t272 == 0) = false := beq_eq_false_iff_ne.mpr c34
          have c34b1 : (t272 != 0) = true := bne_iff_ne.mpr c34
          simp only [Option.some.injEq, Prod.mk.injEq] at H
          obtain ⟨rfl, rfl, rfl, rfl, rfl⟩ := H
          have hnb42 := NB267_265.out
          have hnc42 := NB265_267.out
          have hnb43 := NB267_266.out
          have hnc43 := NB266_267.out
          have hcz44_0 : wc.cell? ⟨gb267, 0, none⟩ = some (.int .i64 (wrap64 (a0_0))) := (blk_cell BK267.out 0).trans rfl
          have hcz44_1 : wc.cell? ⟨gb267, 1, none⟩ = some (.int .i64 (wrap64 (Int.tdiv (wrap64 (a0_1)) 16))) := (blk_cell BK267.out 1).trans rfl
          have hcz44_2 : wc.cell? ⟨gb267, 2, none⟩ = some (.int .i64 (Int.tmod (wrap64 (a0_1)) 16)) := (blk_cell BK267.out 2).trans rfl
          have hcz44_3 : wc.cell? ⟨gb267, 3, none⟩ = some (.int .i64 (wrap64 ((wrap64 (a0_2)) + (wrap64 (256 * (wrap64 (a0_3))))))) := (blk_cell BK267.out 3).trans rfl
          have hfz44_0 := blk_frozen BK267.out 0
          have hfz44_1 := blk_frozen BK267.out 1
          have hfz44_2 := blk_frozen BK267.out 2
          have hfz44_3 := blk_frozen BK267.out 3
          go_wp2_with (first | ((with_reducible refine gate_callee (f := 16) rfl ?_); refine goesL_ (some 51) rfl rfl Try.func16 (by kernel_rfl) rfl #[.agg #[.int .i64 (wrap64 (a0_0)), .int .i64 (wrap64 (Int.tdiv (wrap64 (a0_1)) 16)), .int .i64 (Int.tmod (wrap64 (a0_1)) 16), .int .i64 (wrap64 ((wrap64 (a0_2)) + (wrap64 (256 * (wrap64 (a0_3))))))]] rfl (by (try simp only [List.map_toArray, List.map_cons, List.map_nil]); first | done | rfl | (simp only [List.length_drop, List.length_take]; rfl)) ?_; (with_reducible refine (replevinref16_Check.calls kj2 (wrap64 (a0_0)) (wrap64 (Int.tdiv (wrap64 (a0_1)) 16)) (Int.tmod (wrap64 (a0_1)) 16) (wrap64 ((wrap64 (a0_2)) + (wrap64 (256 * (wrap64 (a0_3)))))) t272 _ A33.out).mono ?_); rintro e w45 ⟨rfl, hb⟩; refine ⟨_, rfl, ?_⟩; have n0_ := Aside0.mk (blk_below (g := gb265) (o := .cells #[.int .u8 a0_0, .int .u8 a0_1, .int .u8 a0_2, .int .u8 a0_3] 41 (0, 0)) (by (with_reducible repeat (first | refine blk_drewN ?_ _ | refine blk_drew ?_ | refine blk_alloc ?_ _)); exact BK265.out) hb); have n1_ := Aside0.mk (blk_below (g := gb266) (o := .cells #[.int .i64 0, .int .i64 0, .int .i64 0, .int .i64 0] 23 (0, 0)) (by (with_reducible repeat (first | refine blk_drewN ?_ _ | refine blk_drew ?_ | refine blk_alloc ?_ _)); exact BK266.out) hb); have n2_ := Aside0.mk (blk_below (g := gb267) (o := .cells #[.int .i64 (wrap64 (a0_0)), .int .i64 (wrap64 (Int.tdiv (wrap64 (a0_1)) 16)), .int .i64 (Int.tmod (wrap64 (a0_1)) 16), .int .i64 (wrap64 ((wrap64 (a0_2)) + (wrap64 (256 * (wrap64 (a0_3))))))] 23 (0, 0)) (by (with_reducible repeat (first | refine blk_drewN ?_ _ | refine blk_drew ?_ | refine blk_alloc ?_ _)); exact BK267.out) hb); have n3_ := Aside0.mk (below_step (by repeat (first | (with_reducible first | exact HB.out | apply below_alloc | apply pw_below_drewN | apply below_drew1 | refine below_set ?_ GE265.out | refine below_set ?_ GE266.out | refine below_set ?_ GE267.out) | exact HB.out)) hb); clear BK265; clear BK266; clear BK267; clear HB; have BK265 := n0_; have BK266 := n1_; have BK267 := n2_; have HB := n3_; clear n0_ n1_ n2_ n3_; (try clear hb); (try clear hb2); (try clear hk); (try clear hi); have hnb46 := NB266_265.out; have hnc46 := NB265_266.out; have hcz47_0 : w45.cell? ⟨gb266, 0, none⟩ = some (.int .i64 0) := (blk_cell BK266.out 0).trans rfl; have hcz47_1 : w45.cell? ⟨gb266, 1, none⟩ = some (.int .i64 0) := (blk_cell BK266.out 1).trans rfl; have hcz47_2 : w45.cell? ⟨gb266, 2, none⟩ = some (.int .i64 0) := (blk_cell BK266.out 2).trans rfl; have hcz47_3 : w45.cell? ⟨gb266, 3, none⟩ = some (.int .i64 0) := (blk_cell BK266.out 3).trans rfl; have hfz47_0 := blk_frozen BK266.out 0; have hfz47_1 := blk_frozen BK266.out 1; have hfz47_2 := blk_frozen BK266.out 2; have hfz47_3 := blk_frozen BK266.out 3))
          refine bodyPost_ret (results_ct rfl _ _ gb266 23 #[.int .i64 0, .int .i64 0, .int .i64 0, .int .i64 0] (0, 0) _ rfl (by (with_reducible repeat (first | refine blk_drewN ?_ _ | refine blk_drew ?_ | refine blk_alloc ?_ _)); refine blk_put (cs := #[.int .i64 0, .int .i64 0, .int .i64 0, .int .i64 0]) ?_ 3 _ rfl; (with_reducible repeat (first | refine blk_drewN ?_ _ | refine blk_drew ?_ | refine blk_alloc ?_ _)); refine blk_put (cs := #[.int .i64 0, .int .i64 0, .int .i64 0, .int .i64 0]) ?_ 2 _ rfl; (with_reducible repeat (first | refine blk_drewN ?_ _ | refine blk_drew ?_ | refine blk_alloc ?_ _)); refine blk_put (cs := #[.int .i64 0, .int .i64 0, .int .i64 0, .int .i64 0]) ?_ 1 _ rfl; (with_reducible repeat (first | refine blk_drewN ?_ _ | refine blk_drew ?_ | refine blk_alloc ?_ _)); refine blk_put (cs := #[.int .i64 0, .int .i64 0, .int .i64 0, .int .i64 0]) ?_ 0 _ rfl; (with_reducible repeat (first | refine blk_drewN ?_ _ | refine blk_drew ?_ | refine blk_alloc ?_ _)); exact BK266.out) Try.underlying23 rfl (by kernel_rfl)) rfl ?_
          exact ⟨by first | rfl | (simp [errW_none, errW_some] <;> rfl) | (simp [*, errW_none, errW_some] <;> rfl), by repeat (first | (with_reducible first | exact HB.out | apply below_alloc | apply pw_below_drewN | apply below_drew1 | refine below_set ?_ GE265.out | refine below_set ?_ GE266.out | refine below_set ?_ GE267.out) | exact HB.out)⟩

end Go.Proofs.Ytdnhekgdpolenaa.Q
