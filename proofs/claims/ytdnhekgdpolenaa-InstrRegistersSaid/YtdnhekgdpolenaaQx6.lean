/- Functions of the seat and their walks, written by a program of this session. -/
import Derived.Test.YtdnhekgdpolenaaQx0
import Derived.Test.YtdnhekgdpolenaaQx4
import Derived.Test.YtdnhekgdpolenaaQx5
import Derived.Test.YtdnhekgdpolenaaHOps
namespace Go.Proofs.Ytdnhekgdpolenaa.Q
open Go.RowKit Go.Proofs.YtdnhekgdpolenaaW.PrintWords Go.Proofs.YtdnhekgdpolenaaW.PrintLast Go.Proofs.YtdnhekgdpolenaaW.PrintMore
attribute [local go_sem] max2_int min2_int max_two min_two max_three min_three max_four min_four   -- for this text's walks alone
set_option linter.unusedVariables false
set_option linter.unusedSimpArgs false

/-! ### instr_Instr_Check: function 15 -/
def instr_Instr_Check.j0 : Nat → Bool → Int → Int → Int → Int → ByteArray → Int → Int → Int → Option (Int)
  | 0, _, _, _, _, _, _, _, _, _ => none
  | k + 1, x14, x106000, x106001, x106002, x106003, x112000, x112001, x112002, x112003 => if x14 = true then (some 1) else ((instr_register.f x106001).bind fun t119 => (if t119 = true then ((instr_register.f x106002).bind fun t120 => (if t120 = true then (if x112001 = 3 then ((instr_register.f x106003).bind fun t121 => (if t121 = true then ((instr_operation_hasN.f x112000 x112001 x112002 x112003).bind fun t122 => (if t122 = true then (if x106003 < x112002 then (some 2) else (if x106003 > x112003 then (some 2) else (some 0))) else (some 0))) else (some 2))) else ((instr_operation_hasN.f x112000 x112001 x112002 x112003).bind fun t123 => (if t123 = true then (if x106003 < x112002 then (some 2) else (if x106003 > x112003 then (some 2) else (some 0))) else (some 0)))) else (some 2))) else (some 2)))
def instr_Instr_Check.f (k : Nat) (a0_0 : Int) (a0_1 : Int) (a0_2 : Int) (a0_3 : Int) : Option (Int) := (instr_of.f a0_0).bind fun bt106 => (if bt106.2.2.2.2 = true then ((instr_operation_hasA.f bt106.1 bt106.2.1 bt106.2.2.1 bt106.2.2.2.1).bind fun t112 => (if t112 = true then ((instr_operation_hasB.f bt106.1 bt106.2.1 bt106.2.2.1 bt106.2.2.2.1).bind fun t113 => (if t113 = true then ((instr_operation_hasC.f bt106.1 bt106.2.1 bt106.2.2.1 bt106.2.2.2.1).bind fun t114 => (if t114 = true then (instr_Instr_Check.j0 k false a0_0 a0_1 a0_2 a0_3 bt106.1 bt106.2.1 bt106.2.2.1 bt106.2.2.2.1) else (instr_Instr_Check.j0 k (a0_3 != 0) a0_0 a0_1 a0_2 a0_3 bt106.1 bt106.2.1 bt106.2.2.1 bt106.2.2.2.1))) else (if a0_2 = 0 then ((instr_operation_hasC.f bt106.1 bt106.2.1 bt106.2.2.1 bt106.2.2.2.1).bind fun t115 => (if t115 = true then (instr_Instr_Check.j0 k false a0_0 a0_1 a0_2 a0_3 bt106.1 bt106.2.1 bt106.2.2.1 bt106.2.2.2.1) else (instr_Instr_Check.j0 k (a0_3 != 0) a0_0 a0_1 a0_2 a0_3 bt106.1 bt106.2.1 bt106.2.2.1 bt106.2.2.2.1))) else (instr_Instr_Check.j0 k true a0_0 a0_1 a0_2 a0_3 bt106.1 bt106.2.1 bt106.2.2.1 bt106.2.2.2.1)))) else (if a0_1 = 0 then ((instr_operation_hasB.f bt106.1 bt106.2.1 bt106.2.2.1 bt106.2.2.2.1).bind fun t116 => (if t116 = true then ((instr_operation_hasC.f bt106.1 bt106.2.1 bt106.2.2.1 bt106.2.2.2.1).bind fun t117 => (if t117 = true then (instr_Instr_Check.j0 k false a0_0 a0_1 a0_2 a0_3 bt106.1 bt106.2.1 bt106.2.2.1 bt106.2.2.2.1) else (instr_Instr_Check.j0 k (a0_3 != 0) a0_0 a0_1 a0_2 a0_3 bt106.1 bt106.2.1 bt106.2.2.1 bt106.2.2.2.1))) else (if a0_2 = 0 then ((instr_operation_hasC.f bt106.1 bt106.2.1 bt106.2.2.1 bt106.2.2.2.1).bind fun t118 => (if t118 = true then (instr_Instr_Check.j0 k false a0_0 a0_1 a0_2 a0_3 bt106.1 bt106.2.1 bt106.2.2.1 bt106.2.2.2.1) else (instr_Instr_Check.j0 k (a0_3 != 0) a0_0 a0_1 a0_2 a0_3 bt106.1 bt106.2.1 bt106.2.2.1 bt106.2.2.2.1))) else (instr_Instr_Check.j0 k true a0_0 a0_1 a0_2 a0_3 bt106.1 bt106.2.1 bt106.2.2.1 bt106.2.2.2.1)))) else (instr_Instr_Check.j0 k true a0_0 a0_1 a0_2 a0_3 bt106.1 bt106.2.1 bt106.2.2.1 bt106.2.2.2.1)))) else (some 11))
theorem instr_Instr_Check.mono_l : ∀ k, (∀ y0 y1 y2 y3 y4 y5 y6 y7 y8, LeO (instr_Instr_Check.j0 k y0 y1 y2 y3 y4 y5 y6 y7 y8) (instr_Instr_Check.j0 (k + 1) y0 y1 y2 y3 y4 y5 y6 y7 y8))
  | 0 => fun _ _ _ _ _ _ _ _ _ r h => by simp [instr_Instr_Check.j0] at h
  | k + 1 => by
    have ih0 := instr_Instr_Check.mono_l k
    · intro y0 y1 y2 y3 y4 y5 y6 y7 y8
      unfold instr_Instr_Check.j0
      repeat' first
      | (with_reducible exact ih0 _ _ _ _ _ _ _ _ _)
      | (with_reducible exact LeO.refl _)
      | (with_reducible exact LeO.none _)
      | (with_reducible refine LeO.ite ?_ ?_)
      | (with_reducible refine LeO.bind ?_ (fun _ => ?_))
      | exact ih0 _ _ _ _ _ _ _ _ _
      | exact LeO.none _
      | refine LeO.ite ?_ ?_
      | refine LeO.bind ?_ (fun _ => ?_)
theorem instr_Instr_Check.mono : ∀ a0 a1 a2 a3 k, LeO (instr_Instr_Check.f k a0 a1 a2 a3) (instr_Instr_Check.f (k + 1) a0 a1 a2 a3) := by
  intro a0 a1 a2 a3 k
  have ih0 := instr_Instr_Check.mono_l k
  unfold instr_Instr_Check.f
  repeat' first
      | (with_reducible exact ih0 _ _ _ _ _ _ _ _ _)
      | (with_reducible exact LeO.refl _)
      | (with_reducible exact LeO.none _)
      | (with_reducible refine LeO.ite ?_ ?_)
      | (with_reducible refine LeO.bind ?_ (fun _ => ?_))
      | exact ih0 _ _ _ _ _ _ _ _ _
      | exact LeO.none _
      | refine LeO.ite ?_ ?_
      | refine LeO.bind ?_ (fun _ => ?_)
set_option maxHeartbeats 8000000 in
set_option maxRecDepth 100000 in
theorem instr_Instr_Check.calls (k : Nat) (a0_0 : Int) (a0_1 : Int) (a0_2 : Int) (a0_3 : Int) (r : Int) (w : World) (h : instr_Instr_Check.f k a0_0 a0_1 a0_2 a0_3 = some r) :
    Calls Try.prog 15 #[.agg #[.int .i64 a0_0, .int .i64 a0_1, .int .i64 a0_2, .int .i64 a0_3]] w fun e w' => e = .returned (.int .i64 r) ∧ Below w.heap.size w w' := by
  have hu26 := Try.underlying26
  have hu83 := Try.underlying83
  have HB := Aside0.mk (Below.refl w.heap.size w)
  have H : ((instr_of.f a0_0).bind fun bt106 => (if bt106.2.2.2.2 = true then ((instr_operation_hasA.f bt106.1 bt106.2.1 bt106.2.2.1 bt106.2.2.2.1).bind fun t112 => (if t112 = true then ((instr_operation_hasB.f bt106.1 bt106.2.1 bt106.2.2.1 bt106.2.2.2.1).bind fun t113 => (if t113 = true then ((instr_operation_hasC.f bt106.1 bt106.2.1 bt106.2.2.1 bt106.2.2.2.1).bind fun t114 => (if t114 = true then (instr_Instr_Check.j0 k false a0_0 a0_1 a0_2 a0_3 bt106.1 bt106.2.1 bt106.2.2.1 bt106.2.2.2.1) else (instr_Instr_Check.j0 k (a0_3 != 0) a0_0 a0_1 a0_2 a0_3 bt106.1 bt106.2.1 bt106.2.2.1 bt106.2.2.2.1))) else (if a0_2 = 0 then ((instr_operation_hasC.f bt106.1 bt106.2.1 bt106.2.2.1 bt106.2.2.2.1).bind fun t115 => (if t115 = true then (instr_Instr_Check.j0 k false a0_0 a0_1 a0_2 a0_3 bt106.1 bt106.2.1 bt106.2.2.1 bt106.2.2.2.1) else (instr_Instr_Check.j0 k (a0_3 != 0) a0_0 a0_1 a0_2 a0_3 bt106.1 bt106.2.1 bt106.2.2.1 bt106.2.2.2.1))) else (instr_Instr_Check.j0 k true a0_0 a0_1 a0_2 a0_3 bt106.1 bt106.2.1 bt106.2.2.1 bt106.2.2.2.1)))) else (if a0_1 = 0 then ((instr_operation_hasB.f bt106.1 bt106.2.1 bt106.2.2.1 bt106.2.2.2.1).bind fun t116 => (if t116 = true then ((instr_operation_hasC.f bt106.1 bt106.2.1 bt106.2.2.1 bt106.2.2.2.1).bind fun t117 => (if t117 = true then (instr_Instr_Check.j0 k false a0_0 a0_1 a0_2 a0_3 bt106.1 bt106.2.1 bt106.2.2.1 bt106.2.2.2.1) else (instr_Instr_Check.j0 k (a0_3 != 0) a0_0 a0_1 a0_2 a0_3 bt106.1 bt106.2.1 bt106.2.2.1 bt106.2.2.2.1))) else (if a0_2 = 0 then ((instr_operation_hasC.f bt106.1 bt106.2.1 bt106.2.2.1 bt106.2.2.2.1).bind fun t118 => (if t118 = true then (instr_Instr_Check.j0 k false a0_0 a0_1 a0_2 a0_3 bt106.1 bt106.2.1 bt106.2.2.1 bt106.2.2.2.1) else (instr_Instr_Check.j0 k (a0_3 != 0) a0_0 a0_1 a0_2 a0_3 bt106.1 bt106.2.1 bt106.2.2.1 bt106.2.2.2.1))) else (instr_Instr_Check.j0 k true a0_0 a0_1 a0_2 a0_3 bt106.1 bt106.2.1 bt106.2.2.1 bt106.2.2.2.1)))) else (instr_Instr_Check.j0 k true a0_0 a0_1 a0_2 a0_3 bt106.1 bt106.2.1 bt106.2.2.1 bt106.2.2.2.1)))) else (some 11))) = some r := h
  clear h
  replace H := Option.bind_eq_some_iff.mp H
  obtain ⟨⟨t106, t107, t108, t109, t110⟩, A20, H⟩ := H
  replace H : (if t110 = true then ((instr_operation_hasA.f t106 t107 t108 t109).bind fun t112 => (if t112 = true then ((instr_operation_hasB.f t106 t107 t108 t109).bind fun t113 => (if t113 = true then ((instr_operation_hasC.f t106 t107 t108 t109).bind fun t114 => (if t114 = true then (instr_Instr_Check.j0 k false a0_0 a0_1 a0_2 a0_3 t106 t107 t108 t109) else (instr_Instr_Check.j0 k (a0_3 != 0) a0_0 a0_1 a0_2 a0_3 t106 t107 t108 t109))) else (if a0_2 = 0 then ((instr_operation_hasC.f t106 t107 t108 t109).bind fun t115 => (if t115 = true then (instr_Instr_Check.j0 k false a0_0 a0_1 a0_2 a0_3 t106 t107 t108 t109) else (instr_Instr_Check.j0 k (a0_3 != 0) a0_0 a0_1 a0_2 a0_3 t106 t107 t108 t109))) else (instr_Instr_Check.j0 k true a0_0 a0_1 a0_2 a0_3 t106 t107 t108 t109)))) else (if a0_1 = 0 then ((instr_operation_hasB.f t106 t107 t108 t109).bind fun t116 => (if t116 = true then ((instr_operation_hasC.f t106 t107 t108 t109).bind fun t117 => (if t117 = true then (instr_Instr_Check.j0 k false a0_0 a0_1 a0_2 a0_3 t106 t107 t108 t109) else (instr_Instr_Check.j0 k (a0_3 != 0) a0_0 a0_1 a0_2 a0_3 t106 t107 t108 t109))) else (if a0_2 = 0 then ((instr_operation_hasC.f t106 t107 t108 t109).bind fun t118 => (if t118 = true then (instr_Instr_Check.j0 k false a0_0 a0_1 a0_2 a0_3 t106 t107 t108 t109) else (instr_Instr_Check.j0 k (a0_3 != 0) a0_0 a0_1 a0_2 a0_3 t106 t107 t108 t109))) else (instr_Instr_Check.j0 k true a0_0 a0_1 a0_2 a0_3 t106 t107 t108 t109)))) else (instr_Instr_Check.j0 k true a0_0 a0_1 a0_2 a0_3 t106 t107 t108 t109)))) else (some 11)) = some r := H
  have A2 := Aside0.mk A20
  clear A20
  by_cases c3 : t110 = true
  · subst c3
    have H1 : ((instr_operation_hasA.f t106 t107 t108 t109).bind fun t112 => (if t112 = true then ((instr_operation_hasB.f t106 t107 t108 t109).bind fun t113 => (if t113 = true then ((instr_operation_hasC.f t106 t107 t108 t109).bind fun t114 => (if t114 = true then (instr_Instr_Check.j0 k false a0_0 a0_1 a0_2 a0_3 t106 t107 t108 t109) else (instr_Instr_Check.j0 k (a0_3 != 0) a0_0 a0_1 a0_2 a0_3 t106 t107 t108 t109))) else (if a0_2 = 0 then ((instr_operation_hasC.f t106 t107 t108 t109).bind fun t115 => (if t115 = true then (instr_Instr_Check.j0 k false a0_0 a0_1 a0_2 a0_3 t106 t107 t108 t109) else (instr_Instr_Check.j0 k (a0_3 != 0) a0_0 a0_1 a0_2 a0_3 t106 t107 t108 t109))) else (instr_Instr_Check.j0 k true a0_0 a0_1 a0_2 a0_3 t106 t107 t108 t109)))) else (if a0_1 = 0 then ((instr_operation_hasB.f t106 t107 t108 t109).bind fun t116 => (if t116 = true then ((instr_operation_hasC.f t106 t107 t108 t109).bind fun t117 => (if t117 = true then (instr_Instr_Check.j0 k false a0_0 a0_1 a0_2 a0_3 t106 t107 t108 t109) else (instr_Instr_Check.j0 k (a0_3 != 0) a0_0 a0_1 a0_2 a0_3 t106 t107 t108 t109))) else (if a0_2 = 0 then ((instr_operation_hasC.f t106 t107 t108 t109).bind fun t118 => (if t118 = true then (instr_Instr_Check.j0 k false a0_0 a0_1 a0_2 a0_3 t106 t107 t108 t109) else (instr_Instr_Check.j0 k (a0_3 != 0) a0_0 a0_1 a0_2 a0_3 t106 t107 t108 t109))) else (instr_Instr_Check.j0 k true a0_0 a0_1 a0_2 a0_3 t106 t107 t108 t109)))) else (instr_Instr_Check.j0 k true a0_0 a0_1 a0_2 a0_3 t106 t107 t108 t109)))) = some r := by rw [if_pos rfl] at H; exact H
    clear H
    have H := H1
    clear H1
    have HC4 := Aside0.mk H
    clear H
    go_enter Try.func15, Try.ntmps15
    go_upto_region 4 with (first | ((with_reducible refine gate_dst (N := 1) rfl ?_); refine box_event ?hg (N := 1) ?hd (cs := #[.int .i64 a0_0, .int .i64 a0_1, .int .i64 a0_2, .int .i64 a0_3]) (t := 26) ?hr ?_; (case hd => rfl); (case hg => rfl); (case hr => first | (go_simp; done) | (go_simp; rfl)); intro gb105 hg w5 hbox hb; have n0_ := Aside0.mk (below_step (by repeat (first | (with_reducible first | exact HB.out | apply below_alloc | apply pw_below_drewN | apply below_drew1) | exact HB.out)) hb); have n1_ := Aside0.mk (hbox); have n2_ := Aside0.mk ((by rw [hg]; exact (below_size (by repeat (first | (with_reducible first | exact HB.out | apply below_alloc | apply pw_below_drewN | apply below_drew1) | exact HB.out))) : w.heap.size ≤ gb105)); have n3_ := Aside0.mk ((by rw [hg]; exact (below_size (by repeat (first | (with_reducible first | exact HB.out | apply below_alloc | apply pw_below_drewN | apply below_drew1) | exact HB.out))) : w.heap.size ≤ gb105)); clear HB; have HB := n0_; have BK105 := n1_; have GW105 := n2_; have GE105 := n3_; clear n0_ n1_ n2_ n3_; clear hb hbox hg; have hcz6_0 : w5.cell? ⟨gb105, 0, none⟩ = some (.int .i64 a0_0) := (blk_cell BK105.out 0).trans rfl; have hcz6_1 : w5.cell? ⟨gb105, 1, none⟩ = some (.int .i64 a0_1) := (blk_cell BK105.out 1).trans rfl; have hcz6_2 : w5.cell? ⟨gb105, 2, none⟩ = some (.int .i64 a0_2) := (blk_cell BK105.out 2).trans rfl; have hcz6_3 : w5.cell? ⟨gb105, 3, none⟩ = some (.int .i64 a0_3) := (blk_cell BK105.out 3).trans rfl; have hfz6_0 := blk_frozen BK105.out 0; have hfz6_1 := blk_frozen BK105.out 1; have hfz6_2 := blk_frozen BK105.out 2; have hfz6_3 := blk_frozen BK105.out 3) | ((with_reducible refine gate_callee (f := 46) rfl ?_); refine goesL_ (some 8) rfl rfl Try.func46 (by kernel_rfl) rfl #[.int .i64 a0_0] rfl (by (try simp only [List.map_toArray, List.map_cons, List.map_nil]); first | done | rfl | (simp only [List.length_drop, List.length_take]; rfl)) ?_; (with_reducible refine (instr_of.calls a0_0 t106 t107 t108 t109 true _ A2.out).mono ?_); rintro e w7 ⟨rfl, hb⟩; refine ⟨_, rfl, ?_⟩; have n0_ := Aside0.mk (blk_below (g := gb105) (o := .cells #[.int .i64 a0_0, .int .i64 a0_1, .int .i64 a0_2, .int .i64 a0_3] 26 (0, 0)) (by (with_reducible repeat (first | refine blk_drewN ?_ _ | refine blk_drew ?_ | refine blk_alloc ?_ _)); exact BK105.out) hb); have n1_ := Aside0.mk (below_step (by repeat (first | (with_reducible first | exact HB.out | apply below_alloc | apply pw_below_drewN | apply below_drew1 | refine below_set ?_ GE105.out) | exact HB.out)) hb); clear BK105; clear HB; have BK105 := n0_; have HB := n1_; clear n0_ n1_; (try clear hb); (try clear hb2); (try clear hk); (try clear hi)) | ((with_reducible refine gate_dst (N := 3) rfl ?_); refine box_event ?hg (N := 3) ?hd (cs := #[.string (⟨#[]⟩ : ByteArray), .int .i64 0, .int .i64 0, .int .i64 0]) (t := 83) ?hr ?_; (case hd => rfl); (case hg => rfl); (case hr => first | (go_simp; done) | (go_simp; rfl)); intro gb111 hg w8 hbox hb; have n0_ := Aside0.mk (blk_below (g := gb105) (o := .cells #[.int .i64 a0_0, .int .i64 a0_1, .int .i64 a0_2, .int .i64 a0_3] 26 (0, 0)) (by (with_reducible repeat (first | refine blk_drewN ?_ _ | refine blk_drew ?_ | refine blk_alloc ?_ _)); exact BK105.out) hb); have n1_ := Aside0.mk (below_step (by repeat (first | (with_reducible first | exact HB.out | apply below_alloc | apply pw_below_drewN | apply below_drew1 | refine below_set ?_ GE105.out) | exact HB.out)) hb); have n2_ := Aside0.mk (hbox); have n3_ := Aside0.mk ((by rw [hg]; exact (below_size (by repeat (first | (with_reducible first | exact HB.out | apply below_alloc | apply pw_below_drewN | apply below_drew1 | refine below_set ?_ GE105.out) | exact HB.out))) : w.heap.size ≤ gb111)); have n4_ := Aside0.mk ((by rw [hg]; exact (below_size (by repeat (first | (with_reducible first | exact HB.out | apply below_alloc | apply pw_below_drewN | apply below_drew1 | refine below_set ?_ GE105.out) | exact HB.out))) : w.heap.size ≤ gb111)); have n5_ := Aside0.mk ((by rw [hg]; exact Nat.ne_of_lt (blk_lt (g := gb105) (o := .cells #[.int .i64 a0_0, .int .i64 a0_1, .int .i64 a0_2, .int .i64 a0_3] 26 (0, 0)) (by (with_reducible repeat (first | refine blk_drewN ?_ _ | refine blk_drew ?_ | refine blk_alloc ?_ _)); exact BK105.out)) : gb105 ≠ gb111)); have n6_ := Aside0.mk ((by rw [hg]; exact Nat.ne_of_gt (blk_lt (g := gb105) (o := .cells #[.int .i64 a0_0, .int .i64 a0_1, .int .i64 a0_2, .int .i64 a0_3] 26 (0, 0)) (by (with_reducible repeat (first | refine blk_drewN ?_ _ | refine blk_drew ?_ | refine blk_alloc ?_ _)); exact BK105.out)) : gb111 ≠ gb105)); clear BK105; clear HB; have BK105 := n0_; have HB := n1_; have BK111 := n2_; have GW111 := n3_; have GE111 := n4_; have NB105_111 := n5_; have NB111_105 := n6_; clear n0_ n1_ n2_ n3_ n4_ n5_ n6_; clear hb hbox hg; have hnb9 := NB111_105.out; have hnc9 := NB105_111.out; have hcz10_0 : w8.cell? ⟨gb111, 0, none⟩ = some (.string (⟨#[]⟩ : ByteArray)) := (blk_cell BK111.out 0).trans rfl; have hcz10_1 : w8.cell? ⟨gb111, 1, none⟩ = some (.int .i64 0) := (blk_cell BK111.out 1).trans rfl; have hcz10_2 : w8.cell? ⟨gb111, 2, none⟩ = some (.int .i64 0) := (blk_cell BK111.out 2).trans rfl; have hcz10_3 : w8.cell? ⟨gb111, 3, none⟩ = some (.int .i64 0) := (blk_cell BK111.out 3).trans rfl; have hfz10_0 := blk_frozen BK111.out 0; have hfz10_1 := blk_frozen BK111.out 1; have hfz10_2 := blk_frozen BK111.out 2; have hfz10_3 := blk_frozen BK111.out 3))
    (try simp only [Act.put, List.setIfInBounds_toArray, List.set_cons_zero, List.set_cons_succ])
    go_cut [14] (fun v14 wc => ∃ (kq : Nat) (x14_3 : Bool), v14 = .bool x14_3 ∧ Aside0 (instr_Instr_Check.j0 kq x14_3 a0_0 a0_1 a0_2 a0_3 t106 t107 t108 t109 = some r) ∧ Aside0 (kq ≤ k) ∧ Aside0 (wc.heap[gb105]? = some (.cells #[.int .i64 a0_0, .int .i64 a0_1, .int .i64 a0_2, .int .i64 a0_3] 26 (0, 0))) ∧ Aside0 (wc.heap[gb111]? = some (.cells #[.string t106, .int .i64 t107, .int .i64 t108, .int .i64 t109] 83 (0, 0))) ∧ Aside0 (Below w.heap.size w wc))
    case first =>
      have H := HC4.out
      clear HC4
      replace H := Option.bind_eq_some_iff.mp H
      obtain ⟨t112, A110, H⟩ := H
      replace H : (if t112 = true then ((instr_operation_hasB.f t106 t107 t108 t109).bind fun t113 => (if t113 = true then ((instr_operation_hasC.f t106 t107 t108 t109).bind fun t114 => (if t114 = true then (instr_Instr_Check.j0 k false a0_0 a0_1 a0_2 a0_3 t106 t107 t108 t109) else (instr_Instr_Check.j0 k (a0_3 != 0) a0_0 a0_1 a0_2 a0_3 t106 t107 t108 t109))) else (if a0_2 = 0 then ((instr_operation_hasC.f t106 t107 t108 t109).bind fun t115 => (if t115 = true then (instr_Instr_Check.j0 k false a0_0 a0_1 a0_2 a0_3 t106 t107 t108 t109) else (instr_Instr_Check.j0 k (a0_3 != 0) a0_0 a0_1 a0_2 a0_3 t106 t107 t108 t109))) else (instr_Instr_Check.j0 k true a0_0 a0_1 a0_2 a0_3 t106 t107 t108 t109)))) else (if a0_1 = 0 then ((instr_operation_hasB.f t106 t107 t108 t109).bind fun t116 => (if t116 = true then ((instr_operation_hasC.f t106 t107 t108 t109).bind fun t117 => (if t117 = true then (instr_Instr_Check.j0 k false a0_0 a0_1 a0_2 a0_3 t106 t107 t108 t109) else (instr_Instr_Check.j0 k (a0_3 != 0) a0_0 a0_1 a0_2 a0_3 t106 t107 t108 t109))) else (if a0_2 = 0 then ((instr_operation_hasC.f t106 t107 t108 t109).bind fun t118 => (if t118 = true then (instr_Instr_Check.j0 k false a0_0 a0_1 a0_2 a0_3 t106 t107 t108 t109) else (instr_Instr_Check.j0 k (a0_3 != 0) a0_0 a0_1 a0_2 a0_3 t106 t107 t108 t109))) else (instr_Instr_Check.j0 k true a0_0 a0_1 a0_2 a0_3 t106 t107 t108 t109)))) else (instr_Instr_Check.j0 k true a0_0 a0_1 a0_2 a0_3 t106 t107 t108 t109))) = some r := H
      have A11 := Aside0.mk A110
      clear A110
      by_cases c12 : t112 = true
      · subst c12
        have H1 : ((instr_operation_hasB.f t106 t107 t108 t109).bind fun t113 => (if t113 = true then ((instr_operation_hasC.f t106 t107 t108 t109).bind fun t114 => (if t114 = true then (instr_Instr_Check.j0 k false a0_0 a0_1 a0_2 a0_3 t106 t107 t108 t109) else (instr_Instr_Check.j0 k (a0_3 != 0) a0_0 a0_1 a0_2 a0_3 t106 t107 t108 t109))) else (if a0_2 = 0 then ((instr_operation_hasC.f t106 t107 t108 t109).bind fun t115 => (if t115 = true then (instr_Instr_Check.j0 k false a0_0 a0_1 a0_2 a0_3 t106 t107 t108 t109) else (instr_Instr_Check.j0 k (a0_3 != 0) a0_0 a0_1 a0_2 a0_3 t106 t107 t108 t109))) else (instr_Instr_Check.j0 k true a0_0 a0_1 a0_2 a0_3 t106 t107 t108 t109)))) = some r := by rw [if_pos rfl] at H; exact H
        clear H
        have H := H1
        clear H1
        replace H := Option.bind_eq_some_iff.mp H
        obtain ⟨t113, A130, H⟩ := H
        replace H : (if t113 = true then ((instr_operation_hasC.f t106 t107 t108 t109).bind fun t114 => (if t114 = true then (instr_Instr_Check.j0 k false a0_0 a0_1 a0_2 a0_3 t106 t107 t108 t109) else (instr_Instr_Check.j0 k (a0_3 != 0) a0_0 a0_1 a0_2 a0_3 t106 t107 t108 t109))) else (if a0_2 = 0 then ((instr_operation_hasC.f t106 t107 t108 t109).bind fun t115 => (if t115 = true then (instr_Instr_Check.j0 k false a0_0 a0_1 a0_2 a0_3 t106 t107 t108 t109) else (instr_Instr_Check.j0 k (a0_3 != 0) a0_0 a0_1 a0_2 a0_3 t106 t107 t108 t109))) else (instr_Instr_Check.j0 k true a0_0 a0_1 a0_2 a0_3 t106 t107 t108 t109))) = some r := H
        have A13 := Aside0.mk A130
        clear A130
        by_cases c14 : t113 = true
        · subst c14
          have H1 : ((instr_operation_hasC.f t106 t107 t108 t109).bind fun t114 => (if t114 = true then (instr_Instr_Check.j0 k false a0_0 a0_1 a0_2 a0_3 t106 t107 t108 t109) else (instr_Instr_Check.j0 k (a0_3 != 0) a0_0 a0_1 a0_2 a0_3 t106 t107 t108 t109))) = some r := by rw [if_pos rfl] at H; exact H
          clear H
          have H := H1
          clear H1
          replace H := Option.bind_eq_some_iff.mp H
          obtain ⟨t114, A150, H⟩ := H
          replace H : (if t114 = true then (instr_Instr_Check.j0 k false a0_0 a0_1 a0_2 a0_3 t106 t107 t108 t109) else (instr_Instr_Check.j0 k (a0_3 != 0) a0_0 a0_1 a0_2 a0_3 t106 t107 t108 t109)) = some r := H
          have A15 := Aside0.mk A150
          clear A150
          by_cases c16 : t114 = true
          · subst c16
            have H1 : (instr_Instr_Check.j0 k false a0_0 a0_1 a0_2 a0_3 t106 t107 t108 t109) = some r := by rw [if_pos rfl] at H; exact H
            clear H
            have H := H1
            clear H1
            have H' := Aside0.mk H
            clear H
            have hnb17 := NB111_105.out
            have hnc17 := NB105_111.out
            have hcz18_0 : w8.cell? ⟨gb111, 0, none⟩ = some (.string (⟨#[]⟩ : ByteArray)) := (blk_cell BK111.out 0).trans rfl
            have hcz18_1 : w8.cell? ⟨gb111, 1, none⟩ = some (.int .i64 0) := (blk_cell BK111.out 1).trans rfl
            have hcz18_2 : w8.cell? ⟨gb111, 2, none⟩ = some (.int .i64 0) := (blk_cell BK111.out 2).trans rfl
            have hcz18_3 : w8.cell? ⟨gb111, 3, none⟩ = some (.int .i64 0) := (blk_cell BK111.out 3).trans rfl
            have hfz18_0 := blk_frozen BK111.out 0
            have hfz18_1 := blk_frozen BK111.out 1
            have hfz18_2 := blk_frozen BK111.out 2
            have hfz18_3 := blk_frozen BK111.out 3
            go_wp2_with (first | ((with_reducible refine gate_callee (f := 47) rfl ?_); refine goesL_ (some 16) rfl rfl Try.func47 (by kernel_rfl) rfl #[.agg #[.string t106, .int .i64 t107, .int .i64 t108, .int .i64 t109]] rfl (by (try simp only [List.map_toArray, List.map_cons, List.map_nil]); first | done | rfl | (simp only [List.length_drop, List.length_take]; rfl)) ?_; (with_reducible refine (instr_operation_hasA.calls t106 t107 t108 t109 true _ A11.out).mono ?_); rintro e w19 ⟨rfl, hb⟩; refine ⟨_, rfl, ?_⟩; have n0_ := Aside0.mk (blk_below (g := gb105) (o := .cells #[.int .i64 a0_0, .int .i64 a0_1, .int .i64 a0_2, .int .i64 a0_3] 26 (0, 0)) (by (with_reducible repeat (first | refine blk_drewN ?_ _ | refine blk_drew ?_ | refine blk_alloc ?_ _)); refine blk_far ?_ NB105_111.out _; (with_reducible repeat (first | refine blk_drewN ?_ _ | refine blk_drew ?_ | refine blk_alloc ?_ _)); refine blk_far ?_ NB105_111.out _; (with_reducible repeat (first | refine blk_drewN ?_ _ | refine blk_drew ?_ | refine blk_alloc ?_ _)); refine blk_far ?_ NB105_111.out _; (with_reducible repeat (first | refine blk_drewN ?_ _ | refine blk_drew ?_ | refine blk_alloc ?_ _)); refine blk_far ?_ NB105_111.out _; (with_reducible repeat (first | refine blk_drewN ?_ _ | refine blk_drew ?_ | refine blk_alloc ?_ _)); exact BK105.out) hb); have n1_ := Aside0.mk (blk_below (g := gb111) (o := .cells #[.string t106, .int .i64 t107, .int .i64 t108, .int .i64 t109] 83 (0, 0)) (by (with_reducible repeat (first | refine blk_drewN ?_ _ | refine blk_drew ?_ | refine blk_alloc ?_ _)); refine blk_put (cs := #[.string t106, .int .i64 t107, .int .i64 t108, .int .i64 0]) ?_ 3 _ rfl; (with_reducible repeat (first | refine blk_drewN ?_ _ | refine blk_drew ?_ | refine blk_alloc ?_ _)); refine blk_put (cs := #[.string t106, .int .i64 t107, .int .i64 0, .int .i64 0]) ?_ 2 _ rfl; (with_reducible repeat (first | refine blk_drewN ?_ _ | refine blk_drew ?_ | refine blk_alloc ?_ _)); refine blk_put (cs := #[.string t106, .int .i64 0, .int .i64 0, .int .i64 0]) ?_ 1 _ rfl; (with_reducible repeat (first | refine blk_drewN ?_ _ | refine blk_drew ?_ | refine blk_alloc ?_ _)); refine blk_put (cs := #[.string (⟨#[]⟩ : ByteArray), .int .i64 0, .int .i64 0, .int .i64 0]) ?_ 0 _ rfl; (with_reducible repeat (first | refine blk_drewN ?_ _ | refine blk_drew ?_ | refine blk_alloc ?_ _)); exact BK111.out) hb); have n2_ := Aside0.mk (below_step (by repeat (first | (with_reducible first | exact HB.out | apply below_alloc | apply pw_below_drewN | apply below_drew1 | refine below_set ?_ GE105.out | refine below_set ?_ GE111.out) | exact HB.out)) hb); clear BK105; clear BK111; clear HB; have BK105 := n0_; have BK111 := n1_; have HB := n2_; clear n0_ n1_ n2_; (try clear hb); (try clear hb2); (try clear hk); (try clear hi); have hcz20_0 : w19.cell? ⟨gb111, 0, none⟩ = some (.string t106) := (blk_cell BK111.out 0).trans rfl; have hcz20_1 : w19.cell? ⟨gb111, 1, none⟩ = some (.int .i64 t107) := (blk_cell BK111.out 1).trans rfl; have hcz20_2 : w19.cell? ⟨gb111, 2, none⟩ = some (.int .i64 t108) := (blk_cell BK111.out 2).trans rfl; have hcz20_3 : w19.cell? ⟨gb111, 3, none⟩ = some (.int .i64 t109) := (blk_cell BK111.out 3).trans rfl; have hfz20_0 := blk_frozen BK111.out 0; have hfz20_1 := blk_frozen BK111.out 1; have hfz20_2 := blk_frozen BK111.out 2; have hfz20_3 := blk_frozen BK111.out 3) | (go_at_call 48; (with_reducible refine (instr_operation_hasB.calls t106 t107 t108 t109 true _ A13.out).mono ?_); rintro e w21 ⟨rfl, hb⟩; have n0_ := Aside0.mk (blk_below (g := gb105) (o := .cells #[.int .i64 a0_0, .int .i64 a0_1, .int .i64 a0_2, .int .i64 a0_3] 26 (0, 0)) (by (with_reducible repeat (first | refine blk_drewN ?_ _ | refine blk_drew ?_ | refine blk_alloc ?_ _)); exact BK105.out) hb); have n1_ := Aside0.mk (blk_below (g := gb111) (o := .cells #[.string t106, .int .i64 t107, .int .i64 t108, .int .i64 t109] 83 (0, 0)) (by (with_reducible repeat (first | refine blk_drewN ?_ _ | refine blk_drew ?_ | refine blk_alloc ?_ _)); exact BK111.out) hb); have n2_ := Aside0.mk (below_step (by repeat (first | (with_reducible first | exact HB.out | apply below_alloc | apply pw_below_drewN | apply below_drew1 | refine below_set ?_ GE105.out | refine below_set ?_ GE111.out) | exact HB.out)) hb); clear BK105; clear BK111; clear HB; have BK105 := n0_; have BK111 := n1_; have HB := n2_; clear n0_ n1_ n2_; (try clear hb); (try clear hb2); (try clear hk); (try clear hi); have hcz22_0 : w21.cell? ⟨gb111, 0, none⟩ = some (.string t106) := (blk_cell BK111.out 0).trans rfl; have hcz22_1 : w21.cell? ⟨gb111, 1, none⟩ = some (.int .i64 t107) := (blk_cell BK111.out 1).trans rfl; have hcz22_2 : w21.cell? ⟨gb111, 2, none⟩ = some (.int .i64 t108) := (blk_cell BK111.out 2).trans rfl; have hcz22_3 : w21.cell? ⟨gb111, 3, none⟩ = some (.int .i64 t109) := (blk_cell BK111.out 3).trans rfl; have hfz22_0 := blk_frozen BK111.out 0; have hfz22_1 := blk_frozen BK111.out 1; have hfz22_2 := blk_frozen BK111.out 2; have hfz22_3 := blk_frozen BK111.out 3) | (go_at_call 49; (with_reducible refine (instr_operation_hasC.calls t106 t107 t108 t109 true _ A15.out).mono ?_); rintro e w23 ⟨rfl, hb⟩; have n0_ := Aside0.mk (blk_below (g := gb105) (o := .cells #[.int .i64 a0_0, .int .i64 a0_1, .int .i64 a0_2, .int .i64 a0_3] 26 (0, 0)) (by (with_reducible repeat (first | refine blk_drewN ?_ _ | refine blk_drew ?_ | refine blk_alloc ?_ _)); exact BK105.out) hb); have n1_ := Aside0.mk (blk_below (g := gb111) (o := .cells #[.string t106, .int .i64 t107, .int .i64 t108, .int .i64 t109] 83 (0, 0)) (by (with_reducible repeat (first | refine blk_drewN ?_ _ | refine blk_drew ?_ | refine blk_alloc ?_ _)); exact BK111.out) hb); have n2_ := Aside0.mk (below_step (by repeat (first | (with_reducible first | exact HB.out | apply below_alloc | apply pw_below_drewN | apply below_drew1 | refine below_set ?_ GE105.out | refine below_set ?_ GE111.out) | exact HB.out)) hb); clear BK105; clear BK111; clear HB; have BK105 := n0_; have BK111 := n1_; have HB := n2_; clear n0_ n1_ n2_; (try clear hb); (try clear hb2); (try clear hk); (try clear hi)))
            go_meet
            case rel => exact ⟨_, (false), (by first | rfl | (simp; done) | (simp [*]; done)), H', ⟨by first | omega | exact Nat.le_refl _⟩, ⟨by (with_reducible repeat (first | refine blk_drewN ?_ _ | refine blk_drew ?_ | refine blk_alloc ?_ _)); exact BK105.out⟩, ⟨by (with_reducible repeat (first | refine blk_drewN ?_ _ | refine blk_drew ?_ | refine blk_alloc ?_ _)); exact BK111.out⟩, ⟨by repeat (first | (with_reducible first | exact HB.out | apply below_alloc | apply pw_below_drewN | apply below_drew1 | refine below_set ?_ GE105.out | refine below_set ?_ GE111.out) | exact HB.out)⟩⟩
          · replace c16 := Bool.eq_false_iff.mpr c16
            subst c16
            have H1 : (instr_Instr_Check.j0 k (a0_3 != 0) a0_0 a0_1 a0_2 a0_3 t106 t107 t108 t109) = some r := by rw [if_neg (show ¬ (false = true) by decide)] at H; exact H
            clear H
            have H := H1
            clear H1
            have H' := Aside0.mk H
            clear H
            have hnb24 := NB111_105.out
            have hnc24 := NB105_111.out
            have hcz25_0 : w8.cell? ⟨gb111, 0, none⟩ = some (.string (⟨#[]⟩ : ByteArray)) := (blk_cell BK111.out 0).trans rfl
            have hcz25_1 : w8.cell? ⟨gb111, 1, none⟩ = some (.int .i64 0) := (blk_cell BK111.out 1).trans rfl
            have hcz25_2 : w8.cell? ⟨gb111, 2, none⟩ = some (.int .i64 0) := (blk_cell BK111.out 2).trans rfl
            have hcz25_3 : w8.cell? ⟨gb111, 3, none⟩ = some (.int .i64 0) := (blk_cell BK111.out 3).trans rfl
            have hfz25_0 := blk_frozen BK111.out 0
            have hfz25_1 := blk_frozen BK111.out 1
            have hfz25_2 := blk_frozen BK111.out 2
            have hfz25_3 := blk_frozen BK111.out 3
            go_wp2_with (first | ((with_reducible refine gate_callee (f := 47) rfl ?_); refine goesL_ (some 16) rfl rfl Try.func47 (by kernel_rfl) rfl #[.agg #[.string t106, .int .i64 t107, .int .i64 t108, .int .i64 t109]] rfl (by (try simp only [List.map_toArray, List.map_cons, List.map_nil]); first | done | rfl | (simp only [List.length_drop, List.length_take]; rfl)) ?_; (with_reducible refine (instr_operation_hasA.calls t106 t107 t108 t109 true _ A11.out).mono ?_); rintro e w26 ⟨rfl, hb⟩; refine ⟨_, rfl, ?_⟩; have n0_ := Aside0.mk (blk_below (g := gb105) (o := .cells #[.int .i64 a0_0, .int .i64 a0_1, .int .i64 a0_2, .int .i64 a0_3] 26 (0, 0)) (by (with_reducible repeat (first | refine blk_drewN ?_ _ | refine blk_drew ?_ | refine blk_alloc ?_ _)); refine blk_far ?_ NB105_111.out _; (with_reducible repeat (first | refine blk_drewN ?_ _ | refine blk_drew ?_ | refine blk_alloc ?_ _)); refine blk_far ?_ NB105_111.out _; (with_reducible repeat (first | refine blk_drewN ?_ _ | refine blk_drew ?_ | refine blk_alloc ?_ _)); refine blk_far ?_ NB105_111.out _; (with_reducible repeat (first | refine blk_drewN ?_ _ | refine blk_drew ?_ | refine blk_alloc ?_ _)); refine blk_far ?_ NB105_111.out _; (with_reducible repeat (first | refine blk_drewN ?_ _ | refine blk_drew ?_ | refine blk_alloc ?_ _)); exact BK105.out) hb); have n1_ := Aside0.mk (blk_below (g := gb111) (o := .cells #[.string t106, .int .i64 t107, .int .i64 t108, .int .i64 t109] 83 (0, 0)) (by (with_reducible repeat (first | refine blk_drewN ?_ _ | refine blk_drew ?_ | refine blk_alloc ?_ _)); refine blk_put (cs := #[.string t106, .int .i64 t107, .int .i64 t108, .int .i64 0]) ?_ 3 _ rfl; (with_reducible repeat (first | refine blk_drewN ?_ _ | refine blk_drew ?_ | refine blk_alloc ?_ _)); refine blk_put (cs := #[.string t106, .int .i64 t107, .int .i64 0, .int .i64 0]) ?_ 2 _ rfl; (with_reducible repeat (first | refine blk_drewN ?_ _ | refine blk_drew ?_ | refine blk_alloc ?_ _)); refine blk_put (cs := #[.string t106, .int .i64 0, .int .i64 0, .int .i64 0]) ?_ 1 _ rfl; (with_reducible repeat (first | refine blk_drewN ?_ _ | refine blk_drew ?_ | refine blk_alloc ?_ _)); refine blk_put (cs := #[.string (⟨#[]⟩ : ByteArray), .int .i64 0, .int .i64 0, .int .i64 0]) ?_ 0 _ rfl; (with_reducible repeat (first | refine blk_drewN ?_ _ | refine blk_drew ?_ | refine blk_alloc ?_ _)); exact BK111.out) hb); have n2_ := Aside0.mk (below_step (by repeat (first | (with_reducible first | exact HB.out | apply below_alloc | apply pw_below_drewN | apply below_drew1 | refine below_set ?_ GE105.out | refine below_set ?_ GE111.out) | exact HB.out)) hb); clear BK105; clear BK111; clear HB; have BK105 := n0_; have BK111 := n1_; have HB := n2_; clear n0_ n1_ n2_; (try clear hb); (try clear hb2); (try clear hk); (try clear hi); have hcz27_0 : w26.cell? ⟨gb111, 0, none⟩ = some (.string t106) := (blk_cell BK111.out 0).trans rfl; have hcz27_1 : w26.cell? ⟨gb111, 1, none⟩ = some (.int .i64 t107) := (blk_cell BK111.out 1).trans rfl; have hcz27_2 : w26.cell? ⟨gb111, 2, none⟩ = some (.int .i64 t108) := (blk_cell BK111.out 2).trans rfl; have hcz27_3 : w26.cell? ⟨gb111, 3, none⟩ = some (.int .i64 t109) := (blk_cell BK111.out 3).trans rfl; have hfz27_0 := blk_frozen BK111.out 0; have hfz27_1 := blk_frozen BK111.out 1; have hfz27_2 := blk_frozen BK111.out 2; have hfz27_3 := blk_frozen BK111.out 3) | (go_at_call 48; (with_reducible refine (instr_operation_hasB.calls t106 t107 t108 t109 true _ A13.out).mono ?_); rintro e w28 ⟨rfl, hb⟩; have n0_ := Aside0.mk (blk_below (g := gb105) (o := .cells #[.int .i64 a0_0, .int .i64 a0_1, .int .i64 a0_2, .int .i64 a0_3] 26 (0, 0)) (by (with_reducible repeat (first | refine blk_drewN ?_ _ | refine blk_drew ?_ | refine blk_alloc ?_ _)); exact BK105.out) hb); have n1_ := Aside0.mk (blk_below (g := gb111) (o := .cells #[.string t106, .int .i64 t107, .int .i64 t108, .int .i64 t109] 83 (0, 0)) (by (with_reducible repeat (first | refine blk_drewN ?_ _ | refine blk_drew ?_ | refine blk_alloc ?_ _)); exact BK111.out) hb); have n2_ := Aside0.mk (below_step (by repeat (first | (with_reducible first | exact HB.out | apply below_alloc | apply pw_below_drewN | apply below_drew1 | refine below_set ?_ GE105.out | refine below_set ?_ GE111.out) | exact HB.out)) hb); clear BK105; clear BK111; clear HB; have BK105 := n0_; have BK111 := n1_; have HB := n2_; clear n0_ n1_ n2_; (try clear hb); (try clear hb2); (try clear hk); (try clear hi); have hcz29_0 : w28.cell? ⟨gb111, 0, none⟩ = some (.string t106) := (blk_cell BK111.out 0).trans rfl; have hcz29_1 : w28.cell? ⟨gb111, 1, none⟩ = some (.int .i64 t107) := (blk_cell BK111.out 1).trans rfl; have hcz29_2 : w28.cell? ⟨gb111, 2, none⟩ = some (.int .i64 t108) := (blk_cell BK111.out 2).trans rfl; have hcz29_3 : w28.cell? ⟨gb111, 3, none⟩ = some (.int .i64 t109) := (blk_cell BK111.out 3).trans rfl; have hfz29_0 := blk_frozen BK111.out 0; have hfz29_1 := blk_frozen BK111.out 1; have hfz29_2 := blk_frozen BK111.out 2; have hfz29_3 := blk_frozen BK111.out 3) | (go_at_call 49; (with_reducible refine (instr_operation_hasC.calls t106 t107 t108 t109 false _ A15.out).mono ?_); rintro e w30 ⟨rfl, hb⟩; have n0_ := Aside0.mk (blk_below (g := gb105) (o := .cells #[.int .i64 a0_0, .int .i64 a0_1, .int .i64 a0_2, .int .i64 a0_3] 26 (0, 0)) (by (with_reducible repeat (first | refine blk_drewN ?_ _ | refine blk_drew ?_ | refine blk_alloc ?_ _)); exact BK105.out) hb); have n1_ := Aside0.mk (blk_below (g := gb111) (o := .cells #[.string t106, .int .i64 t107, .int .i64 t108, .int .i64 t109] 83 (0, 0)) (by (with_reducible repeat (first | refine blk_drewN ?_ _ | refine blk_drew ?_ | refine blk_alloc ?_ _)); exact BK111.out) hb); have n2_ := Aside0.mk (below_step (by repeat (first | (with_reducible first | exact HB.out | apply below_alloc | apply pw_below_drewN | apply below_drew1 | refine below_set ?_ GE105.out | refine below_set ?_ GE111.out) | exact HB.out)) hb); clear BK105; clear BK111; clear HB; have BK105 := n0_; have BK111 := n1_; have HB := n2_; clear n0_ n1_ n2_; (try clear hb); (try clear hb2); (try clear hk); (try clear hi); have hcz31_0 : w30.cell? ⟨gb105, 0, none⟩ = some (.int .i64 a0_0) := (blk_cell BK105.out 0).trans rfl; have hcz31_1 : w30.cell? ⟨gb105, 1, none⟩ = some (.int .i64 a0_1) := (blk_cell BK105.out 1).trans rfl; have hcz31_2 : w30.cell? ⟨gb105, 2, none⟩ = some (.int .i64 a0_2) := (blk_cell BK105.out 2).trans rfl; have hcz31_3 : w30.cell? ⟨gb105, 3, none⟩ = some (.int .i64 a0_3) := (blk_cell BK105.out 3).trans rfl; have hfz31_0 := blk_frozen BK105.out 0; have hfz31_1 := blk_frozen BK105.out 1; have hfz31_2 := blk_frozen BK105.out 2; have hfz31_3 := blk_frozen BK105.out 3))
            go_meet
            case rel => exact ⟨_, ((a0_3 != 0)), (by first | rfl | (simp; done) | (simp [*]; done)), H', ⟨by first | omega | exact Nat.le_refl _⟩, ⟨by (with_reducible repeat (first | refine blk_drewN ?_ _ | refine blk_drew ?_ | refine blk_alloc ?_ _)); exact BK105.out⟩, ⟨by (with_reducible repeat (first | refine blk_drewN ?_ _ | refine blk_drew ?_ | refine blk_alloc ?_ _)); exact BK111.out⟩, ⟨by repeat (first | (with_reducible first | exact HB.out | apply below_alloc | apply pw_below_drewN | apply below_drew1 | refine below_set ?_ GE105.out | refine below_set ?_ GE111.out) | exact HB.out)⟩⟩
        · replace c14 := Bool.eq_false_iff.mpr c14
          subst c14
          have H1 : (if a0_2 = 0 then ((instr_operation_hasC.f t106 t107 t108 t109).bind fun t115 => (if t115 = true then (instr_Instr_Check.j0 k false a0_0 a0_1 a0_2 a0_3 t106 t107 t108 t109) else (instr_Instr_Check.j0 k (a0_3 != 0) a0_0 a0_1 a0_2 a0_3 t106 t107 t108 t109))) else (instr_Instr_Check.j0 k true a0_0 a0_1 a0_2 a0_3 t106 t107 t108 t109)) = some r := by rw [if_neg (show ¬ (false = true) by decide)] at H; exact H
          clear H
          have H := H1
          clear H1
          by_cases c32 : a0_2 = 0
          · rw [if_pos c32] at H
            have c32b0 : (a0_2 == 0) = true := beq_iff_eq.mpr c32
            have c32b1 : (a0_2 != 0) = false := bne_eq_false_iff_eq.mpr c32
            clear c32
            (first | rw [c32b0] | (simp only [i64_w, i32_w]; rw [c32b0]) | skip)
            replace H := Option.bind_eq_some_iff.mp H
            obtain ⟨t115, A330, H⟩ := H
            replace H : (if t115 = true then (instr_Instr_Check.j0 k false a0_0 a0_1 a0_2 a0_3 t106 t107 t108 t109) else (instr_Instr_Check.j0 k (a0_3 != 0) a0_0 a0_1 a0_2 a0_3 t106 t107 t108 t109)) = some r := H
            have A33 := Aside0.mk A330
            clear A330
            by_cases c34 : t115 = true
            · subst c34
              have H1 : (instr_Instr_Check.j0 k false a0_0 a0_1 a0_2 a0_3 t106 t107 t108 t109) = some r := by rw [if_pos rfl] at H; exact H
              clear H
              have H := H1
              clear H1
              have H' := Aside0.mk H
              clear H
              have hnb35 := NB111_105.out
              have hnc35 := NB105_111.out
              have hcz36_0 : w8.cell? ⟨gb111, 0, none⟩ = some (.string (⟨#[]⟩ : ByteArray)) := (blk_cell BK111.out 0).trans rfl
              have hcz36_1 : w8.cell? ⟨gb111, 1, none⟩ = some (.int .i64 0) := (blk_cell BK111.out 1).trans rfl
              have hcz36_2 : w8.cell? ⟨gb111, 2, none⟩ = some (.int .i64 0) := (blk_cell BK111.out 2).trans rfl
              have hcz36_3 : w8.cell? ⟨gb111, 3, none⟩ = some (.int .i64 0) := (blk_cell BK111.out 3).trans rfl
              have hfz36_0 := blk_frozen BK111.out 0
              have hfz36_1 := blk_frozen BK111.out 1
              have hfz36_2 := blk_frozen BK111.out 2
              have hfz36_3 := blk_frozen BK111.out 3
              go_wp2_with (first | ((with_reducible refine gate_callee (f := 47) rfl ?_); refine goesL_ (some 16) rfl rfl Try.func47 (by kernel_rfl) rfl #[.agg #[.string t106, .int .i64 t107, .int .i64 t108, .int .i64 t109]] rfl (by (try simp only [List.map_toArray, List.map_cons, List.map_nil]); first | done | rfl | (simp only [List.length_drop, List.length_take]; rfl)) ?_; (with_reducible refine (instr_operation_hasA.calls t106 t107 t108 t109 true _ A11.out).mono ?_); rintro e w37 ⟨rfl, hb⟩; refine ⟨_, rfl, ?_⟩; have n0_ := Aside0.mk (blk_below (g := gb105) (o := .cells #[.int .i64 a0_0, .int .i64 a0_1, .int .i64 a0_2, .int .i64 a0_3] 26 (0, 0)) (by (with_reducible repeat (first | refine blk_drewN ?_ _ | refine blk_drew ?_ | refine blk_alloc ?_ _)); refine blk_far ?_ NB105_111.out _; (with_reducible repeat (first | refine blk_drewN ?_ _ | refine blk_drew ?_ | refine blk_alloc ?_ _)); refine blk_far ?_ NB105_111.out _; (with_reducible repeat (first | refine blk_drewN ?_ _ | refine blk_drew ?_ | refine blk_alloc ?_ _)); refine blk_far ?_ NB105_111.out _; (with_reducible repeat (first | refine blk_drewN ?_ _ | refine blk_drew ?_ | refine blk_alloc ?_ _)); refine blk_far ?_ NB105_111.out _; (with_reducible repeat (first | refine blk_drewN ?_ _ | refine blk_drew ?_ | refine blk_alloc ?_ _)); exact BK105.out) hb); have n1_ := Aside0.mk (blk_below (g := gb111) (o := .cells #[.string t106, .int .i64 t107, .int .i64 t108, .int .i64 t109] 83 (0, 0)) (by (with_reducible repeat (first | refine blk_drewN ?_ _ | refine blk_drew ?_ | refine blk_alloc ?_ _)); refine blk_put (cs := #[.string t106, .int .i64 t107, .int .i64 t108, .int .i64 0]) ?_ 3 _ rfl; (with_reducible repeat (first | refine blk_drewN ?_ _ | refine blk_drew ?_ | refine blk_alloc ?_ _)); refine blk_put (cs := #[.string t106, .int .i64 t107, .int .i64 0, .int .i64 0]) ?_ 2 _ rfl; (with_reducible repeat (first | refine blk_drewN ?_ _ | refine blk_drew ?_ | refine blk_alloc ?_ _)); refine blk_put (cs := #[.string t106, .int .i64 0, .int .i64 0, .int .i64 0]) ?_ 1 _ rfl; (with_reducible repeat (first | refine blk_drewN ?_ _ | refine blk_drew ?_ | refine blk_alloc ?_ _)); refine blk_put (cs := #[.string (⟨#[]⟩ : ByteArray), .int .i64 0, .int .i64 0, .int .i64 0]) ?_ 0 _ rfl; (with_reducible repeat (first | refine blk_drewN ?_ _ | refine blk_drew ?_ | refine blk_alloc ?_ _)); exact BK111.out) hb); have n2_ := Aside0.mk (below_step (by repeat (first | (with_reducible first | exact HB.out | apply below_alloc | apply pw_below_drewN | apply below_drew1 | refine below_set ?_ GE105.out | refine below_set ?_ GE111.out) | exact HB.out)) hb); clear BK105; clear BK111; clear HB; have BK105 := n0_; have BK111 := n1_; have HB := n2_; clear n0_ n1_ n2_; (try clear hb); (try clear hb2); (try clear hk); (try clear hi); have hcz38_0 : w37.cell? ⟨gb111, 0, none⟩ = some (.string t106) := (blk_cell BK111.out 0).trans rfl; have hcz38_1 : w37.cell? ⟨gb111, 1, none⟩ = some (.int .i64 t107) := (blk_cell BK111.out 1).trans rfl; have hcz38_2 : w37.cell? ⟨gb111, 2, none⟩ = some (.int .i64 t108) := (blk_cell BK111.out 2).trans rfl; have hcz38_3 : w37.cell? ⟨gb111, 3, none⟩ = some (.int .i64 t109) := (blk_cell BK111.out 3).trans rfl; have hfz38_0 := blk_frozen BK111.out 0; have hfz38_1 := blk_frozen BK111.out 1; have hfz38_2 := blk_frozen BK111.out 2; have hfz38_3 := blk_frozen BK111.out 3) | (go_at_call 48; (with_reducible refine (instr_operation_hasB.calls t106 t107 t108 t109 false _ A13.out).mono ?_); rintro e w39 ⟨rfl, hb⟩; have n0_ := Aside0.mk (blk_below (g := gb105) (o := .cells #[.int .i64 a0_0, .int .i64 a0_1, .int .i64 a0_2, .int .i64 a0_3] 26 (0, 0)) (by (with_reducible repeat (first | refine blk_drewN ?_ _ | refine blk_drew ?_ | refine blk_alloc ?_ _)); exact BK105.out) hb); have n1_ := Aside0.mk (blk_below (g := gb111) (o := .cells #[.string t106, .int .i64 t107, .int .i64 t108, .int .i64 t109] 83 (0, 0)) (by (with_reducible repeat (first | refine blk_drewN ?_ _ | refine blk_drew ?_ | refine blk_alloc ?_ _)); exact BK111.out) hb); have n2_ := Aside0.mk (below_step (by repeat (first | (with_reducible first | exact HB.out | apply below_alloc | apply pw_below_drewN | apply below_drew1 | refine below_set ?_ GE105.out | refine below_set ?_ GE111.out) | exact HB.out)) hb); clear BK105; clear BK111; clear HB; have BK105 := n0_; have BK111 := n1_; have HB := n2_; clear n0_ n1_ n2_; (try clear hb); (try clear hb2); (try clear hk); (try clear hi); have hcz40_0 : w39.cell? ⟨gb105, 0, none⟩ = some (.int .i64 a0_0) := (blk_cell BK105.out 0).trans rfl; have hcz40_1 : w39.cell? ⟨gb105, 1, none⟩ = some (.int .i64 a0_1) := (blk_cell BK105.out 1).trans rfl; have hcz40_2 : w39.cell? ⟨gb105, 2, none⟩ = some (.int .i64 a0_2) := (blk_cell BK105.out 2).trans rfl; have hcz40_3 : w39.cell? ⟨gb105, 3, none⟩ = some (.int .i64 a0_3) := (blk_cell BK105.out 3).trans rfl; have hfz40_0 := blk_frozen BK105.out 0; have hfz40_1 := blk_frozen BK105.out 1; have hfz40_2 := blk_frozen BK105.out 2; have hfz40_3 := blk_frozen BK105.out 3; have hcz41_0 : w39.cell? ⟨gb111, 0, none⟩ = some (.string t106) := (blk_cell BK111.out 0).trans rfl; have hcz41_1 : w39.cell? ⟨gb111, 1, none⟩ = some (.int .i64 t107) := (blk_cell BK111.out 1).trans rfl; have hcz41_2 : w39.cell? ⟨gb111, 2, none⟩ = some (.int .i64 t108) := (blk_cell BK111.out 2).trans rfl; have hcz41_3 : w39.cell? ⟨gb111, 3, none⟩ = some (.int .i64 t109) := (blk_cell BK111.out 3).trans rfl; have hfz41_0 := blk_frozen BK111.out 0; have hfz41_1 := blk_frozen BK111.out 1; have hfz41_2 := blk_frozen BK111.out 2; have hfz41_3 := blk_frozen BK111.out 3) | (go_at_call 49; (with_reducible refine (instr_operation_hasC.calls t106 t107 t108 t109 true _ A33.out).mono ?_); rintro e w42 ⟨rfl, hb⟩; have n0_ := Aside0.mk (blk_below (g := gb105) (o := .cells #[.int .i64 a0_0, .int .i64 a0_1, .int .i64 a0_2, .int .i64 a0_3] 26 (0, 0)) (by (with_reducible repeat (first | refine blk_drewN ?_ _ | refine blk_drew ?_ | refine blk_alloc ?_ _)); exact BK105.out) hb); have n1_ := Aside0.mk (blk_below (g := gb111) (o := .cells #[.string t106, .int .i64 t107, .int .i64 t108, .int .i64 t109] 83 (0, 0)) (by (with_reducible repeat (first | refine blk_drewN ?_ _ | refine blk_drew ?_ | refine blk_alloc ?_ _)); exact BK111.out) hb); have n2_ := Aside0.mk (below_step (by repeat (first | (with_reducible first | exact HB.out | apply below_alloc | apply pw_below_drewN | apply below_drew1 | refine below_set ?_ GE105.out | refine below_set ?_ GE111.out) | exact HB.out)) hb); clear BK105; clear BK111; clear HB; have BK105 := n0_; have BK111 := n1_; have HB := n2_; clear n0_ n1_ n2_; (try clear hb); (try clear hb2); (try clear hk); (try clear hi)))
              go_meet
              case rel => exact ⟨_, (false), (by first | rfl | (simp; done) | (simp [*]; done)), H', ⟨by first | omega | exact Nat.le_refl _⟩, ⟨by (with_reducible repeat (first | refine blk_drewN ?_ _ | refine blk_drew ?_ | refine blk_alloc ?_ _)); exact BK105.out⟩, ⟨by (with_reducible repeat (first | refine blk_drewN ?_ _ | refine blk_drew ?_ | refine blk_alloc ?_ _)); exact BK111.out⟩, ⟨by repeat (first | (with_reducible first | exact HB.out | apply below_alloc | apply pw_below_drewN | apply below_drew1 | refine below_set ?_ GE105.out | refine below_set ?_ GE111.out) | exact HB.out)⟩⟩
            · replace c34 := Bool.eq_false_iff.mpr c34
              subst c34
              have H1 : (instr_Instr_Check.j0 k (a0_3 != 0) a0_0 a0_1 a0_2 a0_3 t106 t107 t108 t109) = some r := by rw [if_neg (show ¬ (false = true) by decide)] at H; exact H
              clear H
              have H := H1
              clear H1
              have H' := Aside0.mk H
              clear H
              have hnb43 := NB111_105.out
              have hnc43 := NB105_111.out
              have hcz44_0 : w8.cell? ⟨gb111, 0, none⟩ = some (.string (⟨#[]⟩ : ByteArray)) := (blk_cell BK111.out 0).trans rfl
              have hcz44_1 : w8.cell? ⟨gb111, 1, none⟩ = some (.int .i64 0) := (blk_cell BK111.out 1).trans rfl
              have hcz44_2 : w8.cell? ⟨gb111, 2, none⟩ = some (.int .i64 0) := (blk_cell BK111.out 2).trans rfl
              have hcz44_3 : w8.cell? ⟨gb111, 3, none⟩ = some (.int .i64 0) := (blk_cell BK111.out 3).trans rfl
              have hfz44_0 := blk_frozen BK111.out 0
              have hfz44_1 := blk_frozen BK111.out 1
              have hfz44_2 := blk_frozen BK111.out 2
              have hfz44_3 := blk_frozen BK111.out 3
              go_wp2_with (first | ((with_reducible refine gate_callee (f := 47) rfl ?_); refine goesL_ (some 16) rfl rfl Try.func47 (by kernel_rfl) rfl #[.agg #[.string t106, .int .i64 t107, .int .i64 t108, .int .i64 t109]] rfl (by (try simp only [List.map_toArray, List.map_cons, List.map_nil]); first | done | rfl | (simp only [List.length_drop, List.length_take]; rfl)) ?_; (with_reducible refine (instr_operation_hasA.calls t106 t107 t108 t109 true _ A11.out).mono ?_); rintro e w45 ⟨rfl, hb⟩; refine ⟨_, rfl, ?_⟩; have n0_ := Aside0.mk (blk_below (g := gb105) (o := .cells #[.int .i64 a0_0, .int .i64 a0_1, .int .i64 a0_2, .int .i64 a0_3] 26 (0, 0)) (by (with_reducible repeat (first | refine blk_drewN ?_ _ | refine blk_drew ?_ | refine blk_alloc ?_ _)); refine blk_far ?_ NB105_111.out _; (with_reducible repeat (first | refine blk_drewN ?_ _ | refine blk_drew ?_ | refine blk_alloc ?_ _)); refine blk_far ?_ NB105_111.out _; (with_reducible repeat (first | refine blk_drewN ?_ _ | refine blk_drew ?_ | refine blk_alloc ?_ _)); refine blk_far ?_ NB105_111.out _; (with_reducible repeat (first | refine blk_drewN ?_ _ | refine blk_drew ?_ | refine blk_alloc ?_ _)); refine blk_far ?_ NB105_111.out _; (with_reducible repeat (first | refine blk_drewN ?_ _ | refine blk_drew ?_ | refine blk_alloc ?_ _)); exact BK105.out) hb); have n1_ := Aside0.mk (blk_below (g := gb111) (o := .cells #[.string t106, .int .i64 t107, .int .i64 t108, .int .i64 t109] 83 (0, 0)) (by (with_reducible repeat (first | refine blk_drewN ?_ _ | refine blk_drew ?_ | refine blk_alloc ?_ _)); refine blk_put (cs := #[.string t106, .int .i64 t107, .int .i64 t108, .int .i64 0]) ?_ 3 _ rfl; (with_reducible repeat (first | refine blk_drewN ?_ _ | refine blk_drew ?_ | refine blk_alloc ?_ _)); refine blk_put (cs := #[.string t106, .int .i64 t107, .int .i64 0, .int .i64 0]) ?_ 2 _ rfl; (with_reducible repeat (first | refine blk_drewN ?_ _ | refine blk_drew ?_ | refine blk_alloc ?_ _)); refine blk_put (cs := #[.string t106, .int .i64 0, .int .i64 0, .int .i64 0]) ?_ 1 _ rfl; (with_reducible repeat (first | refine blk_drewN ?_ _ | refine blk_drew ?_ | refine blk_alloc ?_ _)); refine blk_put (cs := #[.string (⟨#[]⟩ : ByteArray), .int .i64 0, .int .i64 0, .int .i64 0]) ?_ 0 _ rfl; (with_reducible repeat (first | refine blk_drewN ?_ _ | refine blk_drew ?_ | refine blk_alloc ?_ _)); exact BK111.out) hb); have n2_ := Aside0.mk (below_step (by repeat (first | (with_reducible first | exact HB.out | apply below_alloc | apply pw_below_drewN | apply below_drew1 | refine below_set ?_ GE105.out | refine below_set ?_ GE111.out) | exact HB.out)) hb); clear BK105; clear BK111; clear HB; have BK105 := n0_; have BK111 := n1_; have HB := n2_; clear n0_ n1_ n2_; (try clear hb); (try clear hb2); (try clear hk); (try clear hi); have hcz46_0 : w45.cell? ⟨gb111, 0, none⟩ = some (.string t106) := (blk_cell BK111.out 0).trans rfl; have hcz46_1 : w45.cell? ⟨gb111, 1, none⟩ = some (.int .i64 t107) := (blk_cell BK111.out 1).trans rfl; have hcz46_2 : w45.cell? ⟨gb111, 2, none⟩ = some (.int .i64 t108) := (blk_cell BK111.out 2).trans rfl; have hcz46_3 : w45.cell? ⟨gb111, 3, none⟩ = some (.int .i64 t109) := (blk_cell BK111.out 3).trans rfl; have hfz46_0 := blk_frozen BK111.out 0; have hfz46_1 := blk_frozen BK111.out 1; have hfz46_2 := blk_frozen BK111.out 2; have hfz46_3 := blk_frozen BK111.out 3) | (go_at_call 48; (with_reducible refine (instr_operation_hasB.calls t106 t107 t108 t109 false _ A13.out).mono ?_); rintro e w47 ⟨rfl, hb⟩; have n0_ := Aside0.mk (blk_below (g := gb105) (o := .cells #[.int .i64 a0_0, .int .i64 a0_1, .int .i64 a0_2, .int .i64 a0_3] 26 (0, 0)) (by (with_reducible repeat (first | refine blk_drewN ?_ _ | refine blk_drew ?_ | refine blk_alloc ?_ _)); exact BK105.out) hb); have n1_ := Aside0.mk (blk_below (g := gb111) (o := .cells #[.string t106, .int .i64 t107, .int .i64 t108, .int .i64 t109] 83 (0, 0)) (by (with_reducible repeat (first | refine blk_drewN ?_ _ | refine blk_drew ?_ | refine blk_alloc ?_ _)); exact BK111.out) hb); have n2_ := Aside0.mk (below_step (by repeat (first | (with_reducible first | exact HB.out | apply below_alloc | apply pw_below_drewN | apply below_drew1 | refine below_set ?_ GE105.out | refine below_set ?_ GE111.out) | exact HB.out)) hb); clear BK105; clear BK111; clear HB; have BK105 := n0_; have BK111 := n1_; have HB := n2_; clear n0_ n1_ n2_; (try clear hb); (try clear hb2); (try clear hk); (try clear hi); have hcz48_0 : w47.cell? ⟨gb105, 0, none⟩ = some (.int .i64 a0_0) := (blk_cell BK105.out 0).trans rfl; have hcz48_1 : w47.cell? ⟨gb105, 1, none⟩ = some (.int .i64 a0_1) := (blk_cell BK105.out 1).trans rfl; have hcz48_2 : w47.cell? ⟨gb105, 2, none⟩ = some (.int .i64 a0_2) := (blk_cell BK105.out 2).trans rfl; have hcz48_3 : w47.cell? ⟨gb105, 3, none⟩ = some (.int .i64 a0_3) := (blk_cell BK105.out 3).trans rfl; have hfz48_0 := blk_frozen BK105.out 0; have hfz48_1 := blk_frozen BK105.out 1; have hfz48_2 := blk_frozen BK105.out 2; have hfz48_3 := blk_frozen BK105.out 3; have hcz49_0 : w47.cell? ⟨gb111, 0, none⟩ = some (.string t106) := (blk_cell BK111.out 0).trans rfl; have hcz49_1 : w47.cell? ⟨gb111, 1, none⟩ = some (.int .i64 t107) := (blk_cell BK111.out 1).trans rfl; have hcz49_2 : w47.cell? ⟨gb111, 2, none⟩ = some (.int .i64 t108) := (blk_cell BK111.out 2).trans rfl; have hcz49_3 : w47.cell? ⟨gb111, 3, none⟩ = some (.int .i64 t109) := (blk_cell BK111.out 3).trans rfl; have hfz49_0 := blk_frozen BK111.out 0; have hfz49_1 := blk_frozen BK111.out 1; have hfz49_2 := blk_frozen BK111.out 2; have hfz49_3 := blk_frozen BK111.out 3) | (go_at_call 49; (with_reducible refine (instr_operation_hasC.calls t106 t107 t108 t109 false _ A33.out).mono ?_); rintro e w50 ⟨rfl, hb⟩; have n0_ := Aside0.mk (blk_below (g := gb105) (o := .cells #[.int .i64 a0_0, .int .i64 a0_1, .int .i64 a0_2, .int .i64 a0_3] 26 (0, 0)) (by (with_reducible repeat (first | refine blk_drewN ?_ _ | refine blk_drew ?_ | refine blk_alloc ?_ _)); exact BK105.out) hb); have n1_ := Aside0.mk (blk_below (g := gb111) (o := .cells #[.string t106, .int .i64 t107, .int .i64 t108, .int .i64 t109] 83 (0, 0)) (by (with_reducible repeat (first | refine blk_drewN ?_ _ | refine blk_drew ?_ | refine blk_alloc ?_ _)); exact BK111.out) hb); have n2_ := Aside0.mk (below_step (by repeat (first | (with_reducible first | exact HB.out | apply below_alloc | apply pw_below_drewN | apply below_drew1 | refine below_set ?_ GE105.out | refine below_set ?_ GE111.out) | exact HB.out)) hb); clear BK105; clear BK111; clear HB; have BK105 := n0_; have BK111 := n1_; have HB := n2_; clear n0_ n1_ n2_; (try clear hb); (try clear hb2); (try clear hk); (try clear hi); have hcz51_0 : w50.cell? ⟨gb105, 0, none⟩ = some (.int .i64 a0_0) := (blk_cell BK105.out 0).trans rfl; have hcz51_1 : w50.cell? ⟨gb105, 1, none⟩ = some (.int .i64 a0_1) := (blk_cell BK105.out 1).trans rfl; have hcz51_2 : w50.cell? ⟨gb105, 2, none⟩ = some (.int .i64 a0_2) := (blk_cell BK105.out 2).trans rfl; have hcz51_3 : w50.cell? ⟨gb105, 3, none⟩ = some (.int .i64 a0_3) := (blk_cell BK105.out 3).trans rfl; have hfz51_0 := blk_frozen BK105.out 0; have hfz51_1 := blk_frozen BK105.out 1; have hfz51_2 := blk_frozen BK105.out 2; have hfz51_3 := blk_frozen BK105.out 3))
              go_meet
              case rel => exact ⟨_, ((a0_3 != 0)), (by first | rfl | (simp; done) | (simp [*]; done)), H', ⟨by first | omega | exact Nat.le_refl _⟩, ⟨by (with_reducible repeat (first | refine blk_drewN ?_ _ | refine blk_drew ?_ | refine blk_alloc ?_ _)); exact BK105.out⟩, ⟨by (with_reducible repeat (first | refine blk_drewN ?_ _ | refine blk_drew ?_ | refine blk_alloc ?_ _)); exact BK111.out⟩, ⟨by repeat (first | (with_reducible first | exact HB.out | apply below_alloc | apply pw_below_drewN | apply below_drew1 | refine below_set ?_ GE105.out | refine below_set ?_ GE111.out) | exact HB.out)⟩⟩
          · rw [if_neg c32] at H
            have c32b0 : (a0_2 == 0) = false := beq_eq_false_iff_ne.mpr c32
            have c32b1 : (a0_2 != 0) = true := bne_iff_ne.mpr c32
            (first | rw [c32b0] | (simp only [i64_w, i32_w]; rw [c32b0]) | skip)
            have H' := Aside0.mk H
            clear H
            have hnb52 := NB111_105.out
            have hnc52 := NB105_111.out
            have hcz53_0 : w8.cell? ⟨gb111, 0, none⟩ = some (.string (⟨#[]⟩ : ByteArray)) := (blk_cell BK111.out 0).trans rfl
            have hcz53_1 : w8.cell? ⟨gb111, 1, none⟩ = some (.int .i64 0) := (blk_cell BK111.out 1).trans rfl
            have hcz53_2 : w8.cell? ⟨gb111, 2, none⟩ = some (.int .i64 0) := (blk_cell BK111.out 2).trans rfl
            have hcz53_3 : w8.cell? ⟨gb111, 3, none⟩ = some (.int .i64 0) := (blk_cell BK111.out 3).trans rfl
            have hfz53_0 := blk_frozen BK111.out 0
            have hfz53_1 := blk_frozen BK111.out 1
            have hfz53_2 := blk_frozen BK111.out 2
            have hfz53_3 := blk_frozen BK111.out 3
            go_wp2_with (first | ((with_reducible refine gate_callee (f := 47) rfl ?_); refine goesL_ (some 16) rfl rfl Try.func47 (by kernel_rfl) rfl #[.agg #[.string t106, .int .i64 t107, .int .i64 t108, .int .i64 t109]] rfl (by (try simp only [List.map_toArray, List.map_cons, List.map_nil]); first | done | rfl | (simp only [List.length_drop, List.length_take]; rfl)) ?_; (with_reducible refine (instr_operation_hasA.calls t106 t107 t108 t109 true _ A11.out).mono ?_); rintro e w54 ⟨rfl, hb⟩; refine ⟨_, rfl, ?_⟩; have n0_ := Aside0.mk (blk_below (g := gb105) (o := .cells #[.int .i64 a0_0, .int .i64 a0_1, .int .i64 a0_2, .int .i64 a0_3] 26 (0, 0)) (by (with_reducible repeat (first | refine blk_drewN ?_ _ | refine blk_drew ?_ | refine blk_alloc ?_ _)); refine blk_far ?_ NB105_111.out _; (with_reducible repeat (first | refine blk_drewN ?_ _ | refine blk_drew ?_ | refine blk_alloc ?_ _)); refine blk_far ?_ NB105_111.out _; (with_reducible repeat (first | refine blk_drewN ?_ _ | refine blk_drew ?_ | refine blk_alloc ?_ _)); refine blk_far ?_ NB105_111.out _; (with_reducible repeat (first | refine blk_drewN ?_ _ | refine blk_drew ?_ | refine blk_alloc ?_ _)); refine blk_far ?_ NB105_111.out _; (with_reducible repeat (first | refine blk_drewN ?_ _ | refine blk_drew ?_ | refine blk_alloc ?_ _)); exact BK105.out) hb); have n1_ := Aside0.mk (blk_below (g := gb111) (o := .cells #[.string t106, .int .i64 t107, .int .i64 t108, .int .i64 t109] 83 (0, 0)) (by (with_reducible repeat (first | refine blk_drewN ?_ _ | refine blk_drew ?_ | refine blk_alloc ?_ _)); refine blk_put (cs := #[.string t106, .int .i64 t107, .int .i64 t108, .int .i64 0]) ?_ 3 _ rfl; (with_reducible repeat (first | refine blk_drewN ?_ _ | refine blk_drew ?_ | refine blk_alloc ?_ _)); refine blk_put (cs := #[.string t106, .int .i64 t107, .int .i64 0, .int .i64 0]) ?_ 2 _ rfl; (with_reducible repeat (first | refine blk_drewN ?_ _ | refine blk_drew ?_ | refine blk_alloc ?_ _)); refine blk_put (cs := #[.string t106, .int .i64 0, .int .i64 0, .int .i64 0]) ?_ 1 _ rfl; (with_reducible repeat (first | refine blk_drewN ?_ _ | refine blk_drew ?_ | refine blk_alloc ?_ _)); refine blk_put (cs := #[.string (⟨#[]⟩ : ByteArray), .int .i64 0, .int .i64 0, .int .i64 0]) ?_ 0 _ rfl; (with_reducible repeat (first | refine blk_drewN ?_ _ | refine blk_drew ?_ | refine blk_alloc ?_ _)); exact BK111.out) hb); have n2_ := Aside0.mk (below_step (by repeat (first | (with_reducible first | exact HB.out | apply below_alloc | apply pw_below_drewN | apply below_drew1 | refine below_set ?_ GE105.out | refine below_set ?_ GE111.out) | exact HB.out)) hb); clear BK105; clear BK111; clear HB; have BK105 := n0_; have BK111 := n1_; have HB := n2_; clear n0_ n1_ n2_; (try clear hb); (try clear hb2); (try clear hk); (try clear hi); have hcz55_0 : w54.cell? ⟨gb111, 0, none⟩ = some (.string t106) := (blk_cell BK111.out 0).trans rfl; have hcz55_1 : w54.cell? ⟨gb111, 1, none⟩ = some (.int .i64 t107) := (blk_cell BK111.out 1).trans rfl; have hcz55_2 : w54.cell? ⟨gb111, 2, none⟩ = some (.int .i64 t108) := (blk_cell BK111.out 2).trans rfl; have hcz55_3 : w54.cell? ⟨gb111, 3, none⟩ = some (.int .i64 t109) := (blk_cell BK111.out 3).trans rfl; have hfz55_0 := blk_frozen BK111.out 0; have hfz55_1 := blk_frozen BK111.out 1; have hfz55_2 := blk_frozen BK111.out 2; have hfz55_3 := blk_frozen BK111.out 3) | (go_at_call 48; (with_reducible refine (instr_operation_hasB.calls t106 t107 t108 t109 false _ A13.out).mono ?_); rintro e w56 ⟨rfl, hb⟩; have n0_ := Aside0.mk (blk_below (g := gb105) (o := .cells #[.int .i64 a0_0, .int .i64 a0_1, .int .i64 a0_2, .int .i64 a0_3] 26 (0, 0)) (by (with_reducible repeat (first | refine blk_drewN ?_ _ | refine blk_drew ?_ | refine blk_alloc ?_ _)); exact BK105.out) hb); have n1_ := Aside0.mk (blk_below (g := gb111) (o := .cells #[.string t106, .int .i64 t107, .int .i64 t108, .int .i64 t109] 83 (0, 0)) (by (with_reducible repeat (first | refine blk_drewN ?_ _ | refine blk_drew ?_ | refine blk_alloc ?_ _)); exact BK111.out) hb); have n2_ := Aside0.mk (below_step (by repeat (first | (with_reducible first | exact HB.out | apply below_alloc | apply pw_below_drewN | apply below_drew1 | refine below_set ?_ GE105.out | refine below_set ?_ GE111.out) | exact HB.out)) hb); clear BK105; clear BK111; clear HB; have BK105 := n0_; have BK111 := n1_; have HB := n2_; clear n0_ n1_ n2_; (try clear hb); (try clear hb2); (try clear hk); (try clear hi); have hcz57_0 : w56.cell? ⟨gb105, 0, none⟩ = some (.int .i64 a0_0) := (blk_cell BK105.out 0).trans rfl; have hcz57_1 : w56.cell? ⟨gb105, 1, none⟩ = some (.int .i64 a0_1) := (blk_cell BK105.out 1).trans rfl; have hcz57_2 : w56.cell? ⟨gb105, 2, none⟩ = some (.int .i64 a0_2) := (blk_cell BK105.out 2).trans rfl; have hcz57_3 : w56.cell? ⟨gb105, 3, none⟩ = some (.int .i64 a0_3) := (blk_cell BK105.out 3).trans rfl; have hfz57_0 := blk_frozen BK105.out 0; have hfz57_1 := blk_frozen BK105.out 1; have hfz57_2 := blk_frozen BK105.out 2; have hfz57_3 := blk_frozen BK105.out 3))
            go_meet
            case rel => exact ⟨_, (true), (by first | rfl | (simp; done) | (simp [*]; done)), H', ⟨by first | omega | exact Nat.le_refl _⟩, ⟨by (with_reducible repeat (first | refine blk_drewN ?_ _ | refine blk_drew ?_ | refine blk_alloc ?_ _)); exact BK105.out⟩, ⟨by (with_reducible repeat (first | refine blk_drewN ?_ _ | refine blk_drew ?_ | refine blk_alloc ?_ _)); exact BK111.out⟩, ⟨by repeat (first | (with_reducible first | exact HB.out | apply below_alloc | apply pw_below_drewN | apply below_drew1 | refine below_set ?_ GE105.out | refine below_set ?_ GE111.out) | exact HB.out)⟩⟩
      · replace c12 := Bool.eq_false_iff.mpr c12
        subst c12
        have H1 : (if a0_1 = 0 then ((instr_operation_hasB.f t106 t107 t108 t109).bind fun t116 => (if t116 = true then ((instr_operation_hasC.f t106 t107 t108 t109).bind fun t117 => (if t117 = true then (instr_Instr_Check.j0 k false a0_0 a0_1 a0_2 a0_3 t106 t107 t108 t109) else (instr_Instr_Check.j0 k (a0_3 != 0) a0_0 a0_1 a0_2 a0_3 t106 t107 t108 t109))) else (if a0_2 = 0 then ((instr_operation_hasC.f t106 t107 t108 t109).bind fun t118 => (if t118 = true then (instr_Instr_Check.j0 k false a0_0 a0_1 a0_2 a0_3 t106 t107 t108 t109) else (instr_Instr_Check.j0 k (a0_3 != 0) a0_0 a0_1 a0_2 a0_3 t106 t107 t108 t109))) else (instr_Instr_Check.j0 k true a0_0 a0_1 a0_2 a0_3 t106 t107 t108 t109)))) else (instr_Instr_Check.j0 k true a0_0 a0_1 a0_2 a0_3 t106 t107 t108 t109)) = some r := by rw [if_neg (show ¬ (false = true) by decide)] at H; exact H
        clear H
        have H := H1
        clear H1
        by_cases c58 : a0_1 = 0
        · rw [if_pos c58] at H
          have c58b0 : (a0_1 == 0) = true := beq_iff_eq.mpr c58
          have c58b1 : (a0_1 != 0) = false := bne_eq_false_iff_eq.mpr c58
          clear c58
          replace H := Option.bind_eq_some_iff.mp H
          obtain ⟨t116, A590, H⟩ := H
          replace H : (if t116 = true then ((instr_operation_hasC.f t106 t107 t108 t109).bind fun t117 => (if t117 = true then (instr_Instr_Check.j0 k false a0_0 a0_1 a0_2 a0_3 t106 t107 t108 t109) else (instr_Instr_Check.j0 k (a0_3 != 0) a0_0 a0_1 a0_2 a0_3 t106 t107 t108 t109))) else (if a0_2 = 0 then ((instr_operation_hasC.f t106 t107 t108 t109).bind fun t118 => (if t118 = true then (instr_Instr_Check.j0 k false a0_0 a0_1 a0_2 a0_3 t106 t107 t108 t109) else (instr_Instr_Check.j0 k (a0_3 != 0) a0_0 a0_1 a0_2 a0_3 t106 t107 t108 t109))) else (instr_Instr_Check.j0 k true a0_0 a0_1 a0_2 a0_3 t106 t107 t108 t109))) = some r := H
          have A59 := Aside0.mk A590
          clear A590
          by_cases c60 : t116 = true
          · subst c60
            have H1 : ((instr_operation_hasC.f t106 t107 t108 t109).bind fun t117 => (if t117 = true then (instr_Instr_Check.j0 k false a0_0 a0_1 a0_2 a0_3 t106 t107 t108 t109) else (instr_Instr_Check.j0 k (a0_3 != 0) a0_0 a0_1 a0_2 a0_3 t106 t107 t108 t109))) = some r := by rw [if_pos rfl] at H; exact H
            clear H
            have H := H1
            clear H1
            replace H := Option.bind_eq_some_iff.mp H
            obtain ⟨t117, A610, H⟩ := H
            replace H : (if t117 = true then (instr_Instr_Check.j0 k false a0_0 a0_1 a0_2 a0_3 t106 t107 t108 t109) else (instr_Instr_Check.j0 k (a0_3 != 0) a0_0 a0_1 a0_2 a0_3 t106 t107 t108 t109)) = some r := H
            have A61 := Aside0.mk A610
            clear A610
            by_cases c62 : t117 = true
            · subst c62
              have H1 : (instr_Instr_Check.j0 k false a0_0 a0_1 a0_2 a0_3 t106 t107 t108 t109) = some r := by rw [if_pos rfl] at H; exact H
              clear H
              have H := H1
              clear H1
              have H' := Aside0.mk H
              clear H
              have hnb63 := NB111_105.out
              have hnc63 := NB105_111.out
              have hcz64_0 : w8.cell? ⟨gb111, 0, none⟩ = some (.string (⟨#[]⟩ : ByteArray)) := (blk_cell BK111.out 0).trans rfl
              have hcz64_1 : w8.cell? ⟨gb111, 1, none⟩ = some (.int .i64 0) := (blk_cell BK111.out 1).trans rfl
              have hcz64_2 : w8.cell? ⟨gb111, 2, none⟩ = some (.int .i64 0) := (blk_cell BK111.out 2).trans rfl
              have hcz64_3 : w8.cell? ⟨gb111, 3, none⟩ = some (.int .i64 0) := (blk_cell BK111.out 3).trans rfl
              have hfz64_0 := blk_frozen BK111.out 0
              have hfz64_1 := blk_frozen BK111.out 1
              have hfz64_2 := blk_frozen BK111.out 2
              have hfz64_3 := blk_frozen BK111.out 3
              go_wp2_with (first | ((with_reducible refine gate_callee (f := 47) rfl ?_); refine goesL_ (some 16) rfl rfl Try.func47 (by kernel_rfl) rfl #[.agg #[.string t106, .int .i64 t107, .int .i64 t108, .int .i64 t109]] rfl (by (try simp only [List.map_toArray, List.map_cons, List.map_nil]); first | done | rfl | (simp only [List.length_drop, List.length_take]; rfl)) ?_; (with_reducible refine (instr_operation_hasA.calls t106 t107 t108 t109 false _ A11.out).mono ?_); rintro e w65 ⟨rfl, hb⟩; refine ⟨_, rfl, ?_⟩; have n0_ := Aside0.mk (blk_below (g := gb105) (o := .cells #[.int .i64 a0_0, .int .i64 a0_1, .int .i64 a0_2, .int .i64 a0_3] 26 (0, 0)) (by (with_reducible repeat (first | refine blk_drewN ?_ _ | refine blk_drew ?_ | refine blk_alloc ?_ _)); refine blk_far ?_ NB105_111.out _; (with_reducible repeat (first | refine blk_drewN ?_ _ | refine blk_drew ?_ | refine blk_alloc ?_ _)); refine blk_far ?_ NB105_111.out _; (with_reducible repeat (first | refine blk_drewN ?_ _ | refine blk_drew ?_ | refine blk_alloc ?_ _)); refine blk_far ?_ NB105_111.out _; (with_reducible repeat (first | refine blk_drewN ?_ _ | refine blk_drew ?_ | refine blk_alloc ?_ _)); refine blk_far ?_ NB105_111.out _; (with_reducible repeat (first | refine blk_drewN ?_ _ | refine blk_drew ?_ | refine blk_alloc ?_ _)); exact BK105.out) hb); have n1_ := Aside0.mk (blk_below (g := gb111) (o := .cells #[.string t106, .int .i64 t107, .int .i64 t108, .int .i64 t109] 83 (0, 0)) (by (with_reducible repeat (first | refine blk_drewN ?_ _ | refine blk_drew ?_ | refine blk_alloc ?_ _)); refine blk_put (cs := #[.string t106, .int .i64 t107, .int .i64 t108, .int .i64 0]) ?_ 3 _ rfl; (with_reducible repeat (first | refine blk_drewN ?_ _ | refine blk_drew ?_ | refine blk_alloc ?_ _)); refine blk_put (cs := #[.string t106, .int .i64 t107, .int .i64 0, .int .i64 0]) ?_ 2 _ rfl; (with_reducible repeat (first | refine blk_drewN ?_ _ | refine blk_drew ?_ | refine blk_alloc ?_ _)); refine blk_put (cs := #[.string t106, .int .i64 0, .int .i64 0, .int .i64 0]) ?_ 1 _ rfl; (with_reducible repeat (first | refine blk_drewN ?_ _ | refine blk_drew ?_ | refine blk_alloc ?_ _)); refine blk_put (cs := #[.string (⟨#[]⟩ : ByteArray), .int .i64 0, .int .i64 0, .int .i64 0]) ?_ 0 _ rfl; (with_reducible repeat (first | refine blk_drewN ?_ _ | refine blk_drew ?_ | refine blk_alloc ?_ _)); exact BK111.out) hb); have n2_ := Aside0.mk (below_step (by repeat (first | (with_reducible first | exact HB.out | apply below_alloc | apply pw_below_drewN | apply below_drew1 | refine below_set ?_ GE105.out | refine below_set ?_ GE111.out) | exact HB.out)) hb); clear BK105; clear BK111; clear HB; have BK105 := n0_; have BK111 := n1_; have HB := n2_; clear n0_ n1_ n2_; (try clear hb); (try clear hb2); (try clear hk); (try clear hi); have hcz66_0 : w65.cell? ⟨gb105, 0, none⟩ = some (.int .i64 a0_0) := (blk_cell BK105.out 0).trans rfl; have hcz66_1 : w65.cell? ⟨gb105, 1, none⟩ = some (.int .i64 a0_1) := (blk_cell BK105.out 1).trans rfl; have hcz66_2 : w65.cell? ⟨gb105, 2, none⟩ = some (.int .i64 a0_2) := (blk_cell BK105.out 2).trans rfl; have hcz66_3 : w65.cell? ⟨gb105, 3, none⟩ = some (.int .i64 a0_3) := (blk_cell BK105.out 3).trans rfl; have hfz66_0 := blk_frozen BK105.out 0; have hfz66_1 := blk_frozen BK105.out 1; have hfz66_2 := blk_frozen BK105.out 2; have hfz66_3 := blk_frozen BK105.out 3; have hcz67_0 : w65.cell? ⟨gb111, 0, none⟩ = some (.string t106) := (blk_cell BK111.out 0).trans rfl; have hcz67_1 : w65.cell? ⟨gb111, 1, none⟩ = some (.int .i64 t107) := (blk_cell BK111.out 1).trans rfl; have hcz67_2 : w65.cell? ⟨gb111, 2, none⟩ = some (.int .i64 t108) := (blk_cell BK111.out 2).trans rfl; have hcz67_3 : w65.cell? ⟨gb111, 3, none⟩ = some (.int .i64 t109) := (blk_cell BK111.out 3).trans rfl; have hfz67_0 := blk_frozen BK111.out 0; have hfz67_1 := blk_frozen BK111.out 1; have hfz67_2 := blk_frozen BK111.out 2; have hfz67_3 := blk_frozen BK111.out 3) | (go_at_call 48; (with_reducible refine (instr_operation_hasB.calls t106 t107 t108 t109 true _ A59.out).mono ?_); rintro e w68 ⟨rfl, hb⟩; have n0_ := Aside0.mk (blk_below (g := gb105) (o := .cells #[.int .i64 a0_0, .int .i64 a0_1, .int .i64 a0_2, .int .i64 a0_3] 26 (0, 0)) (by (with_reducible repeat (first | refine blk_drewN ?_ _ | refine blk_drew ?_ | refine blk_alloc ?_ _)); exact BK105.out) hb); have n1_ := Aside0.mk (blk_below (g := gb111) (o := .cells #[.string t106, .int .i64 t107, .int .i64 t108, .int .i64 t109] 83 (0, 0)) (by (with_reducible repeat (first | refine blk_drewN ?_ _ | refine blk_drew ?_ | refine blk_alloc ?_ _)); exact BK111.out) hb); have n2_ := Aside0.mk (below_step (by repeat (first | (with_reducible first | exact HB.out | apply below_alloc | apply pw_below_drewN | apply below_drew1 | refine below_set ?_ GE105.out | refine below_set ?_ GE111.out) | exact HB.out)) hb); clear BK105; clear BK111; clear HB; have BK105 := n0_; have BK111 := n1_; have HB := n2_; clear n0_ n1_ n2_; (try clear hb); (try clear hb2); (try clear hk); (try clear hi); have hcz69_0 : w68.cell? ⟨gb111, 0, none⟩ = some (.string t106) := (blk_cell BK111.out 0).trans rfl; have hcz69_1 : w68.cell? ⟨gb111, 1, none⟩ = some (.int .i64 t107) := (blk_cell BK111.out 1).trans rfl; have hcz69_2 : w68.cell? ⟨gb111, 2, none⟩ = some (.int .i64 t108) := (blk_cell BK111.out 2).trans rfl; have hcz69_3 : w68.cell? ⟨gb111, 3, none⟩ = some (.int .i64 t109) := (blk_cell BK111.out 3).trans rfl; have hfz69_0 := blk_frozen BK111.out 0; have hfz69_1 := blk_frozen BK111.out 1; have hfz69_2 := blk_frozen BK111.out 2; have hfz69_3 := blk_frozen BK111.out 3) | (go_at_call 49; (with_reducible refine (instr_operation_hasC.calls t106 t107 t108 t109 true _ A61.out).mono ?_); rintro e w70 ⟨rfl, hb⟩; have n0_ := Aside0.mk (blk_below (g := gb105) (o := .cells #[.int .i64 a0_0, .int .i64 a0_1, .int .i64 a0_2, .int .i64 a0_3] 26 (0, 0)) (by (with_reducible repeat (first | refine blk_drewN ?_ _ | refine blk_drew ?_ | refine blk_alloc ?_ _)); exact BK105.out) hb); have n1_ := Aside0.mk (blk_below (g := gb111) (o := .cells #[.string t106, .int .i64 t107, .int .i64 t108, .int .i64 t109] 83 (0, 0)) (by (with_reducible repeat (first | refine blk_drewN ?_ _ | refine blk_drew ?_ | refine blk_alloc ?_ _)); exact BK111.out) hb); have n2_ := Aside0.mk (below_step (by repeat (first | (with_reducible first | exact HB.out | apply below_alloc | apply pw_below_drewN | apply below_drew1 | refine below_set ?_ GE105.out | refine below_set ?_ GE111.out) | exact HB.out)) hb); clear BK105; clear BK111; clear HB; have BK105 := n0_; have BK111 := n1_; have HB := n2_; clear n0_ n1_ n2_; (try clear hb); (try clear hb2); (try clear hk); (try clear hi)))
              go_meet
              case rel => exact ⟨_, (false), (by first | rfl | (simp; done) | (simp [*]; done)), H', ⟨by first | omega | exact Nat.le_refl _⟩, ⟨by (with_reducible repeat (first | refine blk_drewN ?_ _ | refine blk_drew ?_ | refine blk_alloc ?_ _)); exact BK105.out⟩, ⟨by (with_reducible repeat (first | refine blk_drewN ?_ _ | refine blk_drew ?_ | refine blk_alloc ?_ _)); exact BK111.out⟩, ⟨by repeat (first | (with_reducible first | exact HB.out | apply below_alloc | apply pw_below_drewN | apply below_drew1 | refine below_set ?_ GE105.out | refine below_set ?_ GE111.out) | exact HB.out)⟩⟩
            · replace c62 := Bool.eq_false_iff.mpr c62
              subst c62
              have H1 : (instr_Instr_Check.j0 k (a0_3 != 0) a0_0 a0_1 a0_2 a0_3 t106 t107 t108 t109) = some r := by rw [if_neg (show ¬ (false = true) by decide)] at H; exact H
              clear H
              have H := H1
              clear H1
              have H' := Aside0.mk H
              clear H
              have hnb71 := NB111_105.out
              have hnc71 := NB105_111.out
              have hcz72_0 : w8.cell? ⟨gb111, 0, none⟩ = some (.string (⟨#[]⟩ : ByteArray)) := (blk_cell BK111.out 0).trans rfl
              have hcz72_1 : w8.cell? ⟨gb111, 1, none⟩ = some (.int .i64 0) := (blk_cell BK111.out 1).trans rfl
              have hcz72_2 : w8.cell? ⟨gb111, 2, none⟩ = some (.int .i64 0) := (blk_cell BK111.out 2).trans rfl
              have hcz72_3 : w8.cell? ⟨gb111, 3, none⟩ = some (.int .i64 0) := (blk_cell BK111.out 3).trans rfl
              have hfz72_0 := blk_frozen BK111.out 0
              have hfz72_1 := blk_frozen BK111.out 1
              have hfz72_2 := blk_frozen BK111.out 2
              have hfz72_3 := blk_frozen BK111.out 3
              go_wp2_with (first | ((with_reducible refine gate_callee (f := 47) rfl ?_); refine goesL_ (some 16) rfl rfl Try.func47 (by kernel_rfl) rfl #[.agg #[.string t106, .int .i64 t107, .int .i64 t108, .int .i64 t109]] rfl (by (try simp only [List.map_toArray, List.map_cons, List.map_nil]); first | done | rfl | (simp only [List.length_drop, List.length_take]; rfl)) ?_; (with_reducible refine (instr_operation_hasA.calls t106 t107 t108 t109 false _ A11.out).mono ?_); rintro e w73 ⟨rfl, hb⟩; refine ⟨_, rfl, ?_⟩; have n0_ := Aside0.mk (blk_below (g := gb105) (o := .cells #[.int .i64 a0_0, .int .i64 a0_1, .int .i64 a0_2, .int .i64 a0_3] 26 (0, 0)) (by (with_reducible repeat (first | refine blk_drewN ?_ _ | refine blk_drew ?_ | refine blk_alloc ?_ _)); refine blk_far ?_ NB105_111.out _; (with_reducible repeat (first | refine blk_drewN ?_ _ | refine blk_drew ?_ | refine blk_alloc ?_ _)); refine blk_far ?_ NB105_111.out _; (with_reducible repeat (first | refine blk_drewN ?_ _ | refine blk_drew ?_ | refine blk_alloc ?_ _)); refine blk_far ?_ NB105_111.out _; (with_reducible repeat (first | refine blk_drewN ?_ _ | refine blk_drew ?_ | refine blk_alloc ?_ _)); refine blk_far ?_ NB105_111.out _; (with_reducible repeat (first | refine blk_drewN ?_ _ | refine blk_drew ?_ | refine blk_alloc ?_ _)); exact BK105.out) hb); have n1_ := Aside0.mk (blk_below (g := gb111) (o := .cells #[.string t106, .int .i64 t107, .int .i64 t108, .int .i64 t109] 83 (0, 0)) (by (with_reducible repeat (first | refine blk_drewN ?_ _ | refine blk_drew ?_ | refine blk_alloc ?_ _)); refine blk_put (cs := #[.string t106, .int .i64 t107, .int .i64 t108, .int .i64 0]) ?_ 3 _ rfl; (with_reducible repeat (first | refine blk_drewN ?_ _ | refine blk_drew ?_ | refine blk_alloc ?_ _)); refine blk_put (cs := #[.string t106, .int .i64 t107, .int .i64 0, .int .i64 0]) ?_ 2 _ rfl; (with_reducible repeat (first | refine blk_drewN ?_ _ | refine blk_drew ?_ | refine blk_alloc ?_ _)); refine blk_put (cs := #[.string t106, .int .i64 0, .int .i64 0, .int .i64 0]) ?_ 1 _ rfl; (with_reducible repeat (first | refine blk_drewN ?_ _ | refine blk_drew ?_ | refine blk_alloc ?_ _)); refine blk_put (cs := #[.string (⟨#[]⟩ : ByteArray), .int .i64 0, .int .i64 0, .int .i64 0]) ?_ 0 _ rfl; (with_reducible repeat (first | refine blk_drewN ?_ _ | refine blk_drew ?_ | refine blk_alloc ?_ _)); exact BK111.out) hb); have n2_ := Aside0.mk (below_step (by repeat (first | (with_reducible first | exact HB.out | apply below_alloc | apply pw_below_drewN | apply below_drew1 | refine below_set ?_ GE105.out | refine below_set ?_ GE111.out) | exact HB.out)) hb); clear BK105; clear BK111; clear HB; have BK105 := n0_; have BK111 := n1_; have HB := n2_; clear n0_ n1_ n2_; (try clear hb); (try clear hb2); (try clear hk); (try clear hi); have hcz74_0 : w73.cell? ⟨gb105, 0, none⟩ = some (.int .i64 a0_0) := (blk_cell BK105.out 0).trans rfl; have hcz74_1 : w73.cell? ⟨gb105, 1, none⟩ = some (.int .i64 a0_1) := (blk_cell BK105.out 1).trans rfl; have hcz74_2 : w73.cell? ⟨gb105, 2, none⟩ = some (.int .i64 a0_2) := (blk_cell BK105.out 2).trans rfl; have hcz74_3 : w73.cell? ⟨gb105, 3, none⟩ = some (.int .i64 a0_3) := (blk_cell BK105.out 3).trans rfl; have hfz74_0 := blk_frozen BK105.out 0; have hfz74_1 := blk_frozen BK105.out 1; have hfz74_2 := blk_frozen BK105.out 2; have hfz74_3 := blk_frozen BK105.out 3; have hcz75_0 : w73.cell? ⟨gb111, 0, none⟩ = some (.string t106) := (blk_cell BK111.out 0).trans rfl; have hcz75_1 : w73.cell? ⟨gb111, 1, none⟩ = some (.int .i64 t107) := (blk_cell BK111.out 1).trans rfl; have hcz75_2 : w73.cell? ⟨gb111, 2, none⟩ = some (.int .i64 t108) := (blk_cell BK111.out 2).trans rfl; have hcz75_3 : w73.cell? ⟨gb111, 3, none⟩ = some (.int .i64 t109) := (blk_cell BK111.out 3).trans rfl; have hfz75_0 := blk_frozen BK111.out 0; have hfz75_1 := blk_frozen BK111.out 1; have hfz75_2 := blk_frozen BK111.out 2; have hfz75_3 := blk_frozen BK111.out 3) | (go_at_call 48; (with_reducible refine (instr_operation_hasB.calls t106 t107 t108 t109 true _ A59.out).mono ?_); rintro e w76 ⟨rfl, hb⟩; have n0_ := Aside0.mk (blk_below (g := gb105) (o := .cells #[.int .i64 a0_0, .int .i64 a0_1, .int .i64 a0_2, .int .i64 a0_3] 26 (0, 0)) (by (with_reducible repeat (first | refine blk_drewN ?_ _ | refine blk_drew ?_ | refine blk_alloc ?_ _)); exact BK105.out) hb); have n1_ := Aside0.mk (blk_below (g := gb111) (o := .cells #[.string t106, .int .i64 t107, .int .i64 t108, .int .i64 t109] 83 (0, 0)) (by (with_reducible repeat (first | refine blk_drewN ?_ _ | refine blk_drew ?_ | refine blk_alloc ?_ _)); exact BK111.out) hb); have n2_ := Aside0.mk (below_step (by repeat (first | (with_reducible first | exact HB.out | apply below_alloc | apply pw_below_drewN | apply below_drew1 | refine below_set ?_ GE105.out | refine below_set ?_ GE111.out) | exact HB.out)) hb); clear BK105; clear BK111; clear HB; have BK105 := n0_; have BK111 := n1_; have HB := n2_; clear n0_ n1_ n2_; (try clear hb); (try clear hb2); (try clear hk); (try clear hi); have hcz77_0 : w76.cell? ⟨gb111, 0, none⟩ = some (.string t106) := (blk_cell BK111.out 0).trans rfl; have hcz77_1 : w76.cell? ⟨gb111, 1, none⟩ = some (.int .i64 t107) := (blk_cell BK111.out 1).trans rfl; have hcz77_2 : w76.cell? ⟨gb111, 2, none⟩ = some (.int .i64 t108) := (blk_cell BK111.out 2).trans rfl; have hcz77_3 : w76.cell? ⟨gb111, 3, none⟩ = some (.int .i64 t109) := (blk_cell BK111.out 3).trans rfl; have hfz77_0 := blk_frozen BK111.out 0; have hfz77_1 := blk_frozen BK111.out 1; have hfz77_2 := blk_frozen BK111.out 2; have hfz77_3 := blk_frozen BK111.out 3) | (go_at_call 49; (with_reducible refine (instr_operation_hasC.calls t106 t107 t108 t109 false _ A61.out).mono ?_); rintro e w78 ⟨rfl, hb⟩; have n0_ := Aside0.mk (blk_below (g := gb105) (o := .cells #[.int .i64 a0_0, .int .i64 a0_1, .int .i64 a0_2, .int .i64 a0_3] 26 (0, 0)) (by (with_reducible repeat (first | refine blk_drewN ?_ _ | refine blk_drew ?_ | refine blk_alloc ?_ _)); exact BK105.out) hb); have n1_ := Aside0.mk (blk_below (g := gb111) (o := .cells #[.string t106, .int .i64 t107, .int .i64 t108, .int .i64 t109] 83 (0, 0)) (by (with_reducible repeat (first | refine blk_drewN ?_ _ | refine blk_drew ?_ | refine blk_alloc ?_ _)); exact BK111.out) hb); have n2_ := Aside0.mk (below_step (by repeat (first | (with_reducible first | exact HB.out | apply below_alloc | apply pw_below_drewN | apply below_drew1 | refine below_set ?_ GE105.out | refine below_set ?_ GE111.out) | exact HB.out)) hb); clear BK105; clear BK111; clear HB; have BK105 := n0_; have BK111 := n1_; have HB := n2_; clear n0_ n1_ n2_; (try clear hb); (try clear hb2); (try clear hk); (try clear hi); have hcz79_0 : w78.cell? ⟨gb105, 0, none⟩ = some (.int .i64 a0_0) := (blk_cell BK105.out 0).trans rfl; have hcz79_1 : w78.cell? ⟨gb105, 1, none⟩ = some (.int .i64 a0_1) := (blk_cell BK105.out 1).trans rfl; have hcz79_2 : w78.cell? ⟨gb105, 2, none⟩ = some (.int .i64 a0_2) := (blk_cell BK105.out 2).trans rfl; have hcz79_3 : w78.cell? ⟨gb105, 3, none⟩ = some (.int .i64 a0_3) := (blk_cell BK105.out 3).trans rfl; have hfz79_0 := blk_frozen BK105.out 0; have hfz79_1 := blk_frozen BK105.out 1; have hfz79_2 := blk_frozen BK105.out 2; have hfz79_3 := blk_frozen BK105.out 3))
              go_meet
              case rel => exact ⟨_, ((a0_3 != 0)), (by first | rfl | (simp; done) | (simp [*]; done)), H', ⟨by first | omega | exact Nat.le_refl _⟩, ⟨by (with_reducible repeat (first | refine blk_drewN ?_ _ | refine blk_drew ?_ | refine blk_alloc ?_ _)); exact BK105.out⟩, ⟨by (with_reducible repeat (first | refine blk_drewN ?_ _ | refine blk_drew ?_ | refine blk_alloc ?_ _)); exact BK111.out⟩, ⟨by repeat (first | (with_reducible first | exact HB.out | apply below_alloc | apply pw_below_drewN | apply below_drew1 | refine below_set ?_ GE105.out | refine below_set ?_ GE111.out) | exact HB.out)⟩⟩
          · replace c60 := Bool.eq_false_iff.mpr c60
            subst c60
            have H1 : (if a0_2 = 0 then ((instr_operation_hasC.f t106 t107 t108 t109).bind fun t118 => (if t118 = true then (instr_Instr_Check.j0 k false a0_0 a0_1 a0_2 a0_3 t106 t107 t108 t109) else (instr_Instr_Check.j0 k (a0_3 != 0) a0_0 a0_1 a0_2 a0_3 t106 t107 t108 t109))) else (instr_Instr_Check.j0 k true a0_0 a0_1 a0_2 a0_3 t106 t107 t108 t109)) = some r := by rw [if_neg (show ¬ (false = true) by decide)] at H; exact H
            clear H
            have H := H1
            clear H1
            by_cases c80 : a0_2 = 0
            · rw [if_pos c80] at H
              have c80b0 : (a0_2 == 0) = true := beq_iff_eq.mpr c80
              have c80b1 : (a0_2 != 0) = false := bne_eq_false_iff_eq.mpr c80
              clear c80
              replace H := Option.bind_eq_some_iff.mp H
              obtain ⟨t118, A810, H⟩ := H
              replace H : (if t118 = true then (instr_Instr_Check.j0 k false a0_0 a0_1 a0_2 a0_3 t106 t107 t108 t109) else (instr_Instr_Check.j0 k (a0_3 != 0) a0_0 a0_1 a0_2 a0_3 t106 t107 t108 t109)) = some r := H
              have A81 := Aside0.mk A810
              clear A810
              by_cases c82 : t118 = true
              · subst c82
                have H1 : (instr_Instr_Check.j0 k false a0_0 a0_1 a0_2 a0_3 t106 t107 t108 t109) = some r := by rw [if_pos rfl] at H; exact H
                clear H
                have H := H1
                clear H1
                have H' := Aside0.mk H
                clear H
                have hnb83 := NB111_105.out
                have hnc83 := NB105_111.out
                have hcz84_0 : w8.cell? ⟨gb111, 0, none⟩ = some (.string (⟨#[]⟩ : ByteArray)) := (blk_cell BK111.out 0).trans rfl
                have hcz84_1 : w8.cell? ⟨gb111, 1, none⟩ = some (.int .i64 0) := (blk_cell BK111.out 1).trans rfl
                have hcz84_2 : w8.cell? ⟨gb111, 2, none⟩ = some (.int .i64 0) := (blk_cell BK111.out 2).trans rfl
                have hcz84_3 : w8.cell? ⟨gb111, 3, none⟩ = some (.int .i64 0) := (blk_cell BK111.out 3).trans rfl
                have hfz84_0 := blk_frozen BK111.out 0
                have hfz84_1 := blk_frozen BK111.out 1
                have hfz84_2 := blk_frozen BK111.out 2
                have hfz84_3 := blk_frozen BK111.out 3
                go_wp2_with (first | ((with_reducible refine gate_callee (f := 47) rfl ?_); refine goesL_ (some 16) rfl rfl Try.func47 (by kernel_rfl) rfl #[.agg #[.string t106, .int .i64 t107, .int .i64 t108, .int .i64 t109]] rfl (by (try simp only [List.map_toArray, List.map_cons, List.map_nil]); first | done | rfl | (simp only [List.length_drop, List.length_take]; rfl)) ?_; (with_reducible refine (instr_operation_hasA.calls t106 t107 t108 t109 false _ A11.out).mono ?_); rintro e w85 ⟨rfl, hb⟩; refine ⟨_, rfl, ?_⟩; have n0_ := Aside0.mk (blk_below (g := gb105) (o := .cells #[.int .i64 a0_0, .int .i64 a0_1, .int .i64 a0_2, .int .i64 a0_3] 26 (0, 0)) (by (with_reducible repeat (first | refine blk_drewN ?_ _ | refine blk_drew ?_ | refine blk_alloc ?_ _)); refine blk_far ?_ NB105_111.out _; (with_reducible repeat (first | refine blk_drewN ?_ _ | refine blk_drew ?_ | refine blk_alloc ?_ _)); refine blk_far ?_ NB105_111.out _; (with_reducible repeat (first | refine blk_drewN ?_ _ | refine blk_drew ?_ | refine blk_alloc ?_ _)); refine blk_far ?_ NB105_111.out _; (with_reducible repeat (first | refine blk_drewN ?_ _ | refine blk_drew ?_ | refine blk_alloc ?_ _)); refine blk_far ?_ NB105_111.out _; (with_reducible repeat (first | refine blk_drewN ?_ _ | refine blk_drew ?_ | refine blk_alloc ?_ _)); exact BK105.out) hb); have n1_ := Aside0.mk (blk_below (g := gb111) (o := .cells #[.string t106, .int .i64 t107, .int .i64 t108, .int .i64 t109] 83 (0, 0)) (by (with_reducible repeat (first | refine blk_drewN ?_ _ | refine blk_drew ?_ | refine blk_alloc ?_ _)); refine blk_put (cs := #[.string t106, .int .i64 t107, .int .i64 t108, .int .i64 0]) ?_ 3 _ rfl; (with_reducible repeat (first | refine blk_drewN ?_ _ | refine blk_drew ?_ | refine blk_alloc ?_ _)); refine blk_put (cs := #[.string t106, .int .i64 t107, .int .i64 0, .int .i64 0]) ?_ 2 _ rfl; (with_reducible repeat (first | refine blk_drewN ?_ _ | refine blk_drew ?_ | refine blk_alloc ?_ _)); refine blk_put (cs := #[.string t106, .int .i64 0, .int .i64 0, .int .i64 0]) ?_ 1 _ rfl; (with_reducible repeat (first | refine blk_drewN ?_ _ | refine blk_drew ?_ | refine blk_alloc ?_ _)); refine blk_put (cs := #[.string (⟨#[]⟩ : ByteArray), .int .i64 0, .int .i64 0, .int .i64 0]) ?_ 0 _ rfl; (with_reducible repeat (first | refine blk_drewN ?_ _ | refine blk_drew ?_ | refine blk_alloc ?_ _)); exact BK111.out) hb); have n2_ := Aside0.mk (below_step (by repeat (first | (with_reducible first | exact HB.out | apply below_alloc | apply pw_below_drewN | apply below_drew1 | refine below_set ?_ GE105.out | refine below_set ?_ GE111.out) | exact HB.out)) hb); clear BK105; clear BK111; clear HB; have BK105 := n0_; have BK111 := n1_; have HB := n2_; clear n0_ n1_ n2_; (try clear hb); (try clear hb2); (try clear hk); (try clear hi); have hcz86_0 : w85.cell? ⟨gb105, 0, none⟩ = some (.int .i64 a0_0) := (blk_cell BK105.out 0).trans rfl; have hcz86_1 : w85.cell? ⟨gb105, 1, none⟩ = some (.int .i64 a0_1) := (blk_cell BK105.out 1).trans rfl; have hcz86_2 : w85.cell? ⟨gb105, 2, none⟩ = some (.int .i64 a0_2) := (blk_cell BK105.out 2).trans rfl; have hcz86_3 : w85.cell? ⟨gb105, 3, none⟩ = some (.int .i64 a0_3) := (blk_cell BK105.out 3).trans rfl; have hfz86_0 := blk_frozen BK105.out 0; have hfz86_1 := blk_frozen BK105.out 1; have hfz86_2 := blk_frozen BK105.out 2; have hfz86_3 := blk_frozen BK105.out 3; have hcz87_0 : w85.cell? ⟨gb111, 0, none⟩ = some (.string t106) := (blk_cell BK111.out 0).trans rfl; have hcz87_1 : w85.cell? ⟨gb111, 1, none⟩ = some (.int .i64 t107) := (blk_cell BK111.out 1).trans rfl; have hcz87_2 : w85.cell? ⟨gb111, 2, none⟩ = some (.int .i64 t108) := (blk_cell BK111.out 2).trans rfl; have hcz87_3 : w85.cell? ⟨gb111, 3, none⟩ = some (.int .i64 t109) := (blk_cell BK111.out 3).trans rfl; have hfz87_0 := blk_frozen BK111.out 0; have hfz87_1 := blk_frozen BK111.out 1; have hfz87_2 := blk_frozen BK111.out 2; have hfz87_3 := blk_frozen BK111.out 3) | (go_at_call 48; (with_reducible refine (instr_operation_hasB.calls t106 t107 t108 t109 false _ A59.out).mono ?_); rintro e w88 ⟨rfl, hb⟩; have n0_ := Aside0.mk (blk_below (g := gb105) (o := .cells #[.int .i64 a0_0, .int .i64 a0_1, .int .i64 a0_2, .int .i64 a0_3] 26 (0, 0)) (by (with_reducible repeat (first | refine blk_drewN ?_ _ | refine blk_drew ?_ | refine blk_alloc ?_ _)); exact BK105.out) hb); have n1_ := Aside0.mk (blk_below (g := gb111) (o := .cells #[.string t106, .int .i64 t107, .int .i64 t108, .int .i64 t109] 83 (0, 0)) (by (with_reducible repeat (first | refine blk_drewN ?_ _ | refine blk_drew ?_ | refine blk_alloc ?_ _)); exact BK111.out) hb); have n2_ := Aside0.mk (below_step (by repeat (first | (with_reducible first | exact HB.out | apply below_alloc | apply pw_below_drewN | apply below_drew1 | refine below_set ?_ GE105.out | refine below_set ?_ GE111.out) | exact HB.out)) hb); clear BK105; clear BK111; clear HB; have BK105 := n0_; have BK111 := n1_; have HB := n2_; clear n0_ n1_ n2_; (try clear hb); (try clear hb2); (try clear hk); (try clear hi); have hcz89_0 : w88.cell? ⟨gb105, 0, none⟩ = some (.int .i64 a0_0) := (blk_cell BK105.out 0).trans rfl; have hcz89_1 : w88.cell? ⟨gb105, 1, none⟩ = some (.int .i64 a0_1) := (blk_cell BK105.out 1).trans rfl; have hcz89_2 : w88.cell? ⟨gb105, 2, none⟩ = some (.int .i64 a0_2) := (blk_cell BK105.out 2).trans rfl; have hcz89_3 : w88.cell? ⟨gb105, 3, none⟩ = some (.int .i64 a0_3) := (blk_cell BK105.out 3).trans rfl; have hfz89_0 := blk_frozen BK105.out 0; have hfz89_1 := blk_frozen BK105.out 1; have hfz89_2 := blk_frozen BK105.out 2; have hfz89_3 := blk_frozen BK105.out 3; have hcz90_0 : w88.cell? ⟨gb111, 0, none⟩ = some (.string t106) := (blk_cell BK111.out 0).trans rfl; have hcz90_1 : w88.cell? ⟨gb111, 1, none⟩ = some (.int .i64 t107) := (blk_cell BK111.out 1).trans rfl; have hcz90_2 : w88.cell? ⟨gb111, 2, none⟩ = some (.int .i64 t108) := (blk_cell BK111.out 2).trans rfl; have hcz90_3 : w88.cell? ⟨gb111, 3, none⟩ = some (.int .i64 t109) := (blk_cell BK111.out 3).trans rfl; have hfz90_0 := blk_frozen BK111.out 0; have hfz90_1 := blk_frozen BK111.out 1; have hfz90_2 := blk_frozen BK111.out 2; have hfz90_3 := blk_frozen BK111.out 3) | (go_at_call 49; (with_reducible refine (instr_operation_hasC.calls t106 t107 t108 t109 true _ A81.out).mono ?_); rintro e w91 ⟨rfl, hb⟩; have n0_ := Aside0.mk (blk_below (g := gb105) (o := .cells #[.int .i64 a0_0, .int .i64 a0_1, .int .i64 a0_2, .int .i64 a0_3] 26 (0, 0)) (by (with_reducible repeat (first | refine blk_drewN ?_ _ | refine blk_drew ?_ | refine blk_alloc ?_ _)); exact BK105.out) hb); have n1_ := Aside0.mk (blk_below (g := gb111) (o := .cells #[.string t106, .int .i64 t107, .int .i64 t108, .int .i64 t109] 83 (0, 0)) (by (with_reducible repeat (first | refine blk_drewN ?_ _ | refine blk_drew ?_ | refine blk_alloc ?_ _)); exact BK111.out) hb); have n2_ := Aside0.mk (below_step (by repeat (first | (with_reducible first | exact HB.out | apply below_alloc | apply pw_below_drewN | apply below_drew1 | refine below_set ?_ GE105.out | refine below_set ?_ GE111.out) | exact HB.out)) hb); clear BK105; clear BK111; clear HB; have BK105 := n0_; have BK111 := n1_; have HB := n2_; clear n0_ n1_ n2_; (try clear hb); (try clear hb2); (try clear hk); (try clear hi)))
                go_meet
                case rel => exact ⟨_, (false), (by first | rfl | (simp; done) | (simp [*]; done)), H', ⟨by first | omega | exact Nat.le_refl _⟩, ⟨by (with_reducible repeat (first | refine blk_drewN ?_ _ | refine blk_drew ?_ | refine blk_alloc ?_ _)); exact BK105.out⟩, ⟨by (with_reducible repeat (first | refine blk_drewN ?_ _ | refine blk_drew ?_ | refine blk_alloc ?_ _)); exact BK111.out⟩, ⟨by repeat (first | (with_reducible first | exact HB.out | apply below_alloc | apply pw_below_drewN | apply below_drew1 | refine below_set ?_ GE105.out | refine below_set ?_ GE111.out) | exact HB.out)⟩⟩
              · replace c82 := Bool.eq_false_iff.mpr c82
                subst c82
                have H1 : (instr_Instr_Check.j0 k (a0_3 != 0) a0_0 a0_1 a0_2 a0_3 t106 t107 t108 t109) = some r := by rw [if_neg (show ¬ (false = true) by decide)] at H; exact H
                clear H
                have H := H1
                clear H1
                have H' := Aside0.mk H
                clear H
                have hnb92 := NB111_105.out
                have hnc92 := NB105_111.out
                have hcz93_0 : w8.cell? ⟨gb111, 0, none⟩ = some (.string (⟨#[]⟩ : ByteArray)) := (blk_cell BK111.out 0).trans rfl
                have hcz93_1 : w8.cell? ⟨gb111, 1, none⟩ = some (.int .i64 0) := (blk_cell BK111.out 1).trans rfl
                have hcz93_2 : w8.cell? ⟨gb111, 2, none⟩ = some (.int .i64 0) := (blk_cell BK111.out 2).trans rfl
                have hcz93_3 : w8.cell? ⟨gb111, 3, none⟩ = some (.int .i64 0) := (blk_cell BK111.out 3).trans rfl
                have hfz93_0 := blk_frozen BK111.out 0
                have hfz93_1 := blk_frozen BK111.out 1
                have hfz93_2 := blk_frozen BK111.out 2
                have hfz93_3 := blk_frozen BK111.out 3
                go_wp2_with (first | ((with_reducible refine gate_callee (f := 47) rfl ?_); refine goesL_ (some 16) rfl rfl Try.func47 (by kernel_rfl) rfl #[.agg #[.string t106, .int .i64 t107, .int .i64 t108, .int .i64 t109]] rfl (by (try simp only [List.map_toArray, List.map_cons, List.map_nil]); first | done | rfl | (simp only [List.length_drop, List.length_take]; rfl)) ?_; (with_reducible refine (instr_operation_hasA.calls t106 t107 t108 t109 false _ A11.out).mono ?_); rintro e w94 ⟨rfl, hb⟩; refine ⟨_, rfl, ?_⟩; have n0_ := Aside0.mk (blk_below (g := gb105) (o := .cells #[.int .i64 a0_0, .int .i64 a0_1, .int .i64 a0_2, .int .i64 a0_3] 26 (0, 0)) (by (with_reducible repeat (first | refine blk_drewN ?_ _ | refine blk_drew ?_ | refine blk_alloc ?_ _)); refine blk_far ?_ NB105_111.out _; (with_reducible repeat (first | refine blk_drewN ?_ _ | refine blk_drew ?_ | refine blk_alloc ?_ _)); refine blk_far ?_ NB105_111.out _; (with_reducible repeat (first | refine blk_drewN ?_ _ | refine blk_drew ?_ | refine blk_alloc ?_ _)); refine blk_far ?_ NB105_111.out _; (with_reducible repeat (first | refine blk_drewN ?_ _ | refine blk_drew ?_ | refine blk_alloc ?_ _)); refine blk_far ?_ NB105_111.out _; (with_reducible repeat (first | refine blk_drewN ?_ _ | refine blk_drew ?_ | refine blk_alloc ?_ _)); exact BK105.out) hb); have n1_ := Aside0.mk (blk_below (g := gb111) (o := .cells #[.string t106, .int .i64 t107, .int .i64 t108, .int .i64 t109] 83 (0, 0)) (by (with_reducible repeat (first | refine blk_drewN ?_ _ | refine blk_drew ?_ | refine blk_alloc ?_ _)); refine blk_put (cs := #[.string t106, .int .i64 t107, .int .i64 t108, .int .i64 0]) ?_ 3 _ rfl; (with_reducible repeat (first | refine blk_drewN ?_ _ | refine blk_drew ?_ | refine blk_alloc ?_ _)); refine blk_put (cs := #[.string t106, .int .i64 t107, .int .i64 0, .int .i64 0]) ?_ 2 _ rfl; (with_reducible repeat (first | refine blk_drewN ?_ _ | refine blk_drew ?_ | refine blk_alloc ?_ _)); refine blk_put (cs := #[.string t106, .int .i64 0, .int .i64 0, .int .i64 0]) ?_ 1 _ rfl; (with_reducible repeat (first | refine blk_drewN ?_ _ | refine blk_drew ?_ | refine blk_alloc ?_ _)); refine blk_put (cs := #[.string (⟨#[]⟩ : ByteArray), .int .i64 0, .int .i64 0, .int .i64 0]) ?_ 0 _ rfl; (with_reducible repeat (first | refine blk_drewN ?_ _ | refine blk_drew ?_ | refine blk_alloc ?_ _)); exact BK111.out) hb); have n2_ := Aside0.mk (below_step (by repeat (first | (with_reducible first | exact HB.out | apply below_alloc | apply pw_below_drewN | apply below_drew1 | refine below_set ?_ GE105.out | refine below_set ?_ GE111.out) | exact HB.out)) hb); clear BK105; clear BK111; clear HB; have BK105 := n0_; have BK111 := n1_; have HB := n2_; clear n0_ n1_ n2_; (try clear hb); (try clear hb2); (try clear hk); (try clear hi); have hcz95_0 : w94.cell? ⟨gb105, 0, none⟩ = some (.int .i64 a0_0) := (blk_cell BK105.out 0).trans rfl; have hcz95_1 : w94.cell? ⟨gb105, 1, none⟩ = some (.int .i64 a0_1) := (blk_cell BK105.out 1).trans rfl; have hcz95_2 : w94.cell? ⟨gb105, 2, none⟩ = some (.int .i64 a0_2) := (blk_cell BK105.out 2).trans rfl; have hcz95_3 : w94.cell? ⟨gb105, 3, none⟩ = some (.int .i64 a0_3) := (blk_cell BK105.out 3).trans rfl; have hfz95_0 := blk_frozen BK105.out 0; have hfz95_1 := blk_frozen BK105.out 1; have hfz95_2 := blk_frozen BK105.out 2; have hfz95_3 := blk_frozen BK105.out 3; have hcz96_0 : w94.cell? ⟨gb111, 0, none⟩ = some (.string t106) := (blk_cell BK111.out 0).trans rfl; have hcz96_1 : w94.cell? ⟨gb111, 1, none⟩ = some (.int .i64 t107) := (blk_cell BK111.out 1).trans rfl; have hcz96_2 : w94.cell? ⟨gb111, 2, none⟩ = some (.int .i64 t108) := (blk_cell BK111.out 2).trans rfl; have hcz96_3 : w94.cell? ⟨gb111, 3, none⟩ = some (.int .i64 t109) := (blk_cell BK111.out 3).trans rfl; have hfz96_0 := blk_frozen BK111.out 0; have hfz96_1 := blk_frozen BK111.out 1; have hfz96_2 := blk_frozen BK111.out 2; have hfz96_3 := blk_frozen BK111.out 3) | (go_at_call 48; (with_reducible refine (instr_operation_hasB.calls t106 t107 t108 t109 false _ A59.out).mono ?_); rintro e w97 ⟨rfl, hb⟩; have n0_ := Aside0.mk (blk_below (g := gb105) (o := .cells #[.int .i64 a0_0, .int .i64 a0_1, .int .i64 a0_2, .int .i64 a0_3] 26 (0, 0)) (by (with_reducible repeat (first | refine blk_drewN ?_ _ | refine blk_drew ?_ | refine blk_alloc ?_ _)); exact BK105.out) hb); have n1_ := Aside0.mk (blk_below (g := gb111) (o := .cells #[.string t106, .int .i64 t107, .int .i64 t108, .int .i64 t109] 83 (0, 0)) (by (with_reducible repeat (first | refine blk_drewN ?_ _ | refine blk_drew ?_ | refine blk_alloc ?_ _)); exact BK111.out) hb); have n2_ := Aside0.mk (below_step (by repeat (first | (with_reducible first | exact HB.out | apply below_alloc | apply pw_below_drewN | apply below_drew1 | refine below_set ?_ GE105.out | refine below_set ?_ GE111.out) | exact HB.out)) hb); clear BK105; clear BK111; clear HB; have BK105 := n0_; have BK111 := n1_; have HB := n2_; clear n0_ n1_ n2_; (try clear hb); (try clear hb2); (try clear hk); (try clear hi); have hcz98_0 : w97.cell? ⟨gb105, 0, none⟩ = some (.int .i64 a0_0) := (blk_cell BK105.out 0).trans rfl; have hcz98_1 : w97.cell? ⟨gb105, 1, none⟩ = some (.int .i64 a0_1) := (blk_cell BK105.out 1).trans rfl; have hcz98_2 : w97.cell? ⟨gb105, 2, none⟩ = some (.int .i64 a0_2) := (blk_cell BK105.out 2).trans rfl; have hcz98_3 : w97.cell? ⟨gb105, 3, none⟩ = some (.int .i64 a0_3) := (blk_cell BK105.out 3).trans rfl; have hfz98_0 := blk_frozen BK105.out 0; have hfz98_1 := blk_frozen BK105.out 1; have hfz98_2 := blk_frozen BK105.out 2; have hfz98_3 := blk_frozen BK105.out 3; have hcz99_0 : w97.cell? ⟨gb111, 0, none⟩ = some (.string t106) := (blk_cell BK111.out 0).trans rfl; have hcz99_1 : w97.cell? ⟨gb111, 1, none⟩ = some (.int .i64 t107) := (blk_cell BK111.out 1).trans rfl; have hcz99_2 : w97.cell? ⟨gb111, 2, none⟩ = some (.int .i64 t108) := (blk_cell BK111.out 2).trans rfl; have hcz99_3 : w97.cell? ⟨gb111, 3, none⟩ = some (.int .i64 t109) := (blk_cell BK111.out 3).trans rfl; have hfz99_0 := blk_frozen BK111.out 0; have hfz99_1 := blk_frozen BK111.out 1; have hfz99_2 := blk_frozen BK111.out 2; have hfz99_3 := blk_frozen BK111.out 3) | (go_at_call 49; (with_reducible refine (instr_operation_hasC.calls t106 t107 t108 t109 false _ A81.out).mono ?_); rintro e w100 ⟨rfl, hb⟩; have n0_ := Aside0.mk (blk_below (g := gb105) (o := .cells #[.int .i64 a0_0, .int .i64 a0_1, .int .i64 a0_2, .int .i64 a0_3] 26 (0, 0)) (by (with_reducible repeat (first | refine blk_drewN ?_ _ | refine blk_drew ?_ | refine blk_alloc ?_ _)); exact BK105.out) hb); have n1_ := Aside0.mk (blk_below (g := gb111) (o := .cells #[.string t106, .int .i64 t107, .int .i64 t108, .int .i64 t109] 83 (0, 0)) (by (with_reducible repeat (first | refine blk_drewN ?_ _ | refine blk_drew ?_ | refine blk_alloc ?_ _)); exact BK111.out) hb); have n2_ := Aside0.mk (below_step (by repeat (first | (with_reducible first | exact HB.out | apply below_alloc | apply pw_below_drewN | apply below_drew1 | refine below_set ?_ GE105.out | refine below_set ?_ GE111.out) | exact HB.out)) hb); clear BK105; clear BK111; clear HB; have BK105 := n0_; have BK111 := n1_; have HB := n2_; clear n0_ n1_ n2_; (try clear hb); (try clear hb2); (try clear hk); (try clear hi); have hcz101_0 : w100.cell? ⟨gb105, 0, none⟩ = some (.int .i64 a0_0) := (blk_cell BK105.out 0).trans rfl; have hcz101_1 : w100.cell? ⟨gb105, 1, none⟩ = some (.int .i64 a0_1) := (blk_cell BK105.out 1).trans rfl; have hcz101_2 : w100.cell? ⟨gb105, 2, none⟩ = some (.int .i64 a0_2) := (blk_cell BK105.out 2).trans rfl; have hcz101_3 : w100.cell? ⟨gb105, 3, none⟩ = some (.int .i64 a0_3) := (blk_cell BK105.out 3).trans rfl; have hfz101_0 := blk_frozen BK105.out 0; have hfz101_1 := blk_frozen BK105.out 1; have hfz101_2 := blk_frozen BK105.out 2; have hfz101_3 := blk_frozen BK105.out 3))
                go_meet
                case rel => exact ⟨_, ((a0_3 != 0)), (by first | rfl | (simp; done) | (simp [*]; done)), H', ⟨by first | omega | exact Nat.le_refl _⟩, ⟨by (with_reducible repeat (first | refine blk_drewN ?_ _ | refine blk_drew ?_ | refine blk_alloc ?_ _)); exact BK105.out⟩, ⟨by (with_reducible repeat (first | refine blk_drewN ?_ _ | refine blk_drew ?_ | refine blk_alloc ?_ _)); exact BK111.out⟩, ⟨by repeat (first | (with_reducible first | exact HB.out | apply below_alloc | apply pw_below_drewN | apply below_drew1 | refine below_set ?_ GE105.out | refine below_set ?_ GE111.out) | exact HB.out)⟩⟩
            · rw [if_neg c80] at H
              have c80b0 : (a0_2 == 0) = false := beq_eq_false_iff_ne.mpr c80
              have c80b1 : (a0_2 != 0) = true := bne_iff_ne.mpr c80
              have H' := Aside0.mk H
              clear H
              have hnb102 := NB111_105.out
              have hnc102 := NB105_111.out
              have hcz103_0 : w8.cell? ⟨gb111, 0, none⟩ = some (.string (⟨#[]⟩ : ByteArray)) := (blk_cell BK111.out 0).trans rfl
              have hcz103_1 : w8.cell? ⟨gb111, 1, none⟩ = some (.int .i64 0) := (blk_cell BK111.out 1).trans rfl
              have hcz103_2 : w8.cell? ⟨gb111, 2, none⟩ = some (.int .i64 0) := (blk_cell BK111.out 2).trans rfl
              have hcz103_3 : w8.cell? ⟨gb111, 3, none⟩ = some (.int .i64 0) := (blk_cell BK111.out 3).trans rfl
              have hfz103_0 := blk_frozen BK111.out 0
              have hfz103_1 := blk_frozen BK111.out 1
              have hfz103_2 := blk_frozen BK111.out 2
              have hfz103_3 := blk_frozen BK111.out 3
              go_wp2_with (first | ((with_reducible refine gate_callee (f := 47) rfl ?_); refine goesL_ (some 16) rfl rfl Try.func47 (by kernel_rfl) rfl #[.agg #[.string t106, .int .i64 t107, .int .i64 t108, .int .i64 t109]] rfl (by (try simp only [List.map_toArray, List.map_cons, List.map_nil]); first | done | rfl | (simp only [List.length_drop, List.length_take]; rfl)) ?_; (with_reducible refine (instr_operation_hasA.calls t106 t107 t108 t109 false _ A11.out).mono ?_); rintro e w104 ⟨rfl, hb⟩; refine ⟨_, rfl, ?_⟩; have n0_ := Aside0.mk (blk_below (g := gb105) (o := .cells #[.int .i64 a0_0, .int .i64 a0_1, .int .i64 a0_2, .int .i64 a0_3] 26 (0, 0)) (by (with_reducible repeat (first | refine blk_drewN ?_ _ | refine blk_drew ?_ | refine blk_alloc ?_ _)); refine blk_far ?_ NB105_111.out _; (with_reducible repeat (first | refine blk_drewN ?_ _ | refine blk_drew ?_ | refine blk_alloc ?_ _)); refine blk_far ?_ NB105_111.out _; (with_reducible repeat (first | refine blk_drewN ?_ _ | refine blk_drew ?_ | refine blk_alloc ?_ _)); refine blk_far ?_ NB105_111.out _; (with_reducible repeat (first | refine blk_drewN ?_ _ | refine blk_drew ?_ | refine blk_alloc ?_ _)); refine blk_far ?_ NB105_111.out _; (with_reducible repeat (first | refine blk_drewN ?_ _ | refine blk_drew ?_ | refine blk_alloc ?_ _)); exact BK105.out) hb); have n1_ := Aside0.mk (blk_below (g := gb111) (o := .cells #[.string t106, .int .i64 t107, .int .i64 t108, .int .i64 t109] 83 (0, 0)) (by (with_reducible repeat (first | refine blk_drewN ?_ _ | refine blk_drew ?_ | refine blk_alloc ?_ _)); refine blk_put (cs := #[.string t106, .int .i64 t107, .int .i64 t108, .int .i64 0]) ?_ 3 _ rfl; (with_reducible repeat (first | refine blk_drewN ?_ _ | refine blk_drew ?_ | refine blk_alloc ?_ _)); refine blk_put (cs := #[.string t106, .int .i64 t107, .int .i64 0, .int .i64 0]) ?_ 2 _ rfl; (with_reducible repeat (first | refine blk_drewN ?_ _ | refine blk_drew ?_ | refine blk_alloc ?_ _)); refine blk_put (cs := #[.string t106, .int .i64 0, .int .i64 0, .int .i64 0]) ?_ 1 _ rfl; (with_reducible repeat (first | refine blk_drewN ?_ _ | refine blk_drew ?_ | refine blk_alloc ?_ _)); refine blk_put (cs := #[.string (⟨#[]⟩ : ByteArray), .int .i64 0, .int .i64 0, .int .i64 0]) ?_ 0 _ rfl; (with_reducible repeat (first | refine blk_drewN ?_ _ | refine blk_drew ?_ | refine blk_alloc ?_ _)); exact BK111.out) hb); have n2_ := Aside0.mk (below_step (by repeat (first | (with_reducible first | exact HB.out | apply below_alloc | apply pw_below_drewN | apply below_drew1 | refine below_set ?_ GE105.out | refine below_set ?_ GE111.out) | exact HB.out)) hb); clear BK105; clear BK111; clear HB; have BK105 := n0_; have BK111 := n1_; have HB := n2_; clear n0_ n1_ n2_; (try clear hb); (try clear hb2); (try clear hk); (try clear hi); have hcz105_0 : w104.cell? ⟨gb105, 0, none⟩ = some (.int .i64 a0_0) := (blk_cell BK105.out 0).trans rfl; have hcz105_1 : w104.cell? ⟨gb105, 1, none⟩ = some (.int .i64 a0_1) := (blk_cell BK105.out 1).trans rfl; have hcz105_2 : w104.cell? ⟨gb105, 2, none⟩ = some (.int .i64 a0_2) := (blk_cell BK105.out 2).trans rfl; have hcz105_3 : w104.cell? ⟨gb105, 3, none⟩ = some (.int .i64 a0_3) := (blk_cell BK105.out 3).trans rfl; have hfz105_0 := blk_frozen BK105.out 0; have hfz105_1 := blk_frozen BK105.out 1; have hfz105_2 := blk_frozen BK105.out 2; have hfz105_3 := blk_frozen BK105.out 3; have hcz106_0 : w104.cell? ⟨gb111, 0, none⟩ = some (.string t106) := (blk_cell BK111.out 0).trans rfl; have hcz106_1 : w104.cell? ⟨gb111, 1, none⟩ = some (.int .i64 t107) := (blk_cell BK111.out 1).trans rfl; have hcz106_2 : w104.cell? ⟨gb111, 2, none⟩ = some (.int .i64 t108) := (blk_cell BK111.out 2).trans rfl; have hcz106_3 : w104.cell? ⟨gb111, 3, none⟩ = some (.int .i64 t109) := (blk_cell BK111.out 3).trans rfl; have hfz106_0 := blk_frozen BK111.out 0; have hfz106_1 := blk_frozen BK111.out 1; have hfz106_2 := blk_frozen BK111.out 2; have hfz106_3 := blk_frozen BK111.out 3) | (go_at_call 48; (with_reducible refine (instr_operation_hasB.calls t106 t107 t108 t109 false _ A59.out).mono ?_); rintro e w107 ⟨rfl, hb⟩; have n0_ := Aside0.mk (blk_below (g := gb105) (o := .cells #[.int .i64 a0_0, .int .i64 a0_1, .int .i64 a0_2, .int .i64 a0_3] 26 (0, 0)) (by (with_reducible repeat (first | refine blk_drewN ?_ _ | refine blk_drew ?_ | refine blk_alloc ?_ _)); exact BK105.out) hb); have n1_ := Aside0.mk (blk_below (g := gb111) (o := .cells #[.string t106, .int .i64 t107, .int .i64 t108, .int .i64 t109] 83 (0, 0)) (by (with_reducible repeat (first | refine blk_drewN ?_ _ | refine blk_drew ?_ | refine blk_alloc ?_ _)); exact BK111.out) hb); have n2_ := Aside0.mk (below_step (by repeat (first | (with_reducible first | exact HB.out | apply below_alloc | apply pw_below_drewN | apply below_drew1 | refine below_set ?_ GE105.out | refine below_set ?_ GE111.out) | exact HB.out)) hb); clear BK105; clear BK111; clear HB; have BK105 := n0_; have BK111 := n1_; have HB := n2_; clear n0_ n1_ n2_; (try clear hb); (try clear hb2); (try clear hk); (try clear hi); have hcz108_0 : w107.cell? ⟨gb105, 0, none⟩ = some (.int .i64 a0_0) := (blk_cell BK105.out 0).trans rfl; have hcz108_1 : w107.cell? ⟨gb105, 1, none⟩ = some (.int .i64 a0_1) := (blk_cell BK105.out 1).trans rfl; have hcz108_2 : w107.cell? ⟨gb105, 2, none⟩ = some (.int .i64 a0_2) := (blk_cell BK105.out 2).trans rfl; have hcz108_3 : w107.cell? ⟨gb105, 3, none⟩ = some (.int .i64 a0_3) := (blk_cell BK105.out 3).trans rfl; have hfz108_0 := blk_frozen BK105.out 0; have hfz108_1 := blk_frozen BK105.out 1; have hfz108_2 := blk_frozen BK105.out 2; have hfz108_3 := blk_frozen BK105.out 3))
              go_meet
              case rel => exact ⟨_, (true), (by first | rfl | (simp; done) | (simp [*]; done)), H', ⟨by first | omega | exact Nat.le_refl _⟩, ⟨by (with_reducible repeat (first | refine blk_drewN ?_ _ | refine blk_drew ?_ | refine blk_alloc ?_ _)); exact BK105.out⟩, ⟨by (with_reducible repeat (first | refine blk_drewN ?_ _ | refine blk_drew ?_ | refine blk_alloc ?_ _)); exact BK111.out⟩, ⟨by repeat (first | (with_reducible first | exact HB.out | apply below_alloc | apply pw_below_drewN | apply below_drew1 | refine below_set ?_ GE105.out | refine below_set ?_ GE111.out) | exact HB.out)⟩⟩
        · rw [if_neg c58] at H
          have c58b0 : (a0_1 == 0) = false := beq_eq_false_iff_ne.mpr c58
          have c58b1 : (a0_1 != 0) = true := bne_iff_ne.mpr c58
          have H' := Aside0.mk H
          clear H
          have hnb109 := NB111_105.out
          have hnc109 := NB105_111.out
          have hcz110_0 : w8.cell? ⟨gb111, 0, none⟩ = some (.string (⟨#[]⟩ : ByteArray)) := (blk_cell BK111.out 0).trans rfl
          have hcz110_1 : w8.cell? ⟨gb111, 1, none⟩ = some (.int .i64 0) := (blk_cell BK111.out 1).trans rfl
          have hcz110_2 : w8.cell? ⟨gb111, 2, none⟩ = some (.int .i64 0) := (blk_cell BK111.out 2).trans rfl
          have hcz110_3 : w8.cell? ⟨gb111, 3, none⟩ = some (.int .i64 0) := (blk_cell BK111.out 3).trans rfl
          have hfz110_0 := blk_frozen BK111.out 0
          have hfz110_1 := blk_frozen BK111.out 1
          have hfz110_2 := blk_frozen BK111.out 2
          have hfz110_3 := blk_frozen BK111.out 3
          go_wp2_with (first | ((with_reducible refine gate_callee (f := 47) rfl ?_); refine goesL_ (some 16) rfl rfl Try.func47 (by kernel_rfl) rfl #[.agg #[.string t106, .int .i64 t107, .int .i64 t108, .int .i64 t109]] rfl (by (try simp only [List.map_toArray, List.map_cons, List.map_nil]); first | done | rfl | (simp only [List.length_drop, List.length_take]; rfl)) ?_; (with_reducible refine (instr_operation_hasA.calls t106 t107 t108 t109 false _ A11.out).mono ?_); rintro e w111 ⟨rfl, hb⟩; refine ⟨_, rfl, ?_⟩; have n0_ := Aside0.mk (blk_below (g := gb105) (o := .cells #[.int .i64 a0_0, .int .i64 a0_1, .int .i64 a0_2, .int .i64 a0_3] 26 (0, 0)) (by (with_reducible repeat (first | refine blk_drewN ?_ _ | refine blk_drew ?_ | refine blk_alloc ?_ _)); refine blk_far ?_ NB105_111.out _; (with_reducible repeat (first | refine blk_drewN ?_ _ | refine blk_drew ?_ | refine blk_alloc ?_ _)); refine blk_far ?_ NB105_111.out _; (with_reducible repeat (first | refine blk_drewN ?_ _ | refine blk_drew ?_ | refine blk_alloc ?_ _)); refine blk_far ?_ NB105_111.out _; (with_reducible repeat (first | refine blk_drewN ?_ _ | refine blk_drew ?_ | refine blk_alloc ?_ _)); refine blk_far ?_ NB105_111.out _; (with_reducible repeat (first | refine blk_drewN ?_ _ | refine blk_drew ?_ | refine blk_alloc ?_ _)); exact BK105.out) hb); have n1_ := Aside0.mk (blk_below (g := gb111) (o := .cells #[.string t106, .int .i64 t107, .int .i64 t108, .int .i64 t109] 83 (0, 0)) (by (with_reducible repeat (first | refine blk_drewN ?_ _ | refine blk_drew ?_ | refine blk_alloc ?_ _)); refine blk_put (cs := #[.string t106, .int .i64 t107, .int .i64 t108, .int .i64 0]) ?_ 3 _ rfl; (with_reducible repeat (first | refine blk_drewN ?_ _ | refine blk_drew ?_ | refine blk_alloc ?_ _)); refine blk_put (cs := #[.string t106, .int .i64 t107, .int .i64 0, .int .i64 0]) ?_ 2 _ rfl; (with_reducible repeat (first | refine blk_drewN ?_ _ | refine blk_drew ?_ | refine blk_alloc ?_ _)); refine blk_put (cs := #[.string t106, .int .i64 0, .int .i64 0, .int .i64 0]) ?_ 1 _ rfl; (with_reducible repeat (first | refine blk_drewN ?_ _ | refine blk_drew ?_ | refine blk_alloc ?_ _)); refine blk_put (cs := #[.string (⟨#[]⟩ : ByteArray), .int .i64 0, .int .i64 0, .int .i64 0]) ?_ 0 _ rfl; (with_reducible repeat (first | refine blk_drewN ?_ _ | refine blk_drew ?_ | refine blk_alloc ?_ _)); exact BK111.out) hb); have n2_ := Aside0.mk (below_step (by repeat (first | (with_reducible first | exact HB.out | apply below_alloc | apply pw_below_drewN | apply below_drew1 | refine below_set ?_ GE105.out | refine below_set ?_ GE111.out) | exact HB.out)) hb); clear BK105; clear BK111; clear HB; have BK105 := n0_; have BK111 := n1_; have HB := n2_; clear n0_ n1_ n2_; (try clear hb); (try clear hb2); (try clear hk); (try clear hi); have hcz112_0 : w111.cell? ⟨gb105, 0, none⟩ = some (.int .i64 a0_0) := (blk_cell BK105.out 0).trans rfl; have hcz112_1 : w111.cell? ⟨gb105, 1, none⟩ = some (.int .i64 a0_1) := (blk_cell BK105.out 1).trans rfl; have hcz112_2 : w111.cell? ⟨gb105, 2, none⟩ = some (.int .i64 a0_2) := (blk_cell BK105.out 2).trans rfl; have hcz112_3 : w111.cell? ⟨gb105, 3, none⟩ = some (.int .i64 a0_3) := (blk_cell BK105.out 3).trans rfl; have hfz112_0 := blk_frozen BK105.out 0; have hfz112_1 := blk_frozen BK105.out 1; have hfz112_2 := blk_frozen BK105.out 2; have hfz112_3 := blk_frozen BK105.out 3))
          go_meet
          case rel => exact ⟨_, (true), (by first | rfl | (simp; done) | (simp [*]; done)), H', ⟨by first | omega | exact Nat.le_refl _⟩, ⟨by (with_reducible repeat (first | refine blk_drewN ?_ _ | refine blk_drew ?_ | refine blk_alloc ?_ _)); exact BK105.out⟩, ⟨by (with_reducible repeat (first | refine blk_drewN ?_ _ | refine blk_drew ?_ | refine blk_alloc ?_ _)); exact BK111.out⟩, ⟨by repeat (first | (with_reducible first | exact HB.out | apply below_alloc | apply pw_below_drewN | apply below_drew1 | refine below_set ?_ GE105.out | refine below_set ?_ GE111.out) | exact HB.out)⟩⟩
    case rest =>
      clear HC4
      try clear c1
      try clear c2
      try clear p2
      try clear c3
      try clear c4
      try clear c5
      try clear c6
      try clear c7
      try clear c8
      try clear c9
      try clear c10
      try clear c12
      try clear c14
      try clear c15
      try clear c16
      try clear c17
      try clear c24
      try clear c32
      try clear c32b0
      try clear c32b1
      try clear c34
      try clear c35
      try clear c43
      try clear c46
      try clear c47
      try clear c52
      try clear c58
      try clear c58b0
      try clear c58b1
      try clear c60
      try clear c62
      try clear c63
      try clear c71
      try clear c80
      try clear c80b0
      try clear c80b1
      try clear c82
      try clear c83
      try clear c92
      try clear c102
      try clear c109
      try clear hcz101_0
      try clear hcz101_1
      try clear hcz101_2
      try clear hcz101_3
      try clear hcz103_0
      try clear hcz103_1
      try clear hcz103_2
      try clear hcz103_3
      try clear hcz105_0
      try clear hcz105_1
      try clear hcz105_2
      try clear hcz105_3
      try clear hcz106_0
      try clear hcz106_1
      try clear hcz106_2
      try clear hcz106_3
      try clear hcz108_0
      try clear hcz108_1
      try clear hcz108_2
      try clear hcz108_3
      try clear hcz10_0
      try clear hcz10_1
      try clear hcz10_2
      try clear hcz10_3
      try clear hcz110_0
      try clear hcz110_1
      try clear hcz110_2
      try clear hcz110_3
      try clear hcz112_0
      try clear hcz112_1
      try clear hcz112_2
      try clear hcz112_3
      try clear hcz18_0
      try clear hcz18_1
      try clear hcz18_2
      try clear hcz18_3
      try clear hcz20_0
      try clear hcz20_1
      try clear hcz20_2
      try clear hcz20_3
      try clear hcz22_0
      try clear hcz22_1
      try clear hcz22_2
      try clear hcz22_3
      try clear hcz25_0
      try clear hcz25_1
      try clear hcz25_2
      try clear hcz25_3
      try clear hcz27_0
      try clear hcz27_1
      try clear hcz27_2
      try clear hcz27_3
      try clear hcz29_0
      try clear hcz29_1
      try clear hcz29_2
      try clear hcz29_3
      try clear hcz31_0
      try clear hcz31_1
      try clear hcz31_2
      try clear hcz31_3
      try clear hcz36_0
      try clear hcz36_1
      try clear hcz36_2
      try clear hcz36_3
      try clear hcz38_0
      try clear hcz38_1
      try clear hcz38_2
      try clear hcz38_3
      try clear hcz40_0
      try clear hcz40_1
      try clear hcz40_2
      try clear hcz40_3
      try clear hcz41_0
      try clear hcz41_1
      try clear hcz41_2
      try clear hcz41_3
      try clear hcz44_0
      try clear hcz44_1
      try clear hcz44_2
      try clear hcz44_3
      try clear hcz46_0
      try clear hcz46_1
      try clear hcz46_2
      try clear hcz46_3
      try clear hcz48_0
      try clear hcz48_1
      try clear hcz48_2
      try clear hcz48_3
      try clear hcz49_0
      try clear hcz49_1
      try clear hcz49_2
      try clear hcz49_3
      try clear hcz51_0
      try clear hcz51_1
      try clear hcz51_2
      try clear hcz51_3
      try clear hcz53_0
      try clear hcz53_1
      try clear hcz53_2
      try clear hcz53_3
      try clear hcz55_0
      try clear hcz55_1
      try clear hcz55_2
      try clear hcz55_3
      try clear hcz57_0
      try clear hcz57_1
      try clear hcz57_2
      try clear hcz57_3
      try clear hcz64_0
      try clear hcz64_1
      try clear hcz64_2
      try clear hcz64_3
      try clear hcz66_0
      try clear hcz66_1
      try clear hcz66_2
      try clear hcz66_3
      try clear hcz67_0
      try clear hcz67_1
      try clear hcz67_2
      try clear hcz67_3
      try clear hcz69_0
      try clear hcz69_1
      try clear hcz69_2
      try clear hcz69_3
      try clear hcz6_0
      try clear hcz6_1
      try clear hcz6_2
      try clear hcz6_3
      try clear hcz72_0
      try clear hcz72_1
      try clear hcz72_2
      try clear hcz72_3
      try clear hcz74_0
      try clear hcz74_1
      try clear hcz74_2
      try clear hcz74_3
      try clear hcz75_0
      try clear hcz75_1
      try clear hcz75_2
      try clear hcz75_3
      try clear hcz77_0
      try clear hcz77_1
      try clear hcz77_2
      try clear hcz77_3
      try clear hcz79_0
      try clear hcz79_1
      try clear hcz79_2
      try clear hcz79_3
      try clear hcz84_0
      try clear hcz84_1
      try clear hcz84_2
      try clear hcz84_3
      try clear hcz86_0
      try clear hcz86_1
      try clear hcz86_2
      try clear hcz86_3
      try clear hcz87_0
      try clear hcz87_1
      try clear hcz87_2
      try clear hcz87_3
      try clear hcz89_0
      try clear hcz89_1
      try clear hcz89_2
      try clear hcz89_3
      try clear hcz90_0
      try clear hcz90_1
      try clear hcz90_2
      try clear hcz90_3
      try clear hcz93_0
      try clear hcz93_1
      try clear hcz93_2
      try clear hcz93_3
      try clear hcz95_0
      try clear hcz95_1
      try clear hcz95_2
      try clear hcz95_3
      try clear hcz96_0
      try clear hcz96_1
      try clear hcz96_2
      try clear hcz96_3
      try clear hcz98_0
      try clear hcz98_1
      try clear hcz98_2
      try clear hcz98_3
      try clear hcz99_0
      try clear hcz99_1
      try clear hcz99_2
      try clear hcz99_3
      try clear hfz101_0
      try clear hfz101_1
      try clear hfz101_2
      try clear hfz101_3
      try clear hfz103_0
      try clear hfz103_1
      try clear hfz103_2
      try clear hfz103_3
      try clear hfz105_0
      try clear hfz105_1
      try clear hfz105_2
      try clear hfz105_3
      try clear hfz106_0
      try clear hfz106_1
      try clear hfz106_2
      try clear hfz106_3
      try clear hfz108_0
      try clear hfz108_1
      try clear hfz108_2
      try clear hfz108_3
      try clear hfz10_0
      try clear hfz10_1
      try clear hfz10_2
      try clear hfz10_3
      try clear hfz110_0
      try clear hfz110_1
      try clear hfz110_2
      try clear hfz110_3
      try clear hfz112_0
      try clear hfz112_1
      try clear hfz112_2
      try clear hfz112_3
      try clear hfz18_0
      try clear hfz18_1
      try clear hfz18_2
      try clear hfz18_3
      try clear hfz20_0
      try clear hfz20_1
      try clear hfz20_2
      try clear hfz20_3
      try clear hfz22_0
      try clear hfz22_1
      try clear hfz22_2
      try clear hfz22_3
      try clear hfz25_0
      try clear hfz25_1
      try clear hfz25_2
      try clear hfz25_3
      try clear hfz27_0
      try clear hfz27_1
      try clear hfz27_2
      try clear hfz27_3
      try clear hfz29_0
      try clear hfz29_1
      try clear hfz29_2
      try clear hfz29_3
      try clear hfz31_0
      try clear hfz31_1
      try clear hfz31_2
      try clear hfz31_3
      try clear hfz36_0
      try clear hfz36_1
      try clear hfz36_2
      try clear hfz36_3
      try clear hfz38_0
      try clear hfz38_1
      try clear hfz38_2
      try clear hfz38_3
      try clear hfz40_0
      try clear hfz40_1
      try clear hfz40_2
      try clear hfz40_3
      try clear hfz41_0
      try clear hfz41_1
      try clear hfz41_2
      try clear hfz41_3
      try clear hfz44_0
      try clear hfz44_1
      try clear hfz44_2
      try clear hfz44_3
      try clear hfz46_0
      try clear hfz46_1
      try clear hfz46_2
      try clear hfz46_3
      try clear hfz48_0
      try clear hfz48_1
      try clear hfz48_2
      try clear hfz48_3
      try clear hfz49_0
      try clear hfz49_1
      try clear hfz49_2
      try clear hfz49_3
      try clear hfz51_0
      try clear hfz51_1
      try clear hfz51_2
      try clear hfz51_3
      try clear hfz53_0
      try clear hfz53_1
      try clear hfz53_2
      try clear hfz53_3
      try clear hfz55_0
      try clear hfz55_1
      try clear hfz55_2
      try clear hfz55_3
      try clear hfz57_0
      try clear hfz57_1
      try clear hfz57_2
      try clear hfz57_3
      try clear hfz64_0
      try clear hfz64_1
      try clear hfz64_2
      try clear hfz64_3
      try clear hfz66_0
      try clear hfz66_1
      try clear hfz66_2
      try clear hfz66_3
      try clear hfz67_0
      try clear hfz67_1
      try clear hfz67_2
      try clear hfz67_3
      try clear hfz69_0
      try clear hfz69_1
      try clear hfz69_2
      try clear hfz69_3
      try clear hfz6_0
      try clear hfz6_1
      try clear hfz6_2
      try clear hfz6_3
      try clear hfz72_0
      try clear hfz72_1
      try clear hfz72_2
      try clear hfz72_3
      try clear hfz74_0
      try clear hfz74_1
      try clear hfz74_2
      try clear hfz74_3
      try clear hfz75_0
      try clear hfz75_1
      try clear hfz75_2
      try clear hfz75_3
      try clear hfz77_0
      try clear hfz77_1
      try clear hfz77_2
      try clear hfz77_3
      try clear hfz79_0
      try clear hfz79_1
      try clear hfz79_2
      try clear hfz79_3
      try clear hfz84_0
      try clear hfz84_1
      try clear hfz84_2
      try clear hfz84_3
      try clear hfz86_0
      try clear hfz86_1
      try clear hfz86_2
      try clear hfz86_3
      try clear hfz87_0
      try clear hfz87_1
      try clear hfz87_2
      try clear hfz87_3
      try clear hfz89_0
      try clear hfz89_1
      try clear hfz89_2
      try clear hfz89_3
      try clear hfz90_0
      try clear hfz90_1
      try clear hfz90_2
      try clear hfz90_3
      try clear hfz93_0
      try clear hfz93_1
      try clear hfz93_2
      try clear hfz93_3
      try clear hfz95_0
      try clear hfz95_1
      try clear hfz95_2
      try clear hfz95_3
      try clear hfz96_0
      try clear hfz96_1
      try clear hfz96_2
      try clear hfz96_3
      try clear hfz98_0
      try clear hfz98_1
      try clear hfz98_2
      try clear hfz98_3
      try clear hfz99_0
      try clear hfz99_1
      try clear hfz99_2
      try clear hfz99_3
      obtain ⟨kq, x14_3, rfl, HA, HJ3, BK105, BK111, HB⟩ := hcut
      cases kq with
      | zero => exact absurd HA.out (by simp [instr_Instr_Check.j0])
      | succ kj3 =>
        have H := HA.out
        clear HA
        simp only [instr_Instr_Check.j0] at H
        by_cases c113 : x14_3 = true
        · subst c113
          have H1 : (some 1) = some r := by rw [if_pos rfl] at H; exact H
          clear H
          have H := H1
          clear H1
          obtain rfl := Option.some.inj H
          go_wp2
          go_ret
          exact ⟨by first | rfl | (simp [errW_none, errW_some] <;> rfl) | (simp [*, errW_none, errW_some] <;> rfl), by repeat (first | (with_reducible first | exact HB.out | apply below_alloc | apply pw_below_drewN | apply below_drew1 | refine below_set ?_ GE105.out | refine below_set ?_ GE111.out) | exact HB.out)⟩
        · replace c113 := Bool.eq_false_iff.mpr c113
          subst c113
          have H1 : ((instr_register.f a0_1).bind fun t119 => (if t119 = true then ((instr_register.f a0_2).bind fun t120 => (if t120 = true then (if t107 = 3 then ((instr_register.f a0_3).bind fun t121 => (if t121 = true then ((instr_operation_hasN.f t106 t107 t108 t109).bind fun t122 => (if t122 = true then (if a0_3 < t108 then (some 2) else (if a0_3 > t109 then (some 2) else (some 0))) else (some 0))) else (some 2))) else ((instr_operation_hasN.f t106 t107 t108 t109).bind fun t123 => (if t123 = true then (if a0_3 < t108 then (some 2) else (if a0_3 > t109 then (some 2) else (some 0))) else (some 0)))) else (some 2))) else (some 2))) = some r := by rw [if_neg (show ¬ (false = true) by decide)] at H; exact H
          clear H
          have H := H1
          clear H1
          replace H := Option.bind_eq_some_iff.mp H
          obtain ⟨t119, A1140, H⟩ := H
          replace H : (if t119 = true then ((instr_register.f a0_2).bind fun t120 => (if t120 = true then (if t107 = 3 then ((instr_register.f a0_3).bind fun t121 => (if t121 = true then ((instr_operation_hasN.f t106 t107 t108 t109).bind fun t122 => (if t122 = true then (if a0_3 < t108 then (some 2) else (if a0_3 > t109 then (some 2) else (some 0))) else (some 0))) else (some 2))) else ((instr_operation_hasN.f t106 t107 t108 t109).bind fun t123 => (if t123 = true then (if a0_3 < t108 then (some 2) else (if a0_3 > t109 then (some 2) else (some 0))) else (some 0)))) else (some 2))) else (some 2)) = some r := H
          have A114 := Aside0.mk A1140
          clear A1140
          by_cases c115 : t119 = true
          · subst c115
            have H1 : ((instr_register.f a0_2).bind fun t120 => (if t120 = true then (if t107 = 3 then ((instr_register.f a0_3).bind fun t121 => (if t121 = true then ((instr_operation_hasN.f t106 t107 t108 t109).bind fun t122 => (if t122 = true then (if a0_3 < t108 then (some 2) else (if a0_3 > t109 then (some 2) else (some 0))) else (some 0))) else (some 2))) else ((instr_operation_hasN.f t106 t107 t108 t109).bind fun t123 => (if t123 = true then (if a0_3 < t108 then (some 2) else (if a0_3 > t109 then (some 2) else (some 0))) else (some 0)))) else (some 2))) = some r := by rw [if_pos rfl] at H; exact H
            clear H
            have H := H1
            clear H1
            replace H := Option.bind_eq_some_iff.mp H
            obtain ⟨t120, A1160, H⟩ := H
            replace H : (if t120 = true then (if t107 = 3 then ((instr_register.f a0_3).bind fun t121 => (if t121 = true then ((instr_operation_hasN.f t106 t107 t108 t109).bind fun t122 => (if t122 = true then (if a0_3 < t108 then (some 2) else (if a0_3 > t109 then (some 2) else (some 0))) else (some 0))) else (some 2))) else ((instr_operation_hasN.f t106 t107 t108 t109).bind fun t123 => (if t123 = true then (if a0_3 < t108 then (some 2) else (if a0_3 > t109 then (some 2) else (some 0))) else (some 0)))) else (some 2)) = some r := H
            have A116 := Aside0.mk A1160
            clear A1160
            by_cases c117 : t120 = true
            · subst c117
              have H1 : (if t107 = 3 then ((instr_register.f a0_3).bind fun t121 => (if t121 = true then ((instr_operation_hasN.f t106 t107 t108 t109).bind fun t122 => (if t122 = true then (if a0_3 < t108 then (some 2) else (if a0_3 > t109 then (some 2) else (some 0))) else (some 0))) else (some 2))) else ((instr_operation_hasN.f t106 t107 t108 t109).bind fun t123 => (if t123 = true then (if a0_3 < t108 then (some 2) else (if a0_3 > t109 then (some 2) else (some 0))) else (some 0)))) = some r := by rw [if_pos rfl] at H; exact H
              clear H
              have H := H1
              clear H1
              by_cases c118 : t107 = 3
              · rw [if_pos c118] at H
                have c118b0 : (t107 == 3) = true := beq_iff_eq.mpr c118
                have c118b1 : (t107 != 3) = false := bne_eq_false_iff_eq.mpr c118
                clear c118
                replace H := Option.bind_eq_some_iff.mp H
                obtain ⟨t121, A1190, H⟩ := H
                replace H : (if t121 = true then ((instr_operation_hasN.f t106 t107 t108 t109).bind fun t122 => (if t122 = true then (if a0_3 < t108 then (some 2) else (if a0_3 > t109 then (some 2) else (some 0))) else (some 0))) else (some 2)) = some r := H
                have A119 := Aside0.mk A1190
                clear A1190
                by_cases c120 : t121 = true
                · subst c120
                  have H1 : ((instr_operation_hasN.f t106 t107 t108 t109).bind fun t122 => (if t122 = true then (if a0_3 < t108 then (some 2) else (if a0_3 > t109 then (some 2) else (some 0))) else (some 0))) = some r := by rw [if_pos rfl] at H; exact H
                  clear H
                  have H := H1
                  clear H1
                  replace H := Option.bind_eq_some_iff.mp H
                  obtain ⟨t122, A1210, H⟩ := H
                  replace H : (if t122 = true then (if a0_3 < t108 then (some 2) else (if a0_3 > t109 then (some 2) else (some 0))) else (some 0)) = some r := H
                  have A121 := Aside0.mk A1210
                  clear A1210
                  by_cases c122 : t122 = true
                  · subst c122
                    have H1 : (if a0_3 < t108 then (some 2) else (if a0_3 > t109 then (some 2) else (some 0))) = some r := by rw [if_pos rfl] at H; exact H
                    clear H
                    have H := H1
                    clear H1
                    by_cases c123 : a0_3 < t108
                    · rw [if_pos c123] at H
                      have c123b0 : decide (a0_3 < t108) = true := decide_eq_true c123
                      clear c123
                      obtain rfl := Option.some.inj H
                      have hnb124 := NB105_111.out
                      have hnc124 := NB111_105.out
                      have hcz125_0 : wc.cell? ⟨gb105, 0, none⟩ = some (.int .i64 a0_0) := (blk_cell BK105.out 0).trans rfl
                      have hcz125_1 : wc.cell? ⟨gb105, 1, none⟩ = some (.int .i64 a0_1) := (blk_cell BK105.out 1).trans rfl
                      have hcz125_2 : wc.cell? ⟨gb105, 2, none⟩ = some (.int .i64 a0_2) := (blk_cell BK105.out 2).trans rfl
                      have hcz125_3 : wc.cell? ⟨gb105, 3, none⟩ = some (.int .i64 a0_3) := (blk_cell BK105.out 3).trans rfl
                      have hfz125_0 := blk_frozen BK105.out 0
                      have hfz125_1 := blk_frozen BK105.out 1
                      have hfz125_2 := blk_frozen BK105.out 2
                      have hfz125_3 := blk_frozen BK105.out 3
                      go_wp2_with (first | ((with_reducible refine gate_callee (f := 50) rfl ?_); refine goesL_ (some 46) rfl rfl Try.func50 (by kernel_rfl) rfl #[.int .i64 a0_1] rfl (by (try simp only [List.map_toArray, List.map_cons, List.map_nil]); first | done | rfl | (simp only [List.length_drop, List.length_take]; rfl)) ?_; (with_reducible refine (instr_register.calls a0_1 true _ A114.out).mono ?_); rintro e w' ⟨rfl, ⟨nd, rfl⟩⟩; refine ⟨_, rfl, ?_⟩) | (go_at_call 50; (with_reducible refine (instr_register.calls a0_2 true _ A116.out).mono ?_); rintro e w' ⟨rfl, ⟨nd, rfl⟩⟩; have hcz126_0 : wc.cell? ⟨gb111, 0, none⟩ = some (.string t106) := (blk_cell BK111.out 0).trans rfl; have hcz126_1 : wc.cell? ⟨gb111, 1, none⟩ = some (.int .i64 t107) := (blk_cell BK111.out 1).trans rfl; have hcz126_2 : wc.cell? ⟨gb111, 2, none⟩ = some (.int .i64 t108) := (blk_cell BK111.out 2).trans rfl; have hcz126_3 : wc.cell? ⟨gb111, 3, none⟩ = some (.int .i64 t109) := (blk_cell BK111.out 3).trans rfl; have hfz126_0 := blk_frozen BK111.out 0; have hfz126_1 := blk_frozen BK111.out 1; have hfz126_2 := blk_frozen BK111.out 2; have hfz126_3 := blk_frozen BK111.out 3) | (go_at_call 50; (with_reducible refine (instr_register.calls a0_3 true _ A119.out).mono ?_); rintro e w' ⟨rfl, ⟨nd, rfl⟩⟩) | (go_at_call 51; (with_reducible refine (instr_operation_hasN.calls t106 t107 t108 t109 true _ A121.out).mono ?_); rintro e w127 ⟨rfl, hb⟩; have n0_ := Aside0.mk (blk_below (g := gb105) (o := .cells #[.int .i64 a0_0, .int .i64 a0_1, .int .i64 a0_2, .int .i64 a0_3] 26 (0, 0)) (by (with_reducible repeat (first | refine blk_drewN ?_ _ | refine blk_drew ?_ | refine blk_alloc ?_ _)); exact BK105.out) hb); have n1_ := Aside0.mk (blk_below (g := gb111) (o := .cells #[.string t106, .int .i64 t107, .int .i64 t108, .int .i64 t109] 83 (0, 0)) (by (with_reducible repeat (first | refine blk_drewN ?_ _ | refine blk_drew ?_ | refine blk_alloc ?_ _)); exact BK111.out) hb); have n2_ := Aside0.mk (below_step (by repeat (first | (with_reducible first | exact HB.out | apply below_alloc | apply pw_below_drewN | apply below_drew1 | refine below_set ?_ GE105.out | refine below_set ?_ GE111.out) | exact HB.out)) hb); clear BK105; clear BK111; clear HB; have BK105 := n0_; have BK111 := n1_; have HB := n2_; clear n0_ n1_ n2_; (try clear hb); (try clear hb2); (try clear hk); (try clear hi); have hcz128_0 : w127.cell? ⟨gb105, 0, none⟩ = some (.int .i64 a0_0) := (blk_cell BK105.out 0).trans rfl; have hcz128_1 : w127.cell? ⟨gb105, 1, none⟩ = some (.int .i64 a0_1) := (blk_cell BK105.out 1).trans rfl; have hcz128_2 : w127.cell? ⟨gb105, 2, none⟩ = some (.int .i64 a0_2) := (blk_cell BK105.out 2).trans rfl; have hcz128_3 : w127.cell? ⟨gb105, 3, none⟩ = some (.int .i64 a0_3) := (blk_cell BK105.out 3).trans rfl; have hfz128_0 := blk_frozen BK105.out 0; have hfz128_1 := blk_frozen BK105.out 1; have hfz128_2 := blk_frozen BK105.out 2; have hfz128_3 := blk_frozen BK105.out 3; have hcz129_0 : w127.cell? ⟨gb111, 0, none⟩ = some (.string t106) := (blk_cell BK111.out 0).trans rfl; have hcz129_1 : w127.cell? ⟨gb111, 1, none⟩ = some (.int .i64 t107) := (blk_cell BK111.out 1).trans rfl; have hcz129_2 : w127.cell? ⟨gb111, 2, none⟩ = some (.int .i64 t108) := (blk_cell BK111.out 2).trans rfl; have hcz129_3 : w127.cell? ⟨gb111, 3, none⟩ = some (.int .i64 t109) := (blk_cell BK111.out 3).trans rfl; have hfz129_0 := blk_frozen BK111.out 0; have hfz129_1 := blk_frozen BK111.out 1; have hfz129_2 := blk_frozen BK111.out 2; have hfz129_3 := blk_frozen BK111.out 3))
                      go_ret
                      exact ⟨by first | rfl | (simp [errW_none, errW_some] <;> rfl) | (simp [*, errW_none, errW_some] <;> rfl), by repeat (first | (with_reducible first | exact HB.out | apply below_alloc | apply pw_below_drewN | apply below_drew1 | refine below_set ?_ GE105.out | refine below_set ?_ GE111.out) | exact HB.out)⟩
                    · rw [if_neg c123] at H
                      have c123b0 : decide (a0_3 < t108) = false := decide_eq_false c123
                      clear c123
                      by_cases c130 : a0_3 > t109
                      · rw [if_pos c130] at H
                        have c130b0 : decide (t109 < a0_3) = true := decide_eq_true c130
                        clear c130
                        obtain rfl := Option.some.inj H
                        have hnb131 := NB105_111.out
                        have hnc131 := NB111_105.out
                        have hcz132_0 : wc.cell? ⟨gb105, 0, none⟩ = some (.int .i64 a0_0) := (blk_cell BK105.out 0).trans rfl
                        have hcz132_1 : wc.cell? ⟨gb105, 1, none⟩ = some (.int .i64 a0_1) := (blk_cell BK105.out 1).trans rfl
                        have hcz132_2 : wc.cell? ⟨gb105, 2, none⟩ = some (.int .i64 a0_2) := (blk_cell BK105.out 2).trans rfl
                        have hcz132_3 : wc.cell? ⟨gb105, 3, none⟩ = some (.int .i64 a0_3) := (blk_cell BK105.out 3).trans rfl
                        have hfz132_0 := blk_frozen BK105.out 0
                        have hfz132_1 := blk_frozen BK105.out 1
                        have hfz132_2 := blk_frozen BK105.out 2
                        have hfz132_3 := blk_frozen BK105.out 3
                        go_wp2_with (first | ((with_reducible refine gate_callee (f := 50) rfl ?_); refine goesL_ (some 46) rfl rfl Try.func50 (by kernel_rfl) rfl #[.int .i64 a0_1] rfl (by (try simp only [List.map_toArray, List.map_cons, List.map_nil]); first | done | rfl | (simp only [List.length_drop, List.length_take]; rfl)) ?_; (with_reducible refine (instr_register.calls a0_1 true _ A114.out).mono ?_); rintro e w' ⟨rfl, ⟨nd, rfl⟩⟩; refine ⟨_, rfl, ?_⟩) | (go_at_call 50; (with_reducible refine (instr_register.calls a0_2 true _ A116.out).mono ?_); rintro e w' ⟨rfl, ⟨nd, rfl⟩⟩; have hcz133_0 : wc.cell? ⟨gb111, 0, none⟩ = some (.string t106) := (blk_cell BK111.out 0).trans rfl; have hcz133_1 : wc.cell? ⟨gb111, 1, none⟩ = some (.int .i64 t107) := (blk_cell BK111.out 1).trans rfl; have hcz133_2 : wc.cell? ⟨gb111, 2, none⟩ = some (.int .i64 t108) := (blk_cell BK111.out 2).trans rfl; have hcz133_3 : wc.cell? ⟨gb111, 3, none⟩ = some (.int .i64 t109) := (blk_cell BK111.out 3).trans rfl; have hfz133_0 := blk_frozen BK111.out 0; have hfz133_1 := blk_frozen BK111.out 1; have hfz133_2 := blk_frozen BK111.out 2; have hfz133_3 := blk_frozen BK111.out 3) | (go_at_call 50; (with_reducible refine (instr_register.calls a0_3 true _ A119.out).mono ?_); rintro e w' ⟨rfl, ⟨nd, rfl⟩⟩) | (go_at_call 51; (with_reducible refine (instr_operation_hasN.calls t106 t107 t108 t109 true _ A121.out).mono ?_); rintro e w134 ⟨rfl, hb⟩; have n0_ := Aside0.mk (blk_below (g := gb105) (o := .cells #[.int .i64 a0_0, .int .i64 a0_1, .int .i64 a0_2, .int .i64 a0_3] 26 (0, 0)) (by (with_reducible repeat (first | refine blk_drewN ?_ _ | refine blk_drew ?_ | refine blk_alloc ?_ _)); exact BK105.out) hb); have n1_ := Aside0.mk (blk_below (g := gb111) (o := .cells #[.string t106, .int .i64 t107, .int .i64 t108, .int .i64 t109] 83 (0, 0)) (by (with_reducible repeat (first | refine blk_drewN ?_ _ | refine blk_drew ?_ | refine blk_alloc ?_ _)); exact BK111.out) hb); have n2_ := Aside0.mk (below_step (by repeat (first | (with_reducible first | exact HB.out | apply below_alloc | apply pw_below_drewN | apply below_drew1 | refine below_set ?_ GE105.out | refine below_set ?_ GE111.out) | exact HB.out)) hb); clear BK105; clear BK111; clear HB; have BK105 := n0_; have BK111 := n1_; have HB := n2_; clear n0_ n1_ n2_; (try clear hb); (try clear hb2); (try clear hk); (try clear hi); have hcz135_0 : w134.cell? ⟨gb105, 0, none⟩ = some (.int .i64 a0_0) := (blk_cell BK105.out 0).trans rfl; have hcz135_1 : w134.cell? ⟨gb105, 1, none⟩ = some (.int .i64 a0_1) := (blk_cell BK105.out 1).trans rfl; have hcz135_2 : w134.cell? ⟨gb105, 2, none⟩ = some (.int .i64 a0_2) := (blk_cell BK105.out 2).trans rfl; have hcz135_3 : w134.cell? ⟨gb105, 3, none⟩ = some (.int .i64 a0_3) := (blk_cell BK105.out 3).trans rfl; have hfz135_0 := blk_frozen BK105.out 0; have hfz135_1 := blk_frozen BK105.out 1; have hfz135_2 := blk_frozen BK105.out 2; have hfz135_3 := blk_frozen BK105.out 3; have hcz136_0 : w134.cell? ⟨gb111, 0, none⟩ = some (.string t106) := (blk_cell BK111.out 0).trans rfl; have hcz136_1 : w134.cell? ⟨gb111, 1, none⟩ = some (.int .i64 t107) := (blk_cell BK111.out 1).trans rfl; have hcz136_2 : w134.cell? ⟨gb111, 2, none⟩ = some (.int .i64 t108) := (blk_cell BK111.out 2).trans rfl; have hcz136_3 : w134.cell? ⟨gb111, 3, none⟩ = some (.int .i64 t109) := (blk_cell BK111.out 3).trans rfl; have hfz136_0 := blk_frozen BK111.out 0; have hfz136_1 := blk_frozen BK111.out 1; have hfz136_2 := blk_frozen BK111.out 2; have hfz136_3 := blk_frozen BK111.out 3))
                        go_ret
                        exact ⟨by first | rfl | (simp [errW_none, errW_some] <;> rfl) | (simp [*, errW_none, errW_some] <;> rfl), by repeat (first | (with_reducible first | exact HB.out | apply below_alloc | apply pw_below_drewN | apply below_drew1 | refine below_set ?_ GE105.out | refine below_set ?_ GE111.out) | exact HB.out)⟩
                      · rw [if_neg c130] at H
                        have c130b0 : decide (t109 < a0_3) = false := decide_eq_false c130
                        clear c130
                        obtain rfl := Option.some.inj H
                        have hnb137 := NB105_111.out
                        have hnc137 := NB111_105.out
                        have hcz138_0 : wc.cell? ⟨gb105, 0, none⟩ = some (.int .i64 a0_0) := (blk_cell BK105.out 0).trans rfl
                        have hcz138_1 : wc.cell? ⟨gb105, 1, none⟩ = some (.int .i64 a0_1) := (blk_cell BK105.out 1).trans rfl
                        have hcz138_2 : wc.cell? ⟨gb105, 2, none⟩ = some (.int .i64 a0_2) := (blk_cell BK105.out 2).trans rfl
                        have hcz138_3 : wc.cell? ⟨gb105, 3, none⟩ = some (.int .i64 a0_3) := (blk_cell BK105.out 3).trans rfl
                        have hfz138_0 := blk_frozen BK105.out 0
                        have hfz138_1 := blk_frozen BK105.out 1
                        have hfz138_2 := blk_frozen BK105.out 2
                        have hfz138_3 := blk_frozen BK105.out 3
                        go_wp2_with (first | ((with_reducible refine gate_callee (f := 50) rfl ?_); refine goesL_ (some 46) rfl rfl Try.func50 (by kernel_rfl) rfl #[.int .i64 a0_1] rfl (by (try simp only [List.map_toArray, List.map_cons, List.map_nil]); first | done | rfl | (simp only [List.length_drop, List.length_take]; rfl)) ?_; (with_reducible refine (instr_register.calls a0_1 true _ A114.out).mono ?_); rintro e w' ⟨rfl, ⟨nd, rfl⟩⟩; refine ⟨_, rfl, ?_⟩) | (go_at_call 50; (with_reducible refine (instr_register.calls a0_2 true _ A116.out).mono ?_); rintro e w' ⟨rfl, ⟨nd, rfl⟩⟩; have hcz139_0 : wc.cell? ⟨gb111, 0, none⟩ = some (.string t106) := (blk_cell BK111.out 0).trans rfl; have hcz139_1 : wc.cell? ⟨gb111, 1, none⟩ = some (.int .i64 t107) := (blk_cell BK111.out 1).trans rfl; have hcz139_2 : wc.cell? ⟨gb111, 2, none⟩ = some (.int .i64 t108) := (blk_cell BK111.out 2).trans rfl; have hcz139_3 : wc.cell? ⟨gb111, 3, none⟩ = some (.int .i64 t109) := (blk_cell BK111.out 3).trans rfl; have hfz139_0 := blk_frozen BK111.out 0; have hfz139_1 := blk_frozen BK111.out 1; have hfz139_2 := blk_frozen BK111.out 2; have hfz139_3 := blk_frozen BK111.out 3) | (go_at_call 50; (with_reducible refine (instr_register.calls a0_3 true _ A119.out).mono ?_); rintro e w' ⟨rfl, ⟨nd, rfl⟩⟩) | (go_at_call 51; (with_reducible refine (instr_operation_hasN.calls t106 t107 t108 t109 true _ A121.out).mono ?_); rintro e w140 ⟨rfl, hb⟩; have n0_ := Aside0.mk (blk_below (g := gb105) (o := .cells #[.int .i64 a0_0, .int .i64 a0_1, .int .i64 a0_2, .int .i64 a0_3] 26 (0, 0)) (by (with_reducible repeat (first | refine blk_drewN ?_ _ | refine blk_drew ?_ | refine blk_alloc ?_ _)); exact BK105.out) hb); have n1_ := Aside0.mk (blk_below (g := gb111) (o := .cells #[.string t106, .int .i64 t107, .int .i64 t108, .int .i64 t109] 83 (0, 0)) (by (with_reducible repeat (first | refine blk_drewN ?_ _ | refine blk_drew ?_ | refine blk_alloc ?_ _)); exact BK111.out) hb); have n2_ := Aside0.mk (below_step (by repeat (first | (with_reducible first | exact HB.out | apply below_alloc | apply pw_below_drewN | apply below_drew1 | refine below_set ?_ GE105.out | refine below_set ?_ GE111.out) | exact HB.out)) hb); clear BK105; clear BK111; clear HB; have BK105 := n0_; have BK111 := n1_; have HB := n2_; clear n0_ n1_ n2_; (try clear hb); (try clear hb2); (try clear hk); (try clear hi); have hcz141_0 : w140.cell? ⟨gb105, 0, none⟩ = some (.int .i64 a0_0) := (blk_cell BK105.out 0).trans rfl; have hcz141_1 : w140.cell? ⟨gb105, 1, none⟩ = some (.int .i64 a0_1) := (blk_cell BK105.out 1).trans rfl; have hcz141_2 : w140.cell? ⟨gb105, 2, none⟩ = some (.int .i64 a0_2) := (blk_cell BK105.out 2).trans rfl; have hcz141_3 : w140.cell? ⟨gb105, 3, none⟩ = some (.int .i64 a0_3) := (blk_cell BK105.out 3).trans rfl; have hfz141_0 := blk_frozen BK105.out 0; have hfz141_1 := blk_frozen BK105.out 1; have hfz141_2 := blk_frozen BK105.out 2; have hfz141_3 := blk_frozen BK105.out 3; have hcz142_0 : w140.cell? ⟨gb111, 0, none⟩ = some (.string t106) := (blk_cell BK111.out 0).trans rfl; have hcz142_1 : w140.cell? ⟨gb111, 1, none⟩ = some (.int .i64 t107) := (blk_cell BK111.out 1).trans rfl; have hcz142_2 : w140.cell? ⟨gb111, 2, none⟩ = some (.int .i64 t108) := (blk_cell BK111.out 2).trans rfl; have hcz142_3 : w140.cell? ⟨gb111, 3, none⟩ = some (.int .i64 t109) := (blk_cell BK111.out 3).trans rfl; have hfz142_0 := blk_frozen BK111.out 0; have hfz142_1 := blk_frozen BK111.out 1; have hfz142_2 := blk_frozen BK111.out 2; have hfz142_3 := blk_frozen BK111.out 3))
                        go_ret
                        exact ⟨by first | rfl | (simp [errW_none, errW_some] <;> rfl) | (simp [*, errW_none, errW_some] <;> rfl), by repeat (first | (with_reducible first | exact HB.out | apply below_alloc | apply pw_below_drewN | apply below_drew1 | refine below_set ?_ GE105.out | refine below_set ?_ GE111.out) | exact HB.out)⟩
                  · replace c122 := Bool.eq_false_iff.mpr c122
                    subst c122
                    have H1 : (some 0) = some r := by rw [if_neg (show ¬ (false = true) by decide)] at H; exact H
                    clear H
                    have H := H1
                    clear H1
                    obtain rfl := Option.some.inj H
                    have hnb143 := NB105_111.out
                    have hnc143 := NB111_105.out
                    have hcz144_0 : wc.cell? ⟨gb105, 0, none⟩ = some (.int .i64 a0_0) := (blk_cell BK105.out 0).trans rfl
                    have hcz144_1 : wc.cell? ⟨gb105, 1, none⟩ = some (.int .i64 a0_1) := (blk_cell BK105.out 1).trans rfl
                    have hcz144_2 : wc.cell? ⟨gb105, 2, none⟩ = some (.int .i64 a0_2) := (blk_cell BK105.out 2).trans rfl
                    have hcz144_3 : wc.cell? ⟨gb105, 3, none⟩ = some (.int .i64 a0_3) := (blk_cell BK105.out 3).trans rfl
                    have hfz144_0 := blk_frozen BK105.out 0
                    have hfz144_1 := blk_frozen BK105.out 1
                    have hfz144_2 := blk_frozen BK105.out 2
                    have hfz144_3 := blk_frozen BK105.out 3
                    go_wp2_with (first | ((with_reducible refine gate_callee (f := 50) rfl ?_); refine goesL_ (some 46) rfl rfl Try.func50 (by kernel_rfl) rfl #[.int .i64 a0_1] rfl (by (try simp only [List.map_toArray, List.map_cons, List.map_nil]); first | done | rfl | (simp only [List.length_drop, List.length_take]; rfl)) ?_; (with_reducible refine (instr_register.calls a0_1 true _ A114.out).mono ?_); rintro e w' ⟨rfl, ⟨nd, rfl⟩⟩; refine ⟨_, rfl, ?_⟩) | (go_at_call 50; (with_reducible refine (instr_register.calls a0_2 true _ A116.out).mono ?_); rintro e w' ⟨rfl, ⟨nd, rfl⟩⟩; have hcz145_0 : wc.cell? ⟨gb111, 0, none⟩ = some (.string t106) := (blk_cell BK111.out 0).trans rfl; have hcz145_1 : wc.cell? ⟨gb111, 1, none⟩ = some (.int .i64 t107) := (blk_cell BK111.out 1).trans rfl; have hcz145_2 : wc.cell? ⟨gb111, 2, none⟩ = some (.int .i64 t108) := (blk_cell BK111.out 2).trans rfl; have hcz145_3 : wc.cell? ⟨gb111, 3, none⟩ = some (.int .i64 t109) := (blk_cell BK111.out 3).trans rfl; have hfz145_0 := blk_frozen BK111.out 0; have hfz145_1 := blk_frozen BK111.out 1; have hfz145_2 := blk_frozen BK111.out 2; have hfz145_3 := blk_frozen BK111.out 3) | (go_at_call 50; (with_reducible refine (instr_register.calls a0_3 true _ A119.out).mono ?_); rintro e w' ⟨rfl, ⟨nd, rfl⟩⟩) | (go_at_call 51; (with_reducible refine (instr_operation_hasN.calls t106 t107 t108 t109 false _ A121.out).mono ?_); rintro e w146 ⟨rfl, hb⟩; have n0_ := Aside0.mk (blk_below (g := gb105) (o := .cells #[.int .i64 a0_0, .int .i64 a0_1, .int .i64 a0_2, .int .i64 a0_3] 26 (0, 0)) (by (with_reducible repeat (first | refine blk_drewN ?_ _ | refine blk_drew ?_ | refine blk_alloc ?_ _)); exact BK105.out) hb); have n1_ := Aside0.mk (blk_below (g := gb111) (o := .cells #[.string t106, .int .i64 t107, .int .i64 t108, .int .i64 t109] 83 (0, 0)) (by (with_reducible repeat (first | refine blk_drewN ?_ _ | refine blk_drew ?_ | refine blk_alloc ?_ _)); exact BK111.out) hb); have n2_ := Aside0.mk (below_step (by repeat (first | (with_reducible first | exact HB.out | apply below_alloc | apply pw_below_drewN | apply below_drew1 | refine below_set ?_ GE105.out | refine below_set ?_ GE111.out) | exact HB.out)) hb); clear BK105; clear BK111; clear HB; have BK105 := n0_; have BK111 := n1_; have HB := n2_; clear n0_ n1_ n2_; (try clear hb); (try clear hb2); (try clear hk); (try clear hi)))
                    go_ret
                    exact ⟨by first | rfl | (simp [errW_none, errW_some] <;> rfl) | (simp [*, errW_none, errW_some] <;> rfl), by repeat (first | (with_reducible first | exact HB.out | apply below_alloc | apply pw_below_drewN | apply below_drew1 | refine below_set ?_ GE105.out | refine below_set ?_ GE111.out) | exact HB.out)⟩
                · replace c120 := Bool.eq_false_iff.mpr c120
                  subst c120
                  have H1 : (some 2) = some r := by rw [if_neg (show ¬ (false = true) by decide)] at H; exact H
                  clear H
                  have H := H1
                  clear H1
                  obtain rfl := Option.some.inj H
                  have hnb147 := NB105_111.out
                  have hnc147 := NB111_105.out
                  have hcz148_0 : wc.cell? ⟨gb105, 0, none⟩ = some (.int .i64 a0_0) := (blk_cell BK105.out 0).trans rfl
                  have hcz148_1 : wc.cell? ⟨gb105, 1, none⟩ = some (.int .i64 a0_1) := (blk_cell BK105.out 1).trans rfl
                  have hcz148_2 : wc.cell? ⟨gb105, 2, none⟩ = some (.int .i64 a0_2) := (blk_cell BK105.out 2).trans rfl
                  have hcz148_3 : wc.cell? ⟨gb105, 3, none⟩ = some (.int .i64 a0_3) := (blk_cell BK105.out 3).trans rfl
                  have hfz148_0 := blk_frozen BK105.out 0
                  have hfz148_1 := blk_frozen BK105.out 1
                  have hfz148_2 := blk_frozen BK105.out 2
                  have hfz148_3 := blk_frozen BK105.out 3
                  go_wp2_with (first | ((with_reducible refine gate_callee (f := 50) rfl ?_); refine goesL_ (some 46) rfl rfl Try.func50 (by kernel_rfl) rfl #[.int .i64 a0_1] rfl (by (try simp only [List.map_toArray, List.map_cons, List.map_nil]); first | done | rfl | (simp only [List.length_drop, List.length_take]; rfl)) ?_; (with_reducible refine (instr_register.calls a0_1 true _ A114.out).mono ?_); rintro e w' ⟨rfl, ⟨nd, rfl⟩⟩; refine ⟨_, rfl, ?_⟩) | (go_at_call 50; (with_reducible refine (instr_register.calls a0_2 true _ A116.out).mono ?_); rintro e w' ⟨rfl, ⟨nd, rfl⟩⟩; have hcz149_0 : wc.cell? ⟨gb111, 0, none⟩ = some (.string t106) := (blk_cell BK111.out 0).trans rfl; have hcz149_1 : wc.cell? ⟨gb111, 1, none⟩ = some (.int .i64 t107) := (blk_cell BK111.out 1).trans rfl; have hcz149_2 : wc.cell? ⟨gb111, 2, none⟩ = some (.int .i64 t108) := (blk_cell BK111.out 2).trans rfl; have hcz149_3 : wc.cell? ⟨gb111, 3, none⟩ = some (.int .i64 t109) := (blk_cell BK111.out 3).trans rfl; have hfz149_0 := blk_frozen BK111.out 0; have hfz149_1 := blk_frozen BK111.out 1; have hfz149_2 := blk_frozen BK111.out 2; have hfz149_3 := blk_frozen BK111.out 3) | (go_at_call 50; (with_reducible refine (instr_register.calls a0_3 false _ A119.out).mono ?_); rintro e w' ⟨rfl, ⟨nd, rfl⟩⟩))
                  go_ret
                  exact ⟨by first | rfl | (simp [errW_none, errW_some] <;> rfl) | (simp [*, errW_none, errW_some] <;> rfl), by repeat (first | (with_reducible first | exact HB.out | apply below_alloc | apply pw_below_drewN | apply below_drew1 | refine below_set ?_ GE105.out | refine below_set ?_ GE111.out) | exact HB.out)⟩
              · rw [if_neg c118] at H
                have c118b0 : (t107 == 3) = false := beq_eq_false_iff_ne.mpr c118
                have c118b1 : (t107 != 3) = true := bne_iff_ne.mpr c118
                replace H := Option.bind_eq_some_iff.mp H
                obtain ⟨t123, A1500, H⟩ := H
                replace H : (if t123 = true then (if a0_3 < t108 then (some 2) else (if a0_3 > t109 then (some 2) else (some 0))) else (some 0)) = some r := H
                have A150 := Aside0.mk A1500
                clear A1500
                by_cases c151 : t123 = true
                · subst c151
                  have H1 : (if a0_3 < t108 then (some 2) else (if a0_3 > t109 then (some 2) else (some 0))) = some r := by rw [if_pos rfl] at H; exact H
                  clear H
                  have H := H1
                  clear H1
                  by_cases c152 : a0_3 < t108
                  · rw [if_pos c152] at H
                    have c152b0 : decide (a0_3 < t108) = true := decide_eq_true c152
                    clear c152
                    obtain rfl := Option.some.inj H
                    have hnb153 := NB105_111.out
                    have hnc153 := NB111_105.out
                    have hcz154_0 : wc.cell? ⟨gb105, 0, none⟩ = some (.int .i64 a0_0) := (blk_cell BK105.out 0).trans rfl
                    have hcz154_1 : wc.cell? ⟨gb105, 1, none⟩ = some (.int .i64 a0_1) := (blk_cell BK105.out 1).trans rfl
                    have hcz154_2 : wc.cell? ⟨gb105, 2, none⟩ = some (.int .i64 a0_2) := (blk_cell BK105.out 2).trans rfl
                    have hcz154_3 : wc.cell? ⟨gb105, 3, none⟩ = some (.int .i64 a0_3) := (blk_cell BK105.out 3).trans rfl
                    have hfz154_0 := blk_frozen BK105.out 0
                    have hfz154_1 := blk_frozen BK105.out 1
                    have hfz154_2 := blk_frozen BK105.out 2
                    have hfz154_3 := blk_frozen BK105.out 3
                    go_wp2_with (first | ((with_reducible refine gate_callee (f := 50) rfl ?_); refine goesL_ (some 46) rfl rfl Try.func50 (by kernel_rfl) rfl #[.int .i64 a0_1] rfl (by (try simp only [List.map_toArray, List.map_cons, List.map_nil]); first | done | rfl | (simp only [List.length_drop, List.length_take]; rfl)) ?_; (with_reducible refine (instr_register.calls a0_1 true _ A114.out).mono ?_); rintro e w' ⟨rfl, ⟨nd, rfl⟩⟩; refine ⟨_, rfl, ?_⟩) | (go_at_call 50; (with_reducible refine (instr_register.calls a0_2 true _ A116.out).mono ?_); rintro e w' ⟨rfl, ⟨nd, rfl⟩⟩; have hcz155_0 : wc.cell? ⟨gb111, 0, none⟩ = some (.string t106) := (blk_cell BK111.out 0).trans rfl; have hcz155_1 : wc.cell? ⟨gb111, 1, none⟩ = some (.int .i64 t107) := (blk_cell BK111.out 1).trans rfl; have hcz155_2 : wc.cell? ⟨gb111, 2, none⟩ = some (.int .i64 t108) := (blk_cell BK111.out 2).trans rfl; have hcz155_3 : wc.cell? ⟨gb111, 3, none⟩ = some (.int .i64 t109) := (blk_cell BK111.out 3).trans rfl; have hfz155_0 := blk_frozen BK111.out 0; have hfz155_1 := blk_frozen BK111.out 1; have hfz155_2 := blk_frozen BK111.out 2; have hfz155_3 := blk_frozen BK111.out 3) | (go_at_call 51; (with_reducible refine (instr_operation_hasN.calls t106 t107 t108 t109 true _ A150.out).mono ?_); rintro e w156 ⟨rfl, hb⟩; have n0_ := Aside0.mk (blk_below (g := gb105) (o := .cells #[.int .i64 a0_0, .int .i64 a0_1, .int .i64 a0_2, .int .i64 a0_3] 26 (0, 0)) (by (with_reducible repeat (first | refine blk_drewN ?_ _ | refine blk_drew ?_ | refine blk_alloc ?_ _)); exact BK105.out) hb); have n1_ := Aside0.mk (blk_below (g := gb111) (o := .cells #[.string t106, .int .i64 t107, .int .i64 t108, .int .i64 t109] 83 (0, 0)) (by (with_reducible repeat (first | refine blk_drewN ?_ _ | refine blk_drew ?_ | refine blk_alloc ?_ _)); exact BK111.out) hb); have n2_ := Aside0.mk (below_step (by repeat (first | (with_reducible first | exact HB.out | apply below_alloc | apply pw_below_drewN | apply below_drew1 | refine below_set ?_ GE105.out | refine below_set ?_ GE111.out) | exact HB.out)) hb); clear BK105; clear BK111; clear HB; have BK105 := n0_; have BK111 := n1_; have HB := n2_; clear n0_ n1_ n2_; (try clear hb); (try clear hb2); (try clear hk); (try clear hi); have hcz157_0 : w156.cell? ⟨gb105, 0, none⟩ = some (.int .i64 a0_0) := (blk_cell BK105.out 0).trans rfl; have hcz157_1 : w156.cell? ⟨gb105, 1, none⟩ = some (.int .i64 a0_1) := (blk_cell BK105.out 1).trans rfl; have hcz157_2 : w156.cell? ⟨gb105, 2, none⟩ = some (.int .i64 a0_2) := (blk_cell BK105.out 2).trans rfl; have hcz157_3 : w156.cell? ⟨gb105, 3, none⟩ = some (.int .i64 a0_3) := (blk_cell BK105.out 3).trans rfl; have hfz157_0 := blk_frozen BK105.out 0; have hfz157_1 := blk_frozen BK105.out 1; have hfz157_2 := blk_frozen BK105.out 2; have hfz157_3 := blk_frozen BK105.out 3; have hcz158_0 : w156.cell? ⟨gb111, 0, none⟩ = some (.string t106) := (blk_cell BK111.out 0).trans rfl; have hcz158_1 : w156.cell? ⟨gb111, 1, none⟩ = some (.int .i64 t107) := (blk_cell BK111.out 1).trans rfl; have hcz158_2 : w156.cell? ⟨gb111, 2, none⟩ = some (.int .i64 t108) := (blk_cell BK111.out 2).trans rfl; have hcz158_3 : w156.cell? ⟨gb111, 3, none⟩ = some (.int .i64 t109) := (blk_cell BK111.out 3).trans rfl; have hfz158_0 := blk_frozen BK111.out 0; have hfz158_1 := blk_frozen BK111.out 1; have hfz158_2 := blk_frozen BK111.out 2; have hfz158_3 := blk_frozen BK111.out 3))
                    go_ret
                    exact ⟨by first | rfl | (simp [errW_none, errW_some] <;> rfl) | (simp [*, errW_none, errW_some] <;> rfl), by repeat (first | (with_reducible first | exact HB.out | apply below_alloc | apply pw_below_drewN | apply below_drew1 | refine below_set ?_ GE105.out | refine below_set ?_ GE111.out) | exact HB.out)⟩
                  · rw [if_neg c152] at H
                    have c152b0 : decide (a0_3 < t108) = false := decide_eq_false c152
                    clear c152
                    by_cases c159 : a0_3 > t109
                    · rw [if_pos c159] at H
                      have c159b0 : decide (t109 < a0_3) = true := decide_eq_true c159
                      clear c159
                      obtain rfl := Option.some.inj H
                      have hnb160 := NB105_111.out
                      have hnc160 := NB111_105.out
                      have hcz161_0 : wc.cell? ⟨gb105, 0, none⟩ = some (.int .i64 a0_0) := (blk_cell BK105.out 0).trans rfl
                      have hcz161_1 : wc.cell? ⟨gb105, 1, none⟩ = some (.int .i64 a0_1) := (blk_cell BK105.out 1).trans rfl
                      have hcz161_2 : wc.cell? ⟨gb105, 2, none⟩ = some (.int .i64 a0_2) := (blk_cell BK105.out 2).trans rfl
                      have hcz161_3 : wc.cell? ⟨gb105, 3, none⟩ = some (.int .i64 a0_3) := (blk_cell BK105.out 3).trans rfl
                      have hfz161_0 := blk_frozen BK105.out 0
                      have hfz161_1 := blk_frozen BK105.out 1
                      have hfz161_2 := blk_frozen BK105.out 2
                      have hfz161_3 := blk_frozen BK105.out 3
                      go_wp2_with (first | ((with_reducible refine gate_callee (f := 50) rfl ?_); refine goesL_ (some 46) rfl rfl Try.func50 (by kernel_rfl) rfl #[.int .i64 a0_1] rfl (by (try simp only [List.map_toArray, List.map_cons, List.map_nil]); first | done | rfl | (simp only [List.length_drop, List.length_take]; rfl)) ?_; (with_reducible refine (instr_register.calls a0_1 true _ A114.out).mono ?_); rintro e w' ⟨rfl, ⟨nd, rfl⟩⟩; refine ⟨_, rfl, ?_⟩) | (go_at_call 50; (with_reducible refine (instr_register.calls a0_2 true _ A116.out).mono ?_); rintro e w' ⟨rfl, ⟨nd, rfl⟩⟩; have hcz162_0 : wc.cell? ⟨gb111, 0, none⟩ = some (.string t106) := (blk_cell BK111.out 0).trans rfl; have hcz162_1 : wc.cell? ⟨gb111, 1, none⟩ = some (.int .i64 t107) := (blk_cell BK111.out 1).trans rfl; have hcz162_2 : wc.cell? ⟨gb111, 2, none⟩ = some (.int .i64 t108) := (blk_cell BK111.out 2).trans rfl; have hcz162_3 : wc.cell? ⟨gb111, 3, none⟩ = some (.int .i64 t109) := (blk_cell BK111.out 3).trans rfl; have hfz162_0 := blk_frozen BK111.out 0; have hfz162_1 := blk_frozen BK111.out 1; have hfz162_2 := blk_frozen BK111.out 2; have hfz162_3 := blk_frozen BK111.out 3) | (go_at_call 51; (with_reducible refine (instr_operation_hasN.calls t106 t107 t108 t109 true _ A150.out).mono ?_); rintro e w163 ⟨rfl, hb⟩; have n0_ := Aside0.mk (blk_below (g := gb105) (o := .cells #[.int .i64 a0_0, .int .i64 a0_1, .int .i64 a0_2, .int .i64 a0_3] 26 (0, 0)) (by (with_reducible repeat (first | refine blk_drewN ?_ _ | refine blk_drew ?_ | refine blk_alloc ?_ _)); exact BK105.out) hb); have n1_ := Aside0.mk (blk_below (g := gb111) (o := .cells #[.string t106, .int .i64 t107, .int .i64 t108, .int .i64 t109] 83 (0, 0)) (by (with_reducible repeat (first | refine blk_drewN ?_ _ | refine blk_drew ?_ | refine blk_alloc ?_ _)); exact BK111.out) hb); have n2_ := Aside0.mk (below_step (by repeat (first | (with_reducible first | exact HB.out | apply below_alloc | apply pw_below_drewN | apply below_drew1 | refine below_set ?_ GE105.out | refine below_set ?_ GE111.out) | exact HB.out)) hb); clear BK105; clear BK111; clear HB; have BK105 := n0_; have BK111 := n1_; have HB := n2_; clear n0_ n1_ n2_; (try clear hb); (try clear hb2); (try clear hk); (try clear hi); have hcz164_0 : w163.cell? ⟨gb105, 0, none⟩ = some (.int .i64 a0_0) := (blk_cell BK105.out 0).trans rfl; have hcz164_1 : w163.cell? ⟨gb105, 1, none⟩ = some (.int .i64 a0_1) := (blk_cell BK105.out 1).trans rfl; have hcz164_2 : w163.cell? ⟨gb105, 2, none⟩ = some (.int .i64 a0_2) := (blk_cell BK105.out 2).trans rfl; have hcz164_3 : w163.cell? ⟨gb105, 3, none⟩ = some (.int .i64 a0_3) := (blk_cell BK105.out 3).trans rfl; have hfz164_0 := blk_frozen BK105.out 0; have hfz164_1 := blk_frozen BK105.out 1; have hfz164_2 := blk_frozen BK105.out 2; have hfz164_3 := blk_frozen BK105.out 3; have hcz165_0 : w163.cell? ⟨gb111, 0, none⟩ = some (.string t106) := (blk_cell BK111.out 0).trans rfl; have hcz165_1 : w163.cell? ⟨gb111, 1, none⟩ = some (.int .i64 t107) := (blk_cell BK111.out 1).trans rfl; have hcz165_2 : w163.cell? ⟨gb111, 2, none⟩ = some (.int .i64 t108) := (blk_cell BK111.out 2).trans rfl; have hcz165_3 : w163.cell? ⟨gb111, 3, none⟩ = some (.int .i64 t109) := (blk_cell BK111.out 3).trans rfl; have hfz165_0 := blk_frozen BK111.out 0; have hfz165_1 := blk_frozen BK111.out 1; have hfz165_2 := blk_frozen BK111.out 2; have hfz165_3 := blk_frozen BK111.out 3))
                      go_ret
                      exact ⟨by first | rfl | (simp [errW_none, errW_some] <;> rfl) | (simp [*, errW_none, errW_some] <;> rfl), by repeat (first | (with_reducible first | exact HB.out | apply below_alloc | apply pw_below_drewN | apply below_drew1 | refine below_set ?_ GE105.out | refine below_set ?_ GE111.out) | exact HB.out)⟩
                    · rw [if_neg c159] at H
                      have c159b0 : decide (t109 < a0_3) = false := decide_eq_false c159
                      clear c159
                      obtain rfl := Option.some.inj H
                      have hnb166 := NB105_111.out
                      have hnc166 := NB111_105.out
                      have hcz167_0 : wc.cell? ⟨gb105, 0, none⟩ = some (.int .i64 a0_0) := (blk_cell BK105.out 0).trans rfl
                      have hcz167_1 : wc.cell? ⟨gb105, 1, none⟩ = some (.int .i64 a0_1) := (blk_cell BK105.out 1).trans rfl
                      have hcz167_2 : wc.cell? ⟨gb105, 2, none⟩ = some (.int .i64 a0_2) := (blk_cell BK105.out 2).trans rfl
                      have hcz167_3 : wc.cell? ⟨gb105, 3, none⟩ = some (.int .i64 a0_3) := (blk_cell BK105.out 3).trans rfl
                      have hfz167_0 := blk_frozen BK105.out 0
                      have hfz167_1 := blk_frozen BK105.out 1
                      have hfz167_2 := blk_frozen BK105.out 2
                      have hfz167_3 := blk_frozen BK105.out 3
                      go_wp2_with (first | ((with_reducible refine gate_callee (f := 50) rfl ?_); refine goesL_ (some 46) rfl rfl Try.func50 (by kernel_rfl) rfl #[.int .i64 a0_1] rfl (by (try simp only [List.map_toArray, List.map_cons, List.map_nil]); first | done | rfl | (simp only [List.length_drop, List.length_take]; rfl)) ?_; (with_reducible refine (instr_register.calls a0_1 true _ A114.out).mono ?_); rintro e w' ⟨rfl, ⟨nd, rfl⟩⟩; refine ⟨_, rfl, ?_⟩) | (go_at_call 50; (with_reducible refine (instr_register.calls a0_2 true _ A116.out).mono ?_); rintro e w' ⟨rfl, ⟨nd, rfl⟩⟩; have hcz168_0 : wc.cell? ⟨gb111, 0, none⟩ = some (.string t106) := (blk_cell BK111.out 0).trans rfl; have hcz168_1 : wc.cell? ⟨gb111, 1, none⟩ = some (.int .i64 t107) := (blk_cell BK111.out 1).trans rfl; have hcz168_2 : wc.cell? ⟨gb111, 2, none⟩ = some (.int .i64 t108) := (blk_cell BK111.out 2).trans rfl; have hcz168_3 : wc.cell? ⟨gb111, 3, none⟩ = some (.int .i64 t109) := (blk_cell BK111.out 3).trans rfl; have hfz168_0 := blk_frozen BK111.out 0; have hfz168_1 := blk_frozen BK111.out 1; have hfz168_2 := blk_frozen BK111.out 2; have hfz168_3 := blk_frozen BK111.out 3) | (go_at_call 51; (with_reducible refine (instr_operation_hasN.calls t106 t107 t108 t109 true _ A150.out).mono ?_); rintro e w169 ⟨rfl, hb⟩; have n0_ := Aside0.mk (blk_below (g := gb105) (o := .cells #[.int .i64 a0_0, .int .i64 a0_1, .int .i64 a0_2, .int .i64 a0_3] 26 (0, 0)) (by (with_reducible repeat (first | refine blk_drewN ?_ _ | refine blk_drew ?_ | refine blk_alloc ?_ _)); exact BK105.out) hb); have n1_ := Aside0.mk (blk_below (g := gb111) (o := .cells #[.string t106, .int .i64 t107, .int .i64 t108, .int .i64 t109] 83 (0, 0)) (by (with_reducible repeat (first | refine blk_drewN ?_ _ | refine blk_drew ?_ | refine blk_alloc ?_ _)); exact BK111.out) hb); have n2_ := Aside0.mk (below_step (by repeat (first | (with_reducible first | exact HB.out | apply below_alloc | apply pw_below_drewN | apply below_drew1 | refine below_set ?_ GE105.out | refine below_set ?_ GE111.out) | exact HB.out)) hb); clear BK105; clear BK111; clear HB; have BK105 := n0_; have BK111 := n1_; have HB := n2_; clear n0_ n1_ n2_; (try clear hb); (try clear hb2); (try clear hk); (try clear hi); have hcz170_0 : w169.cell? ⟨gb105, 0, none⟩ = some (.int .i64 a0_0) := (blk_cell BK105.out 0).trans rfl; have hcz170_1 : w169.cell? ⟨gb105, 1, none⟩ = some (.int .i64 a0_1) := (blk_cell BK105.out 1).trans rfl; have hcz170_2 : w169.cell? ⟨gb105, 2, none⟩ = some (.int .i64 a0_2) := (blk_cell BK105.out 2).trans rfl; have hcz170_3 : w169.cell? ⟨gb105, 3, none⟩ = some (.int .i64 a0_3) := (blk_cell BK105.out 3).trans rfl; have hfz170_0 := blk_frozen BK105.out 0; have hfz170_1 := blk_frozen BK105.out 1; have hfz170_2 := blk_frozen BK105.out 2; have hfz170_3 := blk_frozen BK105.out 3; have hcz171_0 : w169.cell? ⟨gb111, 0, none⟩ = some (.string t106) := (blk_cell BK111.out 0).trans rfl; have hcz171_1 : w169.cell? ⟨gb111, 1, none⟩ = some (.int .i64 t107) := (blk_cell BK111.out 1).trans rfl; have hcz171_2 : w169.cell? ⟨gb111, 2, none⟩ = some (.int .i64 t108) := (blk_cell BK111.out 2).trans rfl; have hcz171_3 : w169.cell? ⟨gb111, 3, none⟩ = some (.int .i64 t109) := (blk_cell BK111.out 3).trans rfl; have hfz171_0 := blk_frozen BK111.out 0; have hfz171_1 := blk_frozen BK111.out 1; have hfz171_2 := blk_frozen BK111.out 2; have hfz171_3 := blk_frozen BK111.out 3))
                      go_ret
                      exact ⟨by first | rfl | (simp [errW_none, errW_some] <;> rfl) | (simp [*, errW_none, errW_some] <;> rfl), by repeat (first | (with_reducible first | exact HB.out | apply below_alloc | apply pw_below_drewN | apply below_drew1 | refine below_set ?_ GE105.out | refine below_set ?_ GE111.out) | exact HB.out)⟩
                · replace c151 := Bool.eq_false_iff.mpr c151
                  subst c151
                  have H1 : (some 0) = some r := by rw [if_neg (show ¬ (false = true) by decide)] at H; exact H
                  clear H
                  have H := H1
                  clear H1
                  obtain rfl := Option.some.inj H
                  have hnb172 := NB105_111.out
                  have hnc172 := NB111_105.out
                  have hcz173_0 : wc.cell? ⟨gb105, 0, none⟩ = some (.int .i64 a0_0) := (blk_cell BK105.out 0).trans rfl
                  have hcz173_1 : wc.cell? ⟨gb105, 1, none⟩ = some (.int .i64 a0_1) := (blk_cell BK105.out 1).trans rfl
                  have hcz173_2 : wc.cell? ⟨gb105, 2, none⟩ = some (.int .i64 a0_2) := (blk_cell BK105.out 2).trans rfl
                  have hcz173_3 : wc.cell? ⟨gb105, 3, none⟩ = some (.int .i64 a0_3) := (blk_cell BK105.out 3).trans rfl
                  have hfz173_0 := blk_frozen BK105.out 0
                  have hfz173_1 := blk_frozen BK105.out 1
                  have hfz173_2 := blk_frozen BK105.out 2
                  have hfz173_3 := blk_frozen BK105.out 3
                  go_wp2_with (first | ((with_reducible refine gate_callee (f := 50) rfl ?_); refine goesL_ (some 46) rfl rfl Try.func50 (by kernel_rfl) rfl #[.int .i64 a0_1] rfl (by (try simp only [List.map_toArray, List.map_cons, List.map_nil]); first | done | rfl | (simp only [List.length_drop, List.length_take]; rfl)) ?_; (with_reducible refine (instr_register.calls a0_1 true _ A114.out).mono ?_); rintro e w' ⟨rfl, ⟨nd, rfl⟩⟩; refine ⟨_, rfl, ?_⟩) | (go_at_call 50; (with_reducible refine (instr_register.calls a0_2 true _ A116.out).mono ?_); rintro e w' ⟨rfl, ⟨nd, rfl⟩⟩; have hcz174_0 : wc.cell? ⟨gb111, 0, none⟩ = some (.string t106) := (blk_cell BK111.out 0).trans rfl; have hcz174_1 : wc.cell? ⟨gb111, 1, none⟩ = some (.int .i64 t107) := (blk_cell BK111.out 1).trans rfl; have hcz174_2 : wc.cell? ⟨gb111, 2, none⟩ = some (.int .i64 t108) := (blk_cell BK111.out 2).trans rfl; have hcz174_3 : wc.cell? ⟨gb111, 3, none⟩ = some (.int .i64 t109) := (blk_cell BK111.out 3).trans rfl; have hfz174_0 := blk_frozen BK111.out 0; have hfz174_1 := blk_frozen BK111.out 1; have hfz174_2 := blk_frozen BK111.out 2; have hfz174_3 := blk_frozen BK111.out 3) | (go_at_call 51; (with_reducible refine (instr_operation_hasN.calls t106 t107 t108 t109 false _ A150.out).mono ?_); rintro e w175 ⟨rfl, hb⟩; have n0_ := Aside0.mk (blk_below (g := gb105) (o := .cells #[.int .i64 a0_0, .int .i64 a0_1, .int .i64 a0_2, .int .i64 a0_3] 26 (0, 0)) (by (with_reducible repeat (first | refine blk_drewN ?_ _ | refine blk_drew ?_ | refine blk_alloc ?_ _)); exact BK105.out) hb); have n1_ := Aside0.mk (blk_below (g := gb111) (o := .cells #[.string t106, .int .i64 t107, .int .i64 t108, .int .i64 t109] 83 (0, 0)) (by (with_reducible repeat (first | refine blk_drewN ?_ _ | refine blk_drew ?_ | refine blk_alloc ?_ _)); exact BK111.out) hb); have n2_ := Aside0.mk (below_step (by repeat (first | (with_reducible first | exact HB.out | apply below_alloc | apply pw_below_drewN | apply below_drew1 | refine below_set ?_ GE105.out | refine below_set ?_ GE111.out) | exact HB.out)) hb); clear BK105; clear BK111; clear HB; have BK105 := n0_; have BK111 := n1_; have HB := n2_; clear n0_ n1_ n2_; (try clear hb); (try clear hb2); (try clear hk); (try clear hi)))
                  go_ret
                  exact ⟨by first | rfl | (simp [errW_none, errW_some] <;> rfl) | (simp [*, errW_none, errW_some] <;> rfl), by repeat (first | (with_reducible first | exact HB.out | apply below_alloc | apply pw_below_drewN | apply below_drew1 | refine below_set ?_ GE105.out | refine below_set ?_ GE111.out) | exact HB.out)⟩
            · replace c117 := Bool.eq_false_iff.mpr c117
              subst c117
              have H1 : (some 2) = some r := by rw [if_neg (show ¬ (false = true) by decide)] at H; exact H
              clear H
              have H := H1
              clear H1
              obtain rfl := Option.some.inj H
              have hnb176 := NB105_111.out
              have hnc176 := NB111_105.out
              have hcz177_0 : wc.cell? ⟨gb105, 0, none⟩ = some (.int .i64 a0_0) := (blk_cell BK105.out 0).trans rfl
              have hcz177_1 : wc.cell? ⟨gb105, 1, none⟩ = some (.int .i64 a0_1) := (blk_cell BK105.out 1).trans rfl
              have hcz177_2 : wc.cell? ⟨gb105, 2, none⟩ = some (.int .i64 a0_2) := (blk_cell BK105.out 2).trans rfl
              have hcz177_3 : wc.cell? ⟨gb105, 3, none⟩ = some (.int .i64 a0_3) := (blk_cell BK105.out 3).trans rfl
              have hfz177_0 := blk_frozen BK105.out 0
              have hfz177_1 := blk_frozen BK105.out 1
              have hfz177_2 := blk_frozen BK105.out 2
              have hfz177_3 := blk_frozen BK105.out 3
              go_wp2_with (first | ((with_reducible refine gate_callee (f := 50) rfl ?_); refine goesL_ (some 46) rfl rfl Try.func50 (by kernel_rfl) rfl #[.int .i64 a0_1] rfl (by (try simp only [List.map_toArray, List.map_cons, List.map_nil]); first | done | rfl | (simp only [List.length_drop, List.length_take]; rfl)) ?_; (with_reducible refine (instr_register.calls a0_1 true _ A114.out).mono ?_); rintro e w' ⟨rfl, ⟨nd, rfl⟩⟩; refine ⟨_, rfl, ?_⟩) | (go_at_call 50; (with_reducible refine (instr_register.calls a0_2 false _ A116.out).mono ?_); rintro e w' ⟨rfl, ⟨nd, rfl⟩⟩))
              go_ret
              exact ⟨by first | rfl | (simp [errW_none, errW_some] <;> rfl) | (simp [*, errW_none, errW_some] <;> rfl), by repeat (first | (with_reducible first | exact HB.out | apply below_alloc | apply pw_below_drewN | apply below_drew1 | refine below_set ?_ GE105.out | refine below_set ?_ GE111.out) | exact HB.out)⟩
          · replace c115 := Bool.eq_false_iff.mpr c115
            subst c115
            have H1 : (some 2) = some r := by rw [if_neg (show ¬ (false = true) by decide)] at H; exact H
            clear H
            have H := H1
            clear H1
            obtain rfl := Option.some.inj H
            have hnb178 := NB105_111.out
            have hnc178 := NB111_105.out
            have hcz179_0 : wc.cell? ⟨gb105, 0, none⟩ = some (.int .i64 a0_0) := (blk_cell BK105.out 0).trans rfl
            have hcz179_1 : wc.cell? ⟨gb105, 1, none⟩ = some (.int .i64 a0_1) := (blk_cell BK105.out 1).trans rfl
            have hcz179_2 : wc.cell? ⟨gb105, 2, none⟩ = some (.int .i64 a0_2) := (blk_cell BK105.out 2).trans rfl
            have hcz179_3 : wc.cell? ⟨gb105, 3, none⟩ = some (.int .i64 a0_3) := (blk_cell BK105.out 3).trans rfl
            have hfz179_0 := blk_frozen BK105.out 0
            have hfz179_1 := blk_frozen BK105.out 1
            have hfz179_2 := blk_frozen BK105.out 2
            have hfz179_3 := blk_frozen BK105.out 3
            go_wp2_with (first | ((with_reducible refine gate_callee (f := 50) rfl ?_); refine goesL_ (some 46) rfl rfl Try.func50 (by kernel_rfl) rfl #[.int .i64 a0_1] rfl (by (try simp only [List.map_toArray, List.map_cons, List.map_nil]); first | done | rfl | (simp only [List.length_drop, List.length_take]; rfl)) ?_; (with_reducible refine (instr_register.calls a0_1 false _ A114.out).mono ?_); rintro e w' ⟨rfl, ⟨nd, rfl⟩⟩; refine ⟨_, rfl, ?_⟩))
            go_ret
            exact ⟨by first | rfl | (simp [errW_none, errW_some] <;> rfl) | (simp [*, errW_none, errW_some] <;> rfl), by repeat (first | (with_reducible first | exact HB.out | apply below_alloc | apply pw_below_drewN | apply below_drew1 | refine below_set ?_ GE105.out | refine below_set ?_ GE111.out) | exact HB.out)⟩
  · replace c3 := Bool.eq_false_iff.mpr c3
    subst c3
    have H1 : (some 11) = some r := by rw [if_neg (show ¬ (false = true) by decide)] at H; exact H
    clear H
    have H := H1
    clear H1
    obtain rfl := Option.some.inj H
    go_enter Try.func15, Try.ntmps15
    go_wp2_with (first | ((with_reducible refine gate_dst (N := 1) rfl ?_); refine box_event ?hg (N := 1) ?hd (cs := #[.int .i64 a0_0, .int .i64 a0_1, .int .i64 a0_2, .int .i64 a0_3]) (t := 26) ?hr ?_; (case hd => rfl); (case hg => rfl); (case hr => first | (go_simp; done) | (go_simp; rfl)); intro gb105 hg w180 hbox hb; have n0_ := Aside0.mk (below_step (by repeat (first | (with_reducible first | exact HB.out | apply below_alloc | apply pw_below_drewN | apply below_drew1) | exact HB.out)) hb); have n1_ := Aside0.mk (hbox); have n2_ := Aside0.mk ((by rw [hg]; exact (below_size (by repeat (first | (with_reducible first | exact HB.out | apply below_alloc | apply pw_below_drewN | apply below_drew1) | exact HB.out))) : w.heap.size ≤ gb105)); have n3_ := Aside0.mk ((by rw [hg]; exact (below_size (by repeat (first | (with_reducible first | exact HB.out | apply below_alloc | apply pw_below_drewN | apply below_drew1) | exact HB.out))) : w.heap.size ≤ gb105)); clear HB; have HB := n0_; have BK105 := n1_; have GW105 := n2_; have GE105 := n3_; clear n0_ n1_ n2_ n3_; clear hb hbox hg; have hcz181_0 : w180.cell? ⟨gb105, 0, none⟩ = some (.int .i64 a0_0) := (blk_cell BK105.out 0).trans rfl; have hcz181_1 : w180.cell? ⟨gb105, 1, none⟩ = some (.int .i64 a0_1) := (blk_cell BK105.out 1).trans rfl; have hcz181_2 : w180.cell? ⟨gb105, 2, none⟩ = some (.int .i64 a0_2) := (blk_cell BK105.out 2).trans rfl; have hcz181_3 : w180.cell? ⟨gb105, 3, none⟩ = some (.int .i64 a0_3) := (blk_cell BK105.out 3).trans rfl; have hfz181_0 := blk_frozen BK105.out 0; have hfz181_1 := blk_frozen BK105.out 1; have hfz181_2 := blk_frozen BK105.out 2; have hfz181_3 := blk_frozen BK105.out 3) | ((with_reducible refine gate_callee (f := 46) rfl ?_); refine goesL_ (some 8) rfl rfl Try.func46 (by kernel_rfl) rfl #[.int .i64 a0_0] rfl (by (try simp only [List.map_toArray, List.map_cons, List.map_nil]); first | done | rfl | (simp only [List.length_drop, List.length_take]; rfl)) ?_; (with_reducible refine (instr_of.calls a0_0 t106 t107 t108 t109 false _ A2.out).mono ?_); rintro e w182 ⟨rfl, hb⟩; refine ⟨_, rfl, ?_⟩; have n0_ := Aside0.mk (blk_below (g := gb105) (o := .cells #[.int .i64 a0_0, .int .i64 a0_1, .int .i64 a0_2, .int .i64 a0_3] 26 (0, 0)) (by (with_reducible repeat (first | refine blk_drewN ?_ _ | refine blk_drew ?_ | refine blk_alloc ?_ _)); exact BK105.out) hb); have n1_ := Aside0.mk (below_step (by repeat (first | (with_reducible first | exact HB.out | apply below_alloc | apply pw_below_drewN | apply below_drew1 | refine below_set ?_ GE105.out) | exact HB.out)) hb); clear BK105; clear HB; have BK105 := n0_; have HB := n1_; clear n0_ n1_; (try clear hb); (try clear hb2); (try clear hk); (try clear hi)) | ((with_reducible refine gate_dst (N := 3) rfl ?_); refine box_event ?hg (N := 3) ?hd (cs := #[.string (⟨#[]⟩ : ByteArray), .int .i64 0, .int .i64 0, .int .i64 0]) (t := 83) ?hr ?_; (case hd => rfl); (case hg => rfl); (case hr => first | (go_simp; done) | (go_simp; rfl)); intro gb111 hg w183 hbox hb; have n0_ := Aside0.mk (blk_below (g := gb105) (o := .cells #[.int .i64 a0_0, .int .i64 a0_1, .int .i64 a0_2, .int .i64 a0_3] 26 (0, 0)) (by (with_reducible repeat (first | refine blk_drewN ?_ _ | refine blk_drew ?_ | refine blk_alloc ?_ _)); exact BK105.out) hb); have n1_ := Aside0.mk (below_step (by repeat (first | (with_reducible first | exact HB.out | apply below_alloc | apply pw_below_drewN | apply below_drew1 | refine below_set ?_ GE105.out) | exact HB.out)) hb); have n2_ := Aside0.mk (hbox); have n3_ := Aside0.mk ((by rw [hg]; exact (below_size (by repeat (first | (with_reducible first | exact HB.out | apply below_alloc | apply pw_below_drewN | apply below_drew1 | refine below_set ?_ GE105.out) | exact HB.out))) : w.heap.size ≤ gb111)); have n4_ := Aside0.mk ((by rw [hg]; exact (below_size (by repeat (first | (with_reducible first | exact HB.out | apply below_alloc | apply pw_below_drewN | apply below_drew1 | refine below_set ?_ GE105.out) | exact HB.out))) : w.heap.size ≤ gb111)); have n5_ := Aside0.mk ((by rw [hg]; exact Nat.ne_of_lt (blk_lt (g := gb105) (o := .cells #[.int .i64 a0_0, .int .i64 a0_1, .int .i64 a0_2, .int .i64 a0_3] 26 (0, 0)) (by (with_reducible repeat (first | refine blk_drewN ?_ _ | refine blk_drew ?_ | refine blk_alloc ?_ _)); exact BK105.out)) : gb105 ≠ gb111)); have n6_ := Aside0.mk ((by rw [hg]; exact Nat.ne_of_gt (blk_lt (g := gb105) (o := .cells #[.int .i64 a0_0, .int .i64 a0_1, .int .i64 a0_2, .int .i64 a0_3] 26 (0, 0)) (by (with_reducible repeat (first | refine blk_drewN ?_ _ | refine blk_drew ?_ | refine blk_alloc ?_ _)); exact BK105.out)) : gb111 ≠ gb105)); clear BK105; clear HB; have BK105 := n0_; have HB := n1_; have BK111 := n2_; have GW111 := n3_; have GE111 := n4_; have NB105_111 := n5_; have NB111_105 := n6_; clear n0_ n1_ n2_ n3_ n4_ n5_ n6_; clear hb hbox hg; have hnb184 := NB111_105.out; have hnc184 := NB105_111.out; have hcz185_0 : w183.cell? ⟨gb111, 0, none⟩ = some (.string (⟨#[]⟩ : ByteArray)) := (blk_cell BK111.out 0).trans rfl; have hcz185_1 : w183.cell? ⟨gb111, 1, none⟩ = some (.int .i64 0) := (blk_cell BK111.out 1).trans rfl; have hcz185_2 : w183.cell? ⟨gb111, 2, none⟩ = some (.int .i64 0) := (blk_cell BK111.out 2).trans rfl; have hcz185_3 : w183.cell? ⟨gb111, 3, none⟩ = some (.int .i64 0) := (blk_cell BK111.out 3).trans rfl; have hfz185_0 := blk_frozen BK111.out 0; have hfz185_1 := blk_frozen BK111.out 1; have hfz185_2 := blk_frozen BK111.out 2; have hfz185_3 := blk_frozen BK111.out 3))
    go_ret
    exact ⟨by first | rfl | (simp [errW_none, errW_some] <;> rfl) | (simp [*, errW_none, errW_some] <;> rfl), by repeat (first | (with_reducible first | exact HB.out | apply below_alloc | apply pw_below_drewN | apply below_drew1 | refine below_set ?_ GE105.out | refine below_set ?_ GE111.out) | exact HB.out)⟩

end Go.Proofs.Ytdnhekgdpolenaa.Q
