/- Functions of the seat and their walks, written by a program of this session. -/
import Derived.Test.YtdnhekgdpolenaaQx0
import Derived.Test.YtdnhekgdpolenaaQx1
import Derived.Test.YtdnhekgdpolenaaQx2
import Derived.Test.YtdnhekgdpolenaaQx7
import Derived.Test.YtdnhekgdpolenaaQx8
import Derived.Test.YtdnhekgdpolenaaQx9
import Derived.Test.YtdnhekgdpolenaaQx20
import Derived.Test.YtdnhekgdpolenaaQx21
import Derived.Test.YtdnhekgdpolenaaQx22
namespace Go.Proofs.Ytdnhekgdpolenaa.Q
open Go.RowKit Go.Proofs.YtdnhekgdpolenaaW.PrintWords Go.Proofs.YtdnhekgdpolenaaW.PrintLast Go.Proofs.YtdnhekgdpolenaaW.PrintMore
attribute [local go_sem] max2_int min2_int max_two min_two max_three min_three max_four min_four   -- for this text's walks alone
set_option linter.unusedVariables false
set_option linter.unusedSimpArgs false

attribute [local go_sem high] eqA23 eqA41
/-! ### replevinlaw16_InstrEncodes: function 7 -/
def replevinlaw16_InstrEncodes.j0 : Nat → Int → Bool → Int → Int → Int → Int → Int → Int → Int → Int → Option (Bool)
  | 0, _, _, _, _, _, _, _, _, _, _ => none
  | k + 1, x4, x29, x238000, x238001, x238002, x238003, x249000, x249001, x249002, x249003 => if x29 = true then (some false) else (if x4 = 0 then ((instr_Decode.f k x249000 x249001 x249002 x249003).bind fun bt255 => (if bt255.2.2.2.2 = 0 then ((replevinlaw16_Of.f bt255.1 bt255.2.1 bt255.2.2.1 bt255.2.2.2.1).bind fun bt261 => (some (bt261.1 == x238000 && (bt261.2.1 == x238001 && (bt261.2.2.1 == x238002 && (bt261.2.2.2 == x238003)))))) else (some false))) else (some true))
def replevinlaw16_InstrEncodes.f (k : Nat) (a0_0 : Int) (a0_1 : Int) (a0_2 : Int) (a0_3 : Int) : Option (Bool) := (replevinlaw16_known.f k).bind fun t238 => (if t238 = true then ((replevinlaw16_To.f a0_0 a0_1 a0_2 a0_3).bind fun bt239 => ((instr_Encode.f k bt239.1 bt239.2.1 bt239.2.2.1 bt239.2.2.2).bind fun bt243 => ((replevinref16_Encode.f k a0_0 a0_1 a0_2 a0_3).bind fun bt249 => (if (!(bt243.1 == bt249.1) || (!(bt243.2.1 == bt249.2.1) || (!(bt243.2.2.1 == bt249.2.2.1) || (!(bt243.2.2.2.1 == bt249.2.2.2.1))))) = true then (replevinlaw16_InstrEncodes.j0 k bt243.2.2.2.2 true a0_0 a0_1 a0_2 a0_3 bt243.1 bt243.2.1 bt243.2.2.1 bt243.2.2.2.1) else (replevinlaw16_InstrEncodes.j0 k bt243.2.2.2.2 (bt243.2.2.2.2 != bt249.2.2.2.2) a0_0 a0_1 a0_2 a0_3 bt243.1 bt243.2.1 bt243.2.2.1 bt243.2.2.2.1))))) else (some false))
theorem replevinlaw16_InstrEncodes.mono_l : ∀ k, (∀ y0 y1 y2 y3 y4 y5 y6 y7 y8 y9, LeO (replevinlaw16_InstrEncodes.j0 k y0 y1 y2 y3 y4 y5 y6 y7 y8 y9) (replevinlaw16_InstrEncodes.j0 (k + 1) y0 y1 y2 y3 y4 y5 y6 y7 y8 y9))
  | 0 => fun _ _ _ _ _ _ _ _ _ _ r h => by simp [replevinlaw16_InstrEncodes.j0] at h
  | k + 1 => by
    have ih0 := replevinlaw16_InstrEncodes.mono_l k
    · intro y0 y1 y2 y3 y4 y5 y6 y7 y8 y9
      unfold replevinlaw16_InstrEncodes.j0
      repeat' first
      | (with_reducible exact ih0 _ _ _ _ _ _ _ _ _ _)
      | (with_reducible exact instr_Decode.mono _ _ _ _ _)
      | (with_reducible exact instr_Encode.mono _ _ _ _ _)
      | (with_reducible exact replevinlaw16_known.mono _)
      | (with_reducible exact replevinref16_Encode.mono _ _ _ _ _)
      | (with_reducible exact LeO.refl _)
      | (with_reducible exact LeO.none _)
      | (with_reducible refine LeO.ite ?_ ?_)
      | (with_reducible refine LeO.bind ?_ (fun _ => ?_))
      | exact ih0 _ _ _ _ _ _ _ _ _ _
      | exact instr_Decode.mono _ _ _ _ _
      | exact instr_Encode.mono _ _ _ _ _
      | exact replevinlaw16_known.mono _
      | exact replevinref16_Encode.mono _ _ _ _ _
      | exact LeO.none _
      | refine LeO.ite ?_ ?_
      | refine LeO.bind ?_ (fun _ => ?_)
theorem replevinlaw16_InstrEncodes.mono : ∀ a0 a1 a2 a3 k, LeO (replevinlaw16_InstrEncodes.f k a0 a1 a2 a3) (replevinlaw16_InstrEncodes.f (k + 1) a0 a1 a2 a3) := by
  intro a0 a1 a2 a3 k
  have ih0 := replevinlaw16_InstrEncodes.mono_l k
  unfold replevinlaw16_InstrEncodes.f
  repeat' first
      | (with_reducible exact ih0 _ _ _ _ _ _ _ _ _ _)
      | (with_reducible exact instr_Decode.mono _ _ _ _ _)
      | (with_reducible exact instr_Encode.mono _ _ _ _ _)
      | (with_reducible exact replevinlaw16_known.mono _)
      | (with_reducible exact replevinref16_Encode.mono _ _ _ _ _)
      | (with_reducible exact LeO.refl _)
      | (with_reducible exact LeO.none _)
      | (with_reducible refine LeO.ite ?_ ?_)
      | (with_reducible refine LeO.bind ?_ (fun _ => ?_))
      | exact ih0 _ _ _ _ _ _ _ _ _ _
      | exact instr_Decode.mono _ _ _ _ _
      | exact instr_Encode.mono _ _ _ _ _
      | exact replevinlaw16_known.mono _
      | exact replevinref16_Encode.mono _ _ _ _ _
      | exact LeO.none _
      | refine LeO.ite ?_ ?_
      | refine LeO.bind ?_ (fun _ => ?_)
def replevinlaw16_InstrEncodes.T10 : Bool × List (List Nat × List Nat) := (true, [([], []), ([0], [0]), ([1], [1]), ([2], [2]), ([3, 2, 2], [2, 3]), ([2], [2]), ([4, 5, 2], [2, 4, 5]), ([2, 6], [2, 6]), ([7, 4, 0, 1, 2, 3, 4, 5, 6, 7], [7])])
def replevinlaw16_InstrEncodes.B10 : List Nat := [0, 1, 3, 7, 15, 7, 63, 127, 255]
theorem replevinlaw16_InstrEncodes.tab10 : rtab .any (opsOf Try.f7 10) = replevinlaw16_InstrEncodes.T10 := by kernel_rfl
theorem replevinlaw16_InstrEncodes.bits10 : waitsOk replevinlaw16_InstrEncodes.T10.2 replevinlaw16_InstrEncodes.B10 = true := by kernel_rfl
set_option maxHeartbeats 8000000 in
set_option maxRecDepth 100000 in
theorem replevinlaw16_InstrEncodes.calls (k : Nat) (a0_0 : Int) (a0_1 : Int) (a0_2 : Int) (a0_3 : Int) (r : Bool) (w : World) (h : replevinlaw16_InstrEncodes.f k a0_0 a0_1 a0_2 a0_3 = some r) :
    Calls Try.prog 7 #[.agg #[.int .i64 a0_0, .int .i64 a0_1, .int .i64 a0_2, .int .i64 a0_3]] w fun e w' => e = .returned (.bool r) ∧ Below w.heap.size w w' := by
  have hu23 := Try.underlying23
  have hu41 := Try.underlying41
  have hu26 := Try.underlying26
  have HB := Aside0.mk (Below.refl w.heap.size w)
  have H : ((replevinlaw16_known.f k).bind fun t238 => (if t238 = true then ((replevinlaw16_To.f a0_0 a0_1 a0_2 a0_3).bind fun bt239 => ((instr_Encode.f k bt239.1 bt239.2.1 bt239.2.2.1 bt239.2.2.2).bind fun bt243 => ((replevinref16_Encode.f k a0_0 a0_1 a0_2 a0_3).bind fun bt249 => (if (!(bt243.1 == bt249.1) || (!(bt243.2.1 == bt249.2.1) || (!(bt243.2.2.1 == bt249.2.2.1) || (!(bt243.2.2.2.1 == bt249.2.2.2.1))))) = true then (replevinlaw16_InstrEncodes.j0 k bt243.2.2.2.2 true a0_0 a0_1 a0_2 a0_3 bt243.1 bt243.2.1 bt243.2.2.1 bt243.2.2.2.1) else (replevinlaw16_InstrEncodes.j0 k bt243.2.2.2.2 (bt243.2.2.2.2 != bt249.2.2.2.2) a0_0 a0_1 a0_2 a0_3 bt243.1 bt243.2.1 bt243.2.2.1 bt243.2.2.2.1))))) else (some false))) = some r := h
  clear h
  replace H := Option.bind_eq_some_iff.mp H
  obtain ⟨t238, A20, H⟩ := H
  replace H : (if t238 = true then ((replevinlaw16_To.f a0_0 a0_1 a0_2 a0_3).bind fun bt239 => ((instr_Encode.f k bt239.1 bt239.2.1 bt239.2.2.1 bt239.2.2.2).bind fun bt243 => ((replevinref16_Encode.f k a0_0 a0_1 a0_2 a0_3).bind fun bt249 => (if (!(bt243.1 == bt249.1) || (!(bt243.2.1 == bt249.2.1) || (!(bt243.2.2.1 == bt249.2.2.1) || (!(bt243.2.2.2.1 == bt249.2.2.2.1))))) = true then (replevinlaw16_InstrEncodes.j0 k bt243.2.2.2.2 true a0_0 a0_1 a0_2 a0_3 bt243.1 bt243.2.1 bt243.2.2.1 bt243.2.2.2.1) else (replevinlaw16_InstrEncodes.j0 k bt243.2.2.2.2 (bt243.2.2.2.2 != bt249.2.2.2.2) a0_0 a0_1 a0_2 a0_3 bt243.1 bt243.2.1 bt243.2.2.1 bt243.2.2.2.1))))) else (some false)) = some r := H
  have A2 := Aside0.mk A20
  clear A20
  by_cases c3 : t238 = true
  · subst c3
    have H1 : ((replevinlaw16_To.f a0_0 a0_1 a0_2 a0_3).bind fun bt239 => ((instr_Encode.f k bt239.1 bt239.2.1 bt239.2.2.1 bt239.2.2.2).bind fun bt243 => ((replevinref16_Encode.f k a0_0 a0_1 a0_2 a0_3).bind fun bt249 => (if (!(bt243.1 == bt249.1) || (!(bt243.2.1 == bt249.2.1) || (!(bt243.2.2.1 == bt249.2.2.1) || (!(bt243.2.2.2.1 == bt249.2.2.2.1))))) = true then (replevinlaw16_InstrEncodes.j0 k bt243.2.2.2.2 true a0_0 a0_1 a0_2 a0_3 bt243.1 bt243.2.1 bt243.2.2.1 bt243.2.2.2.1) else (replevinlaw16_InstrEncodes.j0 k bt243.2.2.2.2 (bt243.2.2.2.2 != bt249.2.2.2.2) a0_0 a0_1 a0_2 a0_3 bt243.1 bt243.2.1 bt243.2.2.1 bt243.2.2.2.1))))) = some r := by rw [if_pos rfl] at H; exact H
    clear H
    have H := H1
    clear H1
    replace H := Option.bind_eq_some_iff.mp H
    obtain ⟨⟨t239, t240, t241, t242⟩, A40, H⟩ := H
    replace H : ((instr_Encode.f k t239 t240 t241 t242).bind fun bt243 => ((replevinref16_Encode.f k a0_0 a0_1 a0_2 a0_3).bind fun bt249 => (if (!(bt243.1 == bt249.1) || (!(bt243.2.1 == bt249.2.1) || (!(bt243.2.2.1 == bt249.2.2.1) || (!(bt243.2.2.2.1 == bt249.2.2.2.1))))) = true then (replevinlaw16_InstrEncodes.j0 k bt243.2.2.2.2 true a0_0 a0_1 a0_2 a0_3 bt243.1 bt243.2.1 bt243.2.2.1 bt243.2.2.2.1) else (replevinlaw16_InstrEncodes.j0 k bt243.2.2.2.2 (bt243.2.2.2.2 != bt249.2.2.2.2) a0_0 a0_1 a0_2 a0_3 bt243.1 bt243.2.1 bt243.2.2.1 bt243.2.2.2.1)))) = some r := H
    have A4 := Aside0.mk A40
    clear A40
    replace H := Option.bind_eq_some_iff.mp H
    obtain ⟨⟨t243, t244, t245, t246, t247⟩, A50, H⟩ := H
    replace H : ((replevinref16_Encode.f k a0_0 a0_1 a0_2 a0_3).bind fun bt249 => (if (!(t243 == bt249.1) || (!(t244 == bt249.2.1) || (!(t245 == bt249.2.2.1) || (!(t246 == bt249.2.2.2.1))))) = true then (replevinlaw16_InstrEncodes.j0 k t247 true a0_0 a0_1 a0_2 a0_3 t243 t244 t245 t246) else (replevinlaw16_InstrEncodes.j0 k t247 (t247 != bt249.2.2.2.2) a0_0 a0_1 a0_2 a0_3 t243 t244 t245 t246))) = some r := H
    have A5 := Aside0.mk A50
    clear A50
    replace H := Option.bind_eq_some_iff.mp H
    obtain ⟨⟨t249, t250, t251, t252, t253⟩, A60, H⟩ := H
    replace H : (if (!(t243 == t249) || (!(t244 == t250) || (!(t245 == t251) || (!(t246 == t252))))) = true then (replevinlaw16_InstrEncodes.j0 k t247 true a0_0 a0_1 a0_2 a0_3 t243 t244 t245 t246) else (replevinlaw16_InstrEncodes.j0 k t247 (t247 != t253) a0_0 a0_1 a0_2 a0_3 t243 t244 t245 t246)) = some r := H
    have A6 := Aside0.mk A60
    clear A60
    have HC7 := Aside0.mk H
    clear H
    go_enter Try.func7, Try.ntmps7
    go_upto_region 5 with (first | ((with_reducible refine gate_dst (N := 1) rfl ?_); refine box_event ?hg (N := 1) ?hd (cs := #[.int .i64 a0_0, .int .i64 a0_1, .int .i64 a0_2, .int .i64 a0_3]) (t := 23) ?hr ?_; (case hd => rfl); (case hg => rfl); (case hr => first | (go_simp; done) | (go_simp; rfl)); intro gb237 hg w8 hbox hb; have n0_ := Aside0.mk (below_step (by repeat (first | (with_reducible first | exact HB.out | apply below_alloc | apply pw_below_drewN | apply below_drew1) | exact HB.out)) hb); have n1_ := Aside0.mk (hbox); have n2_ := Aside0.mk ((by rw [hg]; exact (below_size (by repeat (first | (with_reducible first | exact HB.out | apply below_alloc | apply pw_below_drewN | apply below_drew1) | exact HB.out))) : w.heap.size ≤ gb237)); have n3_ := Aside0.mk ((by rw [hg]; exact (below_size (by repeat (first | (with_reducible first | exact HB.out | apply below_alloc | apply pw_below_drewN | apply below_drew1) | exact HB.out))) : w.heap.size ≤ gb237)); clear HB; have HB := n0_; have BK237 := n1_; have GW237 := n2_; have GE237 := n3_; clear n0_ n1_ n2_ n3_; clear hb hbox hg) | ((with_reducible refine gate_callee (f := 13) rfl ?_); refine goesL_ (some 9) rfl rfl Try.func13 (by kernel_rfl) rfl #[] rfl (by (try simp only [List.map_toArray, List.map_cons, List.map_nil]); first | done | rfl | (simp only [List.length_drop, List.length_take]; rfl)) ?_; (with_reducible refine (replevinlaw16_known.calls k  true _ A2.out).mono ?_); rintro e w9 ⟨rfl, hb⟩; refine ⟨_, rfl, ?_⟩; have n0_ := Aside0.mk (blk_below (g := gb237) (o := .cells #[.int .i64 a0_0, .int .i64 a0_1, .int .i64 a0_2, .int .i64 a0_3] 23 (0, 0)) (by (with_reducible repeat (first | refine blk_drewN ?_ _ | refine blk_drew ?_ | refine blk_alloc ?_ _)); exact BK237.out) hb); have n1_ := Aside0.mk (below_step (by repeat (first | (with_reducible first | exact HB.out | apply below_alloc | apply pw_below_drewN | apply below_drew1 | refine below_set ?_ GE237.out) | exact HB.out)) hb); clear BK237; clear HB; have BK237 := n0_; have HB := n1_; clear n0_ n1_; (try clear hb); (try clear hb2); (try clear hk); (try clear hi); have hcz10_0 : w9.cell? ⟨gb237, 0, none⟩ = some (.int .i64 a0_0) := (blk_cell BK237.out 0).trans rfl; have hcz10_1 : w9.cell? ⟨gb237, 1, none⟩ = some (.int .i64 a0_1) := (blk_cell BK237.out 1).trans rfl; have hcz10_2 : w9.cell? ⟨gb237, 2, none⟩ = some (.int .i64 a0_2) := (blk_cell BK237.out 2).trans rfl; have hcz10_3 : w9.cell? ⟨gb237, 3, none⟩ = some (.int .i64 a0_3) := (blk_cell BK237.out 3).trans rfl; have hfz10_0 := blk_frozen BK237.out 0; have hfz10_1 := blk_frozen BK237.out 1; have hfz10_2 := blk_frozen BK237.out 2; have hfz10_3 := blk_frozen BK237.out 3) | ((with_reducible refine gate_callee (f := 14) rfl ?_); refine goesL_ (some 13) rfl rfl Try.func14 (by kernel_rfl) rfl #[.agg #[.int .i64 a0_0, .int .i64 a0_1, .int .i64 a0_2, .int .i64 a0_3]] rfl (by (try simp only [List.map_toArray, List.map_cons, List.map_nil]); first | done | rfl | (simp only [List.length_drop, List.length_take]; rfl)) ?_; (with_reducible refine (replevinlaw16_To.calls a0_0 a0_1 a0_2 a0_3 t239 t240 t241 t242 _ A4.out).mono ?_); rintro e w11 ⟨rfl, hb⟩; refine ⟨_, rfl, ?_⟩; have n0_ := Aside0.mk (blk_below (g := gb237) (o := .cells #[.int .i64 a0_0, .int .i64 a0_1, .int .i64 a0_2, .int .i64 a0_3] 23 (0, 0)) (by (with_reducible repeat (first | refine blk_drewN ?_ _ | refine blk_drew ?_ | refine blk_alloc ?_ _)); exact BK237.out) hb); have n1_ := Aside0.mk (below_step (by repeat (first | (with_reducible first | exact HB.out | apply below_alloc | apply pw_below_drewN | apply below_drew1 | refine below_set ?_ GE237.out) | exact HB.out)) hb); clear BK237; clear HB; have BK237 := n0_; have HB := n1_; clear n0_ n1_; (try clear hb); (try clear hb2); (try clear hk); (try clear hi)) | ((with_reducible refine gate_callee (f := 23) rfl ?_); refine goesL_ (some 14) rfl rfl Try.func23 (by kernel_rfl) rfl #[.agg #[.int .i64 t239, .int .i64 t240, .int .i64 t241, .int .i64 t242]] rfl (by (try simp only [List.map_toArray, List.map_cons, List.map_nil]); first | done | rfl | (simp only [List.length_drop, List.length_take]; rfl)) ?_; (with_reducible refine (instr_Encode.calls k t239 t240 t241 t242 t243 t244 t245 t246 t247 _ A5.out).mono ?_); rintro e w12 ⟨rfl, hb⟩; refine ⟨_, rfl, ?_⟩; have n0_ := Aside0.mk (blk_below (g := gb237) (o := .cells #[.int .i64 a0_0, .int .i64 a0_1, .int .i64 a0_2, .int .i64 a0_3] 23 (0, 0)) (by (with_reducible repeat (first | refine blk_drewN ?_ _ | refine blk_drew ?_ | refine blk_alloc ?_ _)); exact BK237.out) hb); have n1_ := Aside0.mk (below_step (by repeat (first | (with_reducible first | exact HB.out | apply below_alloc | apply pw_below_drewN | apply below_drew1 | refine below_set ?_ GE237.out) | exact HB.out)) hb); clear BK237; clear HB; have BK237 := n0_; have HB := n1_; clear n0_ n1_; (try clear hb); (try clear hb2); (try clear hk); (try clear hi)) | ((with_reducible refine gate_dst (N := 3) rfl ?_); refine box_event ?hg (N := 3) ?hd (cs := #[.int .u8 0, .int .u8 0, .int .u8 0, .int .u8 0]) (t := 41) ?hr ?_; (case hd => rfl); (case hg => rfl); (case hr => first | (go_simp; done) | (go_simp; rfl)); intro gb248 hg w13 hbox hb; have n0_ := Aside0.mk (blk_below (g := gb237) (o := .cells #[.int .i64 a0_0, .int .i64 a0_1, .int .i64 a0_2, .int .i64 a0_3] 23 (0, 0)) (by (with_reducible repeat (first | refine blk_drewN ?_ _ | refine blk_drew ?_ | refine blk_alloc ?_ _)); exact BK237.out) hb); have n1_ := Aside0.mk (below_step (by repeat (first | (with_reducible first | exact HB.out | apply below_alloc | apply pw_below_drewN | apply below_drew1 | refine below_set ?_ GE237.out) | exact HB.out)) hb); have n2_ := Aside0.mk (hbox); have n3_ := Aside0.mk ((by rw [hg]; exact (below_size (by repeat (first | (with_reducible first | exact HB.out | apply below_alloc | apply pw_below_drewN | apply below_drew1 | refine below_set ?_ GE237.out) | exact HB.out))) : w.heap.size ≤ gb248)); have n4_ := Aside0.mk ((by rw [hg]; exact (below_size (by repeat (first | (with_reducible first | exact HB.out | apply below_alloc | apply pw_below_drewN | apply below_drew1 | refine below_set ?_ GE237.out) | exact HB.out))) : w.heap.size ≤ gb248)); have n5_ := Aside0.mk ((by rw [hg]; exact Nat.ne_of_lt (blk_lt (g := gb237) (o := .cells #[.int .i64 a0_0, .int .i64 a0_1, .int .i64 a0_2, .int .i64 a0_3] 23 (0, 0)) (by (with_reducible repeat (first | refine blk_drewN ?_ _ | refine blk_drew ?_ | refine blk_alloc ?_ _)); exact BK237.out)) : gb237 ≠ gb248)); have n6_ := Aside0.mk ((by rw [hg]; exact Nat.ne_of_gt (blk_lt (g := gb237) (o := .cells #[.int .i64 a0_0, .int .i64 a0_1, .int .i64 a0_2, .int .i64 a0_3] 23 (0, 0)) (by (with_reducible repeat (first | refine blk_drewN ?_ _ | refine blk_drew ?_ | refine blk_alloc ?_ _)); exact BK237.out)) : gb248 ≠ gb237)); clear BK237; clear HB; have BK237 := n0_; have HB := n1_; have BK248 := n2_; have GW248 := n3_; have GE248 := n4_; have NB237_248 := n5_; have NB248_237 := n6_; clear n0_ n1_ n2_ n3_ n4_ n5_ n6_; clear hb hbox hg; have hnb14 := NB248_237.out; have hnc14 := NB237_248.out; have hcz15_0 : w13.cell? ⟨gb248, 0, none⟩ = some (.int .u8 0) := (blk_cell BK248.out 0).trans rfl; have hcz15_1 : w13.cell? ⟨gb248, 1, none⟩ = some (.int .u8 0) := (blk_cell BK248.out 1).trans rfl; have hcz15_2 : w13.cell? ⟨gb248, 2, none⟩ = some (.int .u8 0) := (blk_cell BK248.out 2).trans rfl; have hcz15_3 : w13.cell? ⟨gb248, 3, none⟩ = some (.int .u8 0) := (blk_cell BK248.out 3).trans rfl; have hfz15_0 := blk_frozen BK248.out 0; have hfz15_1 := blk_frozen BK248.out 1; have hfz15_2 := blk_frozen BK248.out 2; have hfz15_3 := blk_frozen BK248.out 3; have hcz16_0 : w13.cell? ⟨gb237, 0, none⟩ = some (.int .i64 a0_0) := (blk_cell BK237.out 0).trans rfl; have hcz16_1 : w13.cell? ⟨gb237, 1, none⟩ = some (.int .i64 a0_1) := (blk_cell BK237.out 1).trans rfl; have hcz16_2 : w13.cell? ⟨gb237, 2, none⟩ = some (.int .i64 a0_2) := (blk_cell BK237.out 2).trans rfl; have hcz16_3 : w13.cell? ⟨gb237, 3, none⟩ = some (.int .i64 a0_3) := (blk_cell BK237.out 3).trans rfl; have hfz16_0 := blk_frozen BK237.out 0; have hfz16_1 := blk_frozen BK237.out 1; have hfz16_2 := blk_frozen BK237.out 2; have hfz16_3 := blk_frozen BK237.out 3) | ((with_reducible refine gate_callee (f := 24) rfl ?_); refine goesL_ (some 19) rfl rfl Try.func24 (by kernel_rfl) rfl #[.agg #[.int .i64 a0_0, .int .i64 a0_1, .int .i64 a0_2, .int .i64 a0_3]] rfl (by (try simp only [List.map_toArray, List.map_cons, List.map_nil]); first | done | rfl | (simp only [List.length_drop, List.length_take]; rfl)) ?_; (with_reducible refine (replevinref16_Encode.calls k a0_0 a0_1 a0_2 a0_3 t249 t250 t251 t252 t253 _ A6.out).mono ?_); rintro e w17 ⟨rfl, hb⟩; refine ⟨_, rfl, ?_⟩; have n0_ := Aside0.mk (blk_below (g := gb237) (o := .cells #[.int .i64 a0_0, .int .i64 a0_1, .int .i64 a0_2, .int .i64 a0_3] 23 (0, 0)) (by (with_reducible repeat (first | refine blk_drewN ?_ _ | refine blk_drew ?_ | refine blk_alloc ?_ _)); refine blk_far ?_ NB237_248.out _; (with_reducible repeat (first | refine blk_drewN ?_ _ | refine blk_drew ?_ | refine blk_alloc ?_ _)); refine blk_far ?_ NB237_248.out _; (with_reducible repeat (first | refine blk_drewN ?_ _ | refine blk_drew ?_ | refine blk_alloc ?_ _)); refine blk_far ?_ NB237_248.out _; (with_reducible repeat (first | refine blk_drewN ?_ _ | refine blk_drew ?_ | refine blk_alloc ?_ _)); refine blk_far ?_ NB237_248.out _; (with_reducible repeat (first | refine blk_drewN ?_ _ | refine blk_drew ?_ | refine blk_alloc ?_ _)); exact BK237.out) hb); have n1_ := Aside0.mk (blk_below (g := gb248) (o := .cells #[.int .u8 t243, .int .u8 t244, .int .u8 t245, .int .u8 t246] 41 (0, 0)) (by (with_reducible repeat (first | refine blk_drewN ?_ _ | refine blk_drew ?_ | refine blk_alloc ?_ _)); refine blk_put (cs := #[.int .u8 t243, .int .u8 t244, .int .u8 t245, .int .u8 0]) ?_ 3 _ rfl; (with_reducible repeat (first | refine blk_drewN ?_ _ | refine blk_drew ?_ | refine blk_alloc ?_ _)); refine blk_put (cs := #[.int .u8 t243, .int .u8 t244, .int .u8 0, .int .u8 0]) ?_ 2 _ rfl; (with_reducible repeat (first | refine blk_drewN ?_ _ | refine blk_drew ?_ | refine blk_alloc ?_ _)); refine blk_put (cs := #[.int .u8 t243, .int .u8 0, .int .u8 0, .int .u8 0]) ?_ 1 _ rfl; (with_reducible repeat (first | refine blk_drewN ?_ _ | refine blk_drew ?_ | refine blk_alloc ?_ _)); refine blk_put (cs := #[.int .u8 0, .int .u8 0, .int .u8 0, .int .u8 0]) ?_ 0 _ rfl; (with_reducible repeat (first | refine blk_drewN ?_ _ | refine blk_drew ?_ | refine blk_alloc ?_ _)); exact BK248.out) hb); have n2_ := Aside0.mk (below_step (by repeat (first | (with_reducible first | exact HB.out | apply below_alloc | apply pw_below_drewN | apply below_drew1 | refine below_set ?_ GE237.out | refine below_set ?_ GE248.out) | exact HB.out)) hb); clear BK237; clear BK248; clear HB; have BK237 := n0_; have BK248 := n1_; have HB := n2_; clear n0_ n1_ n2_; (try clear hb); (try clear hb2); (try clear hk); (try clear hi)) | ((with_reducible refine gate_dst (N := 5) rfl ?_); refine box_event ?hg (N := 5) ?hd (cs := #[.int .u8 0, .int .u8 0, .int .u8 0, .int .u8 0]) (t := 41) ?hr ?_; (case hd => rfl); (case hg => rfl); (case hr => first | (go_simp; done) | (go_simp; rfl)); intro gb254 hg w18 hbox hb; have n0_ := Aside0.mk (blk_below (g := gb237) (o := .cells #[.int .i64 a0_0, .int .i64 a0_1, .int .i64 a0_2, .int .i64 a0_3] 23 (0, 0)) (by (with_reducible repeat (first | refine blk_drewN ?_ _ | refine blk_drew ?_ | refine blk_alloc ?_ _)); exact BK237.out) hb); have n1_ := Aside0.mk (blk_below (g := gb248) (o := .cells #[.int .u8 t243, .int .u8 t244, .int .u8 t245, .int .u8 t246] 41 (0, 0)) (by (with_reducible repeat (first | refine blk_drewN ?_ _ | refine blk_drew ?_ | refine blk_alloc ?_ _)); exact BK248.out) hb); have n2_ := Aside0.mk (below_step (by repeat (first | (with_reducible first | exact HB.out | apply below_alloc | apply pw_below_drewN | apply below_drew1 | refine below_set ?_ GE237.out | refine below_set ?_ GE248.out) | exact HB.out)) hb); have n3_ := Aside0.mk (hbox); have n4_ := Aside0.mk ((by rw [hg]; exact (below_size (by repeat (first | (with_reducible first | exact HB.out | apply below_alloc | apply pw_below_drewN | apply below_drew1 | refine below_set ?_ GE237.out | refine below_set ?_ GE248.out) | exact HB.out))) : w.heap.size ≤ gb254)); have n5_ := Aside0.mk ((by rw [hg]; exact (below_size (by repeat (first | (with_reducible first | exact HB.out | apply below_alloc | apply pw_below_drewN | apply below_drew1 | refine below_set ?_ GE237.out | refine below_set ?_ GE248.out) | exact HB.out))) : w.heap.size ≤ gb254)); have n6_ := Aside0.mk ((by rw [hg]; exact Nat.ne_of_lt (blk_lt (g := gb237) (o := .cells #[.int .i64 a0_0, .int .i64 a0_1, .int .i64 a0_2, .int .i64 a0_3] 23 (0, 0)) (by (with_reducible repeat (first | refine blk_drewN ?_ _ | refine blk_drew ?_ | refine blk_alloc ?_ _)); exact BK237.out)) : gb237 ≠ gb254)); have n7_ := Aside0.mk ((by rw [hg]; exact Nat.ne_of_gt (blk_lt (g := gb237) (o := .cells #[.int .i64 a0_0, .int .i64 a0_1, .int .i64 a0_2, .int .i64 a0_3] 23 (0, 0)) (by (with_reducible repeat (first | refine blk_drewN ?_ _ | refine blk_drew ?_ | refine blk_alloc ?_ _)); exact BK237.out)) : gb254 ≠ gb237)); have n8_ := Aside0.mk ((by rw [hg]; exact Nat.ne_of_lt (blk_lt (g := gb248) (o := .cells #[.int .u8 t243, .int .u8 t244, .int .u8 t245, .int .u8 t246] 41 (0, 0)) (by (with_reducible repeat (first | refine blk_drewN ?_ _ | refine blk_drew ?_ | refine blk_alloc ?_ _)); exact BK248.out)) : gb248 ≠ gb254)); have n9_ := Aside0.mk ((by rw [hg]; exact Nat.ne_of_gt (blk_lt (g := gb248) (o := .cells #[.int .u8 t243, .int .u8 t244, .int .u8 t245, .int .u8 t246] 41 (0, 0)) (by (with_reducible repeat (first | refine blk_drewN ?_ _ | refine blk_drew ?_ | refine blk_alloc ?_ _)); exact BK248.out)) : gb254 ≠ gb248)); clear BK237; clear BK248; clear HB; have BK237 := n0_; have BK248 := n1_; have HB := n2_; have BK254 := n3_; have GW254 := n4_; have GE254 := n5_; have NB237_254 := n6_; have NB254_237 := n7_; have NB248_254 := n8_; have NB254_248 := n9_; clear n0_ n1_ n2_ n3_ n4_ n5_ n6_ n7_ n8_ n9_; clear hb hbox hg; have hnb19 := NB254_237.out; have hnc19 := NB237_254.out; have hnb20 := NB254_248.out; have hnc20 := NB248_254.out; have hcz21_0 : w18.cell? ⟨gb254, 0, none⟩ = some (.int .u8 0) := (blk_cell BK254.out 0).trans rfl; have hcz21_1 : w18.cell? ⟨gb254, 1, none⟩ = some (.int .u8 0) := (blk_cell BK254.out 1).trans rfl; have hcz21_2 : w18.cell? ⟨gb254, 2, none⟩ = some (.int .u8 0) := (blk_cell BK254.out 2).trans rfl; have hcz21_3 : w18.cell? ⟨gb254, 3, none⟩ = some (.int .u8 0) := (blk_cell BK254.out 3).trans rfl; have hfz21_0 := blk_frozen BK254.out 0; have hfz21_1 := blk_frozen BK254.out 1; have hfz21_2 := blk_frozen BK254.out 2; have hfz21_3 := blk_frozen BK254.out 3))
    (try simp only [Act.put, List.setIfInBounds_toArray, List.set_cons_zero, List.set_cons_succ])
    go_cut [29] (fun v29 wc => ∃ (kq : Nat) (x29_6 : Bool), v29 = .bool x29_6 ∧ Aside0 (replevinlaw16_InstrEncodes.j0 kq t247 x29_6 a0_0 a0_1 a0_2 a0_3 t243 t244 t245 t246 = some r) ∧ Aside0 (kq ≤ k) ∧ Aside0 (wc.heap[gb237]? = some (.cells #[.int .i64 a0_0, .int .i64 a0_1, .int .i64 a0_2, .int .i64 a0_3] 23 (0, 0))) ∧ Aside0 (wc.heap[gb248]? = some (.cells #[.int .u8 t243, .int .u8 t244, .int .u8 t245, .int .u8 t246] 41 (0, 0))) ∧ Aside0 (wc.heap[gb254]? = some (.cells #[.int .u8 t249, .int .u8 t250, .int .u8 t251, .int .u8 t252] 41 (0, 0))) ∧ Aside0 (Below w.heap.size w wc))
    case first =>
      have H := HC7.out
      clear HC7
      by_cases c22 : (!(t243 == t249) || (!(t244 == t250) || (!(t245 == t251) || (!(t246 == t252))))) = true
      · rw [if_pos c22] at H
        have c22b0 : (!(t243 == t249) || (!(t244 == t250) || (!(t245 == t251) || (!(t246 == t252))))) = true := c22
        clear c22
        (first | rw [c22b0] | (simp only [i64_w, i32_w]; rw [c22b0]) | skip)
        have H' := Aside0.mk H
        clear H
        have hnb23 := NB248_237.out
        have hnc23 := NB237_248.out
        have hnb24 := NB248_254.out
        have hnc24 := NB254_248.out
        have hcz25_0 : w18.cell? ⟨gb248, 0, none⟩ = some (.int .u8 t243) := (blk_cell BK248.out 0).trans rfl
        have hcz25_1 : w18.cell? ⟨gb248, 1, none⟩ = some (.int .u8 t244) := (blk_cell BK248.out 1).trans rfl
        have hcz25_2 : w18.cell? ⟨gb248, 2, none⟩ = some (.int .u8 t245) := (blk_cell BK248.out 2).trans rfl
        have hcz25_3 : w18.cell? ⟨gb248, 3, none⟩ = some (.int .u8 t246) := (blk_cell BK248.out 3).trans rfl
        have hfz25_0 := blk_frozen BK248.out 0
        have hfz25_1 := blk_frozen BK248.out 1
        have hfz25_2 := blk_frozen BK248.out 2
        have hfz25_3 := blk_frozen BK248.out 3
        have hnb26 := NB254_237.out
        have hnc26 := NB237_254.out
        have hcz27_0 : w18.cell? ⟨gb254, 0, none⟩ = some (.int .u8 0) := (blk_cell BK254.out 0).trans rfl
        have hcz27_1 : w18.cell? ⟨gb254, 1, none⟩ = some (.int .u8 0) := (blk_cell BK254.out 1).trans rfl
        have hcz27_2 : w18.cell? ⟨gb254, 2, none⟩ = some (.int .u8 0) := (blk_cell BK254.out 2).trans rfl
        have hcz27_3 : w18.cell? ⟨gb254, 3, none⟩ = some (.int .u8 0) := (blk_cell BK254.out 3).trans rfl
        have hfz27_0 := blk_frozen BK254.out 0
        have hfz27_1 := blk_frozen BK254.out 1
        have hfz27_2 := blk_frozen BK254.out 2
        have hfz27_3 := blk_frozen BK254.out 3
        go_wp2
        go_meet
        case rel => exact ⟨_, (true), (by first | rfl | (simp; done) | (simp [*]; done)), H', ⟨by first | omega | exact Nat.le_refl _⟩, ⟨by (with_reducible repeat (first | refine blk_drewN ?_ _ | refine blk_drew ?_ | refine blk_alloc ?_ _)); refine blk_far ?_ NB237_254.out _; (with_reducible repeat (first | refine blk_drewN ?_ _ | refine blk_drew ?_ | refine blk_alloc ?_ _)); refine blk_far ?_ NB237_254.out _; (with_reducible repeat (first | refine blk_drewN ?_ _ | refine blk_drew ?_ | refine blk_alloc ?_ _)); refine blk_far ?_ NB237_254.out _; (with_reducible repeat (first | refine blk_drewN ?_ _ | refine blk_drew ?_ | refine blk_alloc ?_ _)); refine blk_far ?_ NB237_254.out _; (with_reducible repeat (first | refine blk_drewN ?_ _ | refine blk_drew ?_ | refine blk_alloc ?_ _)); exact BK237.out⟩, ⟨by (with_reducible repeat (first | refine blk_drewN ?_ _ | refine blk_drew ?_ | refine blk_alloc ?_ _)); refine blk_far ?_ NB248_254.out _; (with_reducible repeat (first | refine blk_drewN ?_ _ | refine blk_drew ?_ | refine blk_alloc ?_ _)); refine blk_far ?_ NB248_254.out _; (with_reducible repeat (first | refine blk_drewN ?_ _ | refine blk_drew ?_ | refine blk_alloc ?_ _)); refine blk_far ?_ NB248_254.out _; (with_reducible repeat (first | refine blk_drewN ?_ _ | refine blk_drew ?_ | refine blk_alloc ?_ _)); refine blk_far ?_ NB248_254.out _; (with_reducible repeat (first | refine blk_drewN ?_ _ | refine blk_drew ?_ | refine blk_alloc ?_ _)); exact BK248.out⟩, ⟨by (with_reducible repeat (first | refine blk_drewN ?_ _ | refine blk_drew ?_ | refine blk_alloc ?_ _)); refine blk_put (cs := #[.int .u8 t249, .int .u8 t250, .int .u8 t251, .int .u8 0]) ?_ 3 _ rfl; (with_reducible repeat (first | refine blk_drewN ?_ _ | refine blk_drew ?_ | refine blk_alloc ?_ _)); refine blk_put (cs := #[.int .u8 t249, .int .u8 t250, .int .u8 0, .int .u8 0]) ?_ 2 _ rfl; (with_reducible repeat (first | refine blk_drewN ?_ _ | refine blk_drew ?_ | refine blk_alloc ?_ _)); refine blk_put (cs := #[.int .u8 t249, .int .u8 0, .int .u8 0, .int .u8 0]) ?_ 1 _ rfl; (with_reducible repeat (first | refine blk_drewN ?_ _ | refine blk_drew ?_ | refine blk_alloc ?_ _)); refine blk_put (cs := #[.int .u8 0, .int .u8 0, .int .u8 0, .int .u8 0]) ?_ 0 _ rfl; (with_reducible repeat (first | refine blk_drewN ?_ _ | refine blk_drew ?_ | refine blk_alloc ?_ _)); exact BK254.out⟩, ⟨by repeat (first | (with_reducible first | exact HB.out | apply below_alloc | apply pw_below_drewN | apply below_drew1 | refine below_set ?_ GE237.out | refine below_set ?_ GE248.out | refine below_set ?_ GE254.out) | exact HB.out)⟩⟩
      · rw [if_neg c22] at H
        have c22b0 : (!(t243 == t249) || (!(t244 == t250) || (!(t245 == t251) || (!(t246 == t252))))) = false := by simpa using c22
        clear c22
        (first | rw [c22b0] | (simp only [i64_w, i32_w]; rw [c22b0]) | skip)
        have H' := Aside0.mk H
        clear H
        have hnb28 := NB248_237.out
        have hnc28 := NB237_248.out
        have hnb29 := NB248_254.out
        have hnc29 := NB254_248.out
        have hcz30_0 : w18.cell? ⟨gb248, 0, none⟩ = some (.int .u8 t243) := (blk_cell BK248.out 0).trans rfl
        have hcz30_1 : w18.cell? ⟨gb248, 1, none⟩ = some (.int .u8 t244) := (blk_cell BK248.out 1).trans rfl
        have hcz30_2 : w18.cell? ⟨gb248, 2, none⟩ = some (.int .u8 t245) := (blk_cell BK248.out 2).trans rfl
        have hcz30_3 : w18.cell? ⟨gb248, 3, none⟩ = some (.int .u8 t246) := (blk_cell BK248.out 3).trans rfl
        have hfz30_0 := blk_frozen BK248.out 0
        have hfz30_1 := blk_frozen BK248.out 1
        have hfz30_2 := blk_frozen BK248.out 2
        have hfz30_3 := blk_frozen BK248.out 3
        have hnb31 := NB254_237.out
        have hnc31 := NB237_254.out
        have hcz32_0 : w18.cell? ⟨gb254, 0, none⟩ = some (.int .u8 0) := (blk_cell BK254.out 0).trans rfl
        have hcz32_1 : w18.cell? ⟨gb254, 1, none⟩ = some (.int .u8 0) := (blk_cell BK254.out 1).trans rfl
        have hcz32_2 : w18.cell? ⟨gb254, 2, none⟩ = some (.int .u8 0) := (blk_cell BK254.out 2).trans rfl
        have hcz32_3 : w18.cell? ⟨gb254, 3, none⟩ = some (.int .u8 0) := (blk_cell BK254.out 3).trans rfl
        have hfz32_0 := blk_frozen BK254.out 0
        have hfz32_1 := blk_frozen BK254.out 1
        have hfz32_2 := blk_frozen BK254.out 2
        have hfz32_3 := blk_frozen BK254.out 3
        go_wp2
        go_meet
        case rel => exact ⟨_, ((t247 != t253)), (by first | rfl | (simp; done) | (simp [*]; done)), H', ⟨by first | omega | exact Nat.le_refl _⟩, ⟨by (with_reducible repeat (first | refine blk_drewN ?_ _ | refine blk_drew ?_ | refine blk_alloc ?_ _)); refine blk_far ?_ NB237_254.out _; (with_reducible repeat (first | refine blk_drewN ?_ _ | refine blk_drew ?_ | refine blk_alloc ?_ _)); refine blk_far ?_ NB237_254.out _; (with_reducible repeat (first | refine blk_drewN ?_ _ | refine blk_drew ?_ | refine blk_alloc ?_ _)); refine blk_far ?_ NB237_254.out _; (with_reducible repeat (first | refine blk_drewN ?_ _ | refine blk_drew ?_ | refine blk_alloc ?_ _)); refine blk_far ?_ NB237_254.out _; (with_reducible repeat (first | refine blk_drewN ?_ _ | refine blk_drew ?_ | refine blk_alloc ?_ _)); exact BK237.out⟩, ⟨by (with_reducible repeat (first | refine blk_drewN ?_ _ | refine blk_drew ?_ | refine blk_alloc ?_ _)); refine blk_far ?_ NB248_254.out _; (with_reducible repeat (first | refine blk_drewN ?_ _ | refine blk_drew ?_ | refine blk_alloc ?_ _)); refine blk_far ?_ NB248_254.out _; (with_reducible repeat (first | refine blk_drewN ?_ _ | refine blk_drew ?_ | refine blk_alloc ?_ _)); refine blk_far ?_ NB248_254.out _; (with_reducible repeat (first | refine blk_drewN ?_ _ | refine blk_drew ?_ | refine blk_alloc ?_ _)); refine blk_far ?_ NB248_254.out _; (with_reducible repeat (first | refine blk_drewN ?_ _ | refine blk_drew ?_ | refine blk_alloc ?_ _)); exact BK248.out⟩, ⟨by (with_reducible repeat (first | refine blk_drewN ?_ _ | refine blk_drew ?_ | refine blk_alloc ?_ _)); refine blk_put (cs := #[.int .u8 t249, .int .u8 t250, .int .u8 t251, .int .u8 0]) ?_ 3 _ rfl; (with_reducible repeat (first | refine blk_drewN ?_ _ | refine blk_drew ?_ | refine blk_alloc ?_ _)); refine blk_put (cs := #[.int .u8 t249, .int .u8 t250, .int .u8 0, .int .u8 0]) ?_ 2 _ rfl; (with_reducible repeat (first | refine blk_drewN ?_ _ | refine blk_drew ?_ | refine blk_alloc ?_ _)); refine blk_put (cs := #[.int .u8 t249, .int .u8 0, .int .u8 0, .int .u8 0]) ?_ 1 _ rfl; (with_reducible repeat (first | refine blk_drewN ?_ _ | refine blk_drew ?_ | refine blk_alloc ?_ _)); refine blk_put (cs := #[.int .u8 0, .int .u8 0, .int .u8 0, .int .u8 0]) ?_ 0 _ rfl; (with_reducible repeat (first | refine blk_drewN ?_ _ | refine blk_drew ?_ | refine blk_alloc ?_ _)); exact BK254.out⟩, ⟨by repeat (first | (with_reducible first | exact HB.out | apply below_alloc | apply pw_below_drewN | apply below_drew1 | refine below_set ?_ GE237.out | refine below_set ?_ GE248.out | refine below_set ?_ GE254.out) | exact HB.out)⟩⟩
    case rest =>
      clear HC7
      try clear c1
      try clear c2
      try clear p2
      try clear c3
      try clear c7
      try clear c13
      try clear c14
      try clear c19
      try clear c20
      try clear c22
      try clear c22b0
      try clear c23
      try clear c24
      try clear c26
      try clear c28
      try clear c29
      try clear c31
      try clear hcz10_0
      try clear hcz10_1
      try clear hcz10_2
      try clear hcz10_3
      try clear hcz15_0
      try clear hcz15_1
      try clear hcz15_2
      try clear hcz15_3
      try clear hcz16_0
      try clear hcz16_1
      try clear hcz16_2
      try clear hcz16_3
      try clear hcz21_0
      try clear hcz21_1
      try clear hcz21_2
      try clear hcz21_3
      try clear hcz25_0
      try clear hcz25_1
      try clear hcz25_2
      try clear hcz25_3
      try clear hcz27_0
      try clear hcz27_1
      try clear hcz27_2
      try clear hcz27_3
      try clear hcz30_0
      try clear hcz30_1
      try clear hcz30_2
      try clear hcz30_3
      try clear hcz32_0
      try clear hcz32_1
      try clear hcz32_2
      try clear hcz32_3
      try clear hfz10_0
      try clear hfz10_1
      try clear hfz10_2
      try clear hfz10_3
      try clear hfz15_0
      try clear hfz15_1
      try clear hfz15_2
      try clear hfz15_3
      try clear hfz16_0
      try clear hfz16_1
      try clear hfz16_2
      try clear hfz16_3
      try clear hfz21_0
      try clear hfz21_1
      try clear hfz21_2
      try clear hfz21_3
      try clear hfz25_0
      try clear hfz25_1
      try clear hfz25_2
      try clear hfz25_3
      try clear hfz27_0
      try clear hfz27_1
      try clear hfz27_2
      try clear hfz27_3
      try clear hfz30_0
      try clear hfz30_1
      try clear hfz30_2
      try clear hfz30_3
      try clear hfz32_0
      try clear hfz32_1
      try clear hfz32_2
      try clear hfz32_3
      obtain ⟨kq, x29_6, rfl, HA, HJ6, BK237, BK248, BK254, HB⟩ := hcut
      cases kq with
      | zero => exact absurd HA.out (by simp [replevinlaw16_InstrEncodes.j0])
      | succ kj6 =>
        have H := HA.out
        clear HA
        simp only [replevinlaw16_InstrEncodes.j0] at H
        by_cases c33 : x29_6 = true
        · subst c33
          have H1 : (some false) = some r := by rw [if_pos rfl] at H; exact H
          clear H
          have H := H1
          clear H1
          obtain rfl := Option.some.inj H
          go_wp2
          go_ret
          exact ⟨by first | rfl | (simp [errW_none, errW_some] <;> rfl) | (simp [*, errW_none, errW_some] <;> rfl), by repeat (first | (with_reducible first | exact HB.out | apply below_alloc | apply pw_below_drewN | apply below_drew1 | refine below_set ?_ GE237.out | refine below_set ?_ GE248.out | refine below_set ?_ GE254.out) | exact HB.out)⟩
        · replace c33 := Bool.eq_false_iff.mpr c33
          subst c33
          have H1 : (if t247 = 0 then ((instr_Decode.f kj6 t243 t244 t245 t246).bind fun bt255 => (if bt255.2.2.2.2 = 0 then ((replevinlaw16_Of.f bt255.1 bt255.2.1 bt255.2.2.1 bt255.2.2.2.1).bind fun bt261 => (some (bt261.1 == a0_0 && (bt261.2.1 == a0_1 && (bt261.2.2.1 == a0_2 && (bt261.2.2.2 == a0_3)))))) else (some false))) else (some true)) = some r := by rw [if_neg (show ¬ (false = true) by decide)] at H; exact H
          clear H
          have H := H1
          clear H1
          by_cases c34 : t247 = 0
          · rw [if_pos c34] at H
            have c34b0 : (t247 == 0) = true := beq_iff_eq.mpr c34
            have c34b1 : (t247 != 0) = false := bne_eq_false_iff_eq.mpr c34
            clear c34
            replace H := Option.bind_eq_some_iff.mp H
            obtain ⟨⟨t255, t256, t257, t258, t259⟩, A350, H⟩ := H
            replace H : (if t259 = 0 then ((replevinlaw16_Of.f t255 t256 t257 t258).bind fun bt261 => (some (bt261.1 == a0_0 && (bt261.2.1 == a0_1 && (bt261.2.2.1 == a0_2 && (bt261.2.2.2 == a0_3)))))) else (some false)) = some r := H
            have A35 := Aside0.mk A350
            clear A350
            by_cases c36 : t259 = 0
            · rw [if_pos c36] at H
              have c36b0 : (t259 == 0) = true := beq_iff_eq.mpr c36
              have c36b1 : (t259 != 0) = false := bne_eq_false_iff_eq.mpr c36
              clear c36
              replace H := Option.bind_eq_some_iff.mp H
              obtain ⟨⟨t261, t262, t263, t264⟩, A370, H⟩ := H
              replace H : (some (t261 == a0_0 && (t262 == a0_1 && (t263 == a0_2 && (t264 == a0_3))))) = some r := H
              have A37 := Aside0.mk A370
              clear A370
              obtain rfl := Option.some.inj H
              have hnb38 := NB248_237.out
              have hnc38 := NB237_248.out
              have hnb39 := NB248_254.out
              have hnc39 := NB254_248.out
              have hcz40_0 : wc.cell? ⟨gb248, 0, none⟩ = some (.int .u8 t243) := (blk_cell BK248.out 0).trans rfl
              have hcz40_1 : wc.cell? ⟨gb248, 1, none⟩ = some (.int .u8 t244) := (blk_cell BK248.out 1).trans rfl
              have hcz40_2 : wc.cell? ⟨gb248, 2, none⟩ = some (.int .u8 t245) := (blk_cell BK248.out 2).trans rfl
              have hcz40_3 : wc.cell? ⟨gb248, 3, none⟩ = some (.int .u8 t246) := (blk_cell BK248.out 3).trans rfl
              have hfz40_0 := blk_frozen BK248.out 0
              have hfz40_1 := blk_frozen BK248.out 1
              have hfz40_2 := blk_frozen BK248.out 2
              have hfz40_3 := blk_frozen BK248.out 3
              try go_wp2_with (first | ((with_reducible refine gate_callee (f := 25) rfl ?_); refine goesL_ (some 34) rfl rfl Try.func25 (by kernel_rfl) rfl #[.agg #[.int .u8 t243, .int .u8 t244, .int .u8 t245, .int .u8 t246]] rfl (by (try simp only [List.map_toArray, List.map_cons, List.map_nil]); first | done | rfl | (simp only [List.length_drop, List.length_take]; rfl)) ?_; (with_reducible refine (instr_Decode.calls kj6 t243 t244 t245 t246 t255 t256 t257 t258 t259 _ A35.out).mono ?_); rintro e w41 ⟨rfl, hb⟩; refine ⟨_, rfl, ?_⟩; have n0_ := Aside0.mk (blk_below (g := gb237) (o := .cells #[.int .i64 a0_0, .int .i64 a0_1, .int .i64 a0_2, .int .i64 a0_3] 23 (0, 0)) (by (with_reducible repeat (first | refine blk_drewN ?_ _ | refine blk_drew ?_ | refine blk_alloc ?_ _)); exact BK237.out) hb); have n1_ := Aside0.mk (blk_below (g := gb248) (o := .cells #[.int .u8 t243, .int .u8 t244, .int .u8 t245, .int .u8 t246] 41 (0, 0)) (by (with_reducible repeat (first | refine blk_drewN ?_ _ | refine blk_drew ?_ | refine blk_alloc ?_ _)); exact BK248.out) hb); have n2_ := Aside0.mk (blk_below (g := gb254) (o := .cells #[.int .u8 t249, .int .u8 t250, .int .u8 t251, .int .u8 t252] 41 (0, 0)) (by (with_reducible repeat (first | refine blk_drewN ?_ _ | refine blk_drew ?_ | refine blk_alloc ?_ _)); exact BK254.out) hb); have n3_ := Aside0.mk (below_step (by repeat (first | (with_reducible first | exact HB.out | apply below_alloc | apply pw_below_drewN | apply below_drew1 | refine below_set ?_ GE237.out | refine below_set ?_ GE248.out | refine below_set ?_ GE254.out) | exact HB.out)) hb); clear BK237; clear BK248; clear BK254; clear HB; have BK237 := n0_; have BK248 := n1_; have BK254 := n2_; have HB := n3_; clear n0_ n1_ n2_ n3_; (try clear hb); (try clear hb2); (try clear hk); (try clear hi)) | ((with_reducible refine gate_dst (N := 7) rfl ?_); refine box_event ?hg (N := 7) ?hd (cs := #[.int .i64 0, .int .i64 0, .int .i64 0, .int .i64 0]) (t := 26) ?hr ?_; (case hd => rfl); (case hg => rfl); (case hr => first | (go_simp; done) | (go_simp; rfl)); intro gb260 hg w42 hbox hb; have n0_ := Aside0.mk (blk_below (g := gb237) (o := .cells #[.int .i64 a0_0, .int .i64 a0_1, .int .i64 a0_2, .int .i64 a0_3] 23 (0, 0)) (by (with_reducible repeat (first | refine blk_drewN ?_ _ | refine blk_drew ?_ | refine blk_alloc ?_ _)); exact BK237.out) hb); have n1_ := Aside0.mk (blk_below (g := gb248) (o := .cells #[.int .u8 t243, .int .u8 t244, .int .u8 t245, .int .u8 t246] 41 (0, 0)) (by (with_reducible repeat (first | refine blk_drewN ?_ _ | refine blk_drew ?_ | refine blk_alloc ?_ _)); exact BK248.out) hb); have n2_ := Aside0.mk (blk_below (g := gb254) (o := .cells #[.int .u8 t249, .int .u8 t250, .int .u8 t251, .int .u8 t252] 41 (0, 0)) (by (with_reducible repeat (first | refine blk_drewN ?_ _ | refine blk_drew ?_ | refine blk_alloc ?_ _)); exact BK254.out) hb); have n3_ := Aside0.mk (below_step (by repeat (first | (with_reducible first | exact HB.out | apply below_alloc | apply pw_below_drewN | apply below_drew1 | refine below_set ?_ GE237.out | refine below_set ?_ GE248.out | refine below_set ?_ GE254.out) | exact HB.out)) hb); have n4_ := Aside0.mk (hbox); have n5_ := Aside0.mk ((by rw [hg]; exact (below_size (by repeat (first | (with_reducible first | exact HB.out | apply below_alloc | apply pw_below_drewN | apply below_drew1 | refine below_set ?_ GE237.out | refine below_set ?_ GE248.out | refine below_set ?_ GE254.out) | exact HB.out))) : w.heap.size ≤ gb260)); have n6_ := Aside0.mk ((by rw [hg]; exact (below_size (by repeat (first | (with_reducible first | exact HB.out | apply below_alloc | apply pw_below_drewN | apply below_drew1 | refine below_set ?_ GE237.out | refine below_set ?_ GE248.out | refine below_set ?_ GE254.out) | exact HB.out))) : w.heap.size ≤ gb260)); have n7_ := Aside0.mk ((by rw [hg]; exact Nat.ne_of_lt (blk_lt (g := gb237) (o := .cells #[.int .i64 a0_0, .int .i64 a0_1, .int .i64 a0_2, .int .i64 a0_3] 23 (0, 0)) (by (with_reducible repeat (first | refine blk_drewN ?_ _ | refine blk_drew ?_ | refine blk_alloc ?_ _)); exact BK237.out)) : gb237 ≠ gb260)); have n8_ := Aside0.mk ((by rw [hg]; exact Nat.ne_of_gt (blk_lt (g := gb237) (o := .cells #[.int .i64 a0_0, .int .i64 a0_1, .int .i64 a0_2, .int .i64 a0_3] 23 (0, 0)) (by (with_reducible repeat (first | refine blk_drewN ?_ _ | refine blk_drew ?_ | refine blk_alloc ?_ _)); exact BK237.out)) : gb260 ≠ gb237)); have n9_ := Aside0.mk ((by rw [hg]; exact Nat.ne_of_lt (blk_lt (g := gb248) (o := .cells #[.int .u8 t243, .int .u8 t244, .int .u8 t245, .int .u8 t246] 41 (0, 0)) (by (with_reducible repeat (first | refine blk_drewN ?_ _ | refine blk_drew ?_ | refine blk_alloc ?_ _)); exact BK248.out)) : gb248 ≠ gb260)); have n10_ := Aside0.mk ((by rw [hg]; exact Nat.ne_of_gt (blk_lt (g := gb248) (o := .cells #[.int .u8 t243, .int .u8 t244, .int .u8 t245, .int .u8 t246] 41 (0, 0)) (by (with_reducible repeat (first | refine blk_drewN ?_ _ | refine blk_drew ?_ | refine blk_alloc ?_ _)); exact BK248.out)) : gb260 ≠ gb248)); have n11_ := Aside0.mk ((by rw [hg]; exact Nat.ne_of_lt (blk_lt (g := gb254) (o := .cells #[.int .u8 t249, .int .u8 t250, .int .u8 t251, .int .u8 t252] 41 (0, 0)) (by (with_reducible repeat (first | refine blk_drewN ?_ _ | refine blk_drew ?_ | refine blk_alloc ?_ _)); exact BK254.out)) : gb254 ≠ gb260)); have n12_ := Aside0.mk ((by rw [hg]; exact Nat.ne_of_gt (blk_lt (g := gb254) (o := .cells #[.int .u8 t249, .int .u8 t250, .int .u8 t251, .int .u8 t252] 41 (0, 0)) (by (with_reducible repeat (first | refine blk_drewN ?_ _ | refine blk_drew ?_ | refine blk_alloc ?_ _)); exact BK254.out)) : gb260 ≠ gb254)); clear BK237; clear BK248; clear BK254; clear HB; have BK237 := n0_; have BK248 := n1_; have BK254 := n2_; have HB := n3_; have BK260 := n4_; have GW260 := n5_; have GE260 := n6_; have NB237_260 := n7_; have NB260_237 := n8_; have NB248_260 := n9_; have NB260_248 := n10_; have NB254_260 := n11_; have NB260_254 := n12_; clear n0_ n1_ n2_ n3_ n4_ n5_ n6_ n7_ n8_ n9_ n10_ n11_ n12_; clear hb hbox hg; have hnb43 := NB260_237.out; have hnc43 := NB237_260.out; have hnb44 := NB260_248.out; have hnc44 := NB248_260.out; have hnb45 := NB260_254.out; have hnc45 := NB254_260.out; have hcz46_0 : w42.cell? ⟨gb260, 0, none⟩ = some (.int .i64 0) := (blk_cell BK260.out 0).trans rfl; have hcz46_1 : w42.cell? ⟨gb260, 1, none⟩ = some (.int .i64 0) := (blk_cell BK260.out 1).trans rfl; have hcz46_2 : w42.cell? ⟨gb260, 2, none⟩ = some (.int .i64 0) := (blk_cell BK260.out 2).trans rfl; have hcz46_3 : w42.cell? ⟨gb260, 3, none⟩ = some (.int .i64 0) := (blk_cell BK260.out 3).trans rfl; have hfz46_0 := blk_frozen BK260.out 0; have hfz46_1 := blk_frozen BK260.out 1; have hfz46_2 := blk_frozen BK260.out 2; have hfz46_3 := blk_frozen BK260.out 3))
              have n0_ : Aside0 (((((w42.setCell ⟨gb260, 0, none⟩ (.int .i64 t255)).setCell ⟨gb260, 1, none⟩ (.int .i64 t256)).setCell ⟨gb260, 2, none⟩ (.int .i64 t257)).setCell ⟨gb260, 3, none⟩ (.int .i64 t258)).heap[gb237]? = some (.cells #[.int .i64 a0_0, .int .i64 a0_1, .int .i64 a0_2, .int .i64 a0_3] 23 (0, 0))) := ⟨by (with_reducible repeat (first | refine blk_drewN ?_ _ | refine blk_drew ?_ | refine blk_alloc ?_ _)); refine blk_far ?_ NB237_260.out _; (with_reducible repeat (first | refine blk_drewN ?_ _ | refine blk_drew ?_ | refine blk_alloc ?_ _)); refine blk_far ?_ NB237_260.out _; (with_reducible repeat (first | refine blk_drewN ?_ _ | refine blk_drew ?_ | refine blk_alloc ?_ _)); refine blk_far ?_ NB237_260.out _; (with_reducible repeat (first | refine blk_drewN ?_ _ | refine blk_drew ?_ | refine blk_alloc ?_ _)); refine blk_far ?_ NB237_260.out _; (with_reducible repeat (first | refine blk_drewN ?_ _ | refine blk_drew ?_ | refine blk_alloc ?_ _)); exact BK237.out⟩
              have n1_ : Aside0 (((((w42.setCell ⟨gb260, 0, none⟩ (.int .i64 t255)).setCell ⟨gb260, 1, none⟩ (.int .i64 t256)).setCell ⟨gb260, 2, none⟩ (.int .i64 t257)).setCell ⟨gb260, 3, none⟩ (.int .i64 t258)).heap[gb248]? = some (.cells #[.int .u8 t243, .int .u8 t244, .int .u8 t245, .int .u8 t246] 41 (0, 0))) := ⟨by (with_reducible repeat (first | refine blk_drewN ?_ _ | refine blk_drew ?_ | refine blk_alloc ?_ _)); refine blk_far ?_ NB248_260.out _; (with_reducible repeat (first | refine blk_drewN ?_ _ | refine blk_drew ?_ | refine blk_alloc ?_ _)); refine blk_far ?_ NB248_260.out _; (with_reducible repeat (first | refine blk_drewN ?_ _ | refine blk_drew ?_ | refine blk_alloc ?_ _)); refine blk_far ?_ NB248_260.out _; (with_reducible repeat (first | refine blk_drewN ?_ _ | refine blk_drew ?_ | refine blk_alloc ?_ _)); refine blk_far ?_ NB248_260.out _; (with_reducible repeat (first | refine blk_drewN ?_ _ | refine blk_drew ?_ | refine blk_alloc ?_ _)); exact BK248.out⟩
              have n2_ : Aside0 (((((w42.setCell ⟨gb260, 0, none⟩ (.int .i64 t255)).setCell ⟨gb260, 1, none⟩ (.int .i64 t256)).setCell ⟨gb260, 2, none⟩ (.int .i64 t257)).setCell ⟨gb260, 3, none⟩ (.int .i64 t258)).heap[gb254]? = some (.cells #[.int .u8 t249, .int .u8 t250, .int .u8 t251, .int .u8 t252] 41 (0, 0))) := ⟨by (with_reducible repeat (first | refine blk_drewN ?_ _ | refine blk_drew ?_ | refine blk_alloc ?_ _)); refine blk_far ?_ NB254_260.out _; (with_reducible repeat (first | refine blk_drewN ?_ _ | refine blk_drew ?_ | refine blk_alloc ?_ _)); refine blk_far ?_ NB254_260.out _; (with_reducible repeat (first | refine blk_drewN ?_ _ | refine blk_drew ?_ | refine blk_alloc ?_ _)); refine blk_far ?_ NB254_260.out _; (with_reducible repeat (first | refine blk_drewN ?_ _ | refine blk_drew ?_ | refine blk_alloc ?_ _)); refine blk_far ?_ NB254_260.out _; (with_reducible repeat (first | refine blk_drewN ?_ _ | refine blk_drew ?_ | refine blk_alloc ?_ _)); exact BK254.out⟩
              have n3_ : Aside0 (((((w42.setCell ⟨gb260, 0, none⟩ (.int .i64 t255)).setCell ⟨gb260, 1, none⟩ (.int .i64 t256)).setCell ⟨gb260, 2, none⟩ (.int .i64 t257)).setCell ⟨gb260, 3, none⟩ (.int .i64 t258)).heap[gb260]? = some (.cells #[.int .i64 t255, .int .i64 t256, .int .i64 t257, .int .i64 t258] 26 (0, 0))) := ⟨by (with_reducible repeat (first | refine blk_drewN ?_ _ | refine blk_drew ?_ | refine blk_alloc ?_ _)); refine blk_put (cs := #[.int .i64 t255, .int .i64 t256, .int .i64 t257, .int .i64 0]) ?_ 3 _ rfl; (with_reducible repeat (first | refine blk_drewN ?_ _ | refine blk_drew ?_ | refine blk_alloc ?_ _)); refine blk_put (cs := #[.int .i64 t255, .int .i64 t256, .int .i64 0, .int .i64 0]) ?_ 2 _ rfl; (with_reducible repeat (first | refine blk_drewN ?_ _ | refine blk_drew ?_ | refine blk_alloc ?_ _)); refine blk_put (cs := #[.int .i64 t255, .int .i64 0, .int .i64 0, .int .i64 0]) ?_ 1 _ rfl; (with_reducible repeat (first | refine blk_drewN ?_ _ | refine blk_drew ?_ | refine blk_alloc ?_ _)); refine blk_put (cs := #[.int .i64 0, .int .i64 0, .int .i64 0, .int .i64 0]) ?_ 0 _ rfl; (with_reducible repeat (first | refine blk_drewN ?_ _ | refine blk_drew ?_ | refine blk_alloc ?_ _)); exact BK260.out⟩
              have n4_ : Aside0 (Below w.heap.size w ((((w42.setCell ⟨gb260, 0, none⟩ (.int .i64 t255)).setCell ⟨gb260, 1, none⟩ (.int .i64 t256)).setCell ⟨gb260, 2, none⟩ (.int .i64 t257)).setCell ⟨gb260, 3, none⟩ (.int .i64 t258))) := ⟨by repeat (first | (with_reducible first | exact HB.out | apply below_alloc | apply pw_below_drewN | apply below_drew1 | refine below_set ?_ GE237.out | refine below_set ?_ GE248.out | refine below_set ?_ GE254.out | refine below_set ?_ GE260.out) | exact HB.out)⟩
              (try clear BK237)
              (try clear BK248)
              (try clear BK254)
              (try clear BK260)
              (try clear HB)
              generalize ((((w42.setCell ⟨gb260, 0, none⟩ (.int .i64 t255)).setCell ⟨gb260, 1, none⟩ (.int .i64 t256)).setCell ⟨gb260, 2, none⟩ (.int .i64 t257)).setCell ⟨gb260, 3, none⟩ (.int .i64 t258)) = w47 at n0_ n1_ n2_ n3_ n4_ ⊢
              have BK237 := n0_
              have BK248 := n1_
              have BK254 := n2_
              have BK260 := n3_
              have HB := n4_
              clear n0_ n1_ n2_ n3_ n4_
              have n0_ := Aside0.mk (blk_drew BK237.out)
              have n1_ := Aside0.mk (blk_drew BK248.out)
              have n2_ := Aside0.mk (blk_drew BK254.out)
              have n3_ := Aside0.mk (blk_drew BK260.out)
              have n4_ := Aside0.mk (below_drew1 HB.out)
              clear BK237
              clear BK248
              clear BK254
              clear BK260
              clear HB
              have BK237 := n0_
              have BK248 := n1_
              have BK254 := n2_
              have BK260 := n3_
              have HB := n4_
              clear n0_ n1_ n2_ n3_ n4_
              refine start_ (n := 9) (S := fun w' => w'.cell? ⟨gb260, 0, none⟩ = some (.int .i64 t255) ∧ w'.cell? ⟨gb260, 1, none⟩ = some (.int .i64 t256) ∧ w'.cell? ⟨gb260, 2, none⟩ = some (.int .i64 t257) ∧ w'.cell? ⟨gb260, 3, none⟩ = some (.int .i64 t258) ∧ w'.cell? ⟨gb237, 0, none⟩ = some (.int .i64 a0_0) ∧ w'.cell? ⟨gb237, 1, none⟩ = some (.int .i64 a0_1) ∧ w'.cell? ⟨gb237, 2, none⟩ = some (.int .i64 a0_2) ∧ w'.cell? ⟨gb237, 3, none⟩ = some (.int .i64 a0_3)) (ds := []) #[false, false, false, false, false, false, false, false, false] (by kernel_rfl) rfl rfl ⟨(blk_cell BK260.out 0).trans rfl, (blk_cell BK260.out 1).trans rfl, (blk_cell BK260.out 2).trans rfl, (blk_cell BK260.out 3).trans rfl, (blk_cell BK237.out 0).trans rfl, (blk_cell BK237.out 1).trans rfl, (blk_cell BK237.out 2).trans rfl, (blk_cell BK237.out 3).trans rfl⟩ (fun hHeld => ?_); refine with_tabW replevinlaw16_InstrEncodes.tab10 replevinlaw16_InstrEncodes.bits10 (fun HT_ HW_ => ?_)
              generalize w47.drew = w48 at BK237 BK248 BK254 BK260 HB hHeld ⊢
              refine pure_ (i := 0) (N := some 37) (v := ?_) (a' := ?_) #[true, false, false, false, false, false, false, false, false] rfl rfl (any_of HT_.out (by kernel_rfl)) (fun _ _ _ h => h) (Or.inl ⟨by rfl, ?_⟩) ?_ ?_
              rotate_left
              · intro w'
                go_simp
                with_reducible rfl
              rotate_left
              · simp only [Act.put, List.setIfInBounds_toArray, List.set_cons_zero, List.set_cons_succ, i64_w, i32_w]
                rfl
              refine pure_ (i := 1) (N := some 38) (v := ?_) (a' := ?_) #[true, true, false, false, false, false, false, false, false] rfl rfl (any_of HT_.out (by kernel_rfl)) (fun _ _ _ h => h) (Or.inl ⟨by rfl, ?_⟩) ?_ ?_
              rotate_left
              · intro w'
                go_simp
                with_reducible rfl
              rotate_left
              · simp only [Act.put, List.setIfInBounds_toArray, List.set_cons_zero, List.set_cons_succ, i64_w, i32_w]
                rfl
              refine pure_ (i := 2) (N := some 39) (v := ?_) (a' := ?_) #[true, true, true, false, false, false, false, false, false] rfl rfl (any_of HT_.out (by kernel_rfl)) (fun _ _ _ h => h) (Or.inl ⟨by rfl, ?_⟩) ?_ ?_
              rotate_left
              · intro w'
                go_simp
                with_reducible rfl
              rotate_left
              · simp only [Act.put, List.setIfInBounds_toArray, List.set_cons_zero, List.set_cons_succ, i64_w, i32_w]
                rfl
              refine take_ (i := 3) (N := some 40) (v := ?_) (a' := ?_) #[true, true, true, true, false, false, false, false, false] rfl rfl (take_ofW HT_.out HW_.out (by kernel_rfl)) (fun _ _ _ h => h) (Or.inl ⟨by rfl, ?_⟩) hHeld ?_ ?_
              rotate_left
              · rintro w' ⟨s0, s1, s2, s3, s4, s5, s6, s7⟩
                go_simp
                with_reducible rfl
              rotate_left
              · simp only [Act.put, List.setIfInBounds_toArray, List.set_cons_zero, List.set_cons_succ, i64_w, i32_w]
                rfl
              refine take_ (i := 5) (N := some 42) (v := ?_) (a' := ?_) #[true, true, true, true, false, true, false, false, false] rfl rfl (take_ofW HT_.out HW_.out (by kernel_rfl)) (fun _ _ _ h => h) (Or.inl ⟨by rfl, ?_⟩) hHeld ?_ ?_
              rotate_left
              · rintro w' ⟨s0, s1, s2, s3, s4, s5, s6, s7⟩
                go_simp
                with_reducible rfl
              rotate_left
              · simp only [Act.put, List.setIfInBounds_toArray, List.set_cons_zero, List.set_cons_succ, i64_w, i32_w]
                rfl
              refine one_ (i := 4) (N := some 41) #[true, true, true, true, true, true, false, false, false] rfl rfl (one_of HT_.out (by kernel_rfl)) (by decide) (fun K hK => ?_)
              refine goes_ Try.func26 (by kernel_rfl) rfl #[.agg #[.int .i64 t255, .int .i64 t256, .int .i64 t257, .int .i64 t258]] (by rfl) rfl rfl (by (try simp only [List.map_toArray, List.map_cons, List.map_nil]); first | done | rfl | (simp only [List.length_drop, List.length_take]; rfl)) ?_
              with_reducible refine (replevinlaw16_Of.calls t255 t256 t257 t258 t261 t262 t263 t264 _ A37.out).mono ?_
              rintro e w49 ⟨rfl, hb⟩
              refine ⟨_, rfl, ?_⟩
              have n0_ := Aside0.mk (blk_below (g := gb237) (o := .cells #[.int .i64 a0_0, .int .i64 a0_1, .int .i64 a0_2, .int .i64 a0_3] 23 (0, 0)) (by (with_reducible repeat (first | refine blk_drewN ?_ _ | refine blk_drew ?_ | refine blk_alloc ?_ _)); exact BK237.out) hb)
              have n1_ := Aside0.mk (blk_below (g := gb248) (o := .cells #[.int .u8 t243, .int .u8 t244, .int .u8 t245, .int .u8 t246] 41 (0, 0)) (by (with_reducible repeat (first | refine blk_drewN ?_ _ | refine blk_drew ?_ | refine blk_alloc ?_ _)); exact BK248.out) hb)
              have n2_ := Aside0.mk (blk_below (g := gb254) (o := .cells #[.int .u8 t249, .int .u8 t250, .int .u8 t251, .int .u8 t252] 41 (0, 0)) (by (with_reducible repeat (first | refine blk_drewN ?_ _ | refine blk_drew ?_ | refine blk_alloc ?_ _)); exact BK254.out) hb)
              have n3_ := Aside0.mk (blk_below (g := gb260) (o := .cells #[.int .i64 t255, .int .i64 t256, .int .i64 t257, .int .i64 t258] 26 (0, 0)) (by (with_reducible repeat (first | refine blk_drewN ?_ _ | refine blk_drew ?_ | refine blk_alloc ?_ _)); exact BK260.out) hb)
              have n4_ := Aside0.mk (below_step (by repeat (first | (with_reducible first | exact HB.out | apply below_alloc | apply pw_below_drewN | apply below_drew1 | refine below_set ?_ GE237.out | refine below_set ?_ GE248.out | refine below_set ?_ GE254.out | refine below_set ?_ GE260.out) | exact HB.out)) hb)
              clear BK237
              clear BK248
              clear BK254
              clear BK260
              clear HB
              have BK237 := n0_
              have BK248 := n1_
              have BK254 := n2_
              have BK260 := n3_
              have HB := n4_
              clear n0_ n1_ n2_ n3_ n4_
              (try clear hb)
              (try clear hb2)
              (try clear hk)
              (try clear hi)
              refine hK.out _ _ ⟨(blk_cell BK260.out 0).trans rfl, (blk_cell BK260.out 1).trans rfl, (blk_cell BK260.out 2).trans rfl, (blk_cell BK260.out 3).trans rfl, (blk_cell BK237.out 0).trans rfl, (blk_cell BK237.out 1).trans rfl, (blk_cell BK237.out 2).trans rfl, (blk_cell BK237.out 3).trans rfl⟩ (fun hHeld => ?_)
              clear hK K
              refine norm_ (a' := ?_) ?_ ?_
              rotate_left
              · show Act.put _ (some 41) _ = _
                simp only [Act.put, List.setIfInBounds_toArray, List.set_cons_zero, List.set_cons_succ, i64_w, i32_w]
                rfl
              refine pure_ (i := 6) (N := some 43) (v := ?_) (a' := ?_) #[true, true, true, true, true, true, true, false, false] rfl rfl (any_of HT_.out (by kernel_rfl)) (fun _ _ _ h => h) (Or.inl ⟨by rfl, ?_⟩) ?_ ?_
              rotate_left
              · intro w'
                go_simp
                with_reducible rfl
              rotate_left
              · simp only [Act.put, List.setIfInBounds_toArray, List.set_cons_zero, List.set_cons_succ, i64_w, i32_w]
                rfl
              refine pure_ (i := 7) (N := some 44) (v := ?_) (a' := ?_) #[true, true, true, true, true, true, true, true, false] rfl rfl (any_of HT_.out (by kernel_rfl)) (fun _ _ _ h => h) (Or.inl ⟨by rfl, ?_⟩) ?_ ?_
              rotate_left
              · intro w'
                go_simp
                with_reducible rfl
              rotate_left
              · simp only [Act.put, List.setIfInBounds_toArray, List.set_cons_zero, List.set_cons_succ, i64_w, i32_w]
                rfl
              refine pure_ (i := 8) (N := some 2) (v := ?_) (a' := ?_) #[true, true, true, true, true, true, true, true, true] rfl rfl (any_of HT_.out (by kernel_rfl)) (fun _ _ _ h => h) (Or.inl ⟨by rfl, ?_⟩) ?_ ?_
              rotate_left
              · intro w'
                go_simp
                with_reducible rfl
              rotate_left
              · simp only [Act.put, List.setIfInBounds_toArray, List.set_cons_zero, List.set_cons_succ, i64_w, i32_w]
                rfl
              refine done_ (done_of HT_.out (by kernel_rfl)) ?_
              try go_wp2
              go_ret
              exact ⟨by first | rfl | (simp [errW_none, errW_some] <;> rfl) | (simp [*, errW_none, errW_some] <;> rfl), by repeat (first | (with_reducible first | exact HB.out | apply below_alloc | apply pw_below_drewN | apply below_drew1 | refine below_set ?_ GE237.out | refine below_set ?_ GE248.out | refine below_set ?_ GE254.out | refine below_set ?_ GE260.out) | exact HB.out)⟩
            · rw [if_neg c36] at H
              have c36b0 : (t259 == 0) = false := beq_eq_false_iff_ne.mpr c36
              have c36b1 : (t259 != 0) = true := bne_iff_ne.mpr c36
              obtain rfl := Option.some.inj H
              have hnb50 := NB248_237.out
              have hnc50 := NB237_248.out
              have hnb51 := NB248_254.out
              have hnc51 := NB254_248.out
              have hcz52_0 : wc.cell? ⟨gb248, 0, none⟩ = some (.int .u8 t243) := (blk_cell BK248.out 0).trans rfl
              have hcz52_1 : wc.cell? ⟨gb248, 1, none⟩ = some (.int .u8 t244) := (blk_cell BK248.out 1).trans rfl
              have hcz52_2 : wc.cell? ⟨gb248, 2, none⟩ = some (.int .u8 t245) := (blk_cell BK248.out 2).trans rfl
              have hcz52_3 : wc.cell? ⟨gb248, 3, none⟩ = some (.int .u8 t246) := (blk_cell BK248.out 3).trans rfl
              have hfz52_0 := blk_frozen BK248.out 0
              have hfz52_1 := blk_frozen BK248.out 1
              have hfz52_2 := blk_frozen BK248.out 2
              have hfz52_3 := blk_frozen BK248.out 3
              try go_wp2_with (first | ((with_reducible refine gate_callee (f := 25) rfl ?_); refine goesL_ (some 34) rfl rfl Try.func25 (by kernel_rfl) rfl #[.agg #[.int .u8 t243, .int .u8 t244, .int .u8 t245, .int .u8 t246]] rfl (by (try simp only [List.map_toArray, List.map_cons, List.map_nil]); first | done | rfl | (simp only [List.length_drop, List.length_take]; rfl)) ?_; (with_reducible refine (instr_Decode.calls kj6 t243 t244 t245 t246 t255 t256 t257 t258 t259 _ A35.out).mono ?_); rintro e w53 ⟨rfl, hb⟩; refine ⟨_, rfl, ?_⟩; have n0_ := Aside0.mk (blk_below (g := gb237) (o := .cells #[.int .i64 a0_0, .int .i64 a0_1, .int .i64 a0_2, .int .i64 a0_3] 23 (0, 0)) (by (with_reducible repeat (first | refine blk_drewN ?_ _ | refine blk_drew ?_ | refine blk_alloc ?_ _)); exact BK237.out) hb); have n1_ := Aside0.mk (blk_below (g := gb248) (o := .cells #[.int .u8 t243, .int .u8 t244, .int .u8 t245, .int .u8 t246] 41 (0, 0)) (by (with_reducible repeat (first | refine blk_drewN ?_ _ | refine blk_drew ?_ | refine blk_alloc ?_ _)); exact BK248.out) hb); have n2_ := Aside0.mk (blk_below (g := gb254) (o := .cells #[.int .u8 t249, .int .u8 t250, .int .u8 t251, .int .u8 t252] 41 (0, 0)) (by (with_reducible repeat (first | refine blk_drewN ?_ _ | refine blk_drew ?_ | refine blk_alloc ?_ _)); exact BK254.out) hb); have n3_ := Aside0.mk (below_step (by repeat (first | (with_reducible first | exact HB.out | apply below_alloc | apply pw_below_drewN | apply below_drew1 | refine below_set ?_ GE237.out | refine below_set ?_ GE248.out | refine below_set ?_ GE254.out) | exact HB.out)) hb); clear BK237; clear BK248; clear BK254; clear HB; have BK237 := n0_; have BK248 := n1_; have BK254 := n2_; have HB := n3_; clear n0_ n1_ n2_ n3_; (try clear hb); (try clear hb2); (try clear hk); (try clear hi)) | ((with_reducible refine gate_dst (N := 7) rfl ?_); refine box_event ?hg (N := 7) ?hd (cs := #[.int .i64 0, .int .i64 0, .int .i64 0, .int .i64 0]) (t := 26) ?hr ?_; (case hd => rfl); (case hg => rfl); (case hr => first | (go_simp; done) | (go_simp; rfl)); intro gb260 hg w54 hbox hb; have n0_ := Aside0.mk (blk_below (g := gb237) (o := .cells #[.int .i64 a0_0, .int .i64 a0_1, .int .i64 a0_2, .int .i64 a0_3] 23 (0, 0)) (by (with_reducible repeat (first | refine blk_drewN ?_ _ | refine blk_drew ?_ | refine blk_alloc ?_ _)); exact BK237.out) hb); have n1_ := Aside0.mk (blk_below (g := gb248) (o := .cells #[.int .u8 t243, .int .u8 t244, .int .u8 t245, .int .u8 t246] 41 (0, 0)) (by (with_reducible repeat (first | refine blk_drewN ?_ _ | refine blk_drew ?_ | refine blk_alloc ?_ _)); exact BK248.out) hb); have n2_ := Aside0.mk (blk_below (g := gb254) (o := .cells #[.int .u8 t249, .int .u8 t250, .int .u8 t251, .int .u8 t252] 41 (0, 0)) (by (with_reducible repeat (first | refine blk_drewN ?_ _ | refine blk_drew ?_ | refine blk_alloc ?_ _)); exact BK254.out) hb); have n3_ := Aside0.mk (below_step (by repeat (first | (with_reducible first | exact HB.out | apply below_alloc | apply pw_below_drewN | apply below_drew1 | refine below_set ?_ GE237.out | refine below_set ?_ GE248.out | refine below_set ?_ GE254.out) | exact HB.out)) hb); have n4_ := Aside0.mk (hbox); have n5_ := Aside0.mk ((by rw [hg]; exact (below_size (by repeat (first | (with_reducible first | exact HB.out | apply below_alloc | apply pw_below_drewN | apply below_drew1 | refine below_set ?_ GE237.out | refine below_set ?_ GE248.out | refine below_set ?_ GE254.out) | exact HB.out))) : w.heap.size ≤ gb260)); have n6_ := Aside0.mk ((by rw [hg]; exact (below_size (by repeat (first | (with_reducible first | exact HB.out | apply below_alloc | apply pw_below_drewN | apply below_drew1 | refine below_set ?_ GE237.out | refine below_set ?_ GE248.out | refine below_set ?_ GE254.out) | exact HB.out))) : w.heap.size ≤ gb260)); have n7_ := Aside0.mk ((by rw [hg]; exact Nat.ne_of_lt (blk_lt (g := gb237) (o := .cells #[.int .i64 a0_0, .int .i64 a0_1, .int .i64 a0_2, .int .i64 a0_3] 23 (0, 0)) (by (with_reducible repeat (first | refine blk_drewN ?_ _ | refine blk_drew ?_ | refine blk_alloc ?_ _)); exact BK237.out)) : gb237 ≠ gb260)); have n8_ := Aside0.mk ((by rw [hg]; exact Nat.ne_of_gt (blk_lt (g := gb237) (o := .cells #[.int .i64 a0_0, .int .i64 a0_1, .int .i64 a0_2, .int .i64 a0_3] 23 (0, 0)) (by (with_reducible repeat (first | refine blk_drewN ?_ _ | refine blk_drew ?_ | refine blk_alloc ?_ _)); exact BK237.out)) : gb260 ≠ gb237)); have n9_ := Aside0.mk ((by rw [hg]; exact Nat.ne_of_lt (blk_lt (g := gb248) (o := .cells #[.int .u8 t243, .int .u8 t244, .int .u8 t245, .int .u8 t246] 41 (0, 0)) (by (with_reducible repeat (first | refine blk_drewN ?_ _ | refine blk_drew ?_ | refine blk_alloc ?_ _)); exact BK248.out)) : gb248 ≠ gb260)); have n10_ := Aside0.mk ((by rw [hg]; exact Nat.ne_of_gt (blk_lt (g := gb248) (o := .cells #[.int .u8 t243, .int .u8 t244, .int .u8 t245, .int .u8 t246] 41 (0, 0)) (by (with_reducible repeat (first | refine blk_drewN ?_ _ | refine blk_drew ?_ | refine blk_alloc ?_ _)); exact BK248.out)) : gb260 ≠ gb248)); have n11_ := Aside0.mk ((by rw [hg]; exact Nat.ne_of_lt (blk_lt (g := gb254) (o := .cells #[.int .u8 t249, .int .u8 t250, .int .u8 t251, .int .u8 t252] 41 (0, 0)) (by (with_reducible repeat (first | refine blk_drewN ?_ _ | refine blk_drew ?_ | refine blk_alloc ?_ _)); exact BK254.out)) : gb254 ≠ gb260)); have n12_ := Aside0.mk ((by rw [hg]; exact Nat.ne_of_gt (blk_lt (g := gb254) (o := .cells #[.int .u8 t249, .int .u8 t250, .int .u8 t251, .int .u8 t252] 41 (0, 0)) (by (with_reducible repeat (first | refine blk_drewN ?_ _ | refine blk_drew ?_ | refine blk_alloc ?_ _)); exact BK254.out)) : gb260 ≠ gb254)); clear BK237; clear BK248; clear BK254; clear HB; have BK237 := n0_; have BK248 := n1_; have BK254 := n2_; have HB := n3_; have BK260 := n4_; have GW260 := n5_; have GE260 := n6_; have NB237_260 := n7_; have NB260_237 := n8_; have NB248_260 := n9_; have NB260_248 := n10_; have NB254_260 := n11_; have NB260_254 := n12_; clear n0_ n1_ n2_ n3_ n4_ n5_ n6_ n7_ n8_ n9_ n10_ n11_ n12_; clear hb hbox hg; have hnb55 := NB260_237.out; have hnc55 := NB237_260.out; have hnb56 := NB260_248.out; have hnc56 := NB248_260.out; have hnb57 := NB260_254.out; have hnc57 := NB254_260.out; have hcz58_0 : w54.cell? ⟨gb260, 0, none⟩ = some (.int .i64 0) := (blk_cell BK260.out 0).trans rfl; have hcz58_1 : w54.cell? ⟨gb260, 1, none⟩ = some (.int .i64 0) := (blk_cell BK260.out 1).trans rfl; have hcz58_2 : w54.cell? ⟨gb260, 2, none⟩ = some (.int .i64 0) := (blk_cell BK260.out 2).trans rfl; have hcz58_3 : w54.cell? ⟨gb260, 3, none⟩ = some (.int .i64 0) := (blk_cell BK260.out 3).trans rfl; have hfz58_0 := blk_frozen BK260.out 0; have hfz58_1 := blk_frozen BK260.out 1; have hfz58_2 := blk_frozen BK260.out 2; have hfz58_3 := blk_frozen BK260.out 3))
              have n0_ : Aside0 (((((w54.setCell ⟨gb260, 0, none⟩ (.int .i64 t255)).setCell ⟨gb260, 1, none⟩ (.int .i64 t256)).setCell ⟨gb260, 2, none⟩ (.int .i64 t257)).setCell ⟨gb260, 3, none⟩ (.int .i64 t258)).heap[gb237]? = some (.cells #[.int .i64 a0_0, .int .i64 a0_1, .int .i64 a0_2, .int .i64 a0_3] 23 (0, 0))) := ⟨by (with_reducible repeat (first | refine blk_drewN ?_ _ | refine blk_drew ?_ | refine blk_alloc ?_ _)); refine blk_far ?_ NB237_260.out _; (with_reducible repeat (first | refine blk_drewN ?_ _ | refine blk_drew ?_ | refine blk_alloc ?_ _)); refine blk_far ?_ NB237_260.out _; (with_reducible repeat (first | refine blk_drewN ?_ _ | refine blk_drew ?_ | refine blk_alloc ?_ _)); refine blk_far ?_ NB237_260.out _; (with_reducible repeat (first | refine blk_drewN ?_ _ | refine blk_drew ?_ | refine blk_alloc ?_ _)); refine blk_far ?_ NB237_260.out _; (with_reducible repeat (first | refine blk_drewN ?_ _ | refine blk_drew ?_ | refine blk_alloc ?_ _)); exact BK237.out⟩
              have n1_ : Aside0 (((((w54.setCell ⟨gb260, 0, none⟩ (.int .i64 t255)).setCell ⟨gb260, 1, none⟩ (.int .i64 t256)).setCell ⟨gb260, 2, none⟩ (.int .i64 t257)).setCell ⟨gb260, 3, none⟩ (.int .i64 t258)).heap[gb248]? = some (.cells #[.int .u8 t243, .int .u8 t244, .int .u8 t245, .int .u8 t246] 41 (0, 0))) := ⟨by (with_reducible repeat (first | refine blk_drewN ?_ _ | refine blk_drew ?_ | refine blk_alloc ?_ _)); refine blk_far ?_ NB248_260.out _; (with_reducible repeat (first | refine blk_drewN ?_ _ | refine blk_drew ?_ | refine blk_alloc ?_ _)); refine blk_far ?_ NB248_260.out _; (with_reducible repeat (first | refine blk_drewN ?_ _ | refine blk_drew ?_ | refine blk_alloc ?_ _)); refine blk_far ?_ NB248_260.out _; (with_reducible repeat (first | refine blk_drewN ?_ _ | refine blk_drew ?_ | refine blk_alloc ?_ _)); refine blk_far ?_ NB248_260.out _; (with_reducible repeat (first | refine blk_drewN ?_ _ | refine blk_drew ?_ | refine blk_alloc ?_ _)); exact BK248.out⟩
              have n2_ : Aside0 (((((w54.setCell ⟨gb260, 0, none⟩ (.int .i64 t255)).setCell ⟨gb260, 1, none⟩ (.int .i64 t256)).setCell ⟨gb260, 2, none⟩ (.int .i64 t257)).setCell ⟨gb260, 3, none⟩ (.int .i64 t258)).heap[gb254]? = some (.cells #[.int .u8 t249, .int .u8 t250, .int .u8 t251, .int .u8 t252] 41 (0, 0))) := ⟨by (with_reducible repeat (first | refine blk_drewN ?_ _ | refine blk_drew ?_ | refine blk_alloc ?_ _)); refine blk_far ?_ NB254_260.out _; (with_reducible repeat (first | refine blk_drewN ?_ _ | refine blk_drew ?_ | refine blk_alloc ?_ _)); refine blk_far ?_ NB254_260.out _; (with_reducible repeat (first | refine blk_drewN ?_ _ | refine blk_drew ?_ | refine blk_alloc ?_ _)); refine blk_far ?_ NB254_260.out _; (with_reducible repeat (first | refine blk_drewN ?_ _ | refine blk_drew ?_ | refine blk_alloc ?_ _)); refine blk_far ?_ NB254_260.out _; (with_reducible repeat (first | refine blk_drewN ?_ _ | refine blk_drew ?_ | refine blk_alloc ?_ _)); exact BK254.out⟩
              have n3_ : Aside0 (((((w54.setCell ⟨gb260, 0, none⟩ (.int .i64 t255)).setCell ⟨gb260, 1, none⟩ (.int .i64 t256)).setCell ⟨gb260, 2, none⟩ (.int .i64 t257)).setCell ⟨gb260, 3, none⟩ (.int .i64 t258)).heap[gb260]? = some (.cells #[.int .i64 t255, .int .i64 t256, .int .i64 t257, .int .i64 t258] 26 (0, 0))) := ⟨by (with_reducible repeat (first | refine blk_drewN ?_ _ | refine blk_drew ?_ | refine blk_alloc ?_ _)); refine blk_put (cs := #[.int .i64 t255, .int .i64 t256, .int .i64 t257, .int .i64 0]) ?_ 3 _ rfl; (with_reducible repeat (first | refine blk_drewN ?_ _ | refine blk_drew ?_ | refine blk_alloc ?_ _)); refine blk_put (cs := #[.int .i64 t255, .int .i64 t256, .int .i64 0, .int .i64 0]) ?_ 2 _ rfl; (with_reducible repeat (first | refine blk_drewN ?_ _ | refine blk_drew ?_ | refine blk_alloc ?_ _)); refine blk_put (cs := #[.int .i64 t255, .int .i64 0, .int .i64 0, .int .i64 0]) ?_ 1 _ rfl; (with_reducible repeat (first | refine blk_drewN ?_ _ | refine blk_drew ?_ | refine blk_alloc ?_ _)); refine blk_put (cs := #[.int .i64 0, .int .i64 0, .int .i64 0, .int .i64 0]) ?_ 0 _ rfl; (with_reducible repeat (first | refine blk_drewN ?_ _ | refine blk_drew ?_ | refine blk_alloc ?_ _)); exact BK260.out⟩
              have n4_ : Aside0 (Below w.heap.size w ((((w54.setCell ⟨gb260, 0, none⟩ (.int .i64 t255)).setCell ⟨gb260, 1, none⟩ (.int .i64 t256)).setCell ⟨gb260, 2, none⟩ (.int .i64 t257)).setCell ⟨gb260, 3, none⟩ (.int .i64 t258))) := ⟨by repeat (first | (with_reducible first | exact HB.out | apply below_alloc | apply pw_below_drewN | apply below_drew1 | refine below_set ?_ GE237.out | refine below_set ?_ GE248.out | refine below_set ?_ GE254.out | refine below_set ?_ GE260.out) | exact HB.out)⟩
              (try clear BK237)
              (try clear BK248)
              (try clear BK254)
              (try clear BK260)
              (try clear HB)
              generalize ((((w54.setCell ⟨gb260, 0, none⟩ (.int .i64 t255)).setCell ⟨gb260, 1, none⟩ (.int .i64 t256)).setCell ⟨gb260, 2, none⟩ (.int .i64 t257)).setCell ⟨gb260, 3, none⟩ (.int .i64 t258)) = w59 at n0_ n1_ n2_ n3_ n4_ ⊢
              have BK237 := n0_
              have BK248 := n1_
              have BK254 := n2_
              have BK260 := n3_
              have HB := n4_
              clear n0_ n1_ n2_ n3_ n4_
              have n0_ := Aside0.mk (blk_drew BK237.out)
              have n1_ := Aside0.mk (blk_drew BK248.out)
              have n2_ := Aside0.mk (blk_drew BK254.out)
              have n3_ := Aside0.mk (blk_drew BK260.out)
              have n4_ := Aside0.mk (below_drew1 HB.out)
              clear BK237
              clear BK248
              clear BK254
              clear BK260
              clear HB
              have BK237 := n0_
              have BK248 := n1_
              have BK254 := n2_
              have BK260 := n3_
              have HB := n4_
              clear n0_ n1_ n2_ n3_ n4_
              refine start_ (n := 9) (S := fun w' => True) (ds := []) #[false, false, false, false, false, false, false, false, false] (by kernel_rfl) rfl rfl trivial (fun hHeld => ?_); refine with_tabW replevinlaw16_InstrEncodes.tab10 replevinlaw16_InstrEncodes.bits10 (fun HT_ HW_ => ?_)
              generalize w59.drew = w60 at BK237 BK248 BK254 BK260 HB hHeld ⊢
              refine pure_ (i := 0) (N := some 37) (v := ?_) (a' := ?_) #[true, false, false, false, false, false, false, false, false] rfl rfl (any_of HT_.out (by kernel_rfl)) (fun _ _ _ h => h) (Or.inl ⟨by rfl, ?_⟩) ?_ ?_
              rotate_left
              · intro w'
                go_simp
                with_reducible rfl
              rotate_left
              · simp only [Act.put, List.setIfInBounds_toArray, List.set_cons_zero, List.set_cons_succ, i64_w, i32_w]
                rfl
              refine pure_ (i := 1) (N := some 38) (v := ?_) (a' := ?_) #[true, true, false, false, false, false, false, false, false] rfl rfl (any_of HT_.out (by kernel_rfl)) (fun _ _ _ h => h) (Or.inl ⟨by rfl, ?_⟩) ?_ ?_
              rotate_left
              · intro w'
                go_simp
                with_reducible rfl
              rotate_left
              · simp only [Act.put, List.setIfInBounds_toArray, List.set_cons_zero, List.set_cons_succ, i64_w, i32_w]
                rfl
              refine pure_ (i := 2) (N := some 39) (v := ?_) (a' := ?_) #[true, true, true, false, false, false, false, false, false] rfl rfl (any_of HT_.out (by kernel_rfl)) (fun _ _ _ h => h) (Or.inl ⟨by rfl, ?_⟩) ?_ ?_
              rotate_left
              · intro w'
                go_simp
                with_reducible rfl
              rotate_left
              · simp only [Act.put, List.setIfInBounds_toArray, List.set_cons_zero, List.set_cons_succ, i64_w, i32_w]
                rfl
              refine pure_ (i := 3) (N := some 40) (v := undef) (a' := ?_) #[true, true, true, true, false, false, false, false, false] rfl rfl (any_of HT_.out (by kernel_rfl)) (fun _ _ _ h => h) (Or.inr ⟨by rfl, rfl⟩) ?_ ?_
              rotate_left
              · simp only [Act.put, List.setIfInBounds_toArray, List.set_cons_zero, List.set_cons_succ, i64_w, i32_w]
                rfl
              refine pure_ (i := 4) (N := some 41) (v := undef) (a' := ?_) #[true, true, true, true, true, false, false, false, false] rfl rfl (any_of HT_.out (by kernel_rfl)) (fun _ _ _ h => h) (Or.inr ⟨by rfl, rfl⟩) ?_ ?_
              rotate_left
              · simp only [Act.put, List.setIfInBounds_toArray, List.set_cons_zero, List.set_cons_succ, i64_w, i32_w]
                rfl
              refine pure_ (i := 5) (N := some 42) (v := undef) (a' := ?_) #[true, true, true, true, true, true, false, false, false] rfl rfl (any_of HT_.out (by kernel_rfl)) (fun _ _ _ h => h) (Or.inr ⟨by rfl, rfl⟩) ?_ ?_
              rotate_left
              · simp only [Act.put, List.setIfInBounds_toArray, List.set_cons_zero, List.set_cons_succ, i64_w, i32_w]
                rfl
              refine pure_ (i := 6) (N := some 43) (v := undef) (a' := ?_) #[true, true, true, true, true, true, true, false, false] rfl rfl (any_of HT_.out (by kernel_rfl)) (fun _ _ _ h => h) (Or.inr ⟨by rfl, rfl⟩) ?_ ?_
              rotate_left
              · simp only [Act.put, List.setIfInBounds_toArray, List.set_cons_zero, List.set_cons_succ, i64_w, i32_w]
                rfl
              refine pure_ (i := 7) (N := some 44) (v := ?_) (a' := ?_) #[true, true, true, true, true, true, true, true, false] rfl rfl (any_of HT_.out (by kernel_rfl)) (fun _ _ _ h => h) (Or.inl ⟨by rfl, ?_⟩) ?_ ?_
              rotate_left
              · intro w'
                go_simp
                with_reducible rfl
              rotate_left
              · simp only [Act.put, List.setIfInBounds_toArray, List.set_cons_zero, List.set_cons_succ, i64_w, i32_w]
                rfl
              refine pure_ (i := 8) (N := some 2) (v := ?_) (a' := ?_) #[true, true, true, true, true, true, true, true, true] rfl rfl (any_of HT_.out (by kernel_rfl)) (fun _ _ _ h => h) (Or.inl ⟨by rfl, ?_⟩) ?_ ?_
              rotate_left
              · intro w'
                go_simp
                with_reducible rfl
              rotate_left
              · simp only [Act.put, List.setIfInBounds_toArray, List.set_cons_zero, List.set_cons_succ, i64_w, i32_w]
                rfl
              refine done_ (done_of HT_.out (by kernel_rfl)) ?_
              try go_wp2
              go_ret
              exact ⟨by first | rfl | (simp [errW_none, errW_some] <;> rfl) | (simp [*, errW_none, errW_some] <;> rfl), by repeat (first | (with_reducible first | exact HB.out | apply below_alloc | apply pw_below_drewN | apply below_drew1 | refine below_set ?_ GE237.out | refine below_set ?_ GE248.out | refine below_set ?_ GE254.out | refine below_set ?_ GE260.out) | exact HB.out)⟩
          · rw [if_neg c34] at H
            have c34b0 : (t247 == 0) = false := beq_eq_false_iff_ne.mpr c34
            have c34b1 : (t247 != 0) = true := bne_iff_ne.mpr c34
            obtain rfl := Option.some.inj H
            go_wp2
            go_ret
            exact ⟨by first | rfl | (simp [errW_none, errW_some] <;> rfl) | (simp [*, errW_none, errW_some] <;> rfl), by repeat (first | (with_reducible first | exact HB.out | apply below_alloc | apply pw_below_drewN | apply below_drew1 | refine below_set ?_ GE237.out | refine below_set ?_ GE248.out | refine below_set ?_ GE254.out) | exact HB.out)⟩
  · replace c3 := Bool.eq_false_iff.mpr c3
    subst c3
    have H1 : (some false) = some r := by rw [if_neg (show ¬ (false = true) by decide)] at H; exact H
    clear H
    have H := H1
    clear H1
    obtain rfl := Option.some.inj H
    go_enter Try.func7, Try.ntmps7
    go_wp2_with (first | ((with_reducible refine gate_dst (N := 1) rfl ?_); refine box_event ?hg (N := 1) ?hd (cs := #[.int .i64 a0_0, .int .i64 a0_1, .int .i64 a0_2, .int .i64 a0_3]) (t := 23) ?hr ?_; (case hd => rfl); (case hg => rfl); (case hr => first | (go_simp; done) | (go_simp; rfl)); intro gb237 hg w61 hbox hb; have n0_ := Aside0.mk (below_step (by repeat (first | (with_reducible first | exact HB.out | apply below_alloc | apply pw_below_drewN | apply below_drew1) | exact HB.out)) hb); have n1_ := Aside0.mk (hbox); have n2_ := Aside0.mk ((by rw [hg]; exact (below_size (by repeat (first | (with_reducible first | exact HB.out | apply below_alloc | apply pw_below_drewN | apply below_drew1) | exact HB.out))) : w.heap.size ≤ gb237)); have n3_ := Aside0.mk ((by rw [hg]; exact (below_size (by repeat (first | (with_reducible first | exact HB.out | apply below_alloc | apply pw_below_drewN | apply below_drew1) | exact HB.out))) : w.heap.size ≤ gb237)); clear HB; have HB := n0_; have BK237 := n1_; have GW237 := n2_; have GE237 := n3_; clear n0_ n1_ n2_ n3_; clear hb hbox hg) | ((with_reducible refine gate_callee (f := 13) rfl ?_); refine goesL_ (some 9) rfl rfl Try.func13 (by kernel_rfl) rfl #[] rfl (by (try simp only [List.map_toArray, List.map_cons, List.map_nil]); first | done | rfl | (simp only [List.length_drop, List.length_take]; rfl)) ?_; (with_reducible refine (replevinlaw16_known.calls k  false _ A2.out).mono ?_); rintro e w62 ⟨rfl, hb⟩; refine ⟨_, rfl, ?_⟩; have n0_ := Aside0.mk (blk_below (g := gb237) (o := .cells #[.int .i64 a0_0, .int .i64 a0_1, .int .i64 a0_2, .int .i64 a0_3] 23 (0, 0)) (by (with_reducible repeat (first | refine blk_drewN ?_ _ | refine blk_drew ?_ | refine blk_alloc ?_ _)); exact BK237.out) hb); have n1_ := Aside0.mk (below_step (by repeat (first | (with_reducible first | exact HB.out | apply below_alloc | apply pw_below_drewN | apply below_drew1 | refine below_set ?_ GE237.out) | exact HB.out)) hb); clear BK237; clear HB; have BK237 := n0_; have HB := n1_; clear n0_ n1_; (try clear hb); (try clear hb2); (try clear hk); (try clear hi)))
    go_ret
    exact ⟨by first | rfl | (simp [errW_none, errW_some] <;> rfl) | (simp [*, errW_none, errW_some] <;> rfl), by repeat (first | (with_reducible first | exact HB.out | apply below_alloc | apply pw_below_drewN | apply below_drew1 | refine below_set ?_ GE237.out) | exact HB.out)⟩

end Go.Proofs.Ytdnhekgdpolenaa.Q
