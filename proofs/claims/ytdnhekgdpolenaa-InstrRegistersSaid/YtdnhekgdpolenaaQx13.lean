/- Functions of the seat and their walks, written by a program of this session. -/
import Derived.Test.YtdnhekgdpolenaaQx0
import Derived.Test.YtdnhekgdpolenaaQx10
import Derived.Test.YtdnhekgdpolenaaQx11
import Derived.Test.YtdnhekgdpolenaaQx12
namespace Go.Proofs.Ytdnhekgdpolenaa.Q
open Go.RowKit Go.Proofs.YtdnhekgdpolenaaW.PrintWords Go.Proofs.YtdnhekgdpolenaaW.PrintLast Go.Proofs.YtdnhekgdpolenaaW.PrintMore
attribute [local go_sem] max2_int min2_int max_two min_two max_three min_three max_four min_four   -- for this text's walks alone
set_option linter.unusedVariables false
set_option linter.unusedSimpArgs false

/-! ### replevinref16_Check: function 16 -/
def replevinref16_Check.j0 : Nat → Int → Bool → Int → Int → Int → Int → Option (Int)
  | 0, _, _, _, _, _, _ => none
  | k + 1, x3, x43, x149000, x149001, x149002, x149003 => if x43 = true then (some 1) else (if x3 ≥ 4 then ((replevinref16_Limits.f k x149000).bind fun bt158 => (if x149001 < 0 then (some 2) else (if x149001 > 7 then (some 2) else (if x149002 < 0 then (some 2) else (if x149002 > 7 then (some 2) else ((replevinref16_hasC.f x3).bind fun t161 => (if t161 = true then (if x149003 < bt158.1 then (some 2) else (if x149003 > bt158.2.1 then (some 2) else (some 0))) else (some 0)))))))) else (if x149001 < 0 then (some 2) else (if x149001 > 7 then (some 2) else (if x149002 < 0 then (some 2) else (if x149002 > 7 then (some 2) else ((replevinref16_hasC.f x3).bind fun t162 => (if t162 = true then (if x149003 < 0 then (some 2) else (if x149003 > 7 then (some 2) else (some 0))) else (some 0))))))))
def replevinref16_Check.f (k : Nat) (a0_0 : Int) (a0_1 : Int) (a0_2 : Int) (a0_3 : Int) : Option (Int) := (replevinref16_Form.f k a0_0).bind fun bt149 => (if bt149.2 = 0 then ((replevinref16_hasA.f bt149.1).bind fun t151 => (if t151 = true then ((replevinref16_hasB.f bt149.1).bind fun t152 => (if t152 = true then ((replevinref16_hasC.f bt149.1).bind fun t153 => (if t153 = true then (replevinref16_Check.j0 k bt149.1 false a0_0 a0_1 a0_2 a0_3) else (replevinref16_Check.j0 k bt149.1 (a0_3 != 0) a0_0 a0_1 a0_2 a0_3))) else (if a0_2 = 0 then ((replevinref16_hasC.f bt149.1).bind fun t154 => (if t154 = true then (replevinref16_Check.j0 k bt149.1 false a0_0 a0_1 a0_2 a0_3) else (replevinref16_Check.j0 k bt149.1 (a0_3 != 0) a0_0 a0_1 a0_2 a0_3))) else (replevinref16_Check.j0 k bt149.1 true a0_0 a0_1 a0_2 a0_3)))) else (if a0_1 = 0 then ((replevinref16_hasB.f bt149.1).bind fun t155 => (if t155 = true then ((replevinref16_hasC.f bt149.1).bind fun t156 => (if t156 = true then (replevinref16_Check.j0 k bt149.1 false a0_0 a0_1 a0_2 a0_3) else (replevinref16_Check.j0 k bt149.1 (a0_3 != 0) a0_0 a0_1 a0_2 a0_3))) else (if a0_2 = 0 then ((replevinref16_hasC.f bt149.1).bind fun t157 => (if t157 = true then (replevinref16_Check.j0 k bt149.1 false a0_0 a0_1 a0_2 a0_3) else (replevinref16_Check.j0 k bt149.1 (a0_3 != 0) a0_0 a0_1 a0_2 a0_3))) else (replevinref16_Check.j0 k bt149.1 true a0_0 a0_1 a0_2 a0_3)))) else (replevinref16_Check.j0 k bt149.1 true a0_0 a0_1 a0_2 a0_3)))) else (some bt149.2))
theorem replevinref16_Check.mono_l : ∀ k, (∀ y0 y1 y2 y3 y4 y5, LeO (replevinref16_Check.j0 k y0 y1 y2 y3 y4 y5) (replevinref16_Check.j0 (k + 1) y0 y1 y2 y3 y4 y5))
  | 0 => fun _ _ _ _ _ _ r h => by simp [replevinref16_Check.j0] at h
  | k + 1 => by
    have ih0 := replevinref16_Check.mono_l k
    · intro y0 y1 y2 y3 y4 y5
      unfold replevinref16_Check.j0
      repeat' first
      | (with_reducible exact ih0 _ _ _ _ _ _)
      | (with_reducible exact replevinref16_Form.mono _ _)
      | (with_reducible exact replevinref16_Limits.mono _ _)
      | (with_reducible exact LeO.refl _)
      | (with_reducible exact LeO.none _)
      | (with_reducible refine LeO.ite ?_ ?_)
      | (with_reducible refine LeO.bind ?_ (fun _ => ?_))
      | exact ih0 _ _ _ _ _ _
      | exact replevinref16_Form.mono _ _
      | exact replevinref16_Limits.mono _ _
      | exact LeO.none _
      | refine LeO.ite ?_ ?_
      | refine LeO.bind ?_ (fun _ => ?_)
theorem replevinref16_Check.mono : ∀ a0 a1 a2 a3 k, LeO (replevinref16_Check.f k a0 a1 a2 a3) (replevinref16_Check.f (k + 1) a0 a1 a2 a3) := by
  intro a0 a1 a2 a3 k
  have ih0 := replevinref16_Check.mono_l k
  unfold replevinref16_Check.f
  repeat' first
      | (with_reducible exact ih0 _ _ _ _ _ _)
      | (with_reducible exact replevinref16_Form.mono _ _)
      | (with_reducible exact replevinref16_Limits.mono _ _)
      | (with_reducible exact LeO.refl _)
      | (with_reducible exact LeO.none _)
      | (with_reducible refine LeO.ite ?_ ?_)
      | (with_reducible refine LeO.bind ?_ (fun _ => ?_))
      | exact ih0 _ _ _ _ _ _
      | exact replevinref16_Form.mono _ _
      | exact replevinref16_Limits.mono _ _
      | exact LeO.none _
      | refine LeO.ite ?_ ?_
      | refine LeO.bind ?_ (fun _ => ?_)
set_option maxHeartbeats 8000000 in
set_option maxRecDepth 100000 in
theorem replevinref16_Check.calls (k : Nat) (a0_0 : Int) (a0_1 : Int) (a0_2 : Int) (a0_3 : Int) (r : Int) (w : World) (h : replevinref16_Check.f k a0_0 a0_1 a0_2 a0_3 = some r) :
    Calls Try.prog 16 #[.agg #[.int .i64 a0_0, .int .i64 a0_1, .int .i64 a0_2, .int .i64 a0_3]] w fun e w' => e = .returned (.int .i64 r) ∧ Below w.heap.size w w' := by
  have hu23 := Try.underlying23
  have HB := Aside0.mk (Below.refl w.heap.size w)
  have H : ((replevinref16_Form.f k a0_0).bind fun bt149 => (if bt149.2 = 0 then ((replevinref16_hasA.f bt149.1).bind fun t151 => (if t151 = true then ((replevinref16_hasB.f bt149.1).bind fun t152 => (if t152 = true then ((replevinref16_hasC.f bt149.1).bind fun t153 => (if t153 = true then (replevinref16_Check.j0 k bt149.1 false a0_0 a0_1 a0_2 a0_3) else (replevinref16_Check.j0 k bt149.1 (a0_3 != 0) a0_0 a0_1 a0_2 a0_3))) else (if a0_2 = 0 then ((replevinref16_hasC.f bt149.1).bind fun t154 => (if t154 = true then (replevinref16_Check.j0 k bt149.1 false a0_0 a0_1 a0_2 a0_3) else (replevinref16_Check.j0 k bt149.1 (a0_3 != 0) a0_0 a0_1 a0_2 a0_3))) else (replevinref16_Check.j0 k bt149.1 true a0_0 a0_1 a0_2 a0_3)))) else (if a0_1 = 0 then ((replevinref16_hasB.f bt149.1).bind fun t155 => (if t155 = true then ((replevinref16_hasC.f bt149.1).bind fun t156 => (if t156 = true then (replevinref16_Check.j0 k bt149.1 false a0_0 a0_1 a0_2 a0_3) else (replevinref16_Check.j0 k bt149.1 (a0_3 != 0) a0_0 a0_1 a0_2 a0_3))) else (if a0_2 = 0 then ((replevinref16_hasC.f bt149.1).bind fun t157 => (if t157 = true then (replevinref16_Check.j0 k bt149.1 false a0_0 a0_1 a0_2 a0_3) else (replevinref16_Check.j0 k bt149.1 (a0_3 != 0) a0_0 a0_1 a0_2 a0_3))) else (replevinref16_Check.j0 k bt149.1 true a0_0 a0_1 a0_2 a0_3)))) else (replevinref16_Check.j0 k bt149.1 true a0_0 a0_1 a0_2 a0_3)))) else (some bt149.2))) = some r := h
  clear h
  replace H := Option.bind_eq_some_iff.mp H
  obtain ⟨⟨t149, t150⟩, A20, H⟩ := H
  replace H : (if t150 = 0 then ((replevinref16_hasA.f t149).bind fun t151 => (if t151 = true then ((replevinref16_hasB.f t149).bind fun t152 => (if t152 = true then ((replevinref16_hasC.f t149).bind fun t153 => (if t153 = true then (replevinref16_Check.j0 k t149 false a0_0 a0_1 a0_2 a0_3) else (replevinref16_Check.j0 k t149 (a0_3 != 0) a0_0 a0_1 a0_2 a0_3))) else (if a0_2 = 0 then ((replevinref16_hasC.f t149).bind fun t154 => (if t154 = true then (replevinref16_Check.j0 k t149 false a0_0 a0_1 a0_2 a0_3) else (replevinref16_Check.j0 k t149 (a0_3 != 0) a0_0 a0_1 a0_2 a0_3))) else (replevinref16_Check.j0 k t149 true a0_0 a0_1 a0_2 a0_3)))) else (if a0_1 = 0 then ((replevinref16_hasB.f t149).bind fun t155 => (if t155 = true then ((replevinref16_hasC.f t149).bind fun t156 => (if t156 = true then (replevinref16_Check.j0 k t149 false a0_0 a0_1 a0_2 a0_3) else (replevinref16_Check.j0 k t149 (a0_3 != 0) a0_0 a0_1 a0_2 a0_3))) else (if a0_2 = 0 then ((replevinref16_hasC.f t149).bind fun t157 => (if t157 = true then (replevinref16_Check.j0 k t149 false a0_0 a0_1 a0_2 a0_3) else (replevinref16_Check.j0 k t149 (a0_3 != 0) a0_0 a0_1 a0_2 a0_3))) else (replevinref16_Check.j0 k t149 true a0_0 a0_1 a0_2 a0_3)))) else (replevinref16_Check.j0 k t149 true a0_0 a0_1 a0_2 a0_3)))) else (some t150)) = some r := H
  have A2 := Aside0.mk A20
  clear A20
  by_cases c3 : t150 = 0
  · rw [if_pos c3] at H
    have c3b0 : (t150 == 0) = true := beq_iff_eq.mpr c3
    have c3b1 : (t150 != 0) = false := bne_eq_false_iff_eq.mpr c3
    clear c3
    have HC4 := Aside0.mk H
    clear H
    go_enter Try.func16, Try.ntmps16
    go_upto_region 4 with (first | ((with_reducible refine gate_dst (N := 1) rfl ?_); refine box_event ?hg (N := 1) ?hd (cs := #[.int .i64 a0_0, .int .i64 a0_1, .int .i64 a0_2, .int .i64 a0_3]) (t := 23) ?hr ?_; (case hd => rfl); (case hg => rfl); (case hr => first | (go_simp; done) | (go_simp; rfl)); intro gb148 hg w5 hbox hb; have n0_ := Aside0.mk (below_step (by repeat (first | (with_reducible first | exact HB.out | apply below_alloc | apply pw_below_drewN | apply below_drew1) | exact HB.out)) hb); have n1_ := Aside0.mk (hbox); have n2_ := Aside0.mk ((by rw [hg]; exact (below_size (by repeat (first | (with_reducible first | exact HB.out | apply below_alloc | apply pw_below_drewN | apply below_drew1) | exact HB.out))) : w.heap.size ≤ gb148)); have n3_ := Aside0.mk ((by rw [hg]; exact (below_size (by repeat (first | (with_reducible first | exact HB.out | apply below_alloc | apply pw_below_drewN | apply below_drew1) | exact HB.out))) : w.heap.size ≤ gb148)); clear HB; have HB := n0_; have BK148 := n1_; have GW148 := n2_; have GE148 := n3_; clear n0_ n1_ n2_ n3_; clear hb hbox hg; have hcz6_0 : w5.cell? ⟨gb148, 0, none⟩ = some (.int .i64 a0_0) := (blk_cell BK148.out 0).trans rfl; have hcz6_1 : w5.cell? ⟨gb148, 1, none⟩ = some (.int .i64 a0_1) := (blk_cell BK148.out 1).trans rfl; have hcz6_2 : w5.cell? ⟨gb148, 2, none⟩ = some (.int .i64 a0_2) := (blk_cell BK148.out 2).trans rfl; have hcz6_3 : w5.cell? ⟨gb148, 3, none⟩ = some (.int .i64 a0_3) := (blk_cell BK148.out 3).trans rfl; have hfz6_0 := blk_frozen BK148.out 0; have hfz6_1 := blk_frozen BK148.out 1; have hfz6_2 := blk_frozen BK148.out 2; have hfz6_3 := blk_frozen BK148.out 3) | ((with_reducible refine gate_callee (f := 31) rfl ?_); refine goesL_ (some 10) rfl rfl Try.func31 (by kernel_rfl) rfl #[.int .i64 a0_0] rfl (by (try simp only [List.map_toArray, List.map_cons, List.map_nil]); first | done | rfl | (simp only [List.length_drop, List.length_take]; rfl)) ?_; (with_reducible refine (replevinref16_Form.calls k a0_0 t149 t150 _ A2.out).mono ?_); rintro e w' ⟨rfl, ⟨nd, rfl⟩⟩; refine ⟨_, rfl, ?_⟩))
    (try simp only [Act.put, List.setIfInBounds_toArray, List.set_cons_zero, List.set_cons_succ])
    go_cut [43] (fun v43 wc => ∃ (kq : Nat) (x43_3 : Bool), v43 = .bool x43_3 ∧ Aside0 (replevinref16_Check.j0 kq t149 x43_3 a0_0 a0_1 a0_2 a0_3 = some r) ∧ Aside0 (kq ≤ k) ∧ Aside0 (wc.heap[gb148]? = some (.cells #[.int .i64 a0_0, .int .i64 a0_1, .int .i64 a0_2, .int .i64 a0_3] 23 (0, 0))) ∧ Aside0 (Below w.heap.size w wc))
    case first =>
      have H := HC4.out
      clear HC4
      replace H := Option.bind_eq_some_iff.mp H
      obtain ⟨t151, A70, H⟩ := H
      replace H : (if t151 = true then ((replevinref16_hasB.f t149).bind fun t152 => (if t152 = true then ((replevinref16_hasC.f t149).bind fun t153 => (if t153 = true then (replevinref16_Check.j0 k t149 false a0_0 a0_1 a0_2 a0_3) else (replevinref16_Check.j0 k t149 (a0_3 != 0) a0_0 a0_1 a0_2 a0_3))) else (if a0_2 = 0 then ((replevinref16_hasC.f t149).bind fun t154 => (if t154 = true then (replevinref16_Check.j0 k t149 false a0_0 a0_1 a0_2 a0_3) else (replevinref16_Check.j0 k t149 (a0_3 != 0) a0_0 a0_1 a0_2 a0_3))) else (replevinref16_Check.j0 k t149 true a0_0 a0_1 a0_2 a0_3)))) else (if a0_1 = 0 then ((replevinref16_hasB.f t149).bind fun t155 => (if t155 = true then ((replevinref16_hasC.f t149).bind fun t156 => (if t156 = true then (replevinref16_Check.j0 k t149 false a0_0 a0_1 a0_2 a0_3) else (replevinref16_Check.j0 k t149 (a0_3 != 0) a0_0 a0_1 a0_2 a0_3))) else (if a0_2 = 0 then ((replevinref16_hasC.f t149).bind fun t157 => (if t157 = true then (replevinref16_Check.j0 k t149 false a0_0 a0_1 a0_2 a0_3) else (replevinref16_Check.j0 k t149 (a0_3 != 0) a0_0 a0_1 a0_2 a0_3))) else (replevinref16_Check.j0 k t149 true a0_0 a0_1 a0_2 a0_3)))) else (replevinref16_Check.j0 k t149 true a0_0 a0_1 a0_2 a0_3))) = some r := H
      have A7 := Aside0.mk A70
      clear A70
      by_cases c8 : t151 = true
      · subst c8
        have H1 : ((replevinref16_hasB.f t149).bind fun t152 => (if t152 = true then ((replevinref16_hasC.f t149).bind fun t153 => (if t153 = true then (replevinref16_Check.j0 k t149 false a0_0 a0_1 a0_2 a0_3) else (replevinref16_Check.j0 k t149 (a0_3 != 0) a0_0 a0_1 a0_2 a0_3))) else (if a0_2 = 0 then ((replevinref16_hasC.f t149).bind fun t154 => (if t154 = true then (replevinref16_Check.j0 k t149 false a0_0 a0_1 a0_2 a0_3) else (replevinref16_Check.j0 k t149 (a0_3 != 0) a0_0 a0_1 a0_2 a0_3))) else (replevinref16_Check.j0 k t149 true a0_0 a0_1 a0_2 a0_3)))) = some r := by rw [if_pos rfl] at H; exact H
        clear H
        have H := H1
        clear H1
        replace H := Option.bind_eq_some_iff.mp H
        obtain ⟨t152, A90, H⟩ := H
        replace H : (if t152 = true then ((replevinref16_hasC.f t149).bind fun t153 => (if t153 = true then (replevinref16_Check.j0 k t149 false a0_0 a0_1 a0_2 a0_3) else (replevinref16_Check.j0 k t149 (a0_3 != 0) a0_0 a0_1 a0_2 a0_3))) else (if a0_2 = 0 then ((replevinref16_hasC.f t149).bind fun t154 => (if t154 = true then (replevinref16_Check.j0 k t149 false a0_0 a0_1 a0_2 a0_3) else (replevinref16_Check.j0 k t149 (a0_3 != 0) a0_0 a0_1 a0_2 a0_3))) else (replevinref16_Check.j0 k t149 true a0_0 a0_1 a0_2 a0_3))) = some r := H
        have A9 := Aside0.mk A90
        clear A90
        by_cases c10 : t152 = true
        · subst c10
          have H1 : ((replevinref16_hasC.f t149).bind fun t153 => (if t153 = true then (replevinref16_Check.j0 k t149 false a0_0 a0_1 a0_2 a0_3) else (replevinref16_Check.j0 k t149 (a0_3 != 0) a0_0 a0_1 a0_2 a0_3))) = some r := by rw [if_pos rfl] at H; exact H
          clear H
          have H := H1
          clear H1
          replace H := Option.bind_eq_some_iff.mp H
          obtain ⟨t153, A110, H⟩ := H
          replace H : (if t153 = true then (replevinref16_Check.j0 k t149 false a0_0 a0_1 a0_2 a0_3) else (replevinref16_Check.j0 k t149 (a0_3 != 0) a0_0 a0_1 a0_2 a0_3)) = some r := H
          have A11 := Aside0.mk A110
          clear A110
          by_cases c12 : t153 = true
          · subst c12
            have H1 : (replevinref16_Check.j0 k t149 false a0_0 a0_1 a0_2 a0_3) = some r := by rw [if_pos rfl] at H; exact H
            clear H
            have H := H1
            clear H1
            have H' := Aside0.mk H
            clear H
            go_wp2_with (first | ((with_reducible refine gate_callee (f := 52) rfl ?_); refine goesL_ (some 17) rfl rfl Try.func52 (by kernel_rfl) rfl #[.int .i64 t149] rfl (by (try simp only [List.map_toArray, List.map_cons, List.map_nil]); first | done | rfl | (simp only [List.length_drop, List.length_take]; rfl)) ?_; (with_reducible refine (replevinref16_hasA.calls t149 true _ A7.out).mono ?_); rintro e w' ⟨rfl, ⟨nd, rfl⟩⟩; refine ⟨_, rfl, ?_⟩) | (go_at_call 53; (with_reducible refine (replevinref16_hasB.calls t149 true _ A9.out).mono ?_); rintro e w' ⟨rfl, ⟨nd, rfl⟩⟩) | (go_at_call 54; (with_reducible refine (replevinref16_hasC.calls t149 true _ A11.out).mono ?_); rintro e w' ⟨rfl, ⟨nd, rfl⟩⟩))
            go_meet
            case rel => exact ⟨_, (false), (by first | rfl | (simp; done) | (simp [*]; done)), H', ⟨by first | omega | exact Nat.le_refl _⟩, ⟨by (with_reducible repeat (first | refine blk_drewN ?_ _ | refine blk_drew ?_ | refine blk_alloc ?_ _)); exact BK148.out⟩, ⟨by repeat (first | (with_reducible first | exact HB.out | apply below_alloc | apply pw_below_drewN | apply below_drew1 | refine below_set ?_ GE148.out) | exact HB.out)⟩⟩
          · replace c12 := Bool.eq_false_iff.mpr c12
            subst c12
            have H1 : (replevinref16_Check.j0 k t149 (a0_3 != 0) a0_0 a0_1 a0_2 a0_3) = some r := by rw [if_neg (show ¬ (false = true) by decide)] at H; exact H
            clear H
            have H := H1
            clear H1
            have H' := Aside0.mk H
            clear H
            go_wp2_with (first | ((with_reducible refine gate_callee (f := 52) rfl ?_); refine goesL_ (some 17) rfl rfl Try.func52 (by kernel_rfl) rfl #[.int .i64 t149] rfl (by (try simp only [List.map_toArray, List.map_cons, List.map_nil]); first | done | rfl | (simp only [List.length_drop, List.length_take]; rfl)) ?_; (with_reducible refine (replevinref16_hasA.calls t149 true _ A7.out).mono ?_); rintro e w' ⟨rfl, ⟨nd, rfl⟩⟩; refine ⟨_, rfl, ?_⟩) | (go_at_call 53; (with_reducible refine (replevinref16_hasB.calls t149 true _ A9.out).mono ?_); rintro e w' ⟨rfl, ⟨nd, rfl⟩⟩) | (go_at_call 54; (with_reducible refine (replevinref16_hasC.calls t149 false _ A11.out).mono ?_); rintro e w' ⟨rfl, ⟨nd, rfl⟩⟩; have hcz13_0 : w5.cell? ⟨gb148, 0, none⟩ = some (.int .i64 a0_0) := (blk_cell BK148.out 0).trans rfl; have hcz13_1 : w5.cell? ⟨gb148, 1, none⟩ = some (.int .i64 a0_1) := (blk_cell BK148.out 1).trans rfl; have hcz13_2 : w5.cell? ⟨gb148, 2, none⟩ = some (.int .i64 a0_2) := (blk_cell BK148.out 2).trans rfl; have hcz13_3 : w5.cell? ⟨gb148, 3, none⟩ = some (.int .i64 a0_3) := (blk_cell BK148.out 3).trans rfl; have hfz13_0 := blk_frozen BK148.out 0; have hfz13_1 := blk_frozen BK148.out 1; have hfz13_2 := blk_frozen BK148.out 2; have hfz13_3 := blk_frozen BK148.out 3))
            go_meet
            case rel => exact ⟨_, ((a0_3 != 0)), (by first | rfl | (simp; done) | (simp [*]; done)), H', ⟨by first | omega | exact Nat.le_refl _⟩, ⟨by (with_reducible repeat (first | refine blk_drewN ?_ _ | refine blk_drew ?_ | refine blk_alloc ?_ _)); exact BK148.out⟩, ⟨by repeat (first | (with_reducible first | exact HB.out | apply below_alloc | apply pw_below_drewN | apply below_drew1 | refine below_set ?_ GE148.out) | exact HB.out)⟩⟩
        · replace c10 := Bool.eq_false_iff.mpr c10
          subst c10
          have H1 : (if a0_2 = 0 then ((replevinref16_hasC.f t149).bind fun t154 => (if t154 = true then (replevinref16_Check.j0 k t149 false a0_0 a0_1 a0_2 a0_3) else (replevinref16_Check.j0 k t149 (a0_3 != 0) a0_0 a0_1 a0_2 a0_3))) else (replevinref16_Check.j0 k t149 true a0_0 a0_1 a0_2 a0_3)) = some r := by rw [if_neg (show ¬ (false = true) by decide)] at H; exact H
          clear H
          have H := H1
          clear H1
          by_cases c14 : a0_2 = 0
          · rw [if_pos c14] at H
            have c14b0 : (a0_2 == 0) = true := beq_iff_eq.mpr c14
            have c14b1 : (a0_2 != 0) = false := bne_eq_false_iff_eq.mpr c14
            clear c14
            (first | rw [c14b0] | (simp only [i64_w, i32_w]; rw [c14b0]) | skip)
            replace H := Option.bind_eq_some_iff.mp H
            obtain ⟨t154, A150, H⟩ := H
            replace H : (if t154 = true then (replevinref16_Check.j0 k t149 false a0_0 a0_1 a0_2 a0_3) else (replevinref16_Check.j0 k t149 (a0_3 != 0) a0_0 a0_1 a0_2 a0_3)) = some r := H
            have A15 := Aside0.mk A150
            clear A150
            by_cases c16 : t154 = true
            · subst c16
              have H1 : (replevinref16_Check.j0 k t149 false a0_0 a0_1 a0_2 a0_3) = some r := by rw [if_pos rfl] at H; exact H
              clear H
              have H := H1
              clear H1
              have H' := Aside0.mk H
              clear H
              go_wp2_with (first | ((with_reducible refine gate_callee (f := 52) rfl ?_); refine goesL_ (some 17) rfl rfl Try.func52 (by kernel_rfl) rfl #[.int .i64 t149] rfl (by (try simp only [List.map_toArray, List.map_cons, List.map_nil]); first | done | rfl | (simp only [List.length_drop, List.length_take]; rfl)) ?_; (with_reducible refine (replevinref16_hasA.calls t149 true _ A7.out).mono ?_); rintro e w' ⟨rfl, ⟨nd, rfl⟩⟩; refine ⟨_, rfl, ?_⟩) | (go_at_call 53; (with_reducible refine (replevinref16_hasB.calls t149 false _ A9.out).mono ?_); rintro e w' ⟨rfl, ⟨nd, rfl⟩⟩; have hcz17_0 : w5.cell? ⟨gb148, 0, none⟩ = some (.int .i64 a0_0) := (blk_cell BK148.out 0).trans rfl; have hcz17_1 : w5.cell? ⟨gb148, 1, none⟩ = some (.int .i64 a0_1) := (blk_cell BK148.out 1).trans rfl; have hcz17_2 : w5.cell? ⟨gb148, 2, none⟩ = some (.int .i64 a0_2) := (blk_cell BK148.out 2).trans rfl; have hcz17_3 : w5.cell? ⟨gb148, 3, none⟩ = some (.int .i64 a0_3) := (blk_cell BK148.out 3).trans rfl; have hfz17_0 := blk_frozen BK148.out 0; have hfz17_1 := blk_frozen BK148.out 1; have hfz17_2 := blk_frozen BK148.out 2; have hfz17_3 := blk_frozen BK148.out 3) | (go_at_call 54; (with_reducible refine (replevinref16_hasC.calls t149 true _ A15.out).mono ?_); rintro e w' ⟨rfl, ⟨nd, rfl⟩⟩))
              go_meet
              case rel => exact ⟨_, (false), (by first | rfl | (simp; done) | (simp [*]; done)), H', ⟨by first | omega | exact Nat.le_refl _⟩, ⟨by (with_reducible repeat (first | refine blk_drewN ?_ _ | refine blk_drew ?_ | refine blk_alloc ?_ _)); exact BK148.out⟩, ⟨by repeat (first | (with_reducible first | exact HB.out | apply below_alloc | apply pw_below_drewN | apply below_drew1 | refine below_set ?_ GE148.out) | exact HB.out)⟩⟩
            · replace c16 := Bool.eq_false_iff.mpr c16
              subst c16
              have H1 : (replevinref16_Check.j0 k t149 (a0_3 != 0) a0_0 a0_1 a0_2 a0_3) = some r := by rw [if_neg (show ¬ (false = true) by decide)] at H; exact H
              clear H
              have H := H1
              clear H1
              have H' := Aside0.mk H
              clear H
              go_wp2_with (first | ((with_reducible refine gate_callee (f := 52) rfl ?_); refine goesL_ (some 17) rfl rfl Try.func52 (by kernel_rfl) rfl #[.int .i64 t149] rfl (by (try simp only [List.map_toArray, List.map_cons, List.map_nil]); first | done | rfl | (simp only [List.length_drop, List.length_take]; rfl)) ?_; (with_reducible refine (replevinref16_hasA.calls t149 true _ A7.out).mono ?_); rintro e w' ⟨rfl, ⟨nd, rfl⟩⟩; refine ⟨_, rfl, ?_⟩) | (go_at_call 53; (with_reducible refine (replevinref16_hasB.calls t149 false _ A9.out).mono ?_); rintro e w' ⟨rfl, ⟨nd, rfl⟩⟩; have hcz18_0 : w5.cell? ⟨gb148, 0, none⟩ = some (.int .i64 a0_0) := (blk_cell BK148.out 0).trans rfl; have hcz18_1 : w5.cell? ⟨gb148, 1, none⟩ = some (.int .i64 a0_1) := (blk_cell BK148.out 1).trans rfl; have hcz18_2 : w5.cell? ⟨gb148, 2, none⟩ = some (.int .i64 a0_2) := (blk_cell BK148.out 2).trans rfl; have hcz18_3 : w5.cell? ⟨gb148, 3, none⟩ = some (.int .i64 a0_3) := (blk_cell BK148.out 3).trans rfl; have hfz18_0 := blk_frozen BK148.out 0; have hfz18_1 := blk_frozen BK148.out 1; have hfz18_2 := blk_frozen BK148.out 2; have hfz18_3 := blk_frozen BK148.out 3) | (go_at_call 54; (with_reducible refine (replevinref16_hasC.calls t149 false _ A15.out).mono ?_); rintro e w' ⟨rfl, ⟨nd, rfl⟩⟩))
              go_meet
              case rel => exact ⟨_, ((a0_3 != 0)), (by first | rfl | (simp; done) | (simp [*]; done)), H', ⟨by first | omega | exact Nat.le_refl _⟩, ⟨by (with_reducible repeat (first | refine blk_drewN ?_ _ | refine blk_drew ?_ | refine blk_alloc ?_ _)); exact BK148.out⟩, ⟨by repeat (first | (with_reducible first | exact HB.out | apply below_alloc | apply pw_below_drewN | apply below_drew1 | refine below_set ?_ GE148.out) | exact HB.out)⟩⟩
          · rw [if_neg c14] at H
            have c14b0 : (a0_2 == 0) = false := beq_eq_false_iff_ne.mpr c14
            have c14b1 : (a0_2 != 0) = true := bne_iff_ne.mpr c14
            (first | rw [c14b0] | (simp only [i64_w, i32_w]; rw [c14b0]) | skip)
            have H' := Aside0.mk H
            clear H
            go_wp2_with (first | ((with_reducible refine gate_callee (f := 52) rfl ?_); refine goesL_ (some 17) rfl rfl Try.func52 (by kernel_rfl) rfl #[.int .i64 t149] rfl (by (try simp only [List.map_toArray, List.map_cons, List.map_nil]); first | done | rfl | (simp only [List.length_drop, List.length_take]; rfl)) ?_; (with_reducible refine (replevinref16_hasA.calls t149 true _ A7.out).mono ?_); rintro e w' ⟨rfl, ⟨nd, rfl⟩⟩; refine ⟨_, rfl, ?_⟩) | (go_at_call 53; (with_reducible refine (replevinref16_hasB.calls t149 false _ A9.out).mono ?_); rintro e w' ⟨rfl, ⟨nd, rfl⟩⟩; have hcz19_0 : w5.cell? ⟨gb148, 0, none⟩ = some (.int .i64 a0_0) := (blk_cell BK148.out 0).trans rfl; have hcz19_1 : w5.cell? ⟨gb148, 1, none⟩ = some (.int .i64 a0_1) := (blk_cell BK148.out 1).trans rfl; have hcz19_2 : w5.cell? ⟨gb148, 2, none⟩ = some (.int .i64 a0_2) := (blk_cell BK148.out 2).trans rfl; have hcz19_3 : w5.cell? ⟨gb148, 3, none⟩ = some (.int .i64 a0_3) := (blk_cell BK148.out 3).trans rfl; have hfz19_0 := blk_frozen BK148.out 0; have hfz19_1 := blk_frozen BK148.out 1; have hfz19_2 := blk_frozen BK148.out 2; have hfz19_3 := blk_frozen BK148.out 3))
            go_meet
            case rel => exact ⟨_, (true), (by first | rfl | (simp; done) | (simp [*]; done)), H', ⟨by first | omega | exact Nat.le_refl _⟩, ⟨by (with_reducible repeat (first | refine blk_drewN ?_ _ | refine blk_drew ?_ | refine blk_alloc ?_ _)); exact BK148.out⟩, ⟨by repeat (first | (with_reducible first | exact HB.out | apply below_alloc | apply pw_below_drewN | apply below_drew1 | refine below_set ?_ GE148.out) | exact HB.out)⟩⟩
      · replace c8 := Bool.eq_false_iff.mpr c8
        subst c8
        have H1 : (if a0_1 = 0 then ((replevinref16_hasB.f t149).bind fun t155 => (if t155 = true then ((replevinref16_hasC.f t149).bind fun t156 => (if t156 = true then (replevinref16_Check.j0 k t149 false a0_0 a0_1 a0_2 a0_3) else (replevinref16_Check.j0 k t149 (a0_3 != 0) a0_0 a0_1 a0_2 a0_3))) else (if a0_2 = 0 then ((replevinref16_hasC.f t149).bind fun t157 => (if t157 = true then (replevinref16_Check.j0 k t149 false a0_0 a0_1 a0_2 a0_3) else (replevinref16_Check.j0 k t149 (a0_3 != 0) a0_0 a0_1 a0_2 a0_3))) else (replevinref16_Check.j0 k t149 true a0_0 a0_1 a0_2 a0_3)))) else (replevinref16_Check.j0 k t149 true a0_0 a0_1 a0_2 a0_3)) = some r := by rw [if_neg (show ¬ (false = true) by decide)] at H; exact H
        clear H
        have H := H1
        clear H1
        by_cases c20 : a0_1 = 0
        · rw [if_pos c20] at H
          have c20b0 : (a0_1 == 0) = true := beq_iff_eq.mpr c20
          have c20b1 : (a0_1 != 0) = false := bne_eq_false_iff_eq.mpr c20
          clear c20
          replace H := Option.bind_eq_some_iff.mp H
          obtain ⟨t155, A210, H⟩ := H
          replace H : (if t155 = true then ((replevinref16_hasC.f t149).bind fun t156 => (if t156 = true then (replevinref16_Check.j0 k t149 false a0_0 a0_1 a0_2 a0_3) else (replevinref16_Check.j0 k t149 (a0_3 != 0) a0_0 a0_1 a0_2 a0_3))) else (if a0_2 = 0 then ((replevinref16_hasC.f t149).bind fun t157 => (if t157 = true then (replevinref16_Check.j0 k t149 false a0_0 a0_1 a0_2 a0_3) else (replevinref16_Check.j0 k t149 (a0_3 != 0) a0_0 a0_1 a0_2 a0_3))) else (replevinref16_Check.j0 k t149 true a0_0 a0_1 a0_2 a0_3))) = some r := H
          have A21 := Aside0.mk A210
          clear A210
          by_cases c22 : t155 = true
          · subst c22
            have H1 : ((replevinref16_hasC.f t149).bind fun t156 => (if t156 = true then (replevinref16_Check.j0 k t149 false a0_0 a0_1 a0_2 a0_3) else (replevinref16_Check.j0 k t149 (a0_3 != 0) a0_0 a0_1 a0_2 a0_3))) = some r := by rw [if_pos rfl] at H; exact H
            clear H
            have H := H1
            clear H1
            replace H := Option.bind_eq_some_iff.mp H
            obtain ⟨t156, A230, H⟩ := H
            replace H : (if t156 = true then (replevinref16_Check.j0 k t149 false a0_0 a0_1 a0_2 a0_3) else (replevinref16_Check.j0 k t149 (a0_3 != 0) a0_0 a0_1 a0_2 a0_3)) = some r := H
            have A23 := Aside0.mk A230
            clear A230
            by_cases c24 : t156 = true
            · subst c24
              have H1 : (replevinref16_Check.j0 k t149 false a0_0 a0_1 a0_2 a0_3) = some r := by rw [if_pos rfl] at H; exact H
              clear H
              have H := H1
              clear H1
              have H' := Aside0.mk H
              clear H
              go_wp2_with (first | ((with_reducible refine gate_callee (f := 52) rfl ?_); refine goesL_ (some 17) rfl rfl Try.func52 (by kernel_rfl) rfl #[.int .i64 t149] rfl (by (try simp only [List.map_toArray, List.map_cons, List.map_nil]); first | done | rfl | (simp only [List.length_drop, List.length_take]; rfl)) ?_; (with_reducible refine (replevinref16_hasA.calls t149 false _ A7.out).mono ?_); rintro e w' ⟨rfl, ⟨nd, rfl⟩⟩; refine ⟨_, rfl, ?_⟩; have hcz25_0 : w5.cell? ⟨gb148, 0, none⟩ = some (.int .i64 a0_0) := (blk_cell BK148.out 0).trans rfl; have hcz25_1 : w5.cell? ⟨gb148, 1, none⟩ = some (.int .i64 a0_1) := (blk_cell BK148.out 1).trans rfl; have hcz25_2 : w5.cell? ⟨gb148, 2, none⟩ = some (.int .i64 a0_2) := (blk_cell BK148.out 2).trans rfl; have hcz25_3 : w5.cell? ⟨gb148, 3, none⟩ = some (.int .i64 a0_3) := (blk_cell BK148.out 3).trans rfl; have hfz25_0 := blk_frozen BK148.out 0; have hfz25_1 := blk_frozen BK148.out 1; have hfz25_2 := blk_frozen BK148.out 2; have hfz25_3 := blk_frozen BK148.out 3) | (go_at_call 53; (with_reducible refine (replevinref16_hasB.calls t149 true _ A21.out).mono ?_); rintro e w' ⟨rfl, ⟨nd, rfl⟩⟩) | (go_at_call 54; (with_reducible refine (replevinref16_hasC.calls t149 true _ A23.out).mono ?_); rintro e w' ⟨rfl, ⟨nd, rfl⟩⟩))
              go_meet
              case rel => exact ⟨_, (false), (by first | rfl | (simp; done) | (simp [*]; done)), H', ⟨by first | omega | exact Nat.le_refl _⟩, ⟨by (with_reducible repeat (first | refine blk_drewN ?_ _ | refine blk_drew ?_ | refine blk_alloc ?_ _)); exact BK148.out⟩, ⟨by repeat (first | (with_reducible first | exact HB.out | apply below_alloc | apply pw_below_drewN | apply below_drew1 | refine below_set ?_ GE148.out) | exact HB.out)⟩⟩
            · replace c24 := Bool.eq_false_iff.mpr c24
              subst c24
              have H1 : (replevinref16_Check.j0 k t149 (a0_3 != 0) a0_0 a0_1 a0_2 a0_3) = some r := by rw [if_neg (show ¬ (false = true) by decide)] at H; exact H
              clear H
              have H := H1
              clear H1
              have H' := Aside0.mk H
              clear H
              go_wp2_with (first | ((with_reducible refine gate_callee (f := 52) rfl ?_); refine goesL_ (some 17) rfl rfl Try.func52 (by kernel_rfl) rfl #[.int .i64 t149] rfl (by (try simp only [List.map_toArray, List.map_cons, List.map_nil]); first | done | rfl | (simp only [List.length_drop, List.length_take]; rfl)) ?_; (with_reducible refine (replevinref16_hasA.calls t149 false _ A7.out).mono ?_); rintro e w' ⟨rfl, ⟨nd, rfl⟩⟩; refine ⟨_, rfl, ?_⟩; have hcz26_0 : w5.cell? ⟨gb148, 0, none⟩ = some (.int .i64 a0_0) := (blk_cell BK148.out 0).trans rfl; have hcz26_1 : w5.cell? ⟨gb148, 1, none⟩ = some (.int .i64 a0_1) := (blk_cell BK148.out 1).trans rfl; have hcz26_2 : w5.cell? ⟨gb148, 2, none⟩ = some (.int .i64 a0_2) := (blk_cell BK148.out 2).trans rfl; have hcz26_3 : w5.cell? ⟨gb148, 3, none⟩ = some (.int .i64 a0_3) := (blk_cell BK148.out 3).trans rfl; have hfz26_0 := blk_frozen BK148.out 0; have hfz26_1 := blk_frozen BK148.out 1; have hfz26_2 := blk_frozen BK148.out 2; have hfz26_3 := blk_frozen BK148.out 3) | (go_at_call 53; (with_reducible refine (replevinref16_hasB.calls t149 true _ A21.out).mono ?_); rintro e w' ⟨rfl, ⟨nd, rfl⟩⟩) | (go_at_call 54; (with_reducible refine (replevinref16_hasC.calls t149 false _ A23.out).mono ?_); rintro e w' ⟨rfl, ⟨nd, rfl⟩⟩))
              go_meet
              case rel => exact ⟨_, ((a0_3 != 0)), (by first | rfl | (simp; done) | (simp [*]; done)), H', ⟨by first | omega | exact Nat.le_refl _⟩, ⟨by (with_reducible repeat (first | refine blk_drewN ?_ _ | refine blk_drew ?_ | refine blk_alloc ?_ _)); exact BK148.out⟩, ⟨by repeat (first | (with_reducible first | exact HB.out | apply below_alloc | apply pw_below_drewN | apply below_drew1 | refine below_set ?_ GE148.out) | exact HB.out)⟩⟩
          · replace c22 := Bool.eq_false_iff.mpr c22
            subst c22
            have H1 : (if a0_2 = 0 then ((replevinref16_hasC.f t149).bind fun t157 => (if t157 = true then (replevinref16_Check.j0 k t149 false a0_0 a0_1 a0_2 a0_3) else (replevinref16_Check.j0 k t149 (a0_3 != 0) a0_0 a0_1 a0_2 a0_3))) else (replevinref16_Check.j0 k t149 true a0_0 a0_1 a0_2 a0_3)) = some r := by rw [if_neg (show ¬ (false = true) by decide)] at H; exact H
            clear H
            have H := H1
            clear H1
            by_cases c27 : a0_2 = 0
            · rw [if_pos c27] at H
              have c27b0 : (a0_2 == 0) = true := beq_iff_eq.mpr c27
              have c27b1 : (a0_2 != 0) = false := bne_eq_false_iff_eq.mpr c27
              clear c27
              replace H := Option.bind_eq_some_iff.mp H
              obtain ⟨t157, A280, H⟩ := H
              replace H : (if t157 = true then (replevinref16_Check.j0 k t149 false a0_0 a0_1 a0_2 a0_3) else (replevinref16_Check.j0 k t149 (a0_3 != 0) a0_0 a0_1 a0_2 a0_3)) = some r := H
              have A28 := Aside0.mk A280
              clear A280
              by_cases c29 : t157 = true
              · subst c29
                have H1 : (replevinref16_Check.j0 k t149 false a0_0 a0_1 a0_2 a0_3) = some r := by rw [if_pos rfl] at H; exact H
                clear H
                have H := H1
                clear H1
                have H' := Aside0.mk H
                clear H
                go_wp2_with (first | ((with_reducible refine gate_callee (f := 52) rfl ?_); refine goesL_ (some 17) rfl rfl Try.func52 (by kernel_rfl) rfl #[.int .i64 t149] rfl (by (try simp only [List.map_toArray, List.map_cons, List.map_nil]); first | done | rfl | (simp only [List.length_drop, List.length_take]; rfl)) ?_; (with_reducible refine (replevinref16_hasA.calls t149 false _ A7.out).mono ?_); rintro e w' ⟨rfl, ⟨nd, rfl⟩⟩; refine ⟨_, rfl, ?_⟩; have hcz30_0 : w5.cell? ⟨gb148, 0, none⟩ = some (.int .i64 a0_0) := (blk_cell BK148.out 0).trans rfl; have hcz30_1 : w5.cell? ⟨gb148, 1, none⟩ = some (.int .i64 a0_1) := (blk_cell BK148.out 1).trans rfl; have hcz30_2 : w5.cell? ⟨gb148, 2, none⟩ = some (.int .i64 a0_2) := (blk_cell BK148.out 2).trans rfl; have hcz30_3 : w5.cell? ⟨gb148, 3, none⟩ = some (.int .i64 a0_3) := (blk_cell BK148.out 3).trans rfl; have hfz30_0 := blk_frozen BK148.out 0; have hfz30_1 := blk_frozen BK148.out 1; have hfz30_2 := blk_frozen BK148.out 2; have hfz30_3 := blk_frozen BK148.out 3) | (go_at_call 53; (with_reducible refine (replevinref16_hasB.calls t149 false _ A21.out).mono ?_); rintro e w' ⟨rfl, ⟨nd, rfl⟩⟩) | (go_at_call 54; (with_reducible refine (replevinref16_hasC.calls t149 true _ A28.out).mono ?_); rintro e w' ⟨rfl, ⟨nd, rfl⟩⟩))
                go_meet
                case rel => exact ⟨_, (false), (by first | rfl | (simp; done) | (simp [*]; done)), H', ⟨by first | omega | exact Nat.le_refl _⟩, ⟨by (with_reducible repeat (first | refine blk_drewN ?_ _ | refine blk_drew ?_ | refine blk_alloc ?_ _)); exact BK148.out⟩, ⟨by repeat (first | (with_reducible first | exact HB.out | apply below_alloc | apply pw_below_drewN | apply below_drew1 | refine below_set ?_ GE148.out) | exact HB.out)⟩⟩
              · replace c29 := Bool.eq_false_iff.mpr c29
                subst c29
                have H1 : (replevinref16_Check.j0 k t149 (a0_3 != 0) a0_0 a0_1 a0_2 a0_3) = some r := by rw [if_neg (show ¬ (false = true) by decide)] at H; exact H
                clear H
                have H := H1
                clear H1
                have H' := Aside0.mk H
                clear H
                go_wp2_with (first | ((with_reducible refine gate_callee (f := 52) rfl ?_); refine goesL_ (some 17) rfl rfl Try.func52 (by kernel_rfl) rfl #[.int .i64 t149] rfl (by (try simp only [List.map_toArray, List.map_cons, List.map_nil]); first | done | rfl | (simp only [List.length_drop, List.length_take]; rfl)) ?_; (with_reducible refine (replevinref16_hasA.calls t149 false _ A7.out).mono ?_); rintro e w' ⟨rfl, ⟨nd, rfl⟩⟩; refine ⟨_, rfl, ?_⟩; have hcz31_0 : w5.cell? ⟨gb148, 0, none⟩ = some (.int .i64 a0_0) := (blk_cell BK148.out 0).trans rfl; have hcz31_1 : w5.cell? ⟨gb148, 1, none⟩ = some (.int .i64 a0_1) := (blk_cell BK148.out 1).trans rfl; have hcz31_2 : w5.cell? ⟨gb148, 2, none⟩ = some (.int .i64 a0_2) := (blk_cell BK148.out 2).trans rfl; have hcz31_3 : w5.cell? ⟨gb148, 3, none⟩ = some (.int .i64 a0_3) := (blk_cell BK148.out 3).trans rfl; have hfz31_0 := blk_frozen BK148.out 0; have hfz31_1 := blk_frozen BK148.out 1; have hfz31_2 := blk_frozen BK148.out 2; have hfz31_3 := blk_frozen BK148.out 3) | (go_at_call 53; (with_reducible refine (replevinref16_hasB.calls t149 false _ A21.out).mono ?_); rintro e w' ⟨rfl, ⟨nd, rfl⟩⟩) | (go_at_call 54; (with_reducible refine (replevinref16_hasC.calls t149 false _ A28.out).mono ?_); rintro e w' ⟨rfl, ⟨nd, rfl⟩⟩))
                go_meet
                case rel => exact ⟨_, ((a0_3 != 0)), (by first | rfl | (simp; done) | (simp [*]; done)), H', ⟨by first | omega | exact Nat.le_refl _⟩, ⟨by (with_reducible repeat (first | refine blk_drewN ?_ _ | refine blk_drew ?_ | refine blk_alloc ?_ _)); exact BK148.out⟩, ⟨by repeat (first | (with_reducible first | exact HB.out | apply below_alloc | apply pw_below_drewN | apply below_drew1 | refine below_set ?_ GE148.out) | exact HB.out)⟩⟩
            · rw [if_neg c27] at H
              have c27b0 : (a0_2 == 0) = false := beq_eq_false_iff_ne.mpr c27
              have c27b1 : (a0_2 != 0) = true := bne_iff_ne.mpr c27
              have H' := Aside0.mk H
              clear H
              go_wp2_with (first | ((with_reducible refine gate_callee (f := 52) rfl ?_); refine goesL_ (some 17) rfl rfl Try.func52 (by kernel_rfl) rfl #[.int .i64 t149] rfl (by (try simp only [List.map_toArray, List.map_cons, List.map_nil]); first | done | rfl | (simp only [List.length_drop, List.length_take]; rfl)) ?_; (with_reducible refine (replevinref16_hasA.calls t149 false _ A7.out).mono ?_); rintro e w' ⟨rfl, ⟨nd, rfl⟩⟩; refine ⟨_, rfl, ?_⟩; have hcz32_0 : w5.cell? ⟨gb148, 0, none⟩ = some (.int .i64 a0_0) := (blk_cell BK148.out 0).trans rfl; have hcz32_1 : w5.cell? ⟨gb148, 1, none⟩ = some (.int .i64 a0_1) := (blk_cell BK148.out 1).trans rfl; have hcz32_2 : w5.cell? ⟨gb148, 2, none⟩ = some (.int .i64 a0_2) := (blk_cell BK148.out 2).trans rfl; have hcz32_3 : w5.cell? ⟨gb148, 3, none⟩ = some (.int .i64 a0_3) := (blk_cell BK148.out 3).trans rfl; have hfz32_0 := blk_frozen BK148.out 0; have hfz32_1 := blk_frozen BK148.out 1; have hfz32_2 := blk_frozen BK148.out 2; have hfz32_3 := blk_frozen BK148.out 3) | (go_at_call 53; (with_reducible refine (replevinref16_hasB.calls t149 false _ A21.out).mono ?_); rintro e w' ⟨rfl, ⟨nd, rfl⟩⟩))
              go_meet
              case rel => exact ⟨_, (true), (by first | rfl | (simp; done) | (simp [*]; done)), H', ⟨by first | omega | exact Nat.le_refl _⟩, ⟨by (with_reducible repeat (first | refine blk_drewN ?_ _ | refine blk_drew ?_ | refine blk_alloc ?_ _)); exact BK148.out⟩, ⟨by repeat (first | (with_reducible first | exact HB.out | apply below_alloc | apply pw_below_drewN | apply below_drew1 | refine below_set ?_ GE148.out) | exact HB.out)⟩⟩
        · rw [if_neg c20] at H
          have c20b0 : (a0_1 == 0) = false := beq_eq_false_iff_ne.mpr c20
          have c20b1 : (a0_1 != 0) = true := bne_iff_ne.mpr c20
          have H' := Aside0.mk H
          clear H
          go_wp2_with (first | ((with_reducible refine gate_callee (f := 52) rfl ?_); refine goesL_ (some 17) rfl rfl Try.func52 (by kernel_rfl) rfl #[.int .i64 t149] rfl (by (try simp only [List.map_toArray, List.map_cons, List.map_nil]); first | done | rfl | (simp only [List.length_drop, List.length_take]; rfl)) ?_; (with_reducible refine (replevinref16_hasA.calls t149 false _ A7.out).mono ?_); rintro e w' ⟨rfl, ⟨nd, rfl⟩⟩; refine ⟨_, rfl, ?_⟩; have hcz33_0 : w5.cell? ⟨gb148, 0, none⟩ = some (.int .i64 a0_0) := (blk_cell BK148.out 0).trans rfl; have hcz33_1 : w5.cell? ⟨gb148, 1, none⟩ = some (.int .i64 a0_1) := (blk_cell BK148.out 1).trans rfl; have hcz33_2 : w5.cell? ⟨gb148, 2, none⟩ = some (.int .i64 a0_2) := (blk_cell BK148.out 2).trans rfl; have hcz33_3 : w5.cell? ⟨gb148, 3, none⟩ = some (.int .i64 a0_3) := (blk_cell BK148.out 3).trans rfl; have hfz33_0 := blk_frozen BK148.out 0; have hfz33_1 := blk_frozen BK148.out 1; have hfz33_2 := blk_frozen BK148.out 2; have hfz33_3 := blk_frozen BK148.out 3))
          go_meet
          case rel => exact ⟨_, (true), (by first | rfl | (simp; done) | (simp [*]; done)), H', ⟨by first | omega | exact Nat.le_refl _⟩, ⟨by (with_reducible repeat (first | refine blk_drewN ?_ _ | refine blk_drew ?_ | refine blk_alloc ?_ _)); exact BK148.out⟩, ⟨by repeat (first | (with_reducible first | exact HB.out | apply below_alloc | apply pw_below_drewN | apply below_drew1 | refine below_set ?_ GE148.out) | exact HB.out)⟩⟩
    case rest =>
      clear HC4
      try clear c1
      try clear c2
      try clear p2
      try clear c3
      try clear c3b0
      try clear c3b1
      try clear c5
      try clear c8
      try clear c10
      try clear c12
      try clear c14
      try clear c14b0
      try clear c14b1
      try clear c16
      try clear c20
      try clear c20b0
      try clear c20b1
      try clear c22
      try clear c24
      try clear c27
      try clear c27b0
      try clear c27b1
      try clear c29
      try clear c31
      try clear hcz13_0
      try clear hcz13_1
      try clear hcz13_2
      try clear hcz13_3
      try clear hcz17_0
      try clear hcz17_1
      try clear hcz17_2
      try clear hcz17_3
      try clear hcz18_0
      try clear hcz18_1
      try clear hcz18_2
      try clear hcz18_3
      try clear hcz19_0
      try clear hcz19_1
      try clear hcz19_2
      try clear hcz19_3
      try clear hcz25_0
      try clear hcz25_1
      try clear hcz25_2
      try clear hcz25_3
      try clear hcz26_0
      try clear hcz26_1
      try clear hcz26_2
      try clear hcz26_3
      try clear hcz30_0
      try clear hcz30_1
      try clear hcz30_2
      try clear hcz30_3
      try clear hcz31_0
      try clear hcz31_1
      try clear hcz31_2
      try clear hcz31_3
      try clear hcz32_0
      try clear hcz32_1
      try clear hcz32_2
      try clear hcz32_3
      try clear hcz33_0
      try clear hcz33_1
      try clear hcz33_2
      try clear hcz33_3
      try clear hcz6_0
      try clear hcz6_1
      try clear hcz6_2
      try clear hcz6_3
      try clear hfz13_0
      try clear hfz13_1
      try clear hfz13_2
      try clear hfz13_3
      try clear hfz17_0
      try clear hfz17_1
      try clear hfz17_2
      try clear hfz17_3
      try clear hfz18_0
      try clear hfz18_1
      try clear hfz18_2
      try clear hfz18_3
      try clear hfz19_0
      try clear hfz19_1
      try clear hfz19_2
      try clear hfz19_3
      try clear hfz25_0
      try clear hfz25_1
      try clear hfz25_2
      try clear hfz25_3
      try clear hfz26_0
      try clear hfz26_1
      try clear hfz26_2
      try clear hfz26_3
      try clear hfz30_0
      try clear hfz30_1
      try clear hfz30_2
      try clear hfz30_3
      try clear hfz31_0
      try clear hfz31_1
      try clear hfz31_2
      try clear hfz31_3
      try clear hfz32_0
      try clear hfz32_1
      try clear hfz32_2
      try clear hfz32_3
      try clear hfz33_0
      try clear hfz33_1
      try clear hfz33_2
      try clear hfz33_3
      try clear hfz6_0
      try clear hfz6_1
      try clear hfz6_2
      try clear hfz6_3
      obtain ⟨kq, x43_3, rfl, HA, HJ3, BK148, HB⟩ := hcut
      cases kq with
      | zero => exact absurd HA.out (by simp [replevinref16_Check.j0])
      | succ kj3 =>
        have H := HA.out
        clear HA
        simp only [replevinref16_Check.j0] at H
        by_cases c34 : x43_3 = true
        · subst c34
          have H1 : (some 1) = some r := by rw [if_pos rfl] at H; exact H
          clear H
          have H := H1
          clear H1
          obtain rfl := Option.some.inj H
          go_wp2
          go_ret
          exact ⟨by first | rfl | (simp [errW_none, errW_some] <;> rfl) | (simp [*, errW_none, errW_some] <;> rfl), by repeat (first | (with_reducible first | exact HB.out | apply below_alloc | apply pw_below_drewN | apply below_drew1 | refine below_set ?_ GE148.out) | exact HB.out)⟩
        · replace c34 := Bool.eq_false_iff.mpr c34
          subst c34
          have H1 : (if t149 ≥ 4 then ((replevinref16_Limits.f kj3 a0_0).bind fun bt158 => (if a0_1 < 0 then (some 2) else (if a0_1 > 7 then (some 2) else (if a0_2 < 0 then (some 2) else (if a0_2 > 7 then (some 2) else ((replevinref16_hasC.f t149).bind fun t161 => (if t161 = true then (if a0_3 < bt158.1 then (some 2) else (if a0_3 > bt158.2.1 then (some 2) else (some 0))) else (some 0)))))))) else (if a0_1 < 0 then (some 2) else (if a0_1 > 7 then (some 2) else (if a0_2 < 0 then (some 2) else (if a0_2 > 7 then (some 2) else ((replevinref16_hasC.f t149).bind fun t162 => (if t162 = true then (if a0_3 < 0 then (some 2) else (if a0_3 > 7 then (some 2) else (some 0))) else (some 0)))))))) = some r := by rw [if_neg (show ¬ (false = true) by decide)] at H; exact H
          clear H
          have H := H1
          clear H1
          by_cases c35 : t149 ≥ 4
          · rw [if_pos c35] at H
            have c35b0 : decide (4 ≤ t149) = true := decide_eq_true c35
            clear c35
            replace H := Option.bind_eq_some_iff.mp H
            obtain ⟨⟨t158, t159, t160⟩, A360, H⟩ := H
            replace H : (if a0_1 < 0 then (some 2) else (if a0_1 > 7 then (some 2) else (if a0_2 < 0 then (some 2) else (if a0_2 > 7 then (some 2) else ((replevinref16_hasC.f t149).bind fun t161 => (if t161 = true then (if a0_3 < t158 then (some 2) else (if a0_3 > t159 then (some 2) else (some 0))) else (some 0))))))) = some r := H
            have A36 := Aside0.mk A360
            clear A360
            by_cases c37 : a0_1 < 0
            · rw [if_pos c37] at H
              have c37b0 : decide (a0_1 < 0) = true := decide_eq_true c37
              clear c37
              obtain rfl := Option.some.inj H
              have hcz38_0 : wc.cell? ⟨gb148, 0, none⟩ = some (.int .i64 a0_0) := (blk_cell BK148.out 0).trans rfl
              have hcz38_1 : wc.cell? ⟨gb148, 1, none⟩ = some (.int .i64 a0_1) := (blk_cell BK148.out 1).trans rfl
              have hcz38_2 : wc.cell? ⟨gb148, 2, none⟩ = some (.int .i64 a0_2) := (blk_cell BK148.out 2).trans rfl
              have hcz38_3 : wc.cell? ⟨gb148, 3, none⟩ = some (.int .i64 a0_3) := (blk_cell BK148.out 3).trans rfl
              have hfz38_0 := blk_frozen BK148.out 0
              have hfz38_1 := blk_frozen BK148.out 1
              have hfz38_2 := blk_frozen BK148.out 2
              have hfz38_3 := blk_frozen BK148.out 3
              go_wp2_with (first | ((with_reducible refine gate_callee (f := 33) rfl ?_); refine goesL_ (some 49) rfl rfl Try.func33 (by kernel_rfl) rfl #[.int .i64 a0_0] rfl (by (try simp only [List.map_toArray, List.map_cons, List.map_nil]); first | done | rfl | (simp only [List.length_drop, List.length_take]; rfl)) ?_; (with_reducible refine (replevinref16_Limits.calls kj3 a0_0 t158 t159 t160 _ A36.out).mono ?_); rintro e w' ⟨rfl, ⟨nd, rfl⟩⟩; refine ⟨_, rfl, ?_⟩))
              go_ret
              exact ⟨by first | rfl | (simp [errW_none, errW_some] <;> rfl) | (simp [*, errW_none, errW_some] <;> rfl), by repeat (first | (with_reducible first | exact HB.out | apply below_alloc | apply pw_below_drewN | apply below_drew1 | refine below_set ?_ GE148.out) | exact HB.out)⟩
            · rw [if_neg c37] at H
              have c37b0 : decide (a0_1 < 0) = false := decide_eq_false c37
              clear c37
              by_cases c39 : a0_1 > 7
              · rw [if_pos c39] at H
                have c39b0 : decide (7 < a0_1) = true := decide_eq_true c39
                clear c39
                obtain rfl := Option.some.inj H
                have hcz40_0 : wc.cell? ⟨gb148, 0, none⟩ = some (.int .i64 a0_0) := (blk_cell BK148.out 0).trans rfl
                have hcz40_1 : wc.cell? ⟨gb148, 1, none⟩ = some (.int .i64 a0_1) := (blk_cell BK148.out 1).trans rfl
                have hcz40_2 : wc.cell? ⟨gb148, 2, none⟩ = some (.int .i64 a0_2) := (blk_cell BK148.out 2).trans rfl
                have hcz40_3 : wc.cell? ⟨gb148, 3, none⟩ = some (.int .i64 a0_3) := (blk_cell BK148.out 3).trans rfl
                have hfz40_0 := blk_frozen BK148.out 0
                have hfz40_1 := blk_frozen BK148.out 1
                have hfz40_2 := blk_frozen BK148.out 2
                have hfz40_3 := blk_frozen BK148.out 3
                go_wp2_with (first | ((with_reducible refine gate_callee (f := 33) rfl ?_); refine goesL_ (some 49) rfl rfl Try.func33 (by kernel_rfl) rfl #[.int .i64 a0_0] rfl (by (try simp only [List.map_toArray, List.map_cons, List.map_nil]); first | done | rfl | (simp only [List.length_drop, List.length_take]; rfl)) ?_; (with_reducible refine (replevinref16_Limits.calls kj3 a0_0 t158 t159 t160 _ A36.out).mono ?_); rintro e w' ⟨rfl, ⟨nd, rfl⟩⟩; refine ⟨_, rfl, ?_⟩))
                go_ret
                exact ⟨by first | rfl | (simp [errW_none, errW_some] <;> rfl) | (simp [*, errW_none, errW_some] <;> rfl), by repeat (first | (with_reducible first | exact HB.out | apply below_alloc | apply pw_below_drewN | apply below_drew1 | refine below_set ?_ GE148.out) | exact HB.out)⟩
              · rw [if_neg c39] at H
                have c39b0 : decide (7 < a0_1) = false := decide_eq_false c39
                clear c39
                by_cases c41 : a0_2 < 0
                · rw [if_pos c41] at H
                  have c41b0 : decide (a0_2 < 0) = true := decide_eq_true c41
                  clear c41
                  obtain rfl := Option.some.inj H
                  have hcz42_0 : wc.cell? ⟨gb148, 0, none⟩ = some (.int .i64 a0_0) := (blk_cell BK148.out 0).trans rfl
                  have hcz42_1 : wc.cell? ⟨gb148, 1, none⟩ = some (.int .i64 a0_1) := (blk_cell BK148.out 1).trans rfl
                  have hcz42_2 : wc.cell? ⟨gb148, 2, none⟩ = some (.int .i64 a0_2) := (blk_cell BK148.out 2).trans rfl
                  have hcz42_3 : wc.cell? ⟨gb148, 3, none⟩ = some (.int .i64 a0_3) := (blk_cell BK148.out 3).trans rfl
                  have hfz42_0 := blk_frozen BK148.out 0
                  have hfz42_1 := blk_frozen BK148.out 1
                  have hfz42_2 := blk_frozen BK148.out 2
                  have hfz42_3 := blk_frozen BK148.out 3
                  go_wp2_with (first | ((with_reducible refine gate_callee (f := 33) rfl ?_); refine goesL_ (some 49) rfl rfl Try.func33 (by kernel_rfl) rfl #[.int .i64 a0_0] rfl (by (try simp only [List.map_toArray, List.map_cons, List.map_nil]); first | done | rfl | (simp only [List.length_drop, List.length_take]; rfl)) ?_; (with_reducible refine (replevinref16_Limits.calls kj3 a0_0 t158 t159 t160 _ A36.out).mono ?_); rintro e w' ⟨rfl, ⟨nd, rfl⟩⟩; refine ⟨_, rfl, ?_⟩))
                  go_ret
                  exact ⟨by first | rfl | (simp [errW_none, errW_some] <;> rfl) | (simp [*, errW_none, errW_some] <;> rfl), by repeat (first | (with_reducible first | exact HB.out | apply below_alloc | apply pw_below_drewN | apply below_drew1 | refine below_set ?_ GE148.out) | exact HB.out)⟩
                · rw [if_neg c41] at H
                  have c41b0 : decide (a0_2 < 0) = false := decide_eq_false c41
                  clear c41
                  by_cases c43 : a0_2 > 7
                  · rw [if_pos c43] at H
                    have c43b0 : decide (7 < a0_2) = true := decide_eq_true c43
                    clear c43
                    obtain rfl := Option.some.inj H
                    have hcz44_0 : wc.cell? ⟨gb148, 0, none⟩ = some (.int .i64 a0_0) := (blk_cell BK148.out 0).trans rfl
                    have hcz44_1 : wc.cell? ⟨gb148, 1, none⟩ = some (.int .i64 a0_1) := (blk_cell BK148.out 1).trans rfl
                    have hcz44_2 : wc.cell? ⟨gb148, 2, none⟩ = some (.int .i64 a0_2) := (blk_cell BK148.out 2).trans rfl
                    have hcz44_3 : wc.cell? ⟨gb148, 3, none⟩ = some (.int .i64 a0_3) := (blk_cell BK148.out 3).trans rfl
                    have hfz44_0 := blk_frozen BK148.out 0
                    have hfz44_1 := blk_frozen BK148.out 1
                    have hfz44_2 := blk_frozen BK148.out 2
                    have hfz44_3 := blk_frozen BK148.out 3
                    go_wp2_with (first | ((with_reducible refine gate_callee (f := 33) rfl ?_); refine goesL_ (some 49) rfl rfl Try.func33 (by kernel_rfl) rfl #[.int .i64 a0_0] rfl (by (try simp only [List.map_toArray, List.map_cons, List.map_nil]); first | done | rfl | (simp only [List.length_drop, List.length_take]; rfl)) ?_; (with_reducible refine (replevinref16_Limits.calls kj3 a0_0 t158 t159 t160 _ A36.out).mono ?_); rintro e w' ⟨rfl, ⟨nd, rfl⟩⟩; refine ⟨_, rfl, ?_⟩))
                    go_ret
                    exact ⟨by first | rfl | (simp [errW_none, errW_some] <;> rfl) | (simp [*, errW_none, errW_some] <;> rfl), by repeat (first | (with_reducible first | exact HB.out | apply below_alloc | apply pw_below_drewN | apply below_drew1 | refine below_set ?_ GE148.out) | exact HB.out)⟩
                  · rw [if_neg c43] at H
                    have c43b0 : decide (7 < a0_2) = false := decide_eq_false c43
                    clear c43
                    replace H := Option.bind_eq_some_iff.mp H
                    obtain ⟨t161, A450, H⟩ := H
                    replace H : (if t161 = true then (if a0_3 < t158 then (some 2) else (if a0_3 > t159 then (some 2) else (some 0))) else (some 0)) = some r := H
                    have A45 := Aside0.mk A450
                    clear A450
                    by_cases c46 : t161 = true
                    · subst c46
                      have H1 : (if a0_3 < t158 then (some 2) else (if a0_3 > t159 then (some 2) else (some 0))) = some r := by rw [if_pos rfl] at H; exact H
                      clear H
                      have H := H1
                      clear H1
                      by_cases c47 : a0_3 < t158
                      · rw [if_pos c47] at H
                        have c47b0 : decide (a0_3 < t158) = true := decide_eq_true c47
                        clear c47
                        obtain rfl := Option.some.inj H
                        have hcz48_0 : wc.cell? ⟨gb148, 0, none⟩ = some (.int .i64 a0_0) := (blk_cell BK148.out 0).trans rfl
                        have hcz48_1 : wc.cell? ⟨gb148, 1, none⟩ = some (.int .i64 a0_1) := (blk_cell BK148.out 1).trans rfl
                        have hcz48_2 : wc.cell? ⟨gb148, 2, none⟩ = some (.int .i64 a0_2) := (blk_cell BK148.out 2).trans rfl
                        have hcz48_3 : wc.cell? ⟨gb148, 3, none⟩ = some (.int .i64 a0_3) := (blk_cell BK148.out 3).trans rfl
                        have hfz48_0 := blk_frozen BK148.out 0
                        have hfz48_1 := blk_frozen BK148.out 1
                        have hfz48_2 := blk_frozen BK148.out 2
                        have hfz48_3 := blk_frozen BK148.out 3
                        go_wp2_with (first | ((with_reducible refine gate_callee (f := 33) rfl ?_); refine goesL_ (some 49) rfl rfl Try.func33 (by kernel_rfl) rfl #[.int .i64 a0_0] rfl (by (try simp only [List.map_toArray, List.map_cons, List.map_nil]); first | done | rfl | (simp only [List.length_drop, List.length_take]; rfl)) ?_; (with_reducible refine (replevinref16_Limits.calls kj3 a0_0 t158 t159 t160 _ A36.out).mono ?_); rintro e w' ⟨rfl, ⟨nd, rfl⟩⟩; refine ⟨_, rfl, ?_⟩) | (go_at_call 54; (with_reducible refine (replevinref16_hasC.calls t149 true _ A45.out).mono ?_); rintro e w' ⟨rfl, ⟨nd, rfl⟩⟩))
                        go_ret
                        exact ⟨by first | rfl | (simp [errW_none, errW_some] <;> rfl) | (simp [*, errW_none, errW_some] <;> rfl), by repeat (first | (with_reducible first | exact HB.out | apply below_alloc | apply pw_below_drewN | apply below_drew1 | refine below_set ?_ GE148.out) | exact HB.out)⟩
                      · rw [if_neg c47] at H
                        have c47b0 : decide (a0_3 < t158) = false := decide_eq_false c47
                        clear c47
                        by_cases c49 : a0_3 > t159
                        · rw [if_pos c49] at H
                          have c49b0 : decide (t159 < a0_3) = true := decide_eq_true c49
                          clear c49
                          obtain rfl := Option.some.inj H
                          have hcz50_0 : wc.cell? ⟨gb148, 0, none⟩ = some (.int .i64 a0_0) := (blk_cell BK148.out 0).trans rfl
                          have hcz50_1 : wc.cell? ⟨gb148, 1, none⟩ = some (.int .i64 a0_1) := (blk_cell BK148.out 1).trans rfl
                          have hcz50_2 : wc.cell? ⟨gb148, 2, none⟩ = some (.int .i64 a0_2) := (blk_cell BK148.out 2).trans rfl
                          have hcz50_3 : wc.cell? ⟨gb148, 3, none⟩ = some (.int .i64 a0_3) := (blk_cell BK148.out 3).trans rfl
                          have hfz50_0 := blk_frozen BK148.out 0
                          have hfz50_1 := blk_frozen BK148.out 1
                          have hfz50_2 := blk_frozen BK148.out 2
                          have hfz50_3 := blk_frozen BK148.out 3
                          go_wp2_with (first | ((with_reducible refine gate_callee (f := 33) rfl ?_); refine goesL_ (some 49) rfl rfl Try.func33 (by kernel_rfl) rfl #[.int .i64 a0_0] rfl (by (try simp only [List.map_toArray, List.map_cons, List.map_nil]); first | done | rfl | (simp only [List.length_drop, List.length_take]; rfl)) ?_; (with_reducible refine (replevinref16_Limits.calls kj3 a0_0 t158 t159 t160 _ A36.out).mono ?_); rintro e w' ⟨rfl, ⟨nd, rfl⟩⟩; refine ⟨_, rfl, ?_⟩) | (go_at_call 54; (with_reducible refine (replevinref16_hasC.calls t149 true _ A45.out).mono ?_); rintro e w' ⟨rfl, ⟨nd, rfl⟩⟩))
                          go_ret
                          exact ⟨by first | rfl | (simp [errW_none, errW_some] <;> rfl) | (simp [*, errW_none, errW_some] <;> rfl), by repeat (first | (with_reducible first | exact HB.out | apply below_alloc | apply pw_below_drewN | apply below_drew1 | refine below_set ?_ GE148.out) | exact HB.out)⟩
                        · rw [if_neg c49] at H
                          have c49b0 : decide (t159 < a0_3) = false := decide_eq_false c49
                          clear c49
                          obtain rfl := Option.some.inj H
                          have hcz51_0 : wc.cell? ⟨gb148, 0, none⟩ = some (.int .i64 a0_0) := (blk_cell BK148.out 0).trans rfl
                          have hcz51_1 : wc.cell? ⟨gb148, 1, none⟩ = some (.int .i64 a0_1) := (blk_cell BK148.out 1).trans rfl
                          have hcz51_2 : wc.cell? ⟨gb148, 2, none⟩ = some (.int .i64 a0_2) := (blk_cell BK148.out 2).trans rfl
                          have hcz51_3 : wc.cell? ⟨gb148, 3, none⟩ = some (.int .i64 a0_3) := (blk_cell BK148.out 3).trans rfl
                          have hfz51_0 := blk_frozen BK148.out 0
                          have hfz51_1 := blk_frozen BK148.out 1
                          have hfz51_2 := blk_frozen BK148.out 2
                          have hfz51_3 := blk_frozen BK148.out 3
                          go_wp2_with (first | ((with_reducible refine gate_callee (f := 33) rfl ?_); refine goesL_ (some 49) rfl rfl Try.func33 (by kernel_rfl) rfl #[.int .i64 a0_0] rfl (by (try simp only [List.map_toArray, List.map_cons, List.map_nil]); first | done | rfl | (simp only [List.length_drop, List.length_take]; rfl)) ?_; (with_reducible refine (replevinref16_Limits.calls kj3 a0_0 t158 t159 t160 _ A36.out).mono ?_); rintro e w' ⟨rfl, ⟨nd, rfl⟩⟩; refine ⟨_, rfl, ?_⟩) | (go_at_call 54; (with_reducible refine (replevinref16_hasC.calls t149 true _ A45.out).mono ?_); rintro e w' ⟨rfl, ⟨nd, rfl⟩⟩))
                          go_ret
                          exact ⟨by first | rfl | (simp [errW_none, errW_some] <;> rfl) | (simp [*, errW_none, errW_some] <;> rfl), by repeat (first | (with_reducible first | exact HB.out | apply below_alloc | apply pw_below_drewN | apply below_drew1 | refine below_set ?_ GE148.out) | exact HB.out)⟩
                    · replace c46 := Bool.eq_false_iff.mpr c46
                      subst c46
                      have H1 : (some 0) = some r := by rw [if_neg (show ¬ (false = true) by decide)] at H; exact H
                      clear H
                      have H := H1
                      clear H1
                      obtain rfl := Option.some.inj H
                      have hcz52_0 : wc.cell? ⟨gb148, 0, none⟩ = some (.int .i64 a0_0) := (blk_cell BK148.out 0).trans rfl
                      have hcz52_1 : wc.cell? ⟨gb148, 1, none⟩ = some (.int .i64 a0_1) := (blk_cell BK148.out 1).trans rfl
                      have hcz52_2 : wc.cell? ⟨gb148, 2, none⟩ = some (.int .i64 a0_2) := (blk_cell BK148.out 2).trans rfl
                      have hcz52_3 : wc.cell? ⟨gb148, 3, none⟩ = some (.int .i64 a0_3) := (blk_cell BK148.out 3).trans rfl
                      have hfz52_0 := blk_frozen BK148.out 0
                      have hfz52_1 := blk_frozen BK148.out 1
                      have hfz52_2 := blk_frozen BK148.out 2
                      have hfz52_3 := blk_frozen BK148.out 3
                      go_wp2_with (first | ((with_reducible refine gate_callee (f := 33) rfl ?_); refine goesL_ (some 49) rfl rfl Try.func33 (by kernel_rfl) rfl #[.int .i64 a0_0] rfl (by (try simp only [List.map_toArray, List.map_cons, List.map_nil]); first | done | rfl | (simp only [List.length_drop, List.length_take]; rfl)) ?_; (with_reducible refine (replevinref16_Limits.calls kj3 a0_0 t158 t159 t160 _ A36.out).mono ?_); rintro e w' ⟨rfl, ⟨nd, rfl⟩⟩; refine ⟨_, rfl, ?_⟩) | (go_at_call 54; (with_reducible refine (replevinref16_hasC.calls t149 false _ A45.out).mono ?_); rintro e w' ⟨rfl, ⟨nd, rfl⟩⟩))
                      go_ret
                      exact ⟨by first | rfl | (simp [errW_none, errW_some] <;> rfl) | (simp [*, errW_none, errW_some] <;> rfl), by repeat (first | (with_reducible first | exact HB.out | apply below_alloc | apply pw_below_drewN | apply below_drew1 | refine below_set ?_ GE148.out) | exact HB.out)⟩
          · rw [if_neg c35] at H
            have c35b0 : decide (4 ≤ t149) = false := decide_eq_false c35
            clear c35
            by_cases c53 : a0_1 < 0
            · rw [if_pos c53] at H
              have c53b0 : decide (a0_1 < 0) = true := decide_eq_true c53
              clear c53
              obtain rfl := Option.some.inj H
              have hcz54_0 : wc.cell? ⟨gb148, 0, none⟩ = some (.int .i64 a0_0) := (blk_cell BK148.out 0).trans rfl
              have hcz54_1 : wc.cell? ⟨gb148, 1, none⟩ = some (.int .i64 a0_1) := (blk_cell BK148.out 1).trans rfl
              have hcz54_2 : wc.cell? ⟨gb148, 2, none⟩ = some (.int .i64 a0_2) := (blk_cell BK148.out 2).trans rfl
              have hcz54_3 : wc.cell? ⟨gb148, 3, none⟩ = some (.int .i64 a0_3) := (blk_cell BK148.out 3).trans rfl
              have hfz54_0 := blk_frozen BK148.out 0
              have hfz54_1 := blk_frozen BK148.out 1
              have hfz54_2 := blk_frozen BK148.out 2
              have hfz54_3 := blk_frozen BK148.out 3
              go_wp2
              go_ret
              exact ⟨by first | rfl | (simp [errW_none, errW_some] <;> rfl) | (simp [*, errW_none, errW_some] <;> rfl), by repeat (first | (with_reducible first | exact HB.out | apply below_alloc | apply pw_below_drewN | apply below_drew1 | refine below_set ?_ GE148.out) | exact HB.out)⟩
            · rw [if_neg c53] at H
              have c53b0 : decide (a0_1 < 0) = false := decide_eq_false c53
              clear c53
              by_cases c55 : a0_1 > 7
              · rw [if_pos c55] at H
                have c55b0 : decide (7 < a0_1) = true := decide_eq_true c55
                clear c55
                obtain rfl := Option.some.inj H
                have hcz56_0 : wc.cell? ⟨gb148, 0, none⟩ = some (.int .i64 a0_0) := (blk_cell BK148.out 0).trans rfl
                have hcz56_1 : wc.cell? ⟨gb148, 1, none⟩ = some (.int .i64 a0_1) := (blk_cell BK148.out 1).trans rfl
                have hcz56_2 : wc.cell? ⟨gb148, 2, none⟩ = some (.int .i64 a0_2) := (blk_cell BK148.out 2).trans rfl
                have hcz56_3 : wc.cell? ⟨gb148, 3, none⟩ = some (.int .i64 a0_3) := (blk_cell BK148.out 3).trans rfl
                have hfz56_0 := blk_frozen BK148.out 0
                have hfz56_1 := blk_frozen BK148.out 1
                have hfz56_2 := blk_frozen BK148.out 2
                have hfz56_3 := blk_frozen BK148.out 3
                go_wp2
                go_ret
                exact ⟨by first | rfl | (simp [errW_none, errW_some] <;> rfl) | (simp [*, errW_none, errW_some] <;> rfl), by repeat (first | (with_reducible first | exact HB.out | apply below_alloc | apply pw_below_drewN | apply below_drew1 | refine below_set ?_ GE148.out) | exact HB.out)⟩
              · rw [if_neg c55] at H
                have c55b0 : decide (7 < a0_1) = false := decide_eq_false c55
                clear c55
                by_cases c57 : a0_2 < 0
                · rw [if_pos c57] at H
                  have c57b0 : decide (a0_2 < 0) = true := decide_eq_true c57
                  clear c57
                  obtain rfl := Option.some.inj H
                  have hcz58_0 : wc.cell? ⟨gb148, 0, none⟩ = some (.int .i64 a0_0) := (blk_cell BK148.out 0).trans rfl
                  have hcz58_1 : wc.cell? ⟨gb148, 1, none⟩ = some (.int .i64 a0_1) := (blk_cell BK148.out 1).trans rfl
                  have hcz58_2 : wc.cell? ⟨gb148, 2, none⟩ = some (.int .i64 a0_2) := (blk_cell BK148.out 2).trans rfl
                  have hcz58_3 : wc.cell? ⟨gb148, 3, none⟩ = some (.int .i64 a0_3) := (blk_cell BK148.out 3).trans rfl
                  have hfz58_0 := blk_frozen BK148.out 0
                  have hfz58_1 := blk_frozen BK148.out 1
                  have hfz58_2 := blk_frozen BK148.out 2
                  have hfz58_3 := blk_frozen BK148.out 3
                  go_wp2
                  go_ret
                  exact ⟨by first | rfl | (simp [errW_none, errW_some] <;> rfl) | (simp [*, errW_none, errW_some] <;> rfl), by repeat (first | (with_reducible first | exact HB.out | apply below_alloc | apply pw_below_drewN | apply below_drew1 | refine below_set ?_ GE148.out) | exact HB.out)⟩
                · rw [if_neg c57] at H
                  have c57b0 : decide (a0_2 < 0) = false := decide_eq_false c57
                  clear c57
                  by_cases c59 : a0_2 > 7
                  · rw [if_pos c59] at H
                    have c59b0 : decide (7 < a0_2) = true := decide_eq_true c59
                    clear c59
                    obtain rfl := Option.some.inj H
                    have hcz60_0 : wc.cell? ⟨gb148, 0, none⟩ = some (.int .i64 a0_0) := (blk_cell BK148.out 0).trans rfl
                    have hcz60_1 : wc.cell? ⟨gb148, 1, none⟩ = some (.int .i64 a0_1) := (blk_cell BK148.out 1).trans rfl
                    have hcz60_2 : wc.cell? ⟨gb148, 2, none⟩ = some (.int .i64 a0_2) := (blk_cell BK148.out 2).trans rfl
                    have hcz60_3 : wc.cell? ⟨gb148, 3, none⟩ = some (.int .i64 a0_3) := (blk_cell BK148.out 3).trans rfl
                    have hfz60_0 := blk_frozen BK148.out 0
                    have hfz60_1 := blk_frozen BK148.out 1
                    have hfz60_2 := blk_frozen BK148.out 2
                    have hfz60_3 := blk_frozen BK148.out 3
                    go_wp2
                    go_ret
                    exact ⟨by first | rfl | (simp [errW_none, errW_some] <;> rfl) | (simp [*, errW_none, errW_some] <;> rfl), by repeat (first | (with_reducible first | exact HB.out | apply below_alloc | apply pw_below_drewN | apply below_drew1 | refine below_set ?_ GE148.out) | exact HB.out)⟩
                  · rw [if_neg c59] at H
                    have c59b0 : decide (7 < a0_2) = false := decide_eq_false c59
                    clear c59
                    replace H := Option.bind_eq_some_iff.mp H
                    obtain ⟨t162, A610, H⟩ := H
                    replace H : (if t162 = true then (if a0_3 < 0 then (some 2) else (if a0_3 > 7 then (some 2) else (some 0))) else (some 0)) = some r := H
                    have A61 := Aside0.mk A610
                    clear A610
                    by_cases c62 : t162 = true
                    · subst c62
                      have H1 : (if a0_3 < 0 then (some 2) else (if a0_3 > 7 then (some 2) else (some 0))) = some r := by rw [if_pos rfl] at H; exact H
                      clear H
                      have H := H1
                      clear H1
                      by_cases c63 : a0_3 < 0
                      · rw [if_pos c63] at H
                        have c63b0 : decide (a0_3 < 0) = true := decide_eq_true c63
                        clear c63
                        obtain rfl := Option.some.inj H
                        have hcz64_0 : wc.cell? ⟨gb148, 0, none⟩ = some (.int .i64 a0_0) := (blk_cell BK148.out 0).trans rfl
                        have hcz64_1 : wc.cell? ⟨gb148, 1, none⟩ = some (.int .i64 a0_1) := (blk_cell BK148.out 1).trans rfl
                        have hcz64_2 : wc.cell? ⟨gb148, 2, none⟩ = some (.int .i64 a0_2) := (blk_cell BK148.out 2).trans rfl
                        have hcz64_3 : wc.cell? ⟨gb148, 3, none⟩ = some (.int .i64 a0_3) := (blk_cell BK148.out 3).trans rfl
                        have hfz64_0 := blk_frozen BK148.out 0
                        have hfz64_1 := blk_frozen BK148.out 1
                        have hfz64_2 := blk_frozen BK148.out 2
                        have hfz64_3 := blk_frozen BK148.out 3
                        go_wp2_with (first | (go_at_call 54; (with_reducible refine (replevinref16_hasC.calls t149 true _ A61.out).mono ?_); rintro e w' ⟨rfl, ⟨nd, rfl⟩⟩))
                        go_ret
                        exact ⟨by first | rfl | (simp [errW_none, errW_some] <;> rfl) | (simp [*, errW_none, errW_some] <;> rfl), by repeat (first | (with_reducible first | exact HB.out | apply below_alloc | apply pw_below_drewN | apply below_drew1 | refine below_set ?_ GE148.out) | exact HB.out)⟩
                      · rw [if_neg c63] at H
                        have c63b0 : decide (a0_3 < 0) = false := decide_eq_false c63
                        clear c63
                        by_cases c65 : a0_3 > 7
                        · rw [if_pos c65] at H
                          have c65b0 : decide (7 < a0_3) = true := decide_eq_true c65
                          clear c65
                          obtain rfl := Option.some.inj H
                          have hcz66_0 : wc.cell? ⟨gb148, 0, none⟩ = some (.int .i64 a0_0) := (blk_cell BK148.out 0).trans rfl
                          have hcz66_1 : wc.cell? ⟨gb148, 1, none⟩ = some (.int .i64 a0_1) := (blk_cell BK148.out 1).trans rfl
                          have hcz66_2 : wc.cell? ⟨gb148, 2, none⟩ = some (.int .i64 a0_2) := (blk_cell BK148.out 2).trans rfl
                          have hcz66_3 : wc.cell? ⟨gb148, 3, none⟩ = some (.int .i64 a0_3) := (blk_cell BK148.out 3).trans rfl
                          have hfz66_0 := blk_frozen BK148.out 0
                          have hfz66_1 := blk_frozen BK148.out 1
                          have hfz66_2 := blk_frozen BK148.out 2
                          have hfz66_3 := blk_frozen BK148.out 3
                          go_wp2_with (first | (go_at_call 54; (with_reducible refine (replevinref16_hasC.calls t149 true _ A61.out).mono ?_); rintro e w' ⟨rfl, ⟨nd, rfl⟩⟩))
                          go_ret
                          exact ⟨by first | rfl | (simp [errW_none, errW_some] <;> rfl) | (simp [*, errW_none, errW_some] <;> rfl), by repeat (first | (with_reducible first | exact HB.out | apply below_alloc | apply pw_below_drewN | apply below_drew1 | refine below_set ?_ GE148.out) | exact HB.out)⟩
                        · rw [if_neg c65] at H
                          have c65b0 : decide (7 < a0_3) = false := decide_eq_false c65
                          clear c65
                          obtain rfl := Option.some.inj H
                          have hcz67_0 : wc.cell? ⟨gb148, 0, none⟩ = some (.int .i64 a0_0) := (blk_cell BK148.out 0).trans rfl
                          have hcz67_1 : wc.cell? ⟨gb148, 1, none⟩ = some (.int .i64 a0_1) := (blk_cell BK148.out 1).trans rfl
                          have hcz67_2 : wc.cell? ⟨gb148, 2, none⟩ = some (.int .i64 a0_2) := (blk_cell BK148.out 2).trans rfl
                          have hcz67_3 : wc.cell? ⟨gb148, 3, none⟩ = some (.int .i64 a0_3) := (blk_cell BK148.out 3).trans rfl
                          have hfz67_0 := blk_frozen BK148.out 0
                          have hfz67_1 := blk_frozen BK148.out 1
                          have hfz67_2 := blk_frozen BK148.out 2
                          have hfz67_3 := blk_frozen BK148.out 3
                          go_wp2_with (first | (go_at_call 54; (with_reducible refine (replevinref16_hasC.calls t149 true _ A61.out).mono ?_); rintro e w' ⟨rfl, ⟨nd, rfl⟩⟩))
                          go_ret
                          exact ⟨by first | rfl | (simp [errW_none, errW_some] <;> rfl) | (simp [*, errW_none, errW_some] <;> rfl), by repeat (first | (with_reducible first | exact HB.out | apply below_alloc | apply pw_below_drewN | apply below_drew1 | refine below_set ?_ GE148.out) | exact HB.out)⟩
                    · replace c62 := Bool.eq_false_iff.mpr c62
                      subst c62
                      have H1 : (some 0) = some r := by rw [if_neg (show ¬ (false = true) by decide)] at H; exact H
                      clear H
                      have H := H1
                      clear H1
                      obtain rfl := Option.some.inj H
                      have hcz68_0 : wc.cell? ⟨gb148, 0, none⟩ = some (.int .i64 a0_0) := (blk_cell BK148.out 0).trans rfl
                      have hcz68_1 : wc.cell? ⟨gb148, 1, none⟩ = some (.int .i64 a0_1) := (blk_cell BK148.out 1).trans rfl
                      have hcz68_2 : wc.cell? ⟨gb148, 2, none⟩ = some (.int .i64 a0_2) := (blk_cell BK148.out 2).trans rfl
                      have hcz68_3 : wc.cell? ⟨gb148, 3, none⟩ = some (.int .i64 a0_3) := (blk_cell BK148.out 3).trans rfl
                      have hfz68_0 := blk_frozen BK148.out 0
                      have hfz68_1 := blk_frozen BK148.out 1
                      have hfz68_2 := blk_frozen BK148.out 2
                      have hfz68_3 := blk_frozen BK148.out 3
                      go_wp2_with (first | (go_at_call 54; (with_reducible refine (replevinref16_hasC.calls t149 false _ A61.out).mono ?_); rintro e w' ⟨rfl, ⟨nd, rfl⟩⟩))
                      go_ret
                      exact ⟨by first | rfl | (simp [errW_none, errW_some] <;> rfl) | (simp [*, errW_none, errW_some] <;> rfl), by repeat (first | (with_reducible first | exact HB.out | apply below_alloc | apply pw_below_drewN | apply below_drew1 | refine below_set ?_ GE148.out) | exact HB.out)⟩
  · rw [if_neg c3] at H
    have c3b0 : (t150 == 0) = false := beq_eq_false_iff_ne.mpr c3
    have c3b1 : (t150 != 0) = true := bne_iff_ne.mpr c3
    obtain rfl := Option.some.inj H
    go_enter Try.func16, Try.ntmps16
    go_wp2_with (first | ((with_reducible refine gate_dst (N := 1) rfl ?_); refine box_event ?hg (N := 1) ?hd (cs := #[.int .i64 a0_0, .int .i64 a0_1, .int .i64 a0_2, .int .i64 a0_3]) (t := 23) ?hr ?_; (case hd => rfl); (case hg => rfl); (case hr => first | (go_simp; done) | (go_simp; rfl)); intro gb148 hg w69 hbox hb; have n0_ := Aside0.mk (below_step (by repeat (first | (with_reducible first | exact HB.out | apply below_alloc | apply pw_below_drewN | apply below_drew1) | exact HB.out)) hb); have n1_ := Aside0.mk (hbox); have n2_ := Aside0.mk ((by rw [hg]; exact (below_size (by repeat (first | (with_reducible first | exact HB.out | apply below_alloc | apply pw_below_drewN | apply below_drew1) | exact HB.out))) : w.heap.size ≤ gb148)); have n3_ := Aside0.mk ((by rw [hg]; exact (below_size (by repeat (first | (with_reducible first | exact HB.out | apply below_alloc | apply pw_below_drewN | apply below_drew1) | exact HB.out))) : w.heap.size ≤ gb148)); clear HB; have HB := n0_; have BK148 := n1_; have GW148 := n2_; have GE148 := n3_; clear n0_ n1_ n2_ n3_; clear hb hbox hg; have hcz70_0 : w69.cell? ⟨gb148, 0, none⟩ = some (.int .i64 a0_0) := (blk_cell BK148.out 0).trans rfl; have hcz70_1 : w69.cell? ⟨gb148, 1, none⟩ = some (.int .i64 a0_1) := (blk_cell BK148.out 1).trans rfl; have hcz70_2 : w69.cell? ⟨gb148, 2, none⟩ = some (.int .i64 a0_2) := (blk_cell BK148.out 2).trans rfl; have hcz70_3 : w69.cell? ⟨gb148, 3, none⟩ = some (.int .i64 a0_3) := (blk_cell BK148.out 3).trans rfl; have hfz70_0 := blk_frozen BK148.out 0; have hfz70_1 := blk_frozen BK148.out 1; have hfz70_2 := blk_frozen BK148.out 2; have hfz70_3 := blk_frozen BK148.out 3) | ((with_reducible refine gate_callee (f := 31) rfl ?_); refine goesL_ (some 10) rfl rfl Try.func31 (by kernel_rfl) rfl #[.int .i64 a0_0] rfl (by (try simp only [List.map_toArray, List.map_cons, List.map_nil]); first | done | rfl | (simp only [List.length_drop, List.length_take]; rfl)) ?_; (with_reducible refine (replevinref16_Form.calls k a0_0 t149 t150 _ A2.out).mono ?_); rintro e w' ⟨rfl, ⟨nd, rfl⟩⟩; refine ⟨_, rfl, ?_⟩))
    go_ret
    exact ⟨by first | rfl | (simp [errW_none, errW_some] <;> rfl) | (simp [*, errW_none, errW_some] <;> rfl), by repeat (first | (with_reducible first | exact HB.out | apply below_alloc | apply pw_below_drewN | apply below_drew1 | refine below_set ?_ GE148.out) | exact HB.out)⟩

end Go.Proofs.Ytdnhekgdpolenaa.Q
