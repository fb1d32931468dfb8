/- Functions of the seat and their walks, written by a program of this session. -/
import Derived.Test.YtdnhekgdpolenaaQx0
import Derived.Test.YtdnhekgdpolenaaQx8
import Derived.Test.YtdnhekgdpolenaaQx10
import Derived.Test.YtdnhekgdpolenaaQx11
import Derived.Test.YtdnhekgdpolenaaQx28
import Derived.Test.YtdnhekgdpolenaaQx30
import Derived.Test.YtdnhekgdpolenaaQx31
import Derived.Test.YtdnhekgdpolenaaHFind
namespace Go.Proofs.Ytdnhekgdpolenaa.Q
open Go.RowKit Go.Proofs.YtdnhekgdpolenaaW.PrintWords Go.Proofs.YtdnhekgdpolenaaW.PrintLast Go.Proofs.YtdnhekgdpolenaaW.PrintMore
attribute [local go_sem] max2_int min2_int max_two min_two max_three min_three max_four min_four   -- for this text's walks alone
set_option linter.unusedVariables false
set_option linter.unusedSimpArgs false

/-! ### replevinlaw16_InstrForms: function 10 -/
mutual
def replevinlaw16_InstrForms.j0 : Nat → Int → ByteArray → Bool → Option (Bool)
  | 0, _, _, _ => none
  | k + 1, x0, x1, x28 => if x28 = true then ((replevinlaw16_known.f k).bind fun t359 => (some t359)) else ((instr_Form.f x0).bind fun bt360 => ((replevinref16_Form.f k x0).bind fun bt362 => ((instr_Limits.f x0).bind fun bt364 => ((replevinref16_Limits.f k x0).bind fun bt367 => ((instr_Find.f x1).bind fun bt370 => ((replevinref16_Find.f k x1).bind fun bt372 => (if bt360.1 = bt362.1 then (if bt360.2 = bt362.2 then (if bt364.1 = bt367.1 then (if bt364.2.1 = bt367.2.1 then (if bt364.2.2 = bt367.2.2 then (if bt370.1 = bt372.1 then (replevinlaw16_InstrForms.j1 k x0 bt360.2 (bt370.2 != bt372.2)) else (replevinlaw16_InstrForms.j1 k x0 bt360.2 true)) else (replevinlaw16_InstrForms.j1 k x0 bt360.2 true)) else (replevinlaw16_InstrForms.j1 k x0 bt360.2 true)) else (replevinlaw16_InstrForms.j1 k x0 bt360.2 true)) else (replevinlaw16_InstrForms.j1 k x0 bt360.2 true)) else (replevinlaw16_InstrForms.j1 k x0 bt360.2 true))))))))
def replevinlaw16_InstrForms.j1 : Nat → Int → Int → Bool → Option (Bool)
  | 0, _, _, _ => none
  | k + 1, x0, x6, x94 => if x94 = true then (some false) else ((instr_Word.f x0).bind fun t374 => ((instr_Find.f t374).bind fun bt375 => ((replevinref16_Word.f x0).bind fun t377 => (if t374.toList = t377.toList then (if (bt375.2 == (x6 == 0)) = true then (if bt375.2 = true then (some (bt375.1 == x0)) else (some true)) else (some false)) else (some false)))))
end
def replevinlaw16_InstrForms.f (k : Nat) (a0 : Int) (a1 : ByteArray) : Option (Bool) := (replevinlaw16_known.f k).bind fun t358 => (if t358 = true then (replevinlaw16_InstrForms.j0 k a0 a1 (decide ((a1.size : Int) > 40))) else (replevinlaw16_InstrForms.j0 k a0 a1 true))
theorem replevinlaw16_InstrForms.mono_l : ∀ k, (∀ y0 y1 y2, LeO (replevinlaw16_InstrForms.j0 k y0 y1 y2) (replevinlaw16_InstrForms.j0 (k + 1) y0 y1 y2)) ∧ (∀ y0 y1 y2, LeO (replevinlaw16_InstrForms.j1 k y0 y1 y2) (replevinlaw16_InstrForms.j1 (k + 1) y0 y1 y2))
  | 0 => ⟨fun _ _ _ r h => by simp [replevinlaw16_InstrForms.j0] at h, fun _ _ _ r h => by simp [replevinlaw16_InstrForms.j1] at h⟩
  | k + 1 => by
    obtain ⟨ih0, ih1⟩ := replevinlaw16_InstrForms.mono_l k
    refine ⟨?_, ?_⟩
    · intro y0 y1 y2
      unfold replevinlaw16_InstrForms.j0
      repeat' first
      | (with_reducible exact ih0 _ _ _)
      | (with_reducible exact ih1 _ _ _)
      | (with_reducible exact replevinlaw16_known.mono _)
      | (with_reducible exact replevinref16_Find.mono _ _)
      | (with_reducible exact replevinref16_Form.mono _ _)
      | (with_reducible exact replevinref16_Limits.mono _ _)
      | (with_reducible exact LeO.refl _)
      | (with_reducible exact LeO.none _)
      | (with_reducible refine LeO.ite ?_ ?_)
      | (with_reducible refine LeO.bind ?_ (fun _ => ?_))
      | exact ih0 _ _ _
      | exact ih1 _ _ _
      | exact replevinlaw16_known.mono _
      | exact replevinref16_Find.mono _ _
      | exact replevinref16_Form.mono _ _
      | exact replevinref16_Limits.mono _ _
      | exact LeO.none _
      | refine LeO.ite ?_ ?_
      | refine LeO.bind ?_ (fun _ => ?_)
    · intro y0 y1 y2
      unfold replevinlaw16_InstrForms.j1
      repeat' first
      | (with_reducible exact ih0 _ _ _)
      | (with_reducible exact ih1 _ _ _)
      | (with_reducible exact replevinlaw16_known.mono _)
      | (with_reducible exact replevinref16_Find.mono _ _)
      | (with_reducible exact replevinref16_Form.mono _ _)
      | (with_reducible exact replevinref16_Limits.mono _ _)
      | (with_reducible exact LeO.refl _)
      | (with_reducible exact LeO.none _)
      | (with_reducible refine LeO.ite ?_ ?_)
      | (with_reducible refine LeO.bind ?_ (fun _ => ?_))
      | exact ih0 _ _ _
      | exact ih1 _ _ _
      | exact replevinlaw16_known.mono _
      | exact replevinref16_Find.mono _ _
      | exact replevinref16_Form.mono _ _
      | exact replevinref16_Limits.mono _ _
      | exact LeO.none _
      | refine LeO.ite ?_ ?_
      | refine LeO.bind ?_ (fun _ => ?_)
theorem replevinlaw16_InstrForms.mono : ∀ a0 a1 k, LeO (replevinlaw16_InstrForms.f k a0 a1) (replevinlaw16_InstrForms.f (k + 1) a0 a1) := by
  intro a0 a1 k
  obtain ⟨ih0, ih1⟩ := replevinlaw16_InstrForms.mono_l k
  unfold replevinlaw16_InstrForms.f
  repeat' first
      | (with_reducible exact ih0 _ _ _)
      | (with_reducible exact ih1 _ _ _)
      | (with_reducible exact replevinlaw16_known.mono _)
      | (with_reducible exact replevinref16_Find.mono _ _)
      | (with_reducible exact replevinref16_Form.mono _ _)
      | (with_reducible exact replevinref16_Limits.mono _ _)
      | (with_reducible exact LeO.refl _)
      | (with_reducible exact LeO.none _)
      | (with_reducible refine LeO.ite ?_ ?_)
      | (with_reducible refine LeO.bind ?_ (fun _ => ?_))
      | exact ih0 _ _ _
      | exact ih1 _ _ _
      | exact replevinlaw16_known.mono _
      | exact replevinref16_Find.mono _ _
      | exact replevinref16_Form.mono _ _
      | exact replevinref16_Limits.mono _ _
      | exact LeO.none _
      | refine LeO.ite ?_ ?_
      | refine LeO.bind ?_ (fun _ => ?_)
set_option maxHeartbeats 8000000 in
set_option maxRecDepth 100000 in
theorem replevinlaw16_InstrForms.calls (k : Nat) (a0 : Int) (a1 : ByteArray) (r : Bool) (w : World) (h : replevinlaw16_InstrForms.f k a0 a1 = some r) :
    Calls Try.prog 10 #[.int .i64 a0, .string a1] w fun e w' => e = .returned (.bool r) ∧ Below w.heap.size w w' := by
  have HB := Aside0.mk (Below.refl w.heap.size w)
  have H : ((replevinlaw16_known.f k).bind fun t358 => (if t358 = true then (replevinlaw16_InstrForms.j0 k a0 a1 (decide ((a1.size : Int) > 40))) else (replevinlaw16_InstrForms.j0 k a0 a1 true))) = some r := h
  clear h
  have HC3 := Aside0.mk H
  clear H
  go_enter Try.func10, Try.ntmps10
  go_upto_region 1 with (fail)
  go_cut [28] (fun v28 wc => ∃ (kq : Nat) (x28_2 : Bool), v28 = .bool x28_2 ∧ Aside0 (replevinlaw16_InstrForms.j0 kq a0 a1 x28_2 = some r) ∧ Aside0 (kq ≤ k) ∧ Aside0 (Below w.heap.size w wc))
  case first =>
    have H := HC3.out
    clear HC3
    replace H := Option.bind_eq_some_iff.mp H
    obtain ⟨t358, A40, H⟩ := H
    replace H : (if t358 = true then (replevinlaw16_InstrForms.j0 k a0 a1 (decide ((a1.size : Int) > 40))) else (replevinlaw16_InstrForms.j0 k a0 a1 true)) = some r := H
    have A4 := Aside0.mk A40
    clear A40
    by_cases c5 : t358 = true
    · subst c5
      have H1 : (replevinlaw16_InstrForms.j0 k a0 a1 (decide ((a1.size : Int) > 40))) = some r := by rw [if_pos rfl] at H; exact H
      clear H
      have H := H1
      clear H1
      have H' := Aside0.mk H
      clear H
      go_wp2_with (first | ((with_reducible refine gate_callee (f := 13) rfl ?_); refine goesL_ (some 22) rfl rfl Try.func13 (by kernel_rfl) rfl #[] rfl (by (try simp only [List.map_toArray, List.map_cons, List.map_nil]); first | done | rfl | (simp only [List.length_drop, List.length_take]; rfl)) ?_; (with_reducible refine (replevinlaw16_known.calls k  true _ A4.out).mono ?_); rintro e w6 ⟨rfl, hb⟩; refine ⟨_, rfl, ?_⟩; have n0_ := Aside0.mk (below_step (by repeat (first | (with_reducible first | exact HB.out | apply below_alloc | apply pw_below_drewN | apply below_drew1) | exact HB.out)) hb); clear HB; have HB := n0_; clear n0_; (try clear hb); (try clear hb2); (try clear hk); (try clear hi)))
      go_meet
      case rel => exact ⟨_, (decide ((a1.size : Int) > 40)), (by first | rfl | (simp; done) | (simp [*]; done)), H', ⟨by first | omega | exact Nat.le_refl _⟩, ⟨by repeat (first | (with_reducible first | exact HB.out | apply below_alloc | apply pw_below_drewN | apply below_drew1) | exact HB.out)⟩⟩
    · replace c5 := Bool.eq_false_iff.mpr c5
      subst c5
      have H1 : (replevinlaw16_InstrForms.j0 k a0 a1 true) = some r := by rw [if_neg (show ¬ (false = true) by decide)] at H; exact H
      clear H
      have H := H1
      clear H1
      have H' := Aside0.mk H
      clear H
      go_wp2_with (first | ((with_reducible refine gate_callee (f := 13) rfl ?_); refine goesL_ (some 22) rfl rfl Try.func13 (by kernel_rfl) rfl #[] rfl (by (try simp only [List.map_toArray, List.map_cons, List.map_nil]); first | done | rfl | (simp only [List.length_drop, List.length_take]; rfl)) ?_; (with_reducible refine (replevinlaw16_known.calls k  false _ A4.out).mono ?_); rintro e w7 ⟨rfl, hb⟩; refine ⟨_, rfl, ?_⟩; have n0_ := Aside0.mk (below_step (by repeat (first | (with_reducible first | exact HB.out | apply below_alloc | apply pw_below_drewN | apply below_drew1) | exact HB.out)) hb); clear HB; have HB := n0_; clear n0_; (try clear hb); (try clear hb2); (try clear hk); (try clear hi)))
      go_meet
      case rel => exact ⟨_, (true), (by first | rfl | (simp; done) | (simp [*]; done)), H', ⟨by first | omega | exact Nat.le_refl _⟩, ⟨by repeat (first | (with_reducible first | exact HB.out | apply below_alloc | apply pw_below_drewN | apply below_drew1) | exact HB.out)⟩⟩
  case rest =>
    clear HC3
    try clear c1
    try clear p2
    try clear c5
    obtain ⟨kq, x28_2, rfl, HA, HJ2, HB⟩ := hcut
    cases kq with
    | zero => exact absurd HA.out (by simp [replevinlaw16_InstrForms.j0])
    | succ kj2 =>
      have H := HA.out
      clear HA
      simp only [replevinlaw16_InstrForms.j0] at H
      by_cases c8 : x28_2 = true
      · subst c8
        have H1 : ((replevinlaw16_known.f kj2).bind fun t359 => (some t359)) = some r := by rw [if_pos rfl] at H; exact H
        clear H
        have H := H1
        clear H1
        replace H := Option.bind_eq_some_iff.mp H
        obtain ⟨t359, A90, H⟩ := H
        replace H : (some t359) = some r := H
        have A9 := Aside0.mk A90
        clear A90
        obtain rfl := Option.some.inj H
        go_wp2_with (first | ((with_reducible refine gate_callee (f := 13) rfl ?_); refine goesL_ (some 29) rfl rfl Try.func13 (by kernel_rfl) rfl #[] rfl (by (try simp only [List.map_toArray, List.map_cons, List.map_nil]); first | done | rfl | (simp only [List.length_drop, List.length_take]; rfl)) ?_; (with_reducible refine (replevinlaw16_known.calls kj2  t359 _ A9.out).mono ?_); rintro e w10 ⟨rfl, hb⟩; refine ⟨_, rfl, ?_⟩; have n0_ := Aside0.mk (below_step (by repeat (first | (with_reducible first | exact HB.out | apply below_alloc | apply pw_below_drewN | apply below_drew1) | exact HB.out)) hb); clear HB; have HB := n0_; clear n0_; (try clear hb); (try clear hb2); (try clear hk); (try clear hi)))
        go_ret
        exact ⟨by first | rfl | (simp [errW_none, errW_some] <;> rfl) | (simp [*, errW_none, errW_some] <;> rfl), by repeat (first | (with_reducible first | exact HB.out | apply below_alloc | apply pw_below_drewN | apply below_drew1) | exact HB.out)⟩
      · replace c8 := Bool.eq_false_iff.mpr c8
        subst c8
        have H1 : ((instr_Form.f a0).bind fun bt360 => ((replevinref16_Form.f kj2 a0).bind fun bt362 => ((instr_Limits.f a0).bind fun bt364 => ((replevinref16_Limits.f kj2 a0).bind fun bt367 => ((instr_Find.f a1).bind fun bt370 => ((replevinref16_Find.f kj2 a1).bind fun bt372 => (if bt360.1 = bt362.1 then (if bt360.2 = bt362.2 then (if bt364.1 = bt367.1 then (if bt364.2.1 = bt367.2.1 then (if bt364.2.2 = bt367.2.2 then (if bt370.1 = bt372.1 then (replevinlaw16_InstrForms.j1 kj2 a0 bt360.2 (bt370.2 != bt372.2)) else (replevinlaw16_InstrForms.j1 kj2 a0 bt360.2 true)) else (replevinlaw16_InstrForms.j1 kj2 a0 bt360.2 true)) else (replevinlaw16_InstrForms.j1 kj2 a0 bt360.2 true)) else (replevinlaw16_InstrForms.j1 kj2 a0 bt360.2 true)) else (replevinlaw16_InstrForms.j1 kj2 a0 bt360.2 true)) else (replevinlaw16_InstrForms.j1 kj2 a0 bt360.2 true)))))))) = some r := by rw [if_neg (show ¬ (false = true) by decide)] at H; exact H
        clear H
        have H := H1
        clear H1
        replace H := Option.bind_eq_some_iff.mp H
        obtain ⟨⟨t360, t361⟩, A110, H⟩ := H
        replace H : ((replevinref16_Form.f kj2 a0).bind fun bt362 => ((instr_Limits.f a0).bind fun bt364 => ((replevinref16_Limits.f kj2 a0).bind fun bt367 => ((instr_Find.f a1).bind fun bt370 => ((replevinref16_Find.f kj2 a1).bind fun bt372 => (if t360 = bt362.1 then (if t361 = bt362.2 then (if bt364.1 = bt367.1 then (if bt364.2.1 = bt367.2.1 then (if bt364.2.2 = bt367.2.2 then (if bt370.1 = bt372.1 then (replevinlaw16_InstrForms.j1 kj2 a0 t361 (bt370.2 != bt372.2)) else (replevinlaw16_InstrForms.j1 kj2 a0 t361 true)) else (replevinlaw16_InstrForms.j1 kj2 a0 t361 true)) else (replevinlaw16_InstrForms.j1 kj2 a0 t361 true)) else (replevinlaw16_InstrForms.j1 kj2 a0 t361 true)) else (replevinlaw16_InstrForms.j1 kj2 a0 t361 true)) else (replevinlaw16_InstrForms.j1 kj2 a0 t361 true))))))) = some r := H
        have A11 := Aside0.mk A110
        clear A110
        replace H := Option.bind_eq_some_iff.mp H
        obtain ⟨⟨t362, t363⟩, A120, H⟩ := H
        replace H : ((instr_Limits.f a0).bind fun bt364 => ((replevinref16_Limits.f kj2 a0).bind fun bt367 => ((instr_Find.f a1).bind fun bt370 => ((replevinref16_Find.f kj2 a1).bind fun bt372 => (if t360 = t362 then (if t361 = t363 then (if bt364.1 = bt367.1 then (if bt364.2.1 = bt367.2.1 then (if bt364.2.2 = bt367.2.2 then (if bt370.1 = bt372.1 then (replevinlaw16_InstrForms.j1 kj2 a0 t361 (bt370.2 != bt372.2)) else (replevinlaw16_InstrForms.j1 kj2 a0 t361 true)) else (replevinlaw16_InstrForms.j1 kj2 a0 t361 true)) else (replevinlaw16_InstrForms.j1 kj2 a0 t361 true)) else (replevinlaw16_InstrForms.j1 kj2 a0 t361 true)) else (replevinlaw16_InstrForms.j1 kj2 a0 t361 true)) else (replevinlaw16_InstrForms.j1 kj2 a0 t361 true)))))) = some r := H
        have A12 := Aside0.mk A120
        clear A120
        replace H := Option.bind_eq_some_iff.mp H
        obtain ⟨⟨t364, t365, t366⟩, A130, H⟩ := H
        replace H : ((replevinref16_Limits.f kj2 a0).bind fun bt367 => ((instr_Find.f a1).bind fun bt370 => ((replevinref16_Find.f kj2 a1).bind fun bt372 => (if t360 = t362 then (if t361 = t363 then (if t364 = bt367.1 then (if t365 = bt367.2.1 then (if t366 = bt367.2.2 then (if bt370.1 = bt372.1 then (replevinlaw16_InstrForms.j1 kj2 a0 t361 (bt370.2 != bt372.2)) else (replevinlaw16_InstrForms.j1 kj2 a0 t361 true)) else (replevinlaw16_InstrForms.j1 kj2 a0 t361 true)) else (replevinlaw16_InstrForms.j1 kj2 a0 t361 true)) else (replevinlaw16_InstrForms.j1 kj2 a0 t361 true)) else (replevinlaw16_InstrForms.j1 kj2 a0 t361 true)) else (replevinlaw16_InstrForms.j1 kj2 a0 t361 true))))) = some r := H
        have A13 := Aside0.mk A130
        clear A130
        replace H := Option.bind_eq_some_iff.mp H
        obtain ⟨⟨t367, t368, t369⟩, A140, H⟩ := H
        replace H : ((instr_Find.f a1).bind fun bt370 => ((replevinref16_Find.f kj2 a1).bind fun bt372 => (if t360 = t362 then (if t361 = t363 then (if t364 = t367 then (if t365 = t368 then (if t366 = t369 then (if bt370.1 = bt372.1 then (replevinlaw16_InstrForms.j1 kj2 a0 t361 (bt370.2 != bt372.2)) else (replevinlaw16_InstrForms.j1 kj2 a0 t361 true)) else (replevinlaw16_InstrForms.j1 kj2 a0 t361 true)) else (replevinlaw16_InstrForms.j1 kj2 a0 t361 true)) else (replevinlaw16_InstrForms.j1 kj2 a0 t361 true)) else (replevinlaw16_InstrForms.j1 kj2 a0 t361 true)) else (replevinlaw16_InstrForms.j1 kj2 a0 t361 true)))) = some r := H
        have A14 := Aside0.mk A140
        clear A140
        replace H := Option.bind_eq_some_iff.mp H
        obtain ⟨⟨t370, t371⟩, A150, H⟩ := H
        replace H : ((replevinref16_Find.f kj2 a1).bind fun bt372 => (if t360 = t362 then (if t361 = t363 then (if t364 = t367 then (if t365 = t368 then (if t366 = t369 then (if t370 = bt372.1 then (replevinlaw16_InstrForms.j1 kj2 a0 t361 (t371 != bt372.2)) else (replevinlaw16_InstrForms.j1 kj2 a0 t361 true)) else (replevinlaw16_InstrForms.j1 kj2 a0 t361 true)) else (replevinlaw16_InstrForms.j1 kj2 a0 t361 true)) else (replevinlaw16_InstrForms.j1 kj2 a0 t361 true)) else (replevinlaw16_InstrForms.j1 kj2 a0 t361 true)) else (replevinlaw16_InstrForms.j1 kj2 a0 t361 true))) = some r := H
        have A15 := Aside0.mk A150
        clear A150
        replace H := Option.bind_eq_some_iff.mp H
        obtain ⟨⟨t372, t373⟩, A160, H⟩ := H
        replace H : (if t360 = t362 then (if t361 = t363 then (if t364 = t367 then (if t365 = t368 then (if t366 = t369 then (if t370 = t372 then (replevinlaw16_InstrForms.j1 kj2 a0 t361 (t371 != t373)) else (replevinlaw16_InstrForms.j1 kj2 a0 t361 true)) else (replevinlaw16_InstrForms.j1 kj2 a0 t361 true)) else (replevinlaw16_InstrForms.j1 kj2 a0 t361 true)) else (replevinlaw16_InstrForms.j1 kj2 a0 t361 true)) else (replevinlaw16_InstrForms.j1 kj2 a0 t361 true)) else (replevinlaw16_InstrForms.j1 kj2 a0 t361 true)) = some r := H
        have A16 := Aside0.mk A160
        clear A160
        have HC17 := Aside0.mk H
        clear H
        go_upto_region 9 with (first | ((with_reducible refine gate_callee (f := 30) rfl ?_); refine goesL_ (some 32) rfl rfl Try.func30 (by kernel_rfl) rfl #[.int .i64 a0] rfl (by (try simp only [List.map_toArray, List.map_cons, List.map_nil]); first | done | rfl | (simp only [List.length_drop, List.length_take]; rfl)) ?_; (with_reducible refine (instr_Form.calls a0 t360 t361 _ A11.out).mono ?_); rintro e w18 ⟨rfl, hb⟩; refine ⟨_, rfl, ?_⟩; have n0_ := Aside0.mk (below_step (by repeat (first | (with_reducible first | exact HB.out | apply below_alloc | apply pw_below_drewN | apply below_drew1) | exact HB.out)) hb); clear HB; have HB := n0_; clear n0_; (try clear hb); (try clear hb2); (try clear hk); (try clear hi)) | ((with_reducible refine gate_callee (f := 31) rfl ?_); refine goesL_ (some 37) rfl rfl Try.func31 (by kernel_rfl) rfl #[.int .i64 a0] rfl (by (try simp only [List.map_toArray, List.map_cons, List.map_nil]); first | done | rfl | (simp only [List.length_drop, List.length_take]; rfl)) ?_; (with_reducible refine (replevinref16_Form.calls kj2 a0 t362 t363 _ A12.out).mono ?_); rintro e w' ⟨rfl, ⟨nd, rfl⟩⟩; refine ⟨_, rfl, ?_⟩) | ((with_reducible refine gate_callee (f := 32) rfl ?_); refine goesL_ (some 42) rfl rfl Try.func32 (by kernel_rfl) rfl #[.int .i64 a0] rfl (by (try simp only [List.map_toArray, List.map_cons, List.map_nil]); first | done | rfl | (simp only [List.length_drop, List.length_take]; rfl)) ?_; (with_reducible refine (instr_Limits.calls a0 t364 t365 t366 _ A13.out).mono ?_); rintro e w19 ⟨rfl, hb⟩; refine ⟨_, rfl, ?_⟩; have n0_ := Aside0.mk (below_step (by repeat (first | (with_reducible first | exact HB.out | apply below_alloc | apply pw_below_drewN | apply below_drew1) | exact HB.out)) hb); clear HB; have HB := n0_; clear n0_; (try clear hb); (try clear hb2); (try clear hk); (try clear hi)) | ((with_reducible refine gate_callee (f := 33) rfl ?_); refine goesL_ (some 48) rfl rfl Try.func33 (by kernel_rfl) rfl #[.int .i64 a0] rfl (by (try simp only [List.map_toArray, List.map_cons, List.map_nil]); first | done | rfl | (simp only [List.length_drop, List.length_take]; rfl)) ?_; (with_reducible refine (replevinref16_Limits.calls kj2 a0 t367 t368 t369 _ A14.out).mono ?_); rintro e w' ⟨rfl, ⟨nd, rfl⟩⟩; refine ⟨_, rfl, ?_⟩) | ((with_reducible refine gate_callee (f := 34) rfl ?_); refine goesL_ (some 54) rfl rfl Try.func34 (by kernel_rfl) rfl #[.string a1] rfl (by (try simp only [List.map_toArray, List.map_cons, List.map_nil]); first | done | rfl | (simp only [List.length_drop, List.length_take]; rfl)) ?_; (with_reducible refine (instr_Find.calls a1 t370 t371 _ A15.out).mono ?_); rintro e w20 ⟨rfl, hb⟩; refine ⟨_, rfl, ?_⟩; have n0_ := Aside0.mk (below_step (by repeat (first | (with_reducible first | exact HB.out | apply below_alloc | apply pw_below_drewN | apply below_drew1) | exact HB.out)) hb); clear HB; have HB := n0_; clear n0_; (try clear hb); (try clear hb2); (try clear hk); (try clear hi)) | ((with_reducible refine gate_callee (f := 35) rfl ?_); refine goesL_ (some 59) rfl rfl Try.func35 (by kernel_rfl) rfl #[.string a1] rfl (by (try simp only [List.map_toArray, List.map_cons, List.map_nil]); first | done | rfl | (simp only [List.length_drop, List.length_take]; rfl)) ?_; (with_reducible refine (replevinref16_Find.calls kj2 a1 t372 t373 _ A16.out).mono ?_); rintro e w21 ⟨rfl, hb⟩; refine ⟨_, rfl, ?_⟩; have n0_ := Aside0.mk (below_step (by repeat (first | (with_reducible first | exact HB.out | apply below_alloc | apply pw_below_drewN | apply below_drew1) | exact HB.out)) hb); clear HB; have HB := n0_; clear n0_; (try clear hb); (try clear hb2); (try clear hk); (try clear hi)))
        (try simp only [Act.put, List.setIfInBounds_toArray, List.set_cons_zero, List.set_cons_succ])
        go_cut [94] (fun v94 wc => ∃ (kq : Nat) (x94_16 : Bool), v94 = .bool x94_16 ∧ Aside0 (replevinlaw16_InstrForms.j1 kq a0 t361 x94_16 = some r) ∧ Aside0 (kq ≤ kj2) ∧ Aside0 (Below w.heap.size w wc))
        case first =>
          have H := HC17.out
          clear HC17
          by_cases c22 : t360 = t362
          · rw [if_pos c22] at H
            have c22b0 : (t360 == t362) = true := beq_iff_eq.mpr c22
            have c22b1 : (t360 != t362) = false := bne_eq_false_iff_eq.mpr c22
            clear c22
            (first | rw [c22b0] | (simp only [i64_w, i32_w]; rw [c22b0]) | skip)
            by_cases c23 : t361 = t363
            · rw [if_pos c23] at H
              have c23b0 : (t361 == t363) = true := beq_iff_eq.mpr c23
              have c23b1 : (t361 != t363) = false := bne_eq_false_iff_eq.mpr c23
              clear c23
              by_cases c24 : t364 = t367
              · rw [if_pos c24] at H
                have c24b0 : (t364 == t367) = true := beq_iff_eq.mpr c24
                have c24b1 : (t364 != t367) = false := bne_eq_false_iff_eq.mpr c24
                clear c24
                by_cases c25 : t365 = t368
                · rw [if_pos c25] at H
                  have c25b0 : (t365 == t368) = true := beq_iff_eq.mpr c25
                  have c25b1 : (t365 != t368) = false := bne_eq_false_iff_eq.mpr c25
                  clear c25
                  by_cases c26 : t366 = t369
                  · rw [if_pos c26] at H
                    have c26b0 : (t366 == t369) = true := beq_iff_eq.mpr c26
                    have c26b1 : (t366 != t369) = false := bne_eq_false_iff_eq.mpr c26
                    clear c26
                    by_cases c27 : t370 = t372
                    · rw [if_pos c27] at H
                      have c27b0 : (t370 == t372) = true := beq_iff_eq.mpr c27
                      have c27b1 : (t370 != t372) = false := bne_eq_false_iff_eq.mpr c27
                      clear c27
                      have H' := Aside0.mk H
                      clear H
                      go_wp2
                      go_meet
                      case rel => exact ⟨_, ((t371 != t373)), (by first | rfl | (simp; done) | (simp [*]; done)), H', ⟨by have := HJ2.out; first | omega | exact Nat.le_refl _⟩, ⟨by repeat (first | (with_reducible first | exact HB.out | apply below_alloc | apply pw_below_drewN | apply below_drew1) | exact HB.out)⟩⟩
                    · rw [if_neg c27] at H
                      have c27b0 : (t370 == t372) = false := beq_eq_false_iff_ne.mpr c27
                      have c27b1 : (t370 != t372) = true := bne_iff_ne.mpr c27
                      have H' := Aside0.mk H
                      clear H
                      go_wp2
                      go_meet
                      case rel => exact ⟨_, (true), (by first | rfl | (simp; done) | (simp [*]; done)), H', ⟨by have := HJ2.out; first | omega | exact Nat.le_refl _⟩, ⟨by repeat (first | (with_reducible first | exact HB.out | apply below_alloc | apply pw_below_drewN | apply below_drew1) | exact HB.out)⟩⟩
                  · rw [if_neg c26] at H
                    have c26b0 : (t366 == t369) = false := beq_eq_false_iff_ne.mpr c26
                    have c26b1 : (t366 != t369) = true := bne_iff_ne.mpr c26
                    have H' := Aside0.mk H
                    clear H
                    go_wp2
                    go_meet
                    case rel => exact ⟨_, (true), (by first | rfl | (simp; done) | (simp [*]; done)), H', ⟨by have := HJ2.out; first | omega | exact Nat.le_refl _⟩, ⟨by repeat (first | (with_reducible first | exact HB.out | apply below_alloc | apply pw_below_drewN | apply below_drew1) | exact HB.out)⟩⟩
                · rw [if_neg c25] at H
                  have c25b0 : (t365 == t368) = false := beq_eq_false_iff_ne.mpr c25
                  have c25b1 : (t365 != t368) = true := bne_iff_ne.mpr c25
                  have H' := Aside0.mk H
                  clear H
                  go_wp2
                  go_meet
                  case rel => exact ⟨_, (true), (by first | rfl | (simp; done) | (simp [*]; done)), H', ⟨by have := HJ2.out; first | omega | exact Nat.le_refl _⟩, ⟨by repeat (first | (with_reducible first | exact HB.out | apply below_alloc | apply pw_below_drewN | apply below_drew1) | exact HB.out)⟩⟩
              · rw [if_neg c24] at H
                have c24b0 : (t364 == t367) = false := beq_eq_false_iff_ne.mpr c24
                have c24b1 : (t364 != t367) = true := bne_iff_ne.mpr c24
                have H' := Aside0.mk H
                clear H
                go_wp2
                go_meet
                case rel => exact ⟨_, (true), (by first | rfl | (simp; done) | (simp [*]; done)), H', ⟨by have := HJ2.out; first | omega | exact Nat.le_refl _⟩, ⟨by repeat (first | (with_reducible first | exact HB.out | apply below_alloc | apply pw_below_drewN | apply below_drew1) | exact HB.out)⟩⟩
            · rw [if_neg c23] at H
              have c23b0 : (t361 == t363) = false := beq_eq_false_iff_ne.mpr c23
              have c23b1 : (t361 != t363) = true := bne_iff_ne.mpr c23
              have H' := Aside0.mk H
              clear H
              go_wp2
              go_meet
              case rel => exact ⟨_, (true), (by first | rfl | (simp; done) | (simp [*]; done)), H', ⟨by have := HJ2.out; first | omega | exact Nat.le_refl _⟩, ⟨by repeat (first | (with_reducible first | exact HB.out | apply below_alloc | apply pw_below_drewN | apply below_drew1) | exact HB.out)⟩⟩
          · rw [if_neg c22] at H
            have c22b0 : (t360 == t362) = false := beq_eq_false_iff_ne.mpr c22
            have c22b1 : (t360 != t362) = true := bne_iff_ne.mpr c22
            (first | rw [c22b0] | (simp only [i64_w, i32_w]; rw [c22b0]) | skip)
            have H' := Aside0.mk H
            clear H
            go_wp2
            go_meet
            case rel => exact ⟨_, (true), (by first | rfl | (simp; done) | (simp [*]; done)), H', ⟨by have := HJ2.out; first | omega | exact Nat.le_refl _⟩, ⟨by repeat (first | (with_reducible first | exact HB.out | apply below_alloc | apply pw_below_drewN | apply below_drew1) | exact HB.out)⟩⟩
        case rest =>
          clear HC17
          try clear c1
          try clear c2
          try clear p2
          try clear c3
          try clear c5
          try clear c8
          try clear c10
          try clear c13
          try clear c22
          try clear c22b0
          try clear c22b1
          try clear c23
          try clear c23b0
          try clear c23b1
          try clear c24
          try clear c24b0
          try clear c24b1
          try clear c25
          try clear c25b0
          try clear c25b1
          try clear c26
          try clear c26b0
          try clear c26b1
          try clear c27
          try clear c27b0
          try clear c27b1
          try clear p2
          obtain ⟨kq, x94_16, rfl, HA, HJ16, HB⟩ := hcut
          cases kq with
          | zero => exact absurd HA.out (by simp [replevinlaw16_InstrForms.j1])
          | succ kj16 =>
            have H := HA.out
            clear HA
            simp only [replevinlaw16_InstrForms.j1] at H
            by_cases c28 : x94_16 = true
            · subst c28
              have H1 : (some false) = some r := by rw [if_pos rfl] at H; exact H
              clear H
              have H := H1
              clear H1
              obtain rfl := Option.some.inj H
              go_wp2
              go_ret
              exact ⟨by first | rfl | (simp [errW_none, errW_some] <;> rfl) | (simp [*, errW_none, errW_some] <;> rfl), by repeat (first | (with_reducible first | exact HB.out | apply below_alloc | apply pw_below_drewN | apply below_drew1) | exact HB.out)⟩
            · replace c28 := Bool.eq_false_iff.mpr c28
              subst c28
              have H1 : ((instr_Word.f a0).bind fun t374 => ((instr_Find.f t374).bind fun bt375 => ((replevinref16_Word.f a0).bind fun t377 => (if t374.toList = t377.toList then (if (bt375.2 == (t361 == 0)) = true then (if bt375.2 = true then (some (bt375.1 == a0)) else (some true)) else (some false)) else (some false))))) = some r := by rw [if_neg (show ¬ (false = true) by decide)] at H; exact H
              clear H
              have H := H1
              clear H1
              replace H := Option.bind_eq_some_iff.mp H
              obtain ⟨t374, A290, H⟩ := H
              replace H : ((instr_Find.f t374).bind fun bt375 => ((replevinref16_Word.f a0).bind fun t377 => (if t374.toList = t377.toList then (if (bt375.2 == (t361 == 0)) = true then (if bt375.2 = true then (some (bt375.1 == a0)) else (some true)) else (some false)) else (some false)))) = some r := H
              have A29 := Aside0.mk A290
              clear A290
              replace H := Option.bind_eq_some_iff.mp H
              obtain ⟨⟨t375, t376⟩, A300, H⟩ := H
              replace H : ((replevinref16_Word.f a0).bind fun t377 => (if t374.toList = t377.toList then (if (t376 == (t361 == 0)) = true then (if t376 = true then (some (t375 == a0)) else (some true)) else (some false)) else (some false))) = some r := H
              have A30 := Aside0.mk A300
              clear A300
              replace H := Option.bind_eq_some_iff.mp H
              obtain ⟨t377, A310, H⟩ := H
              replace H : (if t374.toList = t377.toList then (if (t376 == (t361 == 0)) = true then (if t376 = true then (some (t375 == a0)) else (some true)) else (some false)) else (some false)) = some r := H
              have A31 := Aside0.mk A310
              clear A310
              by_cases c32 : t374.toList = t377.toList
              · rw [if_pos c32] at H
                have c32b0 : (t374.toList == t377.toList) = true := beq_iff_eq.mpr c32
                have c32b1 : (t374.toList != t377.toList) = false := bne_eq_false_iff_eq.mpr c32
                clear c32
                by_cases c33 : (t376 == (t361 == 0)) = true
                · rw [if_pos c33] at H
                  have c33b0 : (t376 == (t361 == 0)) = true := c33
                  (try (have c33b1 : decide (t376 = (t361 == 0)) = true := by simpa using c33))
                  (try (have c33b2 : (t376 == (t361 == 0)) = true := by simpa using c33))
                  clear c33
                  by_cases c34 : t376 = true
                  · subst c34
                    have H1 : (some (t375 == a0)) = some r := by rw [if_pos rfl] at H; exact H
                    clear H
                    have H := H1
                    clear H1
                    obtain rfl := Option.some.inj H
                    go_wp2_with (first | ((with_reducible refine gate_callee (f := 36) rfl ?_); refine goesL_ (some 96) rfl rfl Try.func36 (by kernel_rfl) rfl #[.int .i64 a0] rfl (by (try simp only [List.map_toArray, List.map_cons, List.map_nil]); first | done | rfl | (simp only [List.length_drop, List.length_take]; rfl)) ?_; (with_reducible refine (instr_Word.calls a0 t374 _ A29.out).mono ?_); rintro e w35 ⟨rfl, hb⟩; refine ⟨_, rfl, ?_⟩; have n0_ := Aside0.mk (below_step (by repeat (first | (with_reducible first | exact HB.out | apply below_alloc | apply pw_below_drewN | apply below_drew1) | exact HB.out)) hb); clear HB; have HB := n0_; clear n0_; (try clear hb); (try clear hb2); (try clear hk); (try clear hi)) | ((with_reducible refine gate_callee (f := 34) rfl ?_); refine goesL_ (some 99) rfl rfl Try.func34 (by kernel_rfl) rfl #[.string t374] rfl (by (try simp only [List.map_toArray, List.map_cons, List.map_nil]); first | done | rfl | (simp only [List.length_drop, List.length_take]; rfl)) ?_; (with_reducible refine (instr_Find.calls t374 t375 true _ A30.out).mono ?_); rintro e w36 ⟨rfl, hb⟩; refine ⟨_, rfl, ?_⟩; have n0_ := Aside0.mk (below_step (by repeat (first | (with_reducible first | exact HB.out | apply below_alloc | apply pw_below_drewN | apply below_drew1) | exact HB.out)) hb); clear HB; have HB := n0_; clear n0_; (try clear hb); (try clear hb2); (try clear hk); (try clear hi)) | ((with_reducible refine gate_callee (f := 37) rfl ?_); refine goesL_ (some 104) rfl rfl Try.func37 (by kernel_rfl) rfl #[.int .i64 a0] rfl (by (try simp only [List.map_toArray, List.map_cons, List.map_nil]); first | done | rfl | (simp only [List.length_drop, List.length_take]; rfl)) ?_; (with_reducible refine (replevinref16_Word.calls a0 t377 _ A31.out).mono ?_); rintro e w37 ⟨rfl, hb⟩; refine ⟨_, rfl, ?_⟩; have n0_ := Aside0.mk (below_step (by repeat (first | (with_reducible first | exact HB.out | apply below_alloc | apply pw_below_drewN | apply below_drew1) | exact HB.out)) hb); clear HB; have HB := n0_; clear n0_; (try clear hb); (try clear hb2); (try clear hk); (try clear hi)))
                    go_ret
                    exact ⟨by first | rfl | (simp [errW_none, errW_some] <;> rfl) | (simp [*, errW_none, errW_some] <;> rfl), by repeat (first | (with_reducible first | exact HB.out | apply below_alloc | apply pw_below_drewN | apply below_drew1) | exact HB.out)⟩
                  · replace c34 := Bool.eq_false_iff.mpr c34
                    subst c34
                    have H1 : (some true) = some r := by rw [if_neg (show ¬ (false = true) by decide)] at H; exact H
                    clear H
                    have H := H1
                    clear H1
                    obtain rfl := Option.some.inj H
                    go_wp2_with (first | ((with_reducible refine gate_callee (f := 36) rfl ?_); refine goesL_ (some 96) rfl rfl Try.func36 (by kernel_rfl) rfl #[.int .i64 a0] rfl (by (try simp only [List.map_toArray, List.map_cons, List.map_nil]); first | done | rfl | (simp only [List.length_drop, List.length_take]; rfl)) ?_; (with_reducible refine (instr_Word.calls a0 t374 _ A29.out).mono ?_); rintro e w38 ⟨rfl, hb⟩; refine ⟨_, rfl, ?_⟩; have n0_ := Aside0.mk (below_step (by repeat (first | (with_reducible first | exact HB.out | apply below_alloc | apply pw_below_drewN | apply below_drew1) | exact HB.out)) hb); clear HB; have HB := n0_; clear n0_; (try clear hb); (try clear hb2); (try clear hk); (try clear hi)) | ((with_reducible refine gate_callee (f := 34) rfl ?_); refine goesL_ (some 99) rfl rfl Try.func34 (by kernel_rfl) rfl #[.string t374] rfl (by (try simp only [List.map_toArray, List.map_cons, List.map_nil]); first | done | rfl | (simp only [List.length_drop, List.length_take]; rfl)) ?_; (with_reducible refine (instr_Find.calls t374 t375 false _ A30.out).mono ?_); rintro e w39 ⟨rfl, hb⟩; refine ⟨_, rfl, ?_⟩; have n0_ := Aside0.mk (below_step (by repeat (first | (with_reducible first | exact HB.out | apply below_alloc | apply pw_below_drewN | apply below_drew1) | exact HB.out)) hb); clear HB; have HB := n0_; clear n0_; (try clear hb); (try clear hb2); (try clear hk); (try clear hi)) | ((with_reducible refine gate_callee (f := 37) rfl ?_); refine goesL_ (some 104) rfl rfl Try.func37 (by kernel_rfl) rfl #[.int .i64 a0] rfl (by (try simp only [List.map_toArray, List.map_cons, List.map_nil]); first | done | rfl | (simp only [List.length_drop, List.length_take]; rfl)) ?_; (with_reducible refine (replevinref16_Word.calls a0 t377 _ A31.out).mono ?_); rintro e w40 ⟨rfl, hb⟩; refine ⟨_, rfl, ?_⟩; have n0_ := Aside0.mk (below_step (by repeat (first | (with_reducible first | exact HB.out | apply below_alloc | apply pw_below_drewN | apply below_drew1) | exact HB.out)) hb); clear HB; have HB := n0_; clear n0_; (try clear hb); (try clear hb2); (try clear hk); (try clear hi)))
                    go_ret
                    exact ⟨by first | rfl | (simp [errW_none, errW_some] <;> rfl) | (simp [*, errW_none, errW_some] <;> rfl), by repeat (first | (with_reducible first | exact HB.out | apply below_alloc | apply pw_below_drewN | apply below_drew1) | exact HB.out)⟩
                · rw [if_neg c33] at H
                  have c33b0 : (t376 == (t361 == 0)) = false := by simpa using c33
                  (try (have c33b1 : decide (t376 = (t361 == 0)) = false := by simpa using c33))
                  (try (have c33b2 : (t376 == (t361 == 0)) = false := by simpa using c33))
                  (try (have c33b3 : ¬ (t376 = (t361 == 0)) := by simpa using c33))
                  clear c33
                  obtain rfl := Option.some.inj H
                  go_wp2_with (first | ((with_reducible refine gate_callee (f := 36) rfl ?_); refine goesL_ (some 96) rfl rfl Try.func36 (by kernel_rfl) rfl #[.int .i64 a0] rfl (by (try simp only [List.map_toArray, List.map_cons, List.map_nil]); first | done | rfl | (simp only [List.length_drop, List.length_take]; rfl)) ?_; (with_reducible refine (instr_Word.calls a0 t374 _ A29.out).mono ?_); rintro e w41 ⟨rfl, hb⟩; refine ⟨_, rfl, ?_⟩; have n0_ := Aside0.mk (below_step (by repeat (first | (with_reducible first | exact HB.out | apply below_alloc | apply pw_below_drewN | apply below_drew1) | exact HB.out)) hb); clear HB; have HB := n0_; clear n0_; (try clear hb); (try clear hb2); (try clear hk); (try clear hi)) | ((with_reducible refine gate_callee (f := 34) rfl ?_); refine goesL_ (some 99) rfl rfl Try.func34 (by kernel_rfl) rfl #[.string t374] rfl (by (try simp only [List.map_toArray, List.map_cons, List.map_nil]); first | done | rfl | (simp only [List.length_drop, List.length_take]; rfl)) ?_; (with_reducible refine (instr_Find.calls t374 t375 t376 _ A30.out).mono ?_); rintro e w42 ⟨rfl, hb⟩; refine ⟨_, rfl, ?_⟩; have n0_ := Aside0.mk (below_step (by repeat (first | (with_reducible first | exact HB.out | apply below_alloc | apply pw_below_drewN | apply below_drew1) | exact HB.out)) hb); clear HB; have HB := n0_; clear n0_; (try clear hb); (try clear hb2); (try clear hk); (try clear hi)) | ((with_reducible refine gate_callee (f := 37) rfl ?_); refine goesL_ (some 104) rfl rfl Try.func37 (by kernel_rfl) rfl #[.int .i64 a0] rfl (by (try simp only [List.map_toArray, List.map_cons, List.map_nil]); first | done | rfl | (simp only [List.length_drop, List.length_take]; rfl)) ?_; (with_reducible refine (replevinref16_Word.calls a0 t377 _ A31.out).mono ?_); rintro e w43 ⟨rfl, hb⟩; refine ⟨_, rfl, ?_⟩; have n0_ := Aside0.mk (below_step (by repeat (first | (with_reducible first | exact HB.out | apply below_alloc | apply pw_below_drewN | apply below_drew1) | exact HB.out)) hb); clear HB; have HB := n0_; clear n0_; (try clear hb); (try clear hb2); (try clear hk); (try clear hi)))
                  go_ret
                  exact ⟨by first | rfl | (simp [errW_none, errW_some] <;> rfl) | (simp [*, errW_none, errW_some] <;> rfl), by repeat (first | (with_reducible first | exact HB.out | apply below_alloc | apply pw_below_drewN | apply below_drew1) | exact HB.out)⟩
              · rw [if_neg c32] at H
                have c32b0 : (t374.toList == t377.toList) = false := beq_eq_false_iff_ne.mpr c32
                have c32b1 : (t374.toList != t377.toList) = true := bne_iff_ne.mpr c32
                obtain rfl := Option.some.inj H
                go_wp2_with (first | ((with_reducible refine gate_callee (f := 36) rfl ?_); refine goesL_ (some 96) rfl rfl Try.func36 (by kernel_rfl) rfl #[.int .i64 a0] rfl (by (try simp only [List.map_toArray, List.map_cons, List.map_nil]); first | done | rfl | (simp only [List.length_drop, List.length_take]; rfl)) ?_; (with_reducible refine (instr_Word.calls a0 t374 _ A29.out).mono ?_); rintro e w44 ⟨rfl, hb⟩; refine ⟨_, rfl, ?_⟩; have n0_ := Aside0.mk (below_step (by repeat (first | (with_reducible first | exact HB.out | apply below_alloc | apply pw_below_drewN | apply below_drew1) | exact HB.out)) hb); clear HB; have HB := n0_; clear n0_; (try clear hb); (try clear hb2); (try clear hk); (try clear hi)) | ((with_reducible refine gate_callee (f := 34) rfl ?_); refine goesL_ (some 99) rfl rfl Try.func34 (by kernel_rfl) rfl #[.string t374] rfl (by (try simp only [List.map_toArray, List.map_cons, List.map_nil]); first | done | rfl | (simp only [List.length_drop, List.length_take]; rfl)) ?_; (with_reducible refine (instr_Find.calls t374 t375 t376 _ A30.out).mono ?_); rintro e w45 ⟨rfl, hb⟩; refine ⟨_, rfl, ?_⟩; have n0_ := Aside0.mk (below_step (by repeat (first | (with_reducible first | exact HB.out | apply below_alloc | apply pw_below_drewN | apply below_drew1) | exact HB.out)) hb); clear HB; have HB := n0_; clear n0_; (try clear hb); (try clear hb2); (try clear hk); (try clear hi)) | ((with_reducible refine gate_callee (f := 37) rfl ?_); refine goesL_ (some 104) rfl rfl Try.func37 (by kernel_rfl) rfl #[.int .i64 a0] rfl (by (try simp only [List.map_toArray, List.map_cons, List.map_nil]); first | done | rfl | (simp only [List.length_drop, List.length_take]; rfl)) ?_; (with_reducible refine (replevinref16_Word.calls a0 t377 _ A31.out).mono ?_); rintro e w46 ⟨rfl, hb⟩; refine ⟨_, rfl, ?_⟩; have n0_ := Aside0.mk (below_step (by repeat (first | (with_reducible first | exact HB.out | apply below_alloc | apply pw_below_drewN | apply below_drew1) | exact HB.out)) hb); clear HB; have HB := n0_; clear n0_; (try clear hb); (try clear hb2); (try clear hk); (try clear hi)))
                go_ret
                exact ⟨by first | rfl | (simp [errW_none, errW_some] <;> rfl) | (simp [*, errW_none, errW_some] <;> rfl), by repeat (first | (with_reducible first | exact HB.out | apply below_alloc | apply pw_below_drewN | apply below_drew1) | exact HB.out)⟩

/-- THE ONE PURE STATEMENT of replevinlaw16_InstrForms: yours. -/
def replevinlaw16_InstrForms.Pure : Prop := ∀ (a0 : Int) (a1 : ByteArray), (Lit.int .i64 a0).wf = true → a1.size ≤ 140737488351232 → ∃ k, replevinlaw16_InstrForms.f k a0 a1 = some true
theorem replevinlaw16_InstrForms.walk (P : replevinlaw16_InstrForms.Pure) (a0 : Int) (a1 : ByteArray) (w : World) (w0 : (Lit.int .i64 a0).wf = true) (w1 : a1.size ≤ 140737488351232) :
    Calls Try.prog 10 #[.int .i64 a0, .string a1] w fun e w' => e = .returned (.bool true) ∧ Below w.heap.size w w' := by
  obtain ⟨k, h⟩ := P a0 a1 w0 w1
  refine (replevinlaw16_InstrForms.calls k a0 a1 true w h).mono ?_
  rintro e w' ⟨rfl, hd⟩
  exact ⟨rfl, hd⟩

end Go.Proofs.Ytdnhekgdpolenaa.Q
