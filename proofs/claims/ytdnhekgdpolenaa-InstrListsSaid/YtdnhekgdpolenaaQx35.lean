/- Functions of the seat and their walks, written by a program of this session. -/
import Derived.Test.YtdnhekgdpolenaaQx0
import Derived.Test.YtdnhekgdpolenaaQx1
import Derived.Test.YtdnhekgdpolenaaQx8
import Derived.Test.YtdnhekgdpolenaaQx22
import Derived.Test.YtdnhekgdpolenaaQx33
import Derived.Test.YtdnhekgdpolenaaQx34
import Derived.Test.YtdnhekgdpolenaaHDecAll
import Derived.Test.YtdnhekgdpolenaaHEncAll
namespace Go.Proofs.Ytdnhekgdpolenaa.Q
open Go.RowKit Go.Proofs.YtdnhekgdpolenaaW.PrintWords Go.Proofs.YtdnhekgdpolenaaW.PrintLast Go.Proofs.YtdnhekgdpolenaaW.PrintMore
attribute [local go_sem] max2_int min2_int max_two min_two max_three min_three max_four min_four   -- for this text's walks alone
set_option linter.unusedVariables false
set_option linter.unusedSimpArgs false

attribute [local go_sem high] eqA23
/-! ### replevinlaw16_InstrLists: function 11 -/
mutual
def replevinlaw16_InstrLists.j0 : Nat → List (S23) → Bool → Option (Bool)
  | 0, _, _ => none
  | k + 1, x0, x17 => if x17 = true then ((replevinlaw16_known.f k).bind fun t400 => (some t400)) else ((replevinlaw16_list.f k x0).bind fun t401 => ((instr_EncodeAll.f t401).bind fun bt404 => ((replevinref16_EncodeAll.f k x0).bind fun bt409 => (if (strOfNums bt404.1).toList = (strOfNums bt409.1).toList then (if bt404.2.1 = bt409.2.1 then (replevinlaw16_InstrLists.j1 k x0 bt404.1 bt404.2.2 (bt404.2.2 != bt409.2.2)) else (replevinlaw16_InstrLists.j1 k x0 bt404.1 bt404.2.2 true)) else (replevinlaw16_InstrLists.j1 k x0 bt404.1 bt404.2.2 true)))))
def replevinlaw16_InstrLists.j1 : Nat → List (S23) → List Int → Int → Bool → Option (Bool)
  | 0, _, _, _, _ => none
  | k + 1, x0, x3, x5, x46 => if x46 = true then (some false) else (if x5 = 0 then ((instr_DecodeAll.f x3).bind fun bt414 => (if (bt414.1.length : Int) = (x0.length : Int) then (if bt414.2.1 = 0 then (replevinlaw16_InstrLists.j2 k x0 bt414.1 (bt414.2.2 != 0)) else (replevinlaw16_InstrLists.j2 k x0 bt414.1 true)) else (replevinlaw16_InstrLists.j2 k x0 bt414.1 true))) else (some true))
def replevinlaw16_InstrLists.j2 : Nat → List (S23) → List (S26) → Bool → Option (Bool)
  | 0, _, _, _ => none
  | k + 1, x0, x9, x67 => if x67 = true then (some false) else (replevinlaw16_InstrLists.l0 k x0 x9 0)
def replevinlaw16_InstrLists.l0 : Nat → List (S23) → List (S26) → Int → Option (Bool)
  | 0, _, _, _ => none
  | k + 1, x0, x9, x10 => if x10 < (x9.length : Int) then (if 0 ≤ x10 then ((replevinlaw16_Of.f ((rd_T26 x9 x10).f0) ((rd_T26 x9 x10).f1) ((rd_T26 x9 x10).f2) ((rd_T26 x9 x10).f3)).bind fun bt420 => (if x10 < (x0.length : Int) then (if (!(bt420.1 == ((rd_T23 x0 x10).f0)) || (!(bt420.2.1 == ((rd_T23 x0 x10).f1)) || (!(bt420.2.2.1 == ((rd_T23 x0 x10).f2)) || (!(bt420.2.2.2 == ((rd_T23 x0 x10).f3)))))) = true then (some false) else (replevinlaw16_InstrLists.l0 k x0 x9 (wrap64 (x10 + 1)))) else (none))) else (none)) else (some true)
end
def replevinlaw16_InstrLists.f (k : Nat) (l0 : List (S23)) : Option (Bool) := (replevinlaw16_known.f k).bind fun t399 => (if t399 = true then (replevinlaw16_InstrLists.j0 k l0 (decide ((l0.length : Int) > 40))) else (replevinlaw16_InstrLists.j0 k l0 true))
theorem replevinlaw16_InstrLists.mono_l : ∀ k, (∀ y0 y1, LeO (replevinlaw16_InstrLists.j0 k y0 y1) (replevinlaw16_InstrLists.j0 (k + 1) y0 y1)) ∧ (∀ y0 y1 y2 y3, LeO (replevinlaw16_InstrLists.j1 k y0 y1 y2 y3) (replevinlaw16_InstrLists.j1 (k + 1) y0 y1 y2 y3)) ∧ (∀ y0 y1 y2, LeO (replevinlaw16_InstrLists.j2 k y0 y1 y2) (replevinlaw16_InstrLists.j2 (k + 1) y0 y1 y2)) ∧ (∀ y0 y1 y2, LeO (replevinlaw16_InstrLists.l0 k y0 y1 y2) (replevinlaw16_InstrLists.l0 (k + 1) y0 y1 y2))
  | 0 => ⟨fun _ _ r h => by simp [replevinlaw16_InstrLists.j0] at h, fun _ _ _ _ r h => by simp [replevinlaw16_InstrLists.j1] at h, fun _ _ _ r h => by simp [replevinlaw16_InstrLists.j2] at h, fun _ _ _ r h => by simp [replevinlaw16_InstrLists.l0] at h⟩
  | k + 1 => by
    obtain ⟨ih0, ih1, ih2, ih3⟩ := replevinlaw16_InstrLists.mono_l k
    refine ⟨?_, ?_, ?_, ?_⟩
    · intro y0 y1
      unfold replevinlaw16_InstrLists.j0
      repeat' first
      | (with_reducible exact ih0 _ _)
      | (with_reducible exact ih1 _ _ _ _)
      | (with_reducible exact ih2 _ _ _)
      | (with_reducible exact ih3 _ _ _)
      | (with_reducible exact replevinlaw16_known.mono _)
      | (with_reducible exact replevinlaw16_list.mono _ _)
      | (with_reducible exact replevinref16_EncodeAll.mono _ _)
      | (with_reducible exact LeO.refl _)
      | (with_reducible exact LeO.none _)
      | (with_reducible refine LeO.ite ?_ ?_)
      | (with_reducible refine LeO.bind ?_ (fun _ => ?_))
      | exact ih0 _ _
      | exact ih1 _ _ _ _
      | exact ih2 _ _ _
      | exact ih3 _ _ _
      | exact replevinlaw16_known.mono _
      | exact replevinlaw16_list.mono _ _
      | exact replevinref16_EncodeAll.mono _ _
      | exact LeO.none _
      | refine LeO.ite ?_ ?_
      | refine LeO.bind ?_ (fun _ => ?_)
    · intro y0 y1 y2 y3
      unfold replevinlaw16_InstrLists.j1
      repeat' first
      | (with_reducible exact ih0 _ _)
      | (with_reducible exact ih1 _ _ _ _)
      | (with_reducible exact ih2 _ _ _)
      | (with_reducible exact ih3 _ _ _)
      | (with_reducible exact replevinlaw16_known.mono _)
      | (with_reducible exact replevinlaw16_list.mono _ _)
      | (with_reducible exact replevinref16_EncodeAll.mono _ _)
      | (with_reducible exact LeO.refl _)
      | (with_reducible exact LeO.none _)
      | (with_reducible refine LeO.ite ?_ ?_)
      | (with_reducible refine LeO.bind ?_ (fun _ => ?_))
      | exact ih0 _ _
      | exact ih1 _ _ _ _
      | exact ih2 _ _ _
      | exact ih3 _ _ _
      | exact replevinlaw16_known.mono _
      | exact replevinlaw16_list.mono _ _
      | exact replevinref16_EncodeAll.mono _ _
      | exact LeO.none _
      | refine LeO.ite ?_ ?_
      | refine LeO.bind ?_ (fun _ => ?_)
    · intro y0 y1 y2
      unfold replevinlaw16_InstrLists.j2
      repeat' first
      | (with_reducible exact ih0 _ _)
      | (with_reducible exact ih1 _ _ _ _)
      | (with_reducible exact ih2 _ _ _)
      | (with_reducible exact ih3 _ _ _)
      | (with_reducible exact replevinlaw16_known.mono _)
      | (with_reducible exact replevinlaw16_list.mono _ _)
      | (with_reducible exact replevinref16_EncodeAll.mono _ _)
      | (with_reducible exact LeO.refl _)
      | (with_reducible exact LeO.none _)
      | (with_reducible refine LeO.ite ?_ ?_)
      | (with_reducible refine LeO.bind ?_ (fun _ => ?_))
      | exact ih0 _ _
      | exact ih1 _ _ _ _
      | exact ih2 _ _ _
      | exact ih3 _ _ _
      | exact replevinlaw16_known.mono _
      | exact replevinlaw16_list.mono _ _
      | exact replevinref16_EncodeAll.mono _ _
      | exact LeO.none _
      | refine LeO.ite ?_ ?_
      | refine LeO.bind ?_ (fun _ => ?_)
    · intro y0 y1 y2
      unfold replevinlaw16_InstrLists.l0
      repeat' first
      | (with_reducible exact ih0 _ _)
      | (with_reducible exact ih1 _ _ _ _)
      | (with_reducible exact ih2 _ _ _)
      | (with_reducible exact ih3 _ _ _)
      | (with_reducible exact replevinlaw16_known.mono _)
      | (with_reducible exact replevinlaw16_list.mono _ _)
      | (with_reducible exact replevinref16_EncodeAll.mono _ _)
      | (with_reducible exact LeO.refl _)
      | (with_reducible exact LeO.none _)
      | (with_reducible refine LeO.ite ?_ ?_)
      | (with_reducible refine LeO.bind ?_ (fun _ => ?_))
      | exact ih0 _ _
      | exact ih1 _ _ _ _
      | exact ih2 _ _ _
      | exact ih3 _ _ _
      | exact replevinlaw16_known.mono _
      | exact replevinlaw16_list.mono _ _
      | exact replevinref16_EncodeAll.mono _ _
      | exact LeO.none _
      | refine LeO.ite ?_ ?_
      | refine LeO.bind ?_ (fun _ => ?_)
theorem replevinlaw16_InstrLists.mono : ∀ a0 k, LeO (replevinlaw16_InstrLists.f k a0) (replevinlaw16_InstrLists.f (k + 1) a0) := by
  intro a0 k
  obtain ⟨ih0, ih1, ih2, ih3⟩ := replevinlaw16_InstrLists.mono_l k
  unfold replevinlaw16_InstrLists.f
  repeat' first
      | (with_reducible exact ih0 _ _)
      | (with_reducible exact ih1 _ _ _ _)
      | (with_reducible exact ih2 _ _ _)
      | (with_reducible exact ih3 _ _ _)
      | (with_reducible exact replevinlaw16_known.mono _)
      | (with_reducible exact replevinlaw16_list.mono _ _)
      | (with_reducible exact replevinref16_EncodeAll.mono _ _)
      | (with_reducible exact LeO.refl _)
      | (with_reducible exact LeO.none _)
      | (with_reducible refine LeO.ite ?_ ?_)
      | (with_reducible refine LeO.bind ?_ (fun _ => ?_))
      | exact ih0 _ _
      | exact ih1 _ _ _ _
      | exact ih2 _ _ _
      | exact ih3 _ _ _
      | exact replevinlaw16_known.mono _
      | exact replevinlaw16_list.mono _ _
      | exact replevinref16_EncodeAll.mono _ _
      | exact LeO.none _
      | refine LeO.ite ?_ ?_
      | refine LeO.bind ?_ (fun _ => ?_)
def replevinlaw16_InstrLists.T15 : Bool × List (List Nat × List Nat) := (true, [([], []), ([], []), ([0, 1], [0, 1]), ([2], [2]), ([3], [3]), ([], []), ([], []), ([5, 6], [5, 6]), ([7], [7]), ([4, 8], [4, 8])])
def replevinlaw16_InstrLists.B15 : List Nat := [0, 0, 3, 7, 15, 0, 0, 96, 224, 511]
theorem replevinlaw16_InstrLists.tab15 : rtab .any (opsOf Try.f11 15) = replevinlaw16_InstrLists.T15 := by kernel_rfl
theorem replevinlaw16_InstrLists.bits15 : waitsOk replevinlaw16_InstrLists.T15.2 replevinlaw16_InstrLists.B15 = true := by kernel_rfl
set_option maxHeartbeats 8000000 in
set_option maxRecDepth 100000 in
theorem replevinlaw16_InstrLists.calls (k : Nat) (A0 : Option Addr) (c0 : Nat) (l0 : List (S23)) (r : Bool) (w : World) (hr0 : Kd.C k23 w A0 l0.length l0) (hc0 : l0.length ≤ c0) (h : replevinlaw16_InstrLists.f k l0 = some r) :
    Calls Try.prog 11 #[.slice A0 l0.length c0] w fun e w' => e = .returned (.bool r) ∧ Below w.heap.size w w' := by
  have hu26 := Try.underlying26
  have hu23 := Try.underlying23
  have HR0 := Aside0.mk hr0
  have HC0 := Aside0.mk hc0
  clear hr0 hc0
  have HB := Aside0.mk (Below.refl w.heap.size w)
  have H : ((replevinlaw16_known.f k).bind fun t399 => (if t399 = true then (replevinlaw16_InstrLists.j0 k l0 (decide ((l0.length : Int) > 40))) else (replevinlaw16_InstrLists.j0 k l0 true))) = some r := h
  clear h
  have HC2 := Aside0.mk H
  clear H
  go_enter Try.func11, Try.ntmps11
  go_upto_region 1 with (fail)
  go_cut [17] (fun v17 wc => ∃ (kq : Nat) (x17_1 : Bool), v17 = .bool x17_1 ∧ Aside0 (replevinlaw16_InstrLists.j0 kq l0 x17_1 = some r) ∧ Aside0 (kq ≤ k) ∧ Aside0 (Below w.heap.size w wc))
  case first =>
    have H := HC2.out
    clear HC2
    replace H := Option.bind_eq_some_iff.mp H
    obtain ⟨t399, A30, H⟩ := H
    replace H : (if t399 = true then (replevinlaw16_InstrLists.j0 k l0 (decide ((l0.length : Int) > 40))) else (replevinlaw16_InstrLists.j0 k l0 true)) = some r := H
    have A3 := Aside0.mk A30
    clear A30
    by_cases c4 : t399 = true
    · subst c4
      have H1 : (replevinlaw16_InstrLists.j0 k l0 (decide ((l0.length : Int) > 40))) = some r := by rw [if_pos rfl] at H; exact H
      clear H
      have H := H1
      clear H1
      have H' := Aside0.mk H
      clear H
      go_wp2_with (first | ((with_reducible refine gate_callee (f := 13) rfl ?_); refine goesL_ (some 11) rfl rfl Try.func13 (by kernel_rfl) rfl #[] rfl (by (try simp only [List.map_toArray, List.map_cons, List.map_nil]); first | done | rfl | (simp only [List.length_drop, List.length_take]; rfl)) ?_; (with_reducible refine (replevinlaw16_known.calls k  true _ A3.out).mono ?_); rintro e w5 ⟨rfl, hb⟩; refine ⟨_, rfl, ?_⟩; have n0_ := Aside0.mk (below_step (by repeat (first | (with_reducible first | exact HB.out | apply below_alloc | apply pw_below_drewN | apply below_drew1) | exact HB.out)) hb); clear HB; have HB := n0_; clear n0_; (try clear hb); (try clear hb2); (try clear hk); (try clear hi)))
      go_meet
      case rel => exact ⟨_, (decide ((l0.length : Int) > 40)), (by first | rfl | (simp; done) | (simp [*]; done)), H', ⟨by first | omega | exact Nat.le_refl _⟩, ⟨by repeat (first | (with_reducible first | exact HB.out | apply below_alloc | apply pw_below_drewN | apply below_drew1) | exact HB.out)⟩⟩
    · replace c4 := Bool.eq_false_iff.mpr c4
      subst c4
      have H1 : (replevinlaw16_InstrLists.j0 k l0 true) = some r := by rw [if_neg (show ¬ (false = true) by decide)] at H; exact H
      clear H
      have H := H1
      clear H1
      have H' := Aside0.mk H
      clear H
      go_wp2_with (first | ((with_reducible refine gate_callee (f := 13) rfl ?_); refine goesL_ (some 11) rfl rfl Try.func13 (by kernel_rfl) rfl #[] rfl (by (try simp only [List.map_toArray, List.map_cons, List.map_nil]); first | done | rfl | (simp only [List.length_drop, List.length_take]; rfl)) ?_; (with_reducible refine (replevinlaw16_known.calls k  false _ A3.out).mono ?_); rintro e w6 ⟨rfl, hb⟩; refine ⟨_, rfl, ?_⟩; have n0_ := Aside0.mk (below_step (by repeat (first | (with_reducible first | exact HB.out | apply below_alloc | apply pw_below_drewN | apply below_drew1) | exact HB.out)) hb); clear HB; have HB := n0_; clear n0_; (try clear hb); (try clear hb2); (try clear hk); (try clear hi)))
      go_meet
      case rel => exact ⟨_, (true), (by first | rfl | (simp; done) | (simp [*]; done)), H', ⟨by first | omega | exact Nat.le_refl _⟩, ⟨by repeat (first | (with_reducible first | exact HB.out | apply below_alloc | apply pw_below_drewN | apply below_drew1) | exact HB.out)⟩⟩
  case rest =>
    clear HC2
    try clear c1
    try clear p2
    try clear c4
    obtain ⟨kq, x17_1, rfl, HA, HJ1, HB⟩ := hcut
    cases kq with
    | zero => exact absurd HA.out (by simp [replevinlaw16_InstrLists.j0])
    | succ kj1 =>
      have H := HA.out
      clear HA
      simp only [replevinlaw16_InstrLists.j0] at H
      by_cases c7 : x17_1 = true
      · subst c7
        have H1 : ((replevinlaw16_known.f kj1).bind fun t400 => (some t400)) = some r := by rw [if_pos rfl] at H; exact H
        clear H
        have H := H1
        clear H1
        replace H := Option.bind_eq_some_iff.mp H
        obtain ⟨t400, A80, H⟩ := H
        replace H : (some t400) = some r := H
        have A8 := Aside0.mk A80
        clear A80
        obtain rfl := Option.some.inj H
        go_wp2_with (first | ((with_reducible refine gate_callee (f := 13) rfl ?_); refine goesL_ (some 18) rfl rfl Try.func13 (by kernel_rfl) rfl #[] rfl (by (try simp only [List.map_toArray, List.map_cons, List.map_nil]); first | done | rfl | (simp only [List.length_drop, List.length_take]; rfl)) ?_; (with_reducible refine (replevinlaw16_known.calls kj1  t400 _ A8.out).mono ?_); rintro e w9 ⟨rfl, hb⟩; refine ⟨_, rfl, ?_⟩; have n0_ := Aside0.mk (below_step (by repeat (first | (with_reducible first | exact HB.out | apply below_alloc | apply pw_below_drewN | apply below_drew1) | exact HB.out)) hb); clear HB; have HB := n0_; clear n0_; (try clear hb); (try clear hb2); (try clear hk); (try clear hi)))
        go_ret
        exact ⟨by first | rfl | (simp [errW_none, errW_some] <;> rfl) | (simp [*, errW_none, errW_some] <;> rfl), by repeat (first | (with_reducible first | exact HB.out | apply below_alloc | apply pw_below_drewN | apply below_drew1) | exact HB.out)⟩
      · replace c7 := Bool.eq_false_iff.mpr c7
        subst c7
        have H1 : ((replevinlaw16_list.f kj1 l0).bind fun t401 => ((instr_EncodeAll.f t401).bind fun bt404 => ((replevinref16_EncodeAll.f kj1 l0).bind fun bt409 => (if (strOfNums bt404.1).toList = (strOfNums bt409.1).toList then (if bt404.2.1 = bt409.2.1 then (replevinlaw16_InstrLists.j1 kj1 l0 bt404.1 bt404.2.2 (bt404.2.2 != bt409.2.2)) else (replevinlaw16_InstrLists.j1 kj1 l0 bt404.1 bt404.2.2 true)) else (replevinlaw16_InstrLists.j1 kj1 l0 bt404.1 bt404.2.2 true))))) = some r := by rw [if_neg (show ¬ (false = true) by decide)] at H; exact H
        clear H
        have H := H1
        clear H1
        replace H := Option.bind_eq_some_iff.mp H
        obtain ⟨t401, A100, H⟩ := H
        replace H : ((instr_EncodeAll.f t401).bind fun bt404 => ((replevinref16_EncodeAll.f kj1 l0).bind fun bt409 => (if (strOfNums bt404.1).toList = (strOfNums bt409.1).toList then (if bt404.2.1 = bt409.2.1 then (replevinlaw16_InstrLists.j1 kj1 l0 bt404.1 bt404.2.2 (bt404.2.2 != bt409.2.2)) else (replevinlaw16_InstrLists.j1 kj1 l0 bt404.1 bt404.2.2 true)) else (replevinlaw16_InstrLists.j1 kj1 l0 bt404.1 bt404.2.2 true)))) = some r := H
        have A10 := Aside0.mk A100
        clear A100
        replace H := Option.bind_eq_some_iff.mp H
        obtain ⟨⟨t404, t405, t406⟩, A110, H⟩ := H
        replace H : ((replevinref16_EncodeAll.f kj1 l0).bind fun bt409 => (if (strOfNums t404).toList = (strOfNums bt409.1).toList then (if t405 = bt409.2.1 then (replevinlaw16_InstrLists.j1 kj1 l0 t404 t406 (t406 != bt409.2.2)) else (replevinlaw16_InstrLists.j1 kj1 l0 t404 t406 true)) else (replevinlaw16_InstrLists.j1 kj1 l0 t404 t406 true))) = some r := H
        have A11 := Aside0.mk A110
        clear A110
        replace H := Option.bind_eq_some_iff.mp H
        obtain ⟨⟨t409, t410, t411⟩, A120, H⟩ := H
        replace H : (if (strOfNums t404).toList = (strOfNums t409).toList then (if t405 = t410 then (replevinlaw16_InstrLists.j1 kj1 l0 t404 t406 (t406 != t411)) else (replevinlaw16_InstrLists.j1 kj1 l0 t404 t406 true)) else (replevinlaw16_InstrLists.j1 kj1 l0 t404 t406 true)) = some r := H
        have A12 := Aside0.mk A120
        clear A120
        have HC13 := Aside0.mk H
        clear H
        go_upto_region 5 with (first | ((with_reducible refine gate_callee (f := 39) rfl ?_); refine goesL_ (some 21) rfl rfl Try.func39 (by kernel_rfl) rfl #[.slice A0 l0.length c0] rfl (by (try simp only [List.map_toArray, List.map_cons, List.map_nil]); first | done | rfl | (simp only [List.length_drop, List.length_take]; rfl)) ?_; (with_reducible refine (replevinlaw16_list.calls kj1 _ _ l0 t401 _ ?side1 ?side2 A10.out).mono ?_); (case side1 => repeat (first | exact (Kd.C_below HR0.out HB.out) | (with_reducible refine Kd.C_alloc ?_ _) | (with_reducible refine Kd.C_drewN ?_ _) | (with_reducible refine Kd.C_drew ?_))); (case side2 => exact HC0.out); rintro e w14 ⟨v402, rfl, ho0, hb⟩; refine ⟨_, rfl, ?_⟩; have n0_ := Aside0.mk (Kd.R_lower ho0 (below_size (by repeat (first | (with_reducible first | exact HB.out | apply below_alloc | apply pw_below_drewN | apply below_drew1) | exact HB.out)))); have n1_ := Aside0.mk (below_step (by repeat (first | (with_reducible first | exact HB.out | apply below_alloc | apply pw_below_drewN | apply below_drew1) | exact HB.out)) hb); clear HB; have HO403 := n0_; have HB := n1_; clear n0_ n1_; (try clear hb); (try clear hb2); (try clear hk); (try clear hi); (try clear ho0); obtain ⟨Ao15, co15, eo15⟩ := Kd.R_slice HO403.out; subst eo15) | ((with_reducible refine gate_callee (f := 38) rfl ?_); refine goesL_ (some 22) rfl rfl Try.func38 (by kernel_rfl) rfl #[.slice Ao15 t401.length co15] rfl (by (try simp only [List.map_toArray, List.map_cons, List.map_nil]); first | done | rfl | (simp only [List.length_drop, List.length_take]; rfl)) ?_; (with_reducible refine (instr_EncodeAll.calls _ _ t401 t404 t405 t406 _ ?side1 ?side2 A11.out).mono ?_); (case side1 => repeat (first | exact (Kd.R_reads' HO403.out).2.2 | (with_reducible refine Kd.C_alloc ?_ _) | (with_reducible refine Kd.C_drewN ?_ _) | (with_reducible refine Kd.C_drew ?_))); (case side2 => exact (Kd.R_reads' HO403.out).2.1); rintro e w16 ⟨v407, rfl, ho0, hb⟩; refine ⟨_, rfl, ?_⟩; have n0_ := Aside0.mk (Kd.R_below (by (with_reducible repeat (first | apply Kd.R_alloc | apply Kd.R_drewN | apply Kd.R_drew)); exact HO403.out) hb); have n1_ := Aside0.mk (Kd.R_lower ho0 (below_size (by repeat (first | (with_reducible first | exact HB.out | apply below_alloc | apply pw_below_drewN | apply below_drew1) | exact HB.out)))); have n2_ := Aside0.mk (below_step (by repeat (first | (with_reducible first | exact HB.out | apply below_alloc | apply pw_below_drewN | apply below_drew1) | exact HB.out)) hb); clear HO403; clear HB; have HO403 := n0_; have HO408 := n1_; have HB := n2_; clear n0_ n1_ n2_; (try clear hb); (try clear hb2); (try clear hk); (try clear hi); (try clear ho0)) | ((with_reducible refine gate_callee (f := 40) rfl ?_); refine goesL_ (some 28) rfl rfl Try.func40 (by kernel_rfl) rfl #[.slice A0 l0.length c0] rfl (by (try simp only [List.map_toArray, List.map_cons, List.map_nil]); first | done | rfl | (simp only [List.length_drop, List.length_take]; rfl)) ?_; (with_reducible refine (replevinref16_EncodeAll.calls kj1 _ _ l0 t409 t410 t411 _ ?side1 ?side2 A12.out).mono ?_); (case side1 => repeat (first | exact (Kd.C_below HR0.out HB.out) | (with_reducible refine Kd.C_alloc ?_ _) | (with_reducible refine Kd.C_drewN ?_ _) | (with_reducible refine Kd.C_drew ?_))); (case side2 => exact HC0.out); rintro e w17 ⟨v412, rfl, ho0, hb⟩; refine ⟨_, rfl, ?_⟩; have n0_ := Aside0.mk (Kd.R_below (by (with_reducible repeat (first | apply Kd.R_alloc | apply Kd.R_drewN | apply Kd.R_drew)); exact HO403.out) hb); have n1_ := Aside0.mk (Kd.R_elder' (by (with_reducible repeat (first | apply Kd.R_alloc | apply Kd.R_drewN | apply Kd.R_drew)); exact HO408.out) (Kd.R_base ho0) hb); have n2_ := Aside0.mk (Kd.R_lower (Kd.R_new' ho0 (Kd.R_lt (by (with_reducible repeat (first | apply Kd.R_alloc | apply Kd.R_drewN | apply Kd.R_drew)); exact HO408.out))) (below_size (by repeat (first | (with_reducible first | exact HB.out | apply below_alloc | apply pw_below_drewN | apply below_drew1) | exact HB.out)))); have n3_ := Aside0.mk (below_step (by repeat (first | (with_reducible first | exact HB.out | apply below_alloc | apply pw_below_drewN | apply below_drew1) | exact HB.out)) hb); clear HO403; clear HO408; clear HB; have HO403 := n0_; have HO408 := n1_; have HO413 := n2_; have HB := n3_; clear n0_ n1_ n2_ n3_; (try clear hb); (try clear hb2); (try clear hk); (try clear hi); (try clear ho0)))
        (try simp only [Act.put, List.setIfInBounds_toArray, List.set_cons_zero, List.set_cons_succ])
        go_cut [46] (fun v46 wc => ∃ (kq : Nat) (x46_12 : Bool), v46 = .bool x46_12 ∧ Aside0 (replevinlaw16_InstrLists.j1 kq l0 t404 t406 x46_12 = some r) ∧ Aside0 (kq ≤ kj1) ∧ Aside0 (Kd.R (Kd.int .u8) 5 wc w.heap.size (fun _ => True) v407 t404) ∧ Aside0 (Below w.heap.size w wc))
        case first =>
          have H := HC13.out
          clear HC13
          by_cases c18 : (strOfNums t404).toList = (strOfNums t409).toList
          · rw [if_pos c18] at H
            have c18b0 : ((strOfNums t404).toList == (strOfNums t409).toList) = true := beq_iff_eq.mpr c18
            have c18b1 : ((strOfNums t404).toList != (strOfNums t409).toList) = false := bne_eq_false_iff_eq.mpr c18
            clear c18
            (first | rw [c18b0] | (simp only [i64_w, i32_w]; rw [c18b0]) | skip)
            by_cases c19 : t405 = t410
            · rw [if_pos c19] at H
              have c19b0 : (t405 == t410) = true := beq_iff_eq.mpr c19
              have c19b1 : (t405 != t410) = false := bne_eq_false_iff_eq.mpr c19
              clear c19
              have H' := Aside0.mk H
              clear H
              have hcv20 := own_string (P := Try.prog) Try.underlying52 Try.underlying5 Try.underlying9 (Kd.own_of_R HO408.out)
              have hcv21 := own_string (P := Try.prog) Try.underlying52 Try.underlying5 Try.underlying9 (Kd.own_of_R HO413.out)
              go_wp2
              go_meet
              case rel => exact ⟨_, ((t406 != t411)), (by first | rfl | (simp; done) | (simp [*]; done)), H', ⟨by have := HJ1.out; first | omega | exact Nat.le_refl _⟩, ⟨by (with_reducible repeat (first | apply Kd.R_alloc | apply Kd.R_drewN | apply Kd.R_drew)); exact Kd.R_mono HO408.out (fun _ hk => trivial)⟩, ⟨by repeat (first | (with_reducible first | exact HB.out | apply below_alloc | apply pw_below_drewN | apply below_drew1) | exact HB.out)⟩⟩
            · rw [if_neg c19] at H
              have c19b0 : (t405 == t410) = false := beq_eq_false_iff_ne.mpr c19
              have c19b1 : (t405 != t410) = true := bne_iff_ne.mpr c19
              have H' := Aside0.mk H
              clear H
              have hcv22 := own_string (P := Try.prog) Try.underlying52 Try.underlying5 Try.underlying9 (Kd.own_of_R HO408.out)
              have hcv23 := own_string (P := Try.prog) Try.underlying52 Try.underlying5 Try.underlying9 (Kd.own_of_R HO413.out)
              go_wp2
              go_meet
              case rel => exact ⟨_, (true), (by first | rfl | (simp; done) | (simp [*]; done)), H', ⟨by have := HJ1.out; first | omega | exact Nat.le_refl _⟩, ⟨by (with_reducible repeat (first | apply Kd.R_alloc | apply Kd.R_drewN | apply Kd.R_drew)); exact Kd.R_mono HO408.out (fun _ hk => trivial)⟩, ⟨by repeat (first | (with_reducible first | exact HB.out | apply below_alloc | apply pw_below_drewN | apply below_drew1) | exact HB.out)⟩⟩
          · rw [if_neg c18] at H
            have c18b0 : ((strOfNums t404).toList == (strOfNums t409).toList) = false := beq_eq_false_iff_ne.mpr c18
            have c18b1 : ((strOfNums t404).toList != (strOfNums t409).toList) = true := bne_iff_ne.mpr c18
            (first | rw [c18b0] | (simp only [i64_w, i32_w]; rw [c18b0]) | skip)
            have H' := Aside0.mk H
            clear H
            have hcv24 := own_string (P := Try.prog) Try.underlying52 Try.underlying5 Try.underlying9 (Kd.own_of_R HO408.out)
            have hcv25 := own_string (P := Try.prog) Try.underlying52 Try.underlying5 Try.underlying9 (Kd.own_of_R HO413.out)
            go_wp2
            go_meet
            case rel => exact ⟨_, (true), (by first | rfl | (simp; done) | (simp [*]; done)), H', ⟨by have := HJ1.out; first | omega | exact Nat.le_refl _⟩, ⟨by (with_reducible repeat (first | apply Kd.R_alloc | apply Kd.R_drewN | apply Kd.R_drew)); exact Kd.R_mono HO408.out (fun _ hk => trivial)⟩, ⟨by repeat (first | (with_reducible first | exact HB.out | apply below_alloc | apply pw_below_drewN | apply below_drew1) | exact HB.out)⟩⟩
        case rest =>
          clear HC13
          try clear c1
          try clear p2
          try clear hcv2
          try clear c3
          try clear c4
          try clear c7
          try clear c11
          try clear c13
          try clear c18
          try clear c18b0
          try clear c18b1
          try clear c19
          try clear c19b0
          try clear c19b1
          try clear hcv20
          try clear hcv21
          try clear hcv22
          try clear hcv23
          try clear hcv24
          try clear hcv25
          try clear p2
          obtain ⟨kq, x46_12, rfl, HA, HJ12, HO_3, HB⟩ := hcut
          cases kq with
          | zero => exact absurd HA.out (by simp [replevinlaw16_InstrLists.j1])
          | succ kj12 =>
            have H := HA.out
            clear HA
            simp only [replevinlaw16_InstrLists.j1] at H
            by_cases c26 : x46_12 = true
            · subst c26
              have H1 : (some false) = some r := by rw [if_pos rfl] at H; exact H
              clear H
              have H := H1
              clear H1
              obtain rfl := Option.some.inj H
              go_wp2
              go_ret
              exact ⟨by first | rfl | (simp [errW_none, errW_some] <;> rfl) | (simp [*, errW_none, errW_some] <;> rfl), by repeat (first | (with_reducible first | exact HB.out | apply below_alloc | apply pw_below_drewN | apply below_drew1) | exact HB.out)⟩
            · replace c26 := Bool.eq_false_iff.mpr c26
              subst c26
              have H1 : (if t406 = 0 then ((instr_DecodeAll.f t404).bind fun bt414 => (if (bt414.1.length : Int) = (l0.length : Int) then (if bt414.2.1 = 0 then (replevinlaw16_InstrLists.j2 kj12 l0 bt414.1 (bt414.2.2 != 0)) else (replevinlaw16_InstrLists.j2 kj12 l0 bt414.1 true)) else (replevinlaw16_InstrLists.j2 kj12 l0 bt414.1 true))) else (some true)) = some r := by rw [if_neg (show ¬ (false = true) by decide)] at H; exact H
              clear H
              have H := H1
              clear H1
              by_cases c27 : t406 = 0
              · rw [if_pos c27] at H
                have c27b0 : (t406 == 0) = true := beq_iff_eq.mpr c27
                have c27b1 : (t406 != 0) = false := bne_eq_false_iff_eq.mpr c27
                clear c27
                replace H := Option.bind_eq_some_iff.mp H
                obtain ⟨⟨t414, t415, t416⟩, A280, H⟩ := H
                replace H : (if (t414.length : Int) = (l0.length : Int) then (if t415 = 0 then (replevinlaw16_InstrLists.j2 kj12 l0 t414 (t416 != 0)) else (replevinlaw16_InstrLists.j2 kj12 l0 t414 true)) else (replevinlaw16_InstrLists.j2 kj12 l0 t414 true)) = some r := H
                have A28 := Aside0.mk A280
                clear A280
                have HC29 := Aside0.mk H
                clear H
                obtain ⟨Ao30, co30, eo30⟩ := Kd.R_slice HO_3.out
                subst eo30
                go_upto_region 10 with (first | ((with_reducible refine gate_callee (f := 28) rfl ?_); refine goesL_ (some 51) rfl rfl Try.func28 (by kernel_rfl) rfl #[.slice Ao30 t404.length co30] rfl (by (try simp only [List.map_toArray, List.map_cons, List.map_nil]); first | done | rfl | (simp only [List.length_drop, List.length_take]; rfl)) ?_; (with_reducible refine (instr_DecodeAll.calls _ _ t404 t414 t415 t416 _ ?side1 ?side2 A28.out).mono ?_); (case side1 => repeat (first | exact (Kd.R_reads' HO_3.out).2.2 | (with_reducible refine Kd.C_alloc ?_ _) | (with_reducible refine Kd.C_drewN ?_ _) | (with_reducible refine Kd.C_drew ?_))); (case side2 => exact (Kd.R_reads' HO_3.out).2.1); rintro e w31 ⟨v417, rfl, ho0, hb⟩; refine ⟨_, rfl, ?_⟩; have n0_ := Aside0.mk (Kd.R_below (by (with_reducible repeat (first | apply Kd.R_alloc | apply Kd.R_drewN | apply Kd.R_drew)); exact HO_3.out) hb); have n1_ := Aside0.mk (Kd.R_lower ho0 (below_size (by repeat (first | (with_reducible first | exact HB.out | apply below_alloc | apply pw_below_drewN | apply below_drew1) | exact HB.out)))); have n2_ := Aside0.mk (below_step (by repeat (first | (with_reducible first | exact HB.out | apply below_alloc | apply pw_below_drewN | apply below_drew1) | exact HB.out)) hb); clear HO_3; clear HB; have HO_3 := n0_; have HO418 := n1_; have HB := n2_; clear n0_ n1_ n2_; (try clear hb); (try clear hb2); (try clear hk); (try clear hi); (try clear ho0)))
                (try simp only [Act.put, List.setIfInBounds_toArray, List.set_cons_zero, List.set_cons_succ])
                go_cut [67] (fun v67 wc => ∃ (kq : Nat) (x67_28 : Bool), v67 = .bool x67_28 ∧ Aside0 (replevinlaw16_InstrLists.j2 kq l0 t414 x67_28 = some r) ∧ Aside0 (kq ≤ kj12) ∧ Aside0 (Kd.R k26 26 wc w.heap.size (fun _ => True) v417 t414) ∧ Aside0 (Below w.heap.size w wc))
                case first =>
                  have H := HC29.out
                  clear HC29
                  by_cases c32 : (t414.length : Int) = (l0.length : Int)
                  · rw [if_pos c32] at H
                    have c32b0 : ((t414.length : Int) == (l0.length : Int)) = true := beq_iff_eq.mpr c32
                    have c32b1 : ((t414.length : Int) != (l0.length : Int)) = false := bne_eq_false_iff_eq.mpr c32
                    have c32b2 : (t414.length == l0.length) = true := by first | simpa using c32 | (simp at c32 ⊢; omega)
                    clear c32
                    (first | rw [c32b0] | (simp only [i64_w, i32_w]; rw [c32b0]) | skip)
                    by_cases c33 : t415 = 0
                    · rw [if_pos c33] at H
                      have c33b0 : (t415 == 0) = true := beq_iff_eq.mpr c33
                      have c33b1 : (t415 != 0) = false := bne_eq_false_iff_eq.mpr c33
                      clear c33
                      have H' := Aside0.mk H
                      clear H
                      obtain ⟨Ao34, co34, eo34⟩ := Kd.R_slice HO418.out
                      subst eo34
                      go_wp2
                      go_meet
                      case rel => exact ⟨_, ((t416 != 0)), (by first | rfl | (simp; done) | (simp [*]; done)), H', ⟨by have := HJ1.out; have := HJ12.out; first | omega | exact Nat.le_refl _⟩, ⟨by (with_reducible repeat (first | apply Kd.R_alloc | apply Kd.R_drewN | apply Kd.R_drew)); exact HO418.out⟩, ⟨by repeat (first | (with_reducible first | exact HB.out | apply below_alloc | apply pw_below_drewN | apply below_drew1) | exact HB.out)⟩⟩
                    · rw [if_neg c33] at H
                      have c33b0 : (t415 == 0) = false := beq_eq_false_iff_ne.mpr c33
                      have c33b1 : (t415 != 0) = true := bne_iff_ne.mpr c33
                      have H' := Aside0.mk H
                      clear H
                      obtain ⟨Ao35, co35, eo35⟩ := Kd.R_slice HO418.out
                      subst eo35
                      go_wp2
                      go_meet
                      case rel => exact ⟨_, (true), (by first | rfl | (simp; done) | (simp [*]; done)), H', ⟨by have := HJ1.out; have := HJ12.out; first | omega | exact Nat.le_refl _⟩, ⟨by (with_reducible repeat (first | apply Kd.R_alloc | apply Kd.R_drewN | apply Kd.R_drew)); exact HO418.out⟩, ⟨by repeat (first | (with_reducible first | exact HB.out | apply below_alloc | apply pw_below_drewN | apply below_drew1) | exact HB.out)⟩⟩
                  · rw [if_neg c32] at H
                    have c32b0 : ((t414.length : Int) == (l0.length : Int)) = false := beq_eq_false_iff_ne.mpr c32
                    have c32b1 : ((t414.length : Int) != (l0.length : Int)) = true := bne_iff_ne.mpr c32
                    have c32b2 : (t414.length == l0.length) = false := by first | simpa using c32 | (simp at c32 ⊢; omega)
                    (first | rw [c32b0] | (simp only [i64_w, i32_w]; rw [c32b0]) | skip)
                    have H' := Aside0.mk H
                    clear H
                    obtain ⟨Ao36, co36, eo36⟩ := Kd.R_slice HO418.out
                    subst eo36
                    go_wp2
                    go_meet
                    case rel => exact ⟨_, (true), (by first | rfl | (simp; done) | (simp [*]; done)), H', ⟨by have := HJ1.out; have := HJ12.out; first | omega | exact Nat.le_refl _⟩, ⟨by (with_reducible repeat (first | apply Kd.R_alloc | apply Kd.R_drewN | apply Kd.R_drew)); exact HO418.out⟩, ⟨by repeat (first | (with_reducible first | exact HB.out | apply below_alloc | apply pw_below_drewN | apply below_drew1) | exact HB.out)⟩⟩
                case rest =>
                  clear HC29
                  try clear c1
                  try clear c2
                  try clear p2
                  try clear hcv2
                  try clear c3
                  try clear c4
                  try clear c7
                  try clear c11
                  try clear c13
                  try clear c18
                  try clear c18b0
                  try clear c18b1
                  try clear c19
                  try clear c19b0
                  try clear c19b1
                  try clear hcv20
                  try clear hcv21
                  try clear hcv22
                  try clear hcv23
                  try clear hcv24
                  try clear hcv25
                  try clear c26
                  try clear c27
                  try clear c27b0
                  try clear c27b1
                  try clear c28
                  try clear c32
                  try clear c32b0
                  try clear c32b1
                  try clear c32b2
                  try clear c33
                  try clear c33b0
                  try clear c33b1
                  try clear p2
                  obtain ⟨kq, x67_28, rfl, HA, HJ28, HO_9, HB⟩ := hcut
                  cases kq with
                  | zero => exact absurd HA.out (by simp [replevinlaw16_InstrLists.j2])
                  | succ kj28 =>
                    have H := HA.out
                    clear HA
                    simp only [replevinlaw16_InstrLists.j2] at H
                    by_cases c37 : x67_28 = true
                    · subst c37
                      have H1 : (some false) = some r := by rw [if_pos rfl] at H; exact H
                      clear H
                      have H := H1
                      clear H1
                      obtain rfl := Option.some.inj H
                      go_wp2
                      go_ret
                      exact ⟨by first | rfl | (simp [errW_none, errW_some] <;> rfl) | (simp [*, errW_none, errW_some] <;> rfl), by repeat (first | (with_reducible first | exact HB.out | apply below_alloc | apply pw_below_drewN | apply below_drew1) | exact HB.out)⟩
                    · replace c37 := Bool.eq_false_iff.mpr c37
                      subst c37
                      have H1 : (replevinlaw16_InstrLists.l0 kj28 l0 t414 0) = some r := by rw [if_neg (show ¬ (false = true) by decide)] at H; exact H
                      clear H
                      have H := H1
                      clear H1
                      have H' := Aside0.mk H
                      clear H
                      go_wp2
                      go_loopg [10] kj28 (fun kq v10 w' => ∃ (x10_4 : Int), v10 = .int .i64 x10_4 ∧ Aside0 (replevinlaw16_InstrLists.l0 kq l0 t414 x10_4 = some r) ∧ Aside0 (kq ≤ kj28) ∧ Aside0 (Kd.R k26 26 w' w.heap.size (fun _ => True) v417 t414) ∧ Aside0 (Below w.heap.size w w'))
                      case atStart => exact ⟨(0), (by first | rfl | (simp; done) | (simp [*]; done)), H', ⟨Nat.le_refl _⟩, ⟨by (with_reducible repeat (first | apply Kd.R_alloc | apply Kd.R_drewN | apply Kd.R_drew)); exact HO_9.out⟩, ⟨by repeat (first | (with_reducible first | exact HB.out | apply below_alloc | apply pw_below_drewN | apply below_drew1) | exact HB.out)⟩⟩
                      case round =>
                        clear H'
                        try clear c1
                        try clear c2
                        try clear p2
                        try clear hcv2
                        try clear c3
                        try clear c4
                        try clear c7
                        try clear c11
                        try clear c13
                        try clear c18
                        try clear c18b0
                        try clear c18b1
                        try clear c19
                        try clear c19b0
                        try clear c19b1
                        try clear hcv20
                        try clear hcv21
                        try clear hcv22
                        try clear hcv23
                        try clear hcv24
                        try clear hcv25
                        try clear c26
                        try clear c27
                        try clear c27b0
                        try clear c27b1
                        try clear c28
                        try clear c32
                        try clear c32b0
                        try clear c32b1
                        try clear c32b2
                        try clear c33
                        try clear c33b0
                        try clear c33b1
                        try clear c37
                        try clear p2
                        obtain ⟨x10_4, rfl, HA, HK4, HO_9, HB⟩ := hrel
                        cases gk with
                        | zero => exact absurd HA.out (by simp [replevinlaw16_InstrLists.l0])
                        | succ k4 =>
                          have H := HA.out
                          clear HA
                          simp only [replevinlaw16_InstrLists.l0] at H
                          by_cases c38 : x10_4 < (t414.length : Int)
                          · rw [if_pos c38] at H
                            have c38b0 : decide (x10_4 < (t414.length : Int)) = true := decide_eq_true c38
                            clear c38
                            by_cases c39 : 0 ≤ x10_4
                            · rw [if_pos c39] at H
                              have c39b0 : decide (0 ≤ x10_4) = true := decide_eq_true c39
                              clear c39
                              replace H := Option.bind_eq_some_iff.mp H
                              obtain ⟨⟨t420, t421, t422, t423⟩, A400, H⟩ := H
                              replace H : (if x10_4 < (l0.length : Int) then (if (!(t420 == ((rd_T23 l0 x10_4).f0)) || (!(t421 == ((rd_T23 l0 x10_4).f1)) || (!(t422 == ((rd_T23 l0 x10_4).f2)) || (!(t423 == ((rd_T23 l0 x10_4).f3)))))) = true then (some false) else (replevinlaw16_InstrLists.l0 k4 l0 t414 (wrap64 (x10_4 + 1)))) else (none)) = some r := H
                              have A40 := Aside0.mk A400
                              clear A400
                              by_cases c41 : x10_4 < (l0.length : Int)
                              · rw [if_pos c41] at H
                                have c41b0 : decide (x10_4 < (l0.length : Int)) = true := decide_eq_true c41
                                clear c41
                                by_cases c42 : (!(t420 == ((rd_T23 l0 x10_4).f0)) || (!(t421 == ((rd_T23 l0 x10_4).f1)) || (!(t422 == ((rd_T23 l0 x10_4).f2)) || (!(t423 == ((rd_T23 l0 x10_4).f3)))))) = true
                                · rw [if_pos c42] at H
                                  have c42b0 : (!(t420 == ((rd_T23 l0 x10_4).f0)) || (!(t421 == ((rd_T23 l0 x10_4).f1)) || (!(t422 == ((rd_T23 l0 x10_4).f2)) || (!(t423 == ((rd_T23 l0 x10_4).f3)))))) = true := c42
                                  clear c42
                                  obtain rfl := Option.some.inj H
                                  obtain ⟨Ao43, co43, eo43⟩ := Kd.R_slice HO_9.out
                                  subst eo43
                                  try go_wp2
                                  have n0_ := Aside0.mk (Kd.R_drew HO_9.out)
                                  have n1_ := Aside0.mk (below_drew1 HB.out)
                                  clear HO_9
                                  clear HB
                                  have HO_9 := n0_
                                  have HB := n1_
                                  clear n0_ n1_
                                  have p419 : 0 ≤ (x10_4 : Int) := of_decide_eq_true (by first | (with_reducible assumption) | assumption)
                                  have q419 : x10_4 < (t414.length : Int) := of_decide_eq_true (by first | (with_reducible assumption) | assumption)
                                  obtain ⟨ad419, e419, hx419_0, hx419_1, hx419_2, hx419_3⟩ := at_T26 (Kd.R_reads' HO_9.out).2.2 x10_4 p419 q419
                                  cases e419
                                  replace p419 := eq_true p419
                                  replace q419 := eq_true q419
                                  have p424 : 0 ≤ (x10_4 : Int) := of_decide_eq_true (by first | (with_reducible assumption) | assumption)
                                  have q424 : x10_4 < (l0.length : Int) := of_decide_eq_true (by first | (with_reducible assumption) | assumption)
                                  obtain ⟨ad424, e424, hx424_0, hx424_1, hx424_2, hx424_3⟩ := at_T23 HR0.out x10_4 p424 q424
                                  have hw424_3 := hx424_3
                                  have hw424_2 := hx424_2
                                  have hw424_1 := hx424_1
                                  have hw424_0 := hx424_0
                                  cases e424
                                  replace hx424_0 := (HB.out.cell (World.block_lt_of_cell? w _ hx424_0)).trans hx424_0
                                  replace hx424_1 := (HB.out.cell (World.block_lt_of_cell? w _ hx424_1)).trans hx424_1
                                  replace hx424_2 := (HB.out.cell (World.block_lt_of_cell? w _ hx424_2)).trans hx424_2
                                  replace hx424_3 := (HB.out.cell (World.block_lt_of_cell? w _ hx424_3)).trans hx424_3
                                  replace p424 := eq_true p424
                                  replace q424 := eq_true q424
                                  refine start_ (n := 10) (S := fun w' => w'.cell? (ad419.add ((x10_4).toNat * 4)) = some (.int .i64 ((rd_T26 t414 x10_4).f0)) ∧ w'.cell? ⟨(ad419.add ((x10_4).toNat * 4)).block, (ad419.add ((x10_4).toNat * 4)).off + 1, none⟩ = some (.int .i64 ((rd_T26 t414 x10_4).f1)) ∧ w'.cell? ⟨(ad419.add ((x10_4).toNat * 4)).block, (ad419.add ((x10_4).toNat * 4)).off + 2, none⟩ = some (.int .i64 ((rd_T26 t414 x10_4).f2)) ∧ w'.cell? ⟨(ad419.add ((x10_4).toNat * 4)).block, (ad419.add ((x10_4).toNat * 4)).off + 3, none⟩ = some (.int .i64 ((rd_T26 t414 x10_4).f3)) ∧ w'.cell? (ad424.add ((x10_4).toNat * 4)) = some (.int .i64 ((rd_T23 l0 x10_4).f0)) ∧ w'.cell? ⟨(ad424.add ((x10_4).toNat * 4)).block, (ad424.add ((x10_4).toNat * 4)).off + 1, none⟩ = some (.int .i64 ((rd_T23 l0 x10_4).f1)) ∧ w'.cell? ⟨(ad424.add ((x10_4).toNat * 4)).block, (ad424.add ((x10_4).toNat * 4)).off + 2, none⟩ = some (.int .i64 ((rd_T23 l0 x10_4).f2)) ∧ w'.cell? ⟨(ad424.add ((x10_4).toNat * 4)).block, (ad424.add ((x10_4).toNat * 4)).off + 3, none⟩ = some (.int .i64 ((rd_T23 l0 x10_4).f3))) (ds := []) #[false, false, false, false, false, false, false, false, false, false] (by kernel_rfl) rfl rfl ⟨hx419_0, hx419_1, hx419_2, hx419_3, ((HB.out.cell (World.block_lt_of_cell? w _ hw424_0)).trans hw424_0), ((HB.out.cell (World.block_lt_of_cell? w _ hw424_1)).trans hw424_1), ((HB.out.cell (World.block_lt_of_cell? w _ hw424_2)).trans hw424_2), ((HB.out.cell (World.block_lt_of_cell? w _ hw424_3)).trans hw424_3)⟩ (fun hHeld => ?_); refine with_tabW replevinlaw16_InstrLists.tab15 replevinlaw16_InstrLists.bits15 (fun HT_ HW_ => ?_)
                                  generalize wr.drew = w44 at HO_9 HB hx419_0 hx419_1 hx419_2 hx419_3 hx424_0 hx424_1 hx424_2 hx424_3 hHeld ⊢
                                  refine pure_ (i := 0) (N := some 74) (v := ?_) (a' := ?_) #[true, false, false, false, false, false, false, false, false, false] rfl rfl (any_of HT_.out (by kernel_rfl)) (fun _ _ _ h => h) (Or.inl ⟨by rfl, ?_⟩) ?_ ?_
                                  rotate_left
                                  · intro w'
                                    go_simp
                                    with_reducible rfl
                                  rotate_left
                                  · simp only [Act.put, List.setIfInBounds_toArray, List.set_cons_zero, List.set_cons_succ, i64_w, i32_w]
                                    rfl
                                  refine pure_ (i := 1) (N := some 75) (v := ?_) (a' := ?_) #[true, true, false, false, false, false, false, false, false, false] rfl rfl (any_of HT_.out (by kernel_rfl)) (fun _ _ _ h => h) (Or.inl ⟨by rfl, ?_⟩) ?_ ?_
                                  rotate_left
                                  · intro w'
                                    go_simp
                                    with_reducible rfl
                                  rotate_left
                                  · simp only [Act.put, List.setIfInBounds_toArray, List.set_cons_zero, List.set_cons_succ, i64_w, i32_w]
                                    rfl
                                  refine pure_ (i := 2) (N := some 76) (v := ?_) (a' := ?_) #[true, true, true, false, false, false, false, false, false, false] rfl rfl (any_of HT_.out (by kernel_rfl)) (fun _ _ _ h => h) (Or.inl ⟨by rfl, ?_⟩) ?_ ?_
                                  rotate_left
                                  · intro w'
                                    go_simp
                                    with_reducible rfl
                                  rotate_left
                                  · simp only [Act.put, List.setIfInBounds_toArray, List.set_cons_zero, List.set_cons_succ, i64_w, i32_w]
                                    rfl
                                  refine pure_ (i := 5) (N := some 79) (v := ?_) (a' := ?_) #[true, true, true, false, false, true, false, false, false, false] rfl rfl (any_of HT_.out (by kernel_rfl)) (fun _ _ _ h => h) (Or.inl ⟨by rfl, ?_⟩) ?_ ?_
                                  rotate_left
                                  · intro w'
                                    go_simp
                                    with_reducible rfl
                                  rotate_left
                                  · simp only [Act.put, List.setIfInBounds_toArray, List.set_cons_zero, List.set_cons_succ, i64_w, i32_w]
                                    rfl
                                  refine pure_ (i := 6) (N := some 80) (v := ?_) (a' := ?_) #[true, true, true, false, false, true, true, false, false, false] rfl rfl (any_of HT_.out (by kernel_rfl)) (fun _ _ _ h => h) (Or.inl ⟨by rfl, ?_⟩) ?_ ?_
                                  rotate_left
                                  · intro w'
                                    go_simp
                                    with_reducible rfl
                                  rotate_left
                                  · simp only [Act.put, List.setIfInBounds_toArray, List.set_cons_zero, List.set_cons_succ, i64_w, i32_w]
                                    rfl
                                  refine pure_ (i := 7) (N := some 81) (v := ?_) (a' := ?_) #[true, true, true, false, false, true, true, true, false, false] rfl rfl (any_of HT_.out (by kernel_rfl)) (fun _ _ _ h => h) (Or.inl ⟨by rfl, ?_⟩) ?_ ?_
                                  rotate_left
                                  · intro w'
                                    go_simp
                                    with_reducible rfl
                                  rotate_left
                                  · simp only [Act.put, List.setIfInBounds_toArray, List.set_cons_zero, List.set_cons_succ, i64_w, i32_w]
                                    rfl
                                  refine take_ (i := 3) (N := some 77) (v := ?_) (a' := ?_) #[true, true, true, true, false, true, true, true, false, false] rfl rfl (take_ofW HT_.out HW_.out (by kernel_rfl)) (fun _ _ _ h => h) (Or.inl ⟨by rfl, ?_⟩) hHeld ?_ ?_
                                  rotate_left
                                  · rintro w' ⟨s0, s1, s2, s3, s4, s5, s6, s7⟩
                                    go_simp
                                    with_reducible rfl
                                  rotate_left
                                  · simp only [Act.put, List.setIfInBounds_toArray, List.set_cons_zero, List.set_cons_succ, i64_w, i32_w]
                                    rfl
                                  refine take_ (i := 8) (N := some 82) (v := ?_) (a' := ?_) #[true, true, true, true, false, true, true, true, true, false] rfl rfl (take_ofW HT_.out HW_.out (by kernel_rfl)) (fun _ _ _ h => h) (Or.inl ⟨by rfl, ?_⟩) hHeld ?_ ?_
                                  rotate_left
                                  · rintro w' ⟨s0, s1, s2, s3, s4, s5, s6, s7⟩
                                    go_simp
                                    with_reducible rfl
                                  rotate_left
                                  · simp only [Act.put, List.setIfInBounds_toArray, List.set_cons_zero, List.set_cons_succ, i64_w, i32_w]
                                    rfl
                                  refine one_ (i := 4) (N := some 78) #[true, true, true, true, true, true, true, true, true, false] rfl rfl (one_of HT_.out (by kernel_rfl)) (by decide) (fun K hK => ?_)
                                  refine goes_ Try.func26 (by kernel_rfl) rfl #[.agg #[.int .i64 ((rd_T26 t414 x10_4).f0), .int .i64 ((rd_T26 t414 x10_4).f1), .int .i64 ((rd_T26 t414 x10_4).f2), .int .i64 ((rd_T26 t414 x10_4).f3)]] (by rfl) rfl rfl (by (try simp only [List.map_toArray, List.map_cons, List.map_nil]); first | done | rfl | (simp only [List.length_drop, List.length_take]; rfl)) ?_
                                  with_reducible refine (replevinlaw16_Of.calls ((rd_T26 t414 x10_4).f0) ((rd_T26 t414 x10_4).f1) ((rd_T26 t414 x10_4).f2) ((rd_T26 t414 x10_4).f3) t420 t421 t422 t423 _ A40.out).mono ?_
                                  rintro e w45 ⟨rfl, hb⟩
                                  have HS0_ := (hb.cell (World.block_lt_of_cell? _ _ (hHeld.1))).trans (hHeld.1)
                                  have HS1_ := (hb.cell (World.block_lt_of_cell? _ _ (hHeld.2.1))).trans (hHeld.2.1)
                                  have HS2_ := (hb.cell (World.block_lt_of_cell? _ _ (hHeld.2.2.1))).trans (hHeld.2.2.1)
                                  have HS3_ := (hb.cell (World.block_lt_of_cell? _ _ (hHeld.2.2.2.1))).trans (hHeld.2.2.2.1)
                                  refine ⟨_, rfl, ?_⟩
                                  have n0_ := Aside0.mk (Kd.R_below (by (with_reducible repeat (first | apply Kd.R_alloc | apply Kd.R_drewN | apply Kd.R_drew)); exact HO_9.out) hb)
                                  have n1_ := Aside0.mk (below_step (by repeat (first | (with_reducible first | exact HB.out | apply below_alloc | apply pw_below_drewN | apply below_drew1) | exact HB.out)) hb)
                                  clear HO_9
                                  clear HB
                                  have HO_9 := n0_
                                  have HB := n1_
                                  clear n0_ n1_
                                  (try clear hb)
                                  (try clear hb2)
                                  (try clear hk)
                                  (try clear hi)
                                  refine hK.out _ _ ⟨HS0_, HS1_, HS2_, HS3_, ((HB.out.cell (World.block_lt_of_cell? w _ hw424_0)).trans hw424_0), ((HB.out.cell (World.block_lt_of_cell? w _ hw424_1)).trans hw424_1), ((HB.out.cell (World.block_lt_of_cell? w _ hw424_2)).trans hw424_2), ((HB.out.cell (World.block_lt_of_cell? w _ hw424_3)).trans hw424_3)⟩ (fun hHeld => ?_)
                                  clear hK K
                                  refine norm_ (a' := ?_) ?_ ?_
                                  rotate_left
                                  · show Act.put _ (some 78) _ = _
                                    simp only [Act.put, List.setIfInBounds_toArray, List.set_cons_zero, List.set_cons_succ, i64_w, i32_w]
                                    rfl
                                  refine pure_ (i := 9) (N := some 83) (v := ?_) (a' := ?_) #[true, true, true, true, true, true, true, true, true, true] rfl rfl (any_of HT_.out (by kernel_rfl)) (fun _ _ _ h => h) (Or.inl ⟨by rfl, ?_⟩) ?_ ?_
                                  rotate_left
                                  · intro w'
                                    go_simp
                                    with_reducible rfl
                                  rotate_left
                                  · simp only [Act.put, List.setIfInBounds_toArray, List.set_cons_zero, List.set_cons_succ, i64_w, i32_w]
                                    rfl
                                  refine done_ (done_of HT_.out (by kernel_rfl)) ?_
                                  try go_wp2
                                  go_ret
                                  exact ⟨by first | rfl | (simp [errW_none, errW_some] <;> rfl) | (simp [*, errW_none, errW_some] <;> rfl), by repeat (first | (with_reducible first | exact HB.out | apply below_alloc | apply pw_below_drewN | apply below_drew1) | exact HB.out)⟩
                                · rw [if_neg c42] at H
                                  have c42b0 : (!(t420 == ((rd_T23 l0 x10_4).f0)) || (!(t421 == ((rd_T23 l0 x10_4).f1)) || (!(t422 == ((rd_T23 l0 x10_4).f2)) || (!(t423 == ((rd_T23 l0 x10_4).f3)))))) = false := by simpa using c42
                                  clear c42
                                  have H' := Aside0.mk H
                                  clear H
                                  obtain ⟨Ao46, co46, eo46⟩ := Kd.R_slice HO_9.out
                                  subst eo46
                                  try go_wp2
                                  have n0_ := Aside0.mk (Kd.R_drew HO_9.out)
                                  have n1_ := Aside0.mk (below_drew1 HB.out)
                                  clear HO_9
                                  clear HB
                                  have HO_9 := n0_
                                  have HB := n1_
                                  clear n0_ n1_
                                  have p419 : 0 ≤ (x10_4 : Int) := of_decide_eq_true (by first | (with_reducible assumption) | assumption)
                                  have q419 : x10_4 < (t414.length : Int) := of_decide_eq_true (by first | (with_reducible assumption) | assumption)
                                  obtain ⟨ad419, e419, hx419_0, hx419_1, hx419_2, hx419_3⟩ := at_T26 (Kd.R_reads' HO_9.out).2.2 x10_4 p419 q419
                                  cases e419
                                  replace p419 := eq_true p419
                                  replace q419 := eq_true q419
                                  have p424 : 0 ≤ (x10_4 : Int) := of_decide_eq_true (by first | (with_reducible assumption) | assumption)
                                  have q424 : x10_4 < (l0.length : Int) := of_decide_eq_true (by first | (with_reducible assumption) | assumption)
                                  obtain ⟨ad424, e424, hx424_0, hx424_1, hx424_2, hx424_3⟩ := at_T23 HR0.out x10_4 p424 q424
                                  have hw424_3 := hx424_3
                                  have hw424_2 := hx424_2
                                  have hw424_1 := hx424_1
                                  have hw424_0 := hx424_0
                                  cases e424
                                  replace hx424_0 := (HB.out.cell (World.block_lt_of_cell? w _ hx424_0)).trans hx424_0
                                  replace hx424_1 := (HB.out.cell (World.block_lt_of_cell? w _ hx424_1)).trans hx424_1
                                  replace hx424_2 := (HB.out.cell (World.block_lt_of_cell? w _ hx424_2)).trans hx424_2
                                  replace hx424_3 := (HB.out.cell (World.block_lt_of_cell? w _ hx424_3)).trans hx424_3
                                  replace p424 := eq_true p424
                                  replace q424 := eq_true q424
                                  refine start_ (n := 10) (S := fun w' => w'.cell? (ad419.add ((x10_4).toNat * 4)) = some (.int .i64 ((rd_T26 t414 x10_4).f0)) ∧ w'.cell? ⟨(ad419.add ((x10_4).toNat * 4)).block, (ad419.add ((x10_4).toNat * 4)).off + 1, none⟩ = some (.int .i64 ((rd_T26 t414 x10_4).f1)) ∧ w'.cell? ⟨(ad419.add ((x10_4).toNat * 4)).block, (ad419.add ((x10_4).toNat * 4)).off + 2, none⟩ = some (.int .i64 ((rd_T26 t414 x10_4).f2)) ∧ w'.cell? ⟨(ad419.add ((x10_4).toNat * 4)).block, (ad419.add ((x10_4).toNat * 4)).off + 3, none⟩ = some (.int .i64 ((rd_T26 t414 x10_4).f3)) ∧ w'.cell? (ad424.add ((x10_4).toNat * 4)) = some (.int .i64 ((rd_T23 l0 x10_4).f0)) ∧ w'.cell? ⟨(ad424.add ((x10_4).toNat * 4)).block, (ad424.add ((x10_4).toNat * 4)).off + 1, none⟩ = some (.int .i64 ((rd_T23 l0 x10_4).f1)) ∧ w'.cell? ⟨(ad424.add ((x10_4).toNat * 4)).block, (ad424.add ((x10_4).toNat * 4)).off + 2, none⟩ = some (.int .i64 ((rd_T23 l0 x10_4).f2)) ∧ w'.cell? ⟨(ad424.add ((x10_4).toNat * 4)).block, (ad424.add ((x10_4).toNat * 4)).off + 3, none⟩ = some (.int .i64 ((rd_T23 l0 x10_4).f3))) (ds := []) #[false, false, false, false, false, false, false, false, false, false] (by kernel_rfl) rfl rfl ⟨hx419_0, hx419_1, hx419_2, hx419_3, ((HB.out.cell (World.block_lt_of_cell? w _ hw424_0)).trans hw424_0), ((HB.out.cell (World.block_lt_of_cell? w _ hw424_1)).trans hw424_1), ((HB.out.cell (World.block_lt_of_cell? w _ hw424_2)).trans hw424_2), ((HB.out.cell (World.block_lt_of_cell? w _ hw424_3)).trans hw424_3)⟩ (fun hHeld => ?_); refine with_tabW replevinlaw16_InstrLists.tab15 replevinlaw16_InstrLists.bits15 (fun HT_ HW_ => ?_)
                                  generalize wr.drew = w47 at HO_9 HB hx419_0 hx419_1 hx419_2 hx419_3 hx424_0 hx424_1 hx424_2 hx424_3 hHeld ⊢
                                  refine pure_ (i := 0) (N := some 74) (v := ?_) (a' := ?_) #[true, false, false, false, false, false, false, false, false, false] rfl rfl (any_of HT_.out (by kernel_rfl)) (fun _ _ _ h => h) (Or.inl ⟨by rfl, ?_⟩) ?_ ?_
                                  rotate_left
                                  · intro w'
                                    go_simp
                                    with_reducible rfl
                                  rotate_left
                                  · simp only [Act.put, List.setIfInBounds_toArray, List.set_cons_zero, List.set_cons_succ, i64_w, i32_w]
                                    rfl
                                  refine pure_ (i := 1) (N := some 75) (v := ?_) (a' := ?_) #[true, true, false, false, false, false, false, false, false, false] rfl rfl (any_of HT_.out (by kernel_rfl)) (fun _ _ _ h => h) (Or.inl ⟨by rfl, ?_⟩) ?_ ?_
                                  rotate_left
                                  · intro w'
                                    go_simp
                                    with_reducible rfl
                                  rotate_left
                                  · simp only [Act.put, List.setIfInBounds_toArray, List.set_cons_zero, List.set_cons_succ, i64_w, i32_w]
                                    rfl
                                  refine pure_ (i := 2) (N := some 76) (v := ?_) (a' := ?_) #[true, true, true, false, false, false, false, false, false, false] rfl rfl (any_of HT_.out (by kernel_rfl)) (fun _ _ _ h => h) (Or.inl ⟨by rfl, ?_⟩) ?_ ?_
                                  rotate_left
                                  · intro w'
                                    go_simp
                                    with_reducible rfl
                                  rotate_left
                                  · simp only [Act.put, List.setIfInBounds_toArray, List.set_cons_zero, List.set_cons_succ, i64_w, i32_w]
                                    rfl
                                  refine pure_ (i := 5) (N := some 79) (v := ?_) (a' := ?_) #[true, true, true, false, false, true, false, false, false, false] rfl rfl (any_of HT_.out (by kernel_rfl)) (fun _ _ _ h => h) (Or.inl ⟨by rfl, ?_⟩) ?_ ?_
                                  rotate_left
                                  · intro w'
                                    go_simp
                                    with_reducible rfl
                                  rotate_left
                                  · simp only [Act.put, List.setIfInBounds_toArray, List.set_cons_zero, List.set_cons_succ, i64_w, i32_w]
                                    rfl
                                  refine pure_ (i := 6) (N := some 80) (v := ?_) (a' := ?_) #[true, true, true, false, false, true, true, false, false, false] rfl rfl (any_of HT_.out (by kernel_rfl)) (fun _ _ _ h => h) (Or.inl ⟨by rfl, ?_⟩) ?_ ?_
                                  rotate_left
                                  · intro w'
                                    go_simp
                                    with_reducible rfl
                                  rotate_left
                                  · simp only [Act.put, List.setIfInBounds_toArray, List.set_cons_zero, List.set_cons_succ, i64_w, i32_w]
                                    rfl
                                  refine pure_ (i := 7) (N := some 81) (v := ?_) (a' := ?_) #[true, true, true, false, false, true, true, true, false, false] rfl rfl (any_of HT_.out (by kernel_rfl)) (fun _ _ _ h => h) (Or.inl ⟨by rfl, ?_⟩) ?_ ?_
                                  rotate_left
                                  · intro w'
                                    go_simp
                                    with_reducible rfl
                                  rotate_left
                                  · simp only [Act.put, List.setIfInBounds_toArray, List.set_cons_zero, List.set_cons_succ, i64_w, i32_w]
                                    rfl
                                  refine take_ (i := 3) (N := some 77) (v := ?_) (a' := ?_) #[true, true, true, true, false, true, true, true, false, false] rfl rfl (take_ofW HT_.out HW_.out (by kernel_rfl)) (fun _ _ _ h => h) (Or.inl ⟨by rfl, ?_⟩) hHeld ?_ ?_
                                  rotate_left
                                  · rintro w' ⟨s0, s1, s2, s3, s4, s5, s6, s7⟩
                                    go_simp
                                    with_reducible rfl
                                  rotate_left
                                  · simp only [Act.put, List.setIfInBounds_toArray, List.set_cons_zero, List.set_cons_succ, i64_w, i32_w]
                                    rfl
                                  refine take_ (i := 8) (N := some 82) (v := ?_) (a' := ?_) #[true, true, true, true, false, true, true, true, true, false] rfl rfl (take_ofW HT_.out HW_.out (by kernel_rfl)) (fun _ _ _ h => h) (Or.inl ⟨by rfl, ?_⟩) hHeld ?_ ?_
                                  rotate_left
                                  · rintro w' ⟨s0, s1, s2, s3, s4, s5, s6, s7⟩
                                    go_simp
                                    with_reducible rfl
                                  rotate_left
                                  · simp only [Act.put, List.setIfInBounds_toArray, List.set_cons_zero, List.set_cons_succ, i64_w, i32_w]
                                    rfl
                                  refine one_ (i := 4) (N := some 78) #[true, true, true, true, true, true, true, true, true, false] rfl rfl (one_of HT_.out (by kernel_rfl)) (by decide) (fun K hK => ?_)
                                  refine goes_ Try.func26 (by kernel_rfl) rfl #[.agg #[.int .i64 ((rd_T26 t414 x10_4).f0), .int .i64 ((rd_T26 t414 x10_4).f1), .int .i64 ((rd_T26 t414 x10_4).f2), .int .i64 ((rd_T26 t414 x10_4).f3)]] (by rfl) rfl rfl (by (try simp only [List.map_toArray, List.map_cons, List.map_nil]); first | done | rfl | (simp only [List.length_drop, List.length_take]; rfl)) ?_
                                  with_reducible refine (replevinlaw16_Of.calls ((rd_T26 t414 x10_4).f0) ((rd_T26 t414 x10_4).f1) ((rd_T26 t414 x10_4).f2) ((rd_T26 t414 x10_4).f3) t420 t421 t422 t423 _ A40.out).mono ?_
                                  rintro e w48 ⟨rfl, hb⟩
                                  have HS0_ := (hb.cell (World.block_lt_of_cell? _ _ (hHeld.1))).trans (hHeld.1)
                                  have HS1_ := (hb.cell (World.block_lt_of_cell? _ _ (hHeld.2.1))).trans (hHeld.2.1)
                                  have HS2_ := (hb.cell (World.block_lt_of_cell? _ _ (hHeld.2.2.1))).trans (hHeld.2.2.1)
                                  have HS3_ := (hb.cell (World.block_lt_of_cell? _ _ (hHeld.2.2.2.1))).trans (hHeld.2.2.2.1)
                                  refine ⟨_, rfl, ?_⟩
                                  have n0_ := Aside0.mk (Kd.R_below (by (with_reducible repeat (first | apply Kd.R_alloc | apply Kd.R_drewN | apply Kd.R_drew)); exact HO_9.out) hb)
                                  have n1_ := Aside0.mk (below_step (by repeat (first | (with_reducible first | exact HB.out | apply below_alloc | apply pw_below_drewN | apply below_drew1) | exact HB.out)) hb)
                                  clear HO_9
                                  clear HB
                                  have HO_9 := n0_
                                  have HB := n1_
                                  clear n0_ n1_
                                  (try clear hb)
                                  (try clear hb2)
                                  (try clear hk)
                                  (try clear hi)
                                  refine hK.out _ _ ⟨HS0_, HS1_, HS2_, HS3_, ((HB.out.cell (World.block_lt_of_cell? w _ hw424_0)).trans hw424_0), ((HB.out.cell (World.block_lt_of_cell? w _ hw424_1)).trans hw424_1), ((HB.out.cell (World.block_lt_of_cell? w _ hw424_2)).trans hw424_2), ((HB.out.cell (World.block_lt_of_cell? w _ hw424_3)).trans hw424_3)⟩ (fun hHeld => ?_)
                                  clear hK K
                                  refine norm_ (a' := ?_) ?_ ?_
                                  rotate_left
                                  · show Act.put _ (some 78) _ = _
                                    simp only [Act.put, List.setIfInBounds_toArray, List.set_cons_zero, List.set_cons_succ, i64_w, i32_w]
                                    rfl
                                  refine pure_ (i := 9) (N := some 83) (v := ?_) (a' := ?_) #[true, true, true, true, true, true, true, true, true, true] rfl rfl (any_of HT_.out (by kernel_rfl)) (fun _ _ _ h => h) (Or.inl ⟨by rfl, ?_⟩) ?_ ?_
                                  rotate_left
                                  · intro w'
                                    go_simp
                                    with_reducible rfl
                                  rotate_left
                                  · simp only [Act.put, List.setIfInBounds_toArray, List.set_cons_zero, List.set_cons_succ, i64_w, i32_w]
                                    rfl
                                  refine done_ (done_of HT_.out (by kernel_rfl)) ?_
                                  try go_wp2
                                  go_roundg k4
                                  case measure => have := HJ1.out; have := HJ12.out; have := HJ28.out; have := HK4.out; omega
                                  case rel => exact ⟨(wrap64 (x10_4 + 1)), (by first | rfl | (simp; done) | (simp [*]; done)), H', ⟨by have := HJ1.out; have := HJ12.out; have := HJ28.out; have := HK4.out; omega⟩, ⟨by (with_reducible repeat (first | apply Kd.R_alloc | apply Kd.R_drewN | apply Kd.R_drew)); exact HO_9.out⟩, ⟨by repeat (first | (with_reducible first | exact HB.out | apply below_alloc | apply pw_below_drewN | apply below_drew1) | exact HB.out)⟩⟩
                              · rw [if_neg c41] at H
                                exact absurd H (by simp)
                            · rw [if_neg c39] at H
                              exact absurd H (by simp)
                          · rw [if_neg c38] at H
                            have c38b0 : decide (x10_4 < (t414.length : Int)) = false := decide_eq_false c38
                            clear c38
                            obtain rfl := Option.some.inj H
                            obtain ⟨Ao49, co49, eo49⟩ := Kd.R_slice HO_9.out
                            subst eo49
                            go_wp2
                            go_ret
                            exact ⟨by first | rfl | (simp [errW_none, errW_some] <;> rfl) | (simp [*, errW_none, errW_some] <;> rfl), by repeat (first | (with_reducible first | exact HB.out | apply below_alloc | apply pw_below_drewN | apply below_drew1) | exact HB.out)⟩
              · rw [if_neg c27] at H
                have c27b0 : (t406 == 0) = false := beq_eq_false_iff_ne.mpr c27
                have c27b1 : (t406 != 0) = true := bne_iff_ne.mpr c27
                obtain rfl := Option.some.inj H
                go_wp2
                go_ret
                exact ⟨by first | rfl | (simp [errW_none, errW_some] <;> rfl) | (simp [*, errW_none, errW_some] <;> rfl), by repeat (first | (with_reducible first | exact HB.out | apply below_alloc | apply pw_below_drewN | apply below_drew1) | exact HB.out)⟩

end Go.Proofs.Ytdnhekgdpolenaa.Q
