/- Functions of the seat and their walks, written by a program of this session. -/
import Derived.Test.YtdnhekgdpolenaaQx0
import Derived.Test.YtdnhekgdpolenaaQx1
import Derived.Test.YtdnhekgdpolenaaQx8
import Derived.Test.YtdnhekgdpolenaaQx22
import Derived.Test.YtdnhekgdpolenaaQx26
import Derived.Test.YtdnhekgdpolenaaHDecAll
namespace Go.Proofs.Ytdnhekgdpolenaa.Q
open Go.RowKit Go.Proofs.YtdnhekgdpolenaaW.PrintWords Go.Proofs.YtdnhekgdpolenaaW.PrintLast Go.Proofs.YtdnhekgdpolenaaW.PrintMore
attribute [local go_sem] max2_int min2_int max_two min_two max_three min_three max_four min_four   -- for this text's walks alone
set_option linter.unusedVariables false
set_option linter.unusedSimpArgs false

attribute [local go_sem high] eqA23
/-! ### replevinlaw16_InstrBytes: function 9 -/
mutual
def replevinlaw16_InstrBytes.j0 : Nat → List Int → Bool → Option (Bool)
  | 0, _, _ => none
  | k + 1, x0, x17 => if x17 = true then ((replevinlaw16_known.f k).bind fun t311 => (some t311)) else ((instr_DecodeAll.f x0).bind fun bt312 => ((replevinref16_DecodeAll.f k x0).bind fun bt317 => (if (bt312.1.length : Int) = (bt317.1.length : Int) then (if bt312.2.1 = bt317.2.1 then (if bt312.2.2 = bt317.2.2 then (replevinlaw16_InstrBytes.j1 k bt312.1 bt317.1 ((strOfNums x0).toList != (strOfNums x0).toList)) else (replevinlaw16_InstrBytes.j1 k bt312.1 bt317.1 true)) else (replevinlaw16_InstrBytes.j1 k bt312.1 bt317.1 true)) else (replevinlaw16_InstrBytes.j1 k bt312.1 bt317.1 true))))
def replevinlaw16_InstrBytes.j1 : Nat → List (S26) → List (S23) → Bool → Option (Bool)
  | 0, _, _, _ => none
  | k + 1, x4, x7, x53 => if x53 = true then (some false) else (replevinlaw16_InstrBytes.l0 k x4 x7 0)
def replevinlaw16_InstrBytes.l0 : Nat → List (S26) → List (S23) → Int → Option (Bool)
  | 0, _, _, _ => none
  | k + 1, x4, x7, x10 => if x10 < (x4.length : Int) then (if 0 ≤ x10 then ((replevinlaw16_Of.f ((rd_T26 x4 x10).f0) ((rd_T26 x4 x10).f1) ((rd_T26 x4 x10).f2) ((rd_T26 x4 x10).f3)).bind fun bt323 => (if x10 < (x7.length : Int) then (if (!(bt323.1 == ((rd_T23 x7 x10).f0)) || (!(bt323.2.1 == ((rd_T23 x7 x10).f1)) || (!(bt323.2.2.1 == ((rd_T23 x7 x10).f2)) || (!(bt323.2.2.2 == ((rd_T23 x7 x10).f3)))))) = true then (some false) else (replevinlaw16_InstrBytes.l0 k x4 x7 (wrap64 (x10 + 1)))) else (none))) else (none)) else (some true)
end
def replevinlaw16_InstrBytes.f (k : Nat) (l0 : List Int) : Option (Bool) := (replevinlaw16_known.f k).bind fun t310 => (if t310 = true then (replevinlaw16_InstrBytes.j0 k l0 (decide ((l0.length : Int) > 200))) else (replevinlaw16_InstrBytes.j0 k l0 true))
theorem replevinlaw16_InstrBytes.mono_l : ∀ k, (∀ y0 y1, LeO (replevinlaw16_InstrBytes.j0 k y0 y1) (replevinlaw16_InstrBytes.j0 (k + 1) y0 y1)) ∧ (∀ y0 y1 y2, LeO (replevinlaw16_InstrBytes.j1 k y0 y1 y2) (replevinlaw16_InstrBytes.j1 (k + 1) y0 y1 y2)) ∧ (∀ y0 y1 y2, LeO (replevinlaw16_InstrBytes.l0 k y0 y1 y2) (replevinlaw16_InstrBytes.l0 (k + 1) y0 y1 y2))
  | 0 => ⟨fun _ _ r h => by simp [replevinlaw16_InstrBytes.j0] at h, fun _ _ _ r h => by simp [replevinlaw16_InstrBytes.j1] at h, fun _ _ _ r h => by simp [replevinlaw16_InstrBytes.l0] at h⟩
  | k + 1 => by
    obtain ⟨ih0, ih1, ih2⟩ := replevinlaw16_InstrBytes.mono_l k
    refine ⟨?_, ?_, ?_⟩
    · intro y0 y1
      unfold replevinlaw16_InstrBytes.j0
      repeat' first
      | (with_reducible exact ih0 _ _)
      | (with_reducible exact ih1 _ _ _)
      | (with_reducible exact ih2 _ _ _)
      | (with_reducible exact replevinlaw16_known.mono _)
      | (with_reducible exact replevinref16_DecodeAll.mono _ _)
      | (with_reducible exact LeO.refl _)
      | (with_reducible exact LeO.none _)
      | (with_reducible refine LeO.ite ?_ ?_)
      | (with_reducible refine LeO.bind ?_ (fun _ => ?_))
      | exact ih0 _ _
      | exact ih1 _ _ _
      | exact ih2 _ _ _
      | exact replevinlaw16_known.mono _
      | exact replevinref16_DecodeAll.mono _ _
      | exact LeO.none _
      | refine LeO.ite ?_ ?_
      | refine LeO.bind ?_ (fun _ => ?_)
    · intro y0 y1 y2
      unfold replevinlaw16_InstrBytes.j1
      repeat' first
      | (with_reducible exact ih0 _ _)
      | (with_reducible exact ih1 _ _ _)
      | (with_reducible exact ih2 _ _ _)
      | (with_reducible exact replevinlaw16_known.mono _)
      | (with_reducible exact replevinref16_DecodeAll.mono _ _)
      | (with_reducible exact LeO.refl _)
      | (with_reducible exact LeO.none _)
      | (with_reducible refine LeO.ite ?_ ?_)
      | (with_reducible refine LeO.bind ?_ (fun _ => ?_))
      | exact ih0 _ _
      | exact ih1 _ _ _
      | exact ih2 _ _ _
      | exact replevinlaw16_known.mono _
      | exact replevinref16_DecodeAll.mono _ _
      | exact LeO.none _
      | refine LeO.ite ?_ ?_
      | refine LeO.bind ?_ (fun _ => ?_)
    · intro y0 y1 y2
      unfold replevinlaw16_InstrBytes.l0
      repeat' first
      | (with_reducible exact ih0 _ _)
      | (with_reducible exact ih1 _ _ _)
      | (with_reducible exact ih2 _ _ _)
      | (with_reducible exact replevinlaw16_known.mono _)
      | (with_reducible exact replevinref16_DecodeAll.mono _ _)
      | (with_reducible exact LeO.refl _)
      | (with_reducible exact LeO.none _)
      | (with_reducible refine LeO.ite ?_ ?_)
      | (with_reducible refine LeO.bind ?_ (fun _ => ?_))
      | exact ih0 _ _
      | exact ih1 _ _ _
      | exact ih2 _ _ _
      | exact replevinlaw16_known.mono _
      | exact replevinref16_DecodeAll.mono _ _
      | exact LeO.none _
      | refine LeO.ite ?_ ?_
      | refine LeO.bind ?_ (fun _ => ?_)
theorem replevinlaw16_InstrBytes.mono : ∀ a0 k, LeO (replevinlaw16_InstrBytes.f k a0) (replevinlaw16_InstrBytes.f (k + 1) a0) := by
  intro a0 k
  obtain ⟨ih0, ih1, ih2⟩ := replevinlaw16_InstrBytes.mono_l k
  unfold replevinlaw16_InstrBytes.f
  repeat' first
      | (with_reducible exact ih0 _ _)
      | (with_reducible exact ih1 _ _ _)
      | (with_reducible exact ih2 _ _ _)
      | (with_reducible exact replevinlaw16_known.mono _)
      | (with_reducible exact replevinref16_DecodeAll.mono _ _)
      | (with_reducible exact LeO.refl _)
      | (with_reducible exact LeO.none _)
      | (with_reducible refine LeO.ite ?_ ?_)
      | (with_reducible refine LeO.bind ?_ (fun _ => ?_))
      | exact ih0 _ _
      | exact ih1 _ _ _
      | exact ih2 _ _ _
      | exact replevinlaw16_known.mono _
      | exact replevinref16_DecodeAll.mono _ _
      | exact LeO.none _
      | refine LeO.ite ?_ ?_
      | refine LeO.bind ?_ (fun _ => ?_)
def replevinlaw16_InstrBytes.T11 : Bool × List (List Nat × List Nat) := (true, [([], []), ([], []), ([0, 1], [0, 1]), ([2], [2]), ([3], [3]), ([], []), ([], []), ([5, 6], [5, 6]), ([7], [7]), ([4, 8], [4, 8])])
def replevinlaw16_InstrBytes.B11 : List Nat := [0, 0, 3, 7, 15, 0, 0, 96, 224, 511]
theorem replevinlaw16_InstrBytes.tab11 : rtab .any (opsOf Try.f9 11) = replevinlaw16_InstrBytes.T11 := by kernel_rfl
theorem replevinlaw16_InstrBytes.bits11 : waitsOk replevinlaw16_InstrBytes.T11.2 replevinlaw16_InstrBytes.B11 = true := by kernel_rfl
set_option maxHeartbeats 8000000 in
set_option maxRecDepth 100000 in
theorem replevinlaw16_InstrBytes.calls (k : Nat) (A0 : Option Addr) (c0 : Nat) (l0 : List Int) (r : Bool) (w : World) (hr0 : Kd.C (Kd.int .u8) w A0 l0.length l0) (hc0 : l0.length ≤ c0) (h : replevinlaw16_InstrBytes.f k l0 = some r) :
    Calls Try.prog 9 #[.slice A0 l0.length c0] w fun e w' => e = .returned (.bool r) ∧ Below w.heap.size w w' := by
  have hu26 := Try.underlying26
  have hu23 := Try.underlying23
  have HR0 := Aside0.mk hr0
  have HC0 := Aside0.mk hc0
  clear hr0 hc0
  have HB := Aside0.mk (Below.refl w.heap.size w)
  have H : ((replevinlaw16_known.f k).bind fun t310 => (if t310 = true then (replevinlaw16_InstrBytes.j0 k l0 (decide ((l0.length : Int) > 200))) else (replevinlaw16_InstrBytes.j0 k l0 true))) = some r := h
  clear h
  have HC2 := Aside0.mk H
  clear H
  go_enter Try.func9, Try.ntmps9
  go_upto_region 1 with (fail)
  go_cut [17] (fun v17 wc => ∃ (kq : Nat) (x17_1 : Bool), v17 = .bool x17_1 ∧ Aside0 (replevinlaw16_InstrBytes.j0 kq l0 x17_1 = some r) ∧ Aside0 (kq ≤ k) ∧ Aside0 (Below w.heap.size w wc))
  case first =>
    have H := HC2.out
    clear HC2
    replace H := Option.bind_eq_some_iff.mp H
    obtain ⟨t310, A30, H⟩ := H
    replace H : (if t310 = true then (replevinlaw16_InstrBytes.j0 k l0 (decide ((l0.length : Int) > 200))) else (replevinlaw16_InstrBytes.j0 k l0 true)) = some r := H
    have A3 := Aside0.mk A30
    clear A30
    by_cases c4 : t310 = true
    · subst c4
      have H1 : (replevinlaw16_InstrBytes.j0 k l0 (decide ((l0.length : Int) > 200))) = some r := by rw [if_pos rfl] at H; exact H
      clear H
      have H := H1
      clear H1
      have H' := Aside0.mk H
      clear H
      go_wp2_with (first | ((with_reducible refine gate_callee (f := 13) rfl ?_); refine goesL_ (some 11) rfl rfl Try.func13 (by kernel_rfl) rfl #[] rfl (by (try simp only [List.map_toArray, List.map_cons, List.map_nil]); first | done | rfl | (simp only [List.length_drop, List.length_take]; rfl)) ?_; (with_reducible refine (replevinlaw16_known.calls k  true _ A3.out).mono ?_); rintro e w5 ⟨rfl, hb⟩; refine ⟨_, rfl, ?_⟩; have n0_ := Aside0.mk (below_step (by repeat (first | (with_reducible first | exact HB.out | apply below_alloc | apply pw_below_drewN | apply below_drew1) | exact HB.out)) hb); clear HB; have HB := n0_; clear n0_; (try clear hb); (try clear hb2); (try clear hk); (try clear hi)))
      go_meet
      case rel => exact ⟨_, (decide ((l0.length : Int) > 200)), (by first | rfl | (simp; done) | (simp [*]; done)), H', ⟨by first | omega | exact Nat.le_refl _⟩, ⟨by repeat (first | (with_reducible first | exact HB.out | apply below_alloc | apply pw_below_drewN | apply below_drew1) | exact HB.out)⟩⟩
    · replace c4 := Bool.eq_false_iff.mpr c4
      subst c4
      have H1 : (replevinlaw16_InstrBytes.j0 k l0 true) = some r := by rw [if_neg (show ¬ (false = true) by decide)] at H; exact H
      clear H
      have H := H1
      clear H1
      have H' := Aside0.mk H
      clear H
      go_wp2_with (first | ((with_reducible refine gate_callee (f := 13) rfl ?_); refine goesL_ (some 11) rfl rfl Try.func13 (by kernel_rfl) rfl #[] rfl (by (try simp only [List.map_toArray, List.map_cons, List.map_nil]); first | done | rfl | (simp only [List.length_drop, List.length_take]; rfl)) ?_; (with_reducible refine (replevinlaw16_known.calls k  false _ A3.out).mono ?_); rintro e w6 ⟨rfl, hb⟩; refine ⟨_, rfl, ?_⟩; have n0_ := Aside0.mk (below_step (by repeat (first | (with_reducible first | exact HB.out | apply below_alloc | apply pw_below_drewN | apply below_drew1) | exact HB.out)) hb); clear HB; have HB := n0_; clear n0_; (try clear hb); (try clear hb2); (try clear hk); (try clear hi)))
      go_meet
      case rel => exact ⟨_, (true), (by first | rfl | (simp; done) | (simp [*]; done)), H', ⟨by first | omega | exact Nat.le_refl _⟩, ⟨by repeat (first | (with_reducible first | exact HB.out | apply below_alloc | apply pw_below_drewN | apply below_drew1) | exact HB.out)⟩⟩
  case rest =>
    clear HC2
    try clear c1
    try clear p2
    try clear c4
    obtain ⟨kq, x17_1, rfl, HA, HJ1, HB⟩ := hcut
    cases kq with
    | zero => exact absurd HA.out (by simp [replevinlaw16_InstrBytes.j0])
    | succ kj1 =>
      have H := HA.out
      clear HA
      simp only [replevinlaw16_InstrBytes.j0] at H
      by_cases c7 : x17_1 = true
      · subst c7
        have H1 : ((replevinlaw16_known.f kj1).bind fun t311 => (some t311)) = some r := by rw [if_pos rfl] at H; exact H
        clear H
        have H := H1
        clear H1
        replace H := Option.bind_eq_some_iff.mp H
        obtain ⟨t311, A80, H⟩ := H
        replace H : (some t311) = some r := H
        have A8 := Aside0.mk A80
        clear A80
        obtain rfl := Option.some.inj H
        go_wp2_with (first | ((with_reducible refine gate_callee (f := 13) rfl ?_); refine goesL_ (some 18) rfl rfl Try.func13 (by kernel_rfl) rfl #[] rfl (by (try simp only [List.map_toArray, List.map_cons, List.map_nil]); first | done | rfl | (simp only [List.length_drop, List.length_take]; rfl)) ?_; (with_reducible refine (replevinlaw16_known.calls kj1  t311 _ A8.out).mono ?_); rintro e w9 ⟨rfl, hb⟩; refine ⟨_, rfl, ?_⟩; have n0_ := Aside0.mk (below_step (by repeat (first | (with_reducible first | exact HB.out | apply below_alloc | apply pw_below_drewN | apply below_drew1) | exact HB.out)) hb); clear HB; have HB := n0_; clear n0_; (try clear hb); (try clear hb2); (try clear hk); (try clear hi)))
        go_ret
        exact ⟨by first | rfl | (simp [errW_none, errW_some] <;> rfl) | (simp [*, errW_none, errW_some] <;> rfl), by repeat (first | (with_reducible first | exact HB.out | apply below_alloc | apply pw_below_drewN | apply below_drew1) | exact HB.out)⟩
      · replace c7 := Bool.eq_false_iff.mpr c7
        subst c7
        have H1 : ((instr_DecodeAll.f l0).bind fun bt312 => ((replevinref16_DecodeAll.f kj1 l0).bind fun bt317 => (if (bt312.1.length : Int) = (bt317.1.length : Int) then (if bt312.2.1 = bt317.2.1 then (if bt312.2.2 = bt317.2.2 then (replevinlaw16_InstrBytes.j1 kj1 bt312.1 bt317.1 ((strOfNums l0).toList != (strOfNums l0).toList)) else (replevinlaw16_InstrBytes.j1 kj1 bt312.1 bt317.1 true)) else (replevinlaw16_InstrBytes.j1 kj1 bt312.1 bt317.1 true)) else (replevinlaw16_InstrBytes.j1 kj1 bt312.1 bt317.1 true)))) = some r := by rw [if_neg (show ¬ (false = true) by decide)] at H; exact H
        clear H
        have H := H1
        clear H1
        replace H := Option.bind_eq_some_iff.mp H
        obtain ⟨⟨t312, t313, t314⟩, A100, H⟩ := H
        replace H : ((replevinref16_DecodeAll.f kj1 l0).bind fun bt317 => (if (t312.length : Int) = (bt317.1.length : Int) then (if t313 = bt317.2.1 then (if t314 = bt317.2.2 then (replevinlaw16_InstrBytes.j1 kj1 t312 bt317.1 ((strOfNums l0).toList != (strOfNums l0).toList)) else (replevinlaw16_InstrBytes.j1 kj1 t312 bt317.1 true)) else (replevinlaw16_InstrBytes.j1 kj1 t312 bt317.1 true)) else (replevinlaw16_InstrBytes.j1 kj1 t312 bt317.1 true))) = some r := H
        have A10 := Aside0.mk A100
        clear A100
        replace H := Option.bind_eq_some_iff.mp H
        obtain ⟨⟨t317, t318, t319⟩, A110, H⟩ := H
        replace H : (if (t312.length : Int) = (t317.length : Int) then (if t313 = t318 then (if t314 = t319 then (replevinlaw16_InstrBytes.j1 kj1 t312 t317 ((strOfNums l0).toList != (strOfNums l0).toList)) else (replevinlaw16_InstrBytes.j1 kj1 t312 t317 true)) else (replevinlaw16_InstrBytes.j1 kj1 t312 t317 true)) else (replevinlaw16_InstrBytes.j1 kj1 t312 t317 true)) = some r := H
        have A11 := Aside0.mk A110
        clear A110
        have HC12 := Aside0.mk H
        clear H
        have hcv13 := Kd.C_string (P := Try.prog) (A := A0) (c := c0) Try.underlying52 Try.underlying5 Try.underlying9 (Kd.C_below HR0.out HB.out)
        go_upto_region 6 with (first | ((with_reducible refine gate_callee (f := 28) rfl ?_); refine goesL_ (some 23) rfl rfl Try.func28 (by kernel_rfl) rfl #[.slice A0 l0.length c0] rfl (by (try simp only [List.map_toArray, List.map_cons, List.map_nil]); first | done | rfl | (simp only [List.length_drop, List.length_take]; rfl)) ?_; (with_reducible refine (instr_DecodeAll.calls _ _ l0 t312 t313 t314 _ ?side1 ?side2 A10.out).mono ?_); (case side1 => repeat (first | exact (Kd.C_below HR0.out HB.out) | (with_reducible refine Kd.C_alloc ?_ _) | (with_reducible refine Kd.C_drewN ?_ _) | (with_reducible refine Kd.C_drew ?_))); (case side2 => exact HC0.out); rintro e w14 ⟨v315, rfl, ho0, hb⟩; refine ⟨_, rfl, ?_⟩; have n0_ := Aside0.mk (Kd.R_lower ho0 (below_size (by repeat (first | (with_reducible first | exact HB.out | apply below_alloc | apply pw_below_drewN | apply below_drew1) | exact HB.out)))); have n1_ := Aside0.mk (below_step (by repeat (first | (with_reducible first | exact HB.out | apply below_alloc | apply pw_below_drewN | apply below_drew1) | exact HB.out)) hb); clear HB; have HO316 := n0_; have HB := n1_; clear n0_ n1_; (try clear hb); (try clear hb2); (try clear hk); (try clear hi); (try clear ho0)) | ((with_reducible refine gate_callee (f := 29) rfl ?_); refine goesL_ (some 29) rfl rfl Try.func29 (by kernel_rfl) rfl #[.slice A0 l0.length c0] rfl (by (try simp only [List.map_toArray, List.map_cons, List.map_nil]); first | done | rfl | (simp only [List.length_drop, List.length_take]; rfl)) ?_; (with_reducible refine (replevinref16_DecodeAll.calls kj1 _ _ l0 t317 t318 t319 _ ?side1 ?side2 A11.out).mono ?_); (case side1 => repeat (first | exact (Kd.C_below HR0.out HB.out) | (with_reducible refine Kd.C_alloc ?_ _) | (with_reducible refine Kd.C_drewN ?_ _) | (with_reducible refine Kd.C_drew ?_))); (case side2 => exact HC0.out); rintro e w15 ⟨v320, rfl, ho0, hb⟩; refine ⟨_, rfl, ?_⟩; have n0_ := Aside0.mk (Kd.R_below (by (with_reducible repeat (first | apply Kd.R_alloc | apply Kd.R_drewN | apply Kd.R_drew)); exact HO316.out) hb); have n1_ := Aside0.mk (Kd.R_lower ho0 (below_size (by repeat (first | (with_reducible first | exact HB.out | apply below_alloc | apply pw_below_drewN | apply below_drew1) | exact HB.out)))); have n2_ := Aside0.mk (below_step (by repeat (first | (with_reducible first | exact HB.out | apply below_alloc | apply pw_below_drewN | apply below_drew1) | exact HB.out)) hb); clear HO316; clear HB; have HO316 := n0_; have HO321 := n1_; have HB := n2_; clear n0_ n1_ n2_; (try clear hb); (try clear hb2); (try clear hk); (try clear hi); (try clear ho0)))
        (try simp only [Act.put, List.setIfInBounds_toArray, List.set_cons_zero, List.set_cons_succ])
        go_cut [53] (fun v53 wc => ∃ (kq : Nat) (x53_11 : Bool), v53 = .bool x53_11 ∧ Aside0 (replevinlaw16_InstrBytes.j1 kq t312 t317 x53_11 = some r) ∧ Aside0 (kq ≤ kj1) ∧ Aside0 (Kd.R k26 26 wc w.heap.size (fun _ => True) v315 t312) ∧ Aside0 (Kd.R k23 23 wc w.heap.size (fun _ => True) v320 t317) ∧ Aside0 (Below w.heap.size w wc))
        case first =>
          have H := HC12.out
          clear HC12
          by_cases c16 : (t312.length : Int) = (t317.length : Int)
          · rw [if_pos c16] at H
            have c16b0 : ((t312.length : Int) == (t317.length : Int)) = true := beq_iff_eq.mpr c16
            have c16b1 : ((t312.length : Int) != (t317.length : Int)) = false := bne_eq_false_iff_eq.mpr c16
            have c16b2 : (t312.length == t317.length) = true := by first | simpa using c16 | (simp at c16 ⊢; omega)
            clear c16
            (first | rw [c16b0] | (simp only [i64_w, i32_w]; rw [c16b0]) | skip)
            by_cases c17 : t313 = t318
            · rw [if_pos c17] at H
              have c17b0 : (t313 == t318) = true := beq_iff_eq.mpr c17
              have c17b1 : (t313 != t318) = false := bne_eq_false_iff_eq.mpr c17
              clear c17
              by_cases c18 : t314 = t319
              · rw [if_pos c18] at H
                have c18b0 : (t314 == t319) = true := beq_iff_eq.mpr c18
                have c18b1 : (t314 != t319) = false := bne_eq_false_iff_eq.mpr c18
                clear c18
                have H' := Aside0.mk H
                clear H
                obtain ⟨Ao19, co19, eo19⟩ := Kd.R_slice HO316.out
                subst eo19
                obtain ⟨Ao20, co20, eo20⟩ := Kd.R_slice HO321.out
                subst eo20
                have hcv21 := Kd.C_string (P := Try.prog) (A := A0) (c := c0) Try.underlying52 Try.underlying5 Try.underlying9 (Kd.C_below HR0.out HB.out)
                go_wp2
                go_meet
                case rel => exact ⟨_, (((strOfNums l0).toList != (strOfNums l0).toList)), (by first | rfl | (simp; done) | (simp [*]; done)), H', ⟨by have := HJ1.out; first | omega | exact Nat.le_refl _⟩, ⟨by (with_reducible repeat (first | apply Kd.R_alloc | apply Kd.R_drewN | apply Kd.R_drew)); exact HO316.out⟩, ⟨by (with_reducible repeat (first | apply Kd.R_alloc | apply Kd.R_drewN | apply Kd.R_drew)); exact HO321.out⟩, ⟨by repeat (first | (with_reducible first | exact HB.out | apply below_alloc | apply pw_below_drewN | apply below_drew1) | exact HB.out)⟩⟩
              · rw [if_neg c18] at H
                have c18b0 : (t314 == t319) = false := beq_eq_false_iff_ne.mpr c18
                have c18b1 : (t314 != t319) = true := bne_iff_ne.mpr c18
                have H' := Aside0.mk H
                clear H
                obtain ⟨Ao22, co22, eo22⟩ := Kd.R_slice HO316.out
                subst eo22
                obtain ⟨Ao23, co23, eo23⟩ := Kd.R_slice HO321.out
                subst eo23
                go_wp2
                go_meet
                case rel => exact ⟨_, (true), (by first | rfl | (simp; done) | (simp [*]; done)), H', ⟨by have := HJ1.out; first | omega | exact Nat.le_refl _⟩, ⟨by (with_reducible repeat (first | apply Kd.R_alloc | apply Kd.R_drewN | apply Kd.R_drew)); exact HO316.out⟩, ⟨by (with_reducible repeat (first | apply Kd.R_alloc | apply Kd.R_drewN | apply Kd.R_drew)); exact HO321.out⟩, ⟨by repeat (first | (with_reducible first | exact HB.out | apply below_alloc | apply pw_below_drewN | apply below_drew1) | exact HB.out)⟩⟩
            · rw [if_neg c17] at H
              have c17b0 : (t313 == t318) = false := beq_eq_false_iff_ne.mpr c17
              have c17b1 : (t313 != t318) = true := bne_iff_ne.mpr c17
              have H' := Aside0.mk H
              clear H
              obtain ⟨Ao24, co24, eo24⟩ := Kd.R_slice HO316.out
              subst eo24
              obtain ⟨Ao25, co25, eo25⟩ := Kd.R_slice HO321.out
              subst eo25
              go_wp2
              go_meet
              case rel => exact ⟨_, (true), (by first | rfl | (simp; done) | (simp [*]; done)), H', ⟨by have := HJ1.out; first | omega | exact Nat.le_refl _⟩, ⟨by (with_reducible repeat (first | apply Kd.R_alloc | apply Kd.R_drewN | apply Kd.R_drew)); exact HO316.out⟩, ⟨by (with_reducible repeat (first | apply Kd.R_alloc | apply Kd.R_drewN | apply Kd.R_drew)); exact HO321.out⟩, ⟨by repeat (first | (with_reducible first | exact HB.out | apply below_alloc | apply pw_below_drewN | apply below_drew1) | exact HB.out)⟩⟩
          · rw [if_neg c16] at H
            have c16b0 : ((t312.length : Int) == (t317.length : Int)) = false := beq_eq_false_iff_ne.mpr c16
            have c16b1 : ((t312.length : Int) != (t317.length : Int)) = true := bne_iff_ne.mpr c16
            have c16b2 : (t312.length == t317.length) = false := by first | simpa using c16 | (simp at c16 ⊢; omega)
            (first | rw [c16b0] | (simp only [i64_w, i32_w]; rw [c16b0]) | skip)
            have H' := Aside0.mk H
            clear H
            obtain ⟨Ao26, co26, eo26⟩ := Kd.R_slice HO316.out
            subst eo26
            obtain ⟨Ao27, co27, eo27⟩ := Kd.R_slice HO321.out
            subst eo27
            go_wp2
            go_meet
            case rel => exact ⟨_, (true), (by first | rfl | (simp; done) | (simp [*]; done)), H', ⟨by have := HJ1.out; first | omega | exact Nat.le_refl _⟩, ⟨by (with_reducible repeat (first | apply Kd.R_alloc | apply Kd.R_drewN | apply Kd.R_drew)); exact HO316.out⟩, ⟨by (with_reducible repeat (first | apply Kd.R_alloc | apply Kd.R_drewN | apply Kd.R_drew)); exact HO321.out⟩, ⟨by repeat (first | (with_reducible first | exact HB.out | apply below_alloc | apply pw_below_drewN | apply below_drew1) | exact HB.out)⟩⟩
        case rest =>
          clear HC12
          try clear c1
          try clear hcv1
          try clear c2
          try clear p2
          try clear hcv2
          try clear c4
          try clear c7
          try clear c9
          try clear c13
          try clear hcv13
          try clear c16
          try clear c16b0
          try clear c16b1
          try clear c16b2
          try clear c17
          try clear c17b0
          try clear c17b1
          try clear c18
          try clear c18b0
          try clear c18b1
          try clear hcv21
          try clear p2
          obtain ⟨kq, x53_11, rfl, HA, HJ11, HO_4, HO_7, HB⟩ := hcut
          cases kq with
          | zero => exact absurd HA.out (by simp [replevinlaw16_InstrBytes.j1])
          | succ kj11 =>
            have H := HA.out
            clear HA
            simp only [replevinlaw16_InstrBytes.j1] at H
            by_cases c28 : x53_11 = true
            · subst c28
              have H1 : (some false) = some r := by rw [if_pos rfl] at H; exact H
              clear H
              have H := H1
              clear H1
              obtain rfl := Option.some.inj H
              go_wp2
              go_ret
              exact ⟨by first | rfl | (simp [errW_none, errW_some] <;> rfl) | (simp [*, errW_none, errW_some] <;> rfl), by repeat (first | (with_reducible first | exact HB.out | apply below_alloc | apply pw_below_drewN | apply below_drew1) | exact HB.out)⟩
            · replace c28 := Bool.eq_false_iff.mpr c28
              subst c28
              have H1 : (replevinlaw16_InstrBytes.l0 kj11 t312 t317 0) = some r := by rw [if_neg (show ¬ (false = true) by decide)] at H; exact H
              clear H
              have H := H1
              clear H1
              have H' := Aside0.mk H
              clear H
              go_wp2
              go_loopg [10] kj11 (fun kq v10 w' => ∃ (x10_3 : Int), v10 = .int .i64 x10_3 ∧ Aside0 (replevinlaw16_InstrBytes.l0 kq t312 t317 x10_3 = some r) ∧ Aside0 (kq ≤ kj11) ∧ Aside0 (Kd.R k26 26 w' w.heap.size (fun _ => True) v315 t312) ∧ Aside0 (Kd.R k23 23 w' w.heap.size (fun _ => True) v320 t317) ∧ Aside0 (Below w.heap.size w w'))
              case atStart => exact ⟨(0), (by first | rfl | (simp; done) | (simp [*]; done)), H', ⟨Nat.le_refl _⟩, ⟨by (with_reducible repeat (first | apply Kd.R_alloc | apply Kd.R_drewN | apply Kd.R_drew)); exact HO_4.out⟩, ⟨by (with_reducible repeat (first | apply Kd.R_alloc | apply Kd.R_drewN | apply Kd.R_drew)); exact HO_7.out⟩, ⟨by repeat (first | (with_reducible first | exact HB.out | apply below_alloc | apply pw_below_drewN | apply below_drew1) | exact HB.out)⟩⟩
              case round =>
                clear H'
                try clear c1
                try clear hcv1
                try clear c2
                try clear p2
                try clear hcv2
                try clear c4
                try clear c7
                try clear c9
                try clear c13
                try clear hcv13
                try clear c16
                try clear c16b0
                try clear c16b1
                try clear c16b2
                try clear c17
                try clear c17b0
                try clear c17b1
                try clear c18
                try clear c18b0
                try clear c18b1
                try clear hcv21
                try clear c28
                try clear p2
                obtain ⟨x10_3, rfl, HA, HK3, HO_4, HO_7, HB⟩ := hrel
                cases gk with
                | zero => exact absurd HA.out (by simp [replevinlaw16_InstrBytes.l0])
                | succ k3 =>
                  have H := HA.out
                  clear HA
                  simp only [replevinlaw16_InstrBytes.l0] at H
                  by_cases c29 : x10_3 < (t312.length : Int)
                  · rw [if_pos c29] at H
                    have c29b0 : decide (x10_3 < (t312.length : Int)) = true := decide_eq_true c29
                    clear c29
                    by_cases c30 : 0 ≤ x10_3
                    · rw [if_pos c30] at H
                      have c30b0 : decide (0 ≤ x10_3) = true := decide_eq_true c30
                      clear c30
                      replace H := Option.bind_eq_some_iff.mp H
                      obtain ⟨⟨t323, t324, t325, t326⟩, A310, H⟩ := H
                      replace H : (if x10_3 < (t317.length : Int) then (if (!(t323 == ((rd_T23 t317 x10_3).f0)) || (!(t324 == ((rd_T23 t317 x10_3).f1)) || (!(t325 == ((rd_T23 t317 x10_3).f2)) || (!(t326 == ((rd_T23 t317 x10_3).f3)))))) = true then (some false) else (replevinlaw16_InstrBytes.l0 k3 t312 t317 (wrap64 (x10_3 + 1)))) else (none)) = some r := H
                      have A31 := Aside0.mk A310
                      clear A310
                      by_cases c32 : x10_3 < (t317.length : Int)
                      · rw [if_pos c32] at H
                        have c32b0 : decide (x10_3 < (t317.length : Int)) = true := decide_eq_true c32
                        clear c32
                        by_cases c33 : (!(t323 == ((rd_T23 t317 x10_3).f0)) || (!(t324 == ((rd_T23 t317 x10_3).f1)) || (!(t325 == ((rd_T23 t317 x10_3).f2)) || (!(t326 == ((rd_T23 t317 x10_3).f3)))))) = true
                        · rw [if_pos c33] at H
                          have c33b0 : (!(t323 == ((rd_T23 t317 x10_3).f0)) || (!(t324 == ((rd_T23 t317 x10_3).f1)) || (!(t325 == ((rd_T23 t317 x10_3).f2)) || (!(t326 == ((rd_T23 t317 x10_3).f3)))))) = true := c33
                          clear c33
                          obtain rfl := Option.some.inj H
                          obtain ⟨Ao34, co34, eo34⟩ := Kd.R_slice HO_4.out
                          subst eo34
                          try go_wp2
                          have n0_ := Aside0.mk (Kd.R_drew HO_4.out)
                          have n1_ := Aside0.mk (Kd.R_drew HO_7.out)
                          have n2_ := Aside0.mk (below_drew1 HB.out)
                          clear HO_4
                          clear HO_7
                          clear HB
                          have HO_4 := n0_
                          have HO_7 := n1_
                          have HB := n2_
                          clear n0_ n1_ n2_
                          have p322 : 0 ≤ (x10_3 : Int) := of_decide_eq_true (by first | (with_reducible assumption) | assumption)
                          have q322 : x10_3 < (t312.length : Int) := of_decide_eq_true (by first | (with_reducible assumption) | assumption)
                          obtain ⟨ad322, e322, hx322_0, hx322_1, hx322_2, hx322_3⟩ := at_T26 (Kd.R_reads' HO_4.out).2.2 x10_3 p322 q322
                          cases e322
                          replace p322 := eq_true p322
                          replace q322 := eq_true q322
                          obtain ⟨Ao36, co36, eo36⟩ := Kd.R_slice HO_7.out
                          (first | subst eo36 | (injection eo36 with f1_ f2_ f3_; have f4_ := f1_.symm; have f5_ := f3_.symm; clear f1_ f2_ f3_; subst f4_; subst f5_))
                          have p327 : 0 ≤ (x10_3 : Int) := of_decide_eq_true (by first | (with_reducible assumption) | assumption)
                          have q327 : x10_3 < (t317.length : Int) := of_decide_eq_true (by first | (with_reducible assumption) | assumption)
                          obtain ⟨ad327, e327, hx327_0, hx327_1, hx327_2, hx327_3⟩ := at_T23 (Kd.R_reads' HO_7.out).2.2 x10_3 p327 q327
                          cases e327
                          replace p327 := eq_true p327
                          replace q327 := eq_true q327
                          refine start_ (n := 10) (S := fun w' => w'.cell? (ad322.add ((x10_3).toNat * 4)) = some (.int .i64 ((rd_T26 t312 x10_3).f0)) ∧ w'.cell? ⟨(ad322.add ((x10_3).toNat * 4)).block, (ad322.add ((x10_3).toNat * 4)).off + 1, none⟩ = some (.int .i64 ((rd_T26 t312 x10_3).f1)) ∧ w'.cell? ⟨(ad322.add ((x10_3).toNat * 4)).block, (ad322.add ((x10_3).toNat * 4)).off + 2, none⟩ = some (.int .i64 ((rd_T26 t312 x10_3).f2)) ∧ w'.cell? ⟨(ad322.add ((x10_3).toNat * 4)).block, (ad322.add ((x10_3).toNat * 4)).off + 3, none⟩ = some (.int .i64 ((rd_T26 t312 x10_3).f3)) ∧ w'.cell? (ad327.add ((x10_3).toNat * 4)) = some (.int .i64 ((rd_T23 t317 x10_3).f0)) ∧ w'.cell? ⟨(ad327.add ((x10_3).toNat * 4)).block, (ad327.add ((x10_3).toNat * 4)).off + 1, none⟩ = some (.int .i64 ((rd_T23 t317 x10_3).f1)) ∧ w'.cell? ⟨(ad327.add ((x10_3).toNat * 4)).block, (ad327.add ((x10_3).toNat * 4)).off + 2, none⟩ = some (.int .i64 ((rd_T23 t317 x10_3).f2)) ∧ w'.cell? ⟨(ad327.add ((x10_3).toNat * 4)).block, (ad327.add ((x10_3).toNat * 4)).off + 3, none⟩ = some (.int .i64 ((rd_T23 t317 x10_3).f3))) (ds := []) #[false, false, false, false, false, false, false, false, false, false] (by kernel_rfl) rfl rfl ⟨hx322_0, hx322_1, hx322_2, hx322_3, hx327_0, hx327_1, hx327_2, hx327_3⟩ (fun hHeld => ?_); refine with_tabW replevinlaw16_InstrBytes.tab11 replevinlaw16_InstrBytes.bits11 (fun HT_ HW_ => ?_)
                          generalize wr.drew = w35 at HO_4 HO_7 HB hx322_0 hx322_1 hx322_2 hx322_3 hx327_0 hx327_1 hx327_2 hx327_3 hHeld ⊢
                          refine pure_ (i := 0) (N := some 60) (v := ?_) (a' := ?_) #[true, false, false, false, false, false, false, false, false, false] rfl rfl (any_of HT_.out (by kernel_rfl)) (fun _ _ _ h => h) (Or.inl ⟨by rfl, ?_⟩) ?_ ?_
                          rotate_left
                          · intro w'
                            go_simp
                            with_reducible rfl
                          rotate_left
                          · simp only [Act.put, List.setIfInBounds_toArray, List.set_cons_zero, List.set_cons_succ, i64_w, i32_w]
                            rfl
                          refine pure_ (i := 1) (N := some 61) (v := ?_) (a' := ?_) #[true, true, false, false, false, false, false, false, false, false] rfl rfl (any_of HT_.out (by kernel_rfl)) (fun _ _ _ h => h) (Or.inl ⟨by rfl, ?_⟩) ?_ ?_
                          rotate_left
                          · intro w'
                            go_simp
                            with_reducible rfl
                          rotate_left
                          · simp only [Act.put, List.setIfInBounds_toArray, List.set_cons_zero, List.set_cons_succ, i64_w, i32_w]
                            rfl
                          refine pure_ (i := 2) (N := some 62) (v := ?_) (a' := ?_) #[true, true, true, false, false, false, false, false, false, false] rfl rfl (any_of HT_.out (by kernel_rfl)) (fun _ _ _ h => h) (Or.inl ⟨by rfl, ?_⟩) ?_ ?_
                          rotate_left
                          · intro w'
                            go_simp
                            with_reducible rfl
                          rotate_left
                          · simp only [Act.put, List.setIfInBounds_toArray, List.set_cons_zero, List.set_cons_succ, i64_w, i32_w]
                            rfl
                          refine pure_ (i := 5) (N := some 65) (v := ?_) (a' := ?_) #[true, true, true, false, false, true, false, false, false, false] rfl rfl (any_of HT_.out (by kernel_rfl)) (fun _ _ _ h => h) (Or.inl ⟨by rfl, ?_⟩) ?_ ?_
                          rotate_left
                          · intro w'
                            go_simp
                            with_reducible rfl
                          rotate_left
                          · simp only [Act.put, List.setIfInBounds_toArray, List.set_cons_zero, List.set_cons_succ, i64_w, i32_w]
                            rfl
                          refine pure_ (i := 6) (N := some 66) (v := ?_) (a' := ?_) #[true, true, true, false, false, true, true, false, false, false] rfl rfl (any_of HT_.out (by kernel_rfl)) (fun _ _ _ h => h) (Or.inl ⟨by rfl, ?_⟩) ?_ ?_
                          rotate_left
                          · intro w'
                            go_simp
                            with_reducible rfl
                          rotate_left
                          · simp only [Act.put, List.setIfInBounds_toArray, List.set_cons_zero, List.set_cons_succ, i64_w, i32_w]
                            rfl
                          refine pure_ (i := 7) (N := some 67) (v := ?_) (a' := ?_) #[true, true, true, false, false, true, true, true, false, false] rfl rfl (any_of HT_.out (by kernel_rfl)) (fun _ _ _ h => h) (Or.inl ⟨by rfl, ?_⟩) ?_ ?_
                          rotate_left
                          · intro w'
                            go_simp
                            with_reducible rfl
                          rotate_left
                          · simp only [Act.put, List.setIfInBounds_toArray, List.set_cons_zero, List.set_cons_succ, i64_w, i32_w]
                            rfl
                          refine take_ (i := 3) (N := some 63) (v := ?_) (a' := ?_) #[true, true, true, true, false, true, true, true, false, false] rfl rfl (take_ofW HT_.out HW_.out (by kernel_rfl)) (fun _ _ _ h => h) (Or.inl ⟨by rfl, ?_⟩) hHeld ?_ ?_
                          rotate_left
                          · rintro w' ⟨s0, s1, s2, s3, s4, s5, s6, s7⟩
                            go_simp
                            with_reducible rfl
                          rotate_left
                          · simp only [Act.put, List.setIfInBounds_toArray, List.set_cons_zero, List.set_cons_succ, i64_w, i32_w]
                            rfl
                          refine take_ (i := 8) (N := some 68) (v := ?_) (a' := ?_) #[true, true, true, true, false, true, true, true, true, false] rfl rfl (take_ofW HT_.out HW_.out (by kernel_rfl)) (fun _ _ _ h => h) (Or.inl ⟨by rfl, ?_⟩) hHeld ?_ ?_
                          rotate_left
                          · rintro w' ⟨s0, s1, s2, s3, s4, s5, s6, s7⟩
                            go_simp
                            with_reducible rfl
                          rotate_left
                          · simp only [Act.put, List.setIfInBounds_toArray, List.set_cons_zero, List.set_cons_succ, i64_w, i32_w]
                            rfl
                          refine one_ (i := 4) (N := some 64) #[true, true, true, true, true, true, true, true, true, false] rfl rfl (one_of HT_.out (by kernel_rfl)) (by decide) (fun K hK => ?_)
                          refine goes_ Try.func26 (by kernel_rfl) rfl #[.agg #[.int .i64 ((rd_T26 t312 x10_3).f0), .int .i64 ((rd_T26 t312 x10_3).f1), .int .i64 ((rd_T26 t312 x10_3).f2), .int .i64 ((rd_T26 t312 x10_3).f3)]] (by rfl) rfl rfl (by (try simp only [List.map_toArray, List.map_cons, List.map_nil]); first | done | rfl | (simp only [List.length_drop, List.length_take]; rfl)) ?_
                          with_reducible refine (replevinlaw16_Of.calls ((rd_T26 t312 x10_3).f0) ((rd_T26 t312 x10_3).f1) ((rd_T26 t312 x10_3).f2) ((rd_T26 t312 x10_3).f3) t323 t324 t325 t326 _ A31.out).mono ?_
                          rintro e w37 ⟨rfl, hb⟩
                          have HS0_ := (hb.cell (World.block_lt_of_cell? _ _ (hHeld.1))).trans (hHeld.1)
                          have HS1_ := (hb.cell (World.block_lt_of_cell? _ _ (hHeld.2.1))).trans (hHeld.2.1)
                          have HS2_ := (hb.cell (World.block_lt_of_cell? _ _ (hHeld.2.2.1))).trans (hHeld.2.2.1)
                          have HS3_ := (hb.cell (World.block_lt_of_cell? _ _ (hHeld.2.2.2.1))).trans (hHeld.2.2.2.1)
                          have HS4_ := (hb.cell (World.block_lt_of_cell? _ _ (hHeld.2.2.2.2.1))).trans (hHeld.2.2.2.2.1)
                          have HS5_ := (hb.cell (World.block_lt_of_cell? _ _ (hHeld.2.2.2.2.2.1))).trans (hHeld.2.2.2.2.2.1)
                          have HS6_ := (hb.cell (World.block_lt_of_cell? _ _ (hHeld.2.2.2.2.2.2.1))).trans (hHeld.2.2.2.2.2.2.1)
                          have HS7_ := (hb.cell (World.block_lt_of_cell? _ _ (hHeld.2.2.2.2.2.2.2))).trans (hHeld.2.2.2.2.2.2.2)
                          refine ⟨_, rfl, ?_⟩
                          have n0_ := Aside0.mk (Kd.R_below (by (with_reducible repeat (first | apply Kd.R_alloc | apply Kd.R_drewN | apply Kd.R_drew)); exact HO_4.out) hb)
                          have n1_ := Aside0.mk (Kd.R_below (by (with_reducible repeat (first | apply Kd.R_alloc | apply Kd.R_drewN | apply Kd.R_drew)); exact HO_7.out) hb)
                          have n2_ := Aside0.mk (below_step (by repeat (first | (with_reducible first | exact HB.out | apply below_alloc | apply pw_below_drewN | apply below_drew1) | exact HB.out)) hb)
                          clear HO_4
                          clear HO_7
                          clear HB
                          have HO_4 := n0_
                          have HO_7 := n1_
                          have HB := n2_
                          clear n0_ n1_ n2_
                          (try clear hb)
                          (try clear hb2)
                          (try clear hk)
                          (try clear hi)
                          refine hK.out _ _ ⟨HS0_, HS1_, HS2_, HS3_, HS4_, HS5_, HS6_, HS7_⟩ (fun hHeld => ?_)
                          clear hK K
                          refine norm_ (a' := ?_) ?_ ?_
                          rotate_left
                          · show Act.put _ (some 64) _ = _
                            simp only [Act.put, List.setIfInBounds_toArray, List.set_cons_zero, List.set_cons_succ, i64_w, i32_w]
                            rfl
                          refine pure_ (i := 9) (N := some 69) (v := ?_) (a' := ?_) #[true, true, true, true, true, true, true, true, true, true] rfl rfl (any_of HT_.out (by kernel_rfl)) (fun _ _ _ h => h) (Or.inl ⟨by rfl, ?_⟩) ?_ ?_
                          rotate_left
                          · intro w'
                            go_simp
                            with_reducible rfl
                          rotate_left
                          · simp only [Act.put, List.setIfInBounds_toArray, List.set_cons_zero, List.set_cons_succ, i64_w, i32_w]
                            rfl
                          refine done_ (done_of HT_.out (by kernel_rfl)) ?_
                          try go_wp2
                          go_ret
                          exact ⟨by first | rfl | (simp [errW_none, errW_some] <;> rfl) | (simp [*, errW_none, errW_some] <;> rfl), by repeat (first | (with_reducible first | exact HB.out | apply below_alloc | apply pw_below_drewN | apply below_drew1) | exact HB.out)⟩
                        · rw [if_neg c33] at H
                          have c33b0 : (!(t323 == ((rd_T23 t317 x10_3).f0)) || (!(t324 == ((rd_T23 t317 x10_3).f1)) || (!(t325 == ((rd_T23 t317 x10_3).f2)) || (!(t326 == ((rd_T23 t317 x10_3).f3)))))) = false := by simpa using c33
                          clear c33
                          have H' := Aside0.mk H
                          clear H
                          obtain ⟨Ao38, co38, eo38⟩ := Kd.R_slice HO_4.out
                          subst eo38
                          try go_wp2
                          have n0_ := Aside0.mk (Kd.R_drew HO_4.out)
                          have n1_ := Aside0.mk (Kd.R_drew HO_7.out)
                          have n2_ := Aside0.mk (below_drew1 HB.out)
                          clear HO_4
                          clear HO_7
                          clear HB
                          have HO_4 := n0_
                          have HO_7 := n1_
                          have HB := n2_
                          clear n0_ n1_ n2_
                          have p322 : 0 ≤ (x10_3 : Int) := of_decide_eq_true (by first | (with_reducible assumption) | assumption)
                          have q322 : x10_3 < (t312.length : Int) := of_decide_eq_true (by first | (with_reducible assumption) | assumption)
                          obtain ⟨ad322, e322, hx322_0, hx322_1, hx322_2, hx322_3⟩ := at_T26 (Kd.R_reads' HO_4.out).2.2 x10_3 p322 q322
                          cases e322
                          replace p322 := eq_true p322
                          replace q322 := eq_true q322
                          obtain ⟨Ao40, co40, eo40⟩ := Kd.R_slice HO_7.out
                          (first | subst eo40 | (injection eo40 with f1_ f2_ f3_; have f4_ := f1_.symm; have f5_ := f3_.symm; clear f1_ f2_ f3_; subst f4_; subst f5_))
                          have p327 : 0 ≤ (x10_3 : Int) := of_decide_eq_true (by first | (with_reducible assumption) | assumption)
                          have q327 : x10_3 < (t317.length : Int) := of_decide_eq_true (by first | (with_reducible assumption) | assumption)
                          obtain ⟨ad327, e327, hx327_0, hx327_1, hx327_2, hx327_3⟩ := at_T23 (Kd.R_reads' HO_7.out).2.2 x10_3 p327 q327
                          cases e327
                          replace p327 := eq_true p327
                          replace q327 := eq_true q327
                          refine start_ (n := 10) (S := fun w' => w'.cell? (ad322.add ((x10_3).toNat * 4)) = some (.int .i64 ((rd_T26 t312 x10_3).f0)) ∧ w'.cell? ⟨(ad322.add ((x10_3).toNat * 4)).block, (ad322.add ((x10_3).toNat * 4)).off + 1, none⟩ = some (.int .i64 ((rd_T26 t312 x10_3).f1)) ∧ w'.cell? ⟨(ad322.add ((x10_3).toNat * 4)).block, (ad322.add ((x10_3).toNat * 4)).off + 2, none⟩ = some (.int .i64 ((rd_T26 t312 x10_3).f2)) ∧ w'.cell? ⟨(ad322.add ((x10_3).toNat * 4)).block, (ad322.add ((x10_3).toNat * 4)).off + 3, none⟩ = some (.int .i64 ((rd_T26 t312 x10_3).f3)) ∧ w'.cell? (ad327.add ((x10_3).toNat * 4)) = some (.int .i64 ((rd_T23 t317 x10_3).f0)) ∧ w'.cell? ⟨(ad327.add ((x10_3).toNat * 4)).block, (ad327.add ((x10_3).toNat * 4)).off + 1, none⟩ = some (.int .i64 ((rd_T23 t317 x10_3).f1)) ∧ w'.cell? ⟨(ad327.add ((x10_3).toNat * 4)).block, (ad327.add ((x10_3).toNat * 4)).off + 2, none⟩ = some (.int .i64 ((rd_T23 t317 x10_3).f2)) ∧ w'.cell? ⟨(ad327.add ((x10_3).toNat * 4)).block, (ad327.add ((x10_3).toNat * 4)).off + 3, none⟩ = some (.int .i64 ((rd_T23 t317 x10_3).f3))) (ds := []) #[false, false, false, false, false, false, false, false, false, false] (by kernel_rfl) rfl rfl ⟨hx322_0, hx322_1, hx322_2, hx322_3, hx327_0, hx327_1, hx327_2, hx327_3⟩ (fun hHeld => ?_); refine with_tabW replevinlaw16_InstrBytes.tab11 replevinlaw16_InstrBytes.bits11 (fun HT_ HW_ => ?_)
                          generalize wr.drew = w39 at HO_4 HO_7 HB hx322_0 hx322_1 hx322_2 hx322_3 hx327_0 hx327_1 hx327_2 hx327_3 hHeld ⊢
                          refine pure_ (i := 0) (N := some 60) (v := ?_) (a' := ?_) #[true, false, false, false, false, false, false, false, false, false] rfl rfl (any_of HT_.out (by kernel_rfl)) (fun _ _ _ h => h) (Or.inl ⟨by rfl, ?_⟩) ?_ ?_
                          rotate_left
                          · intro w'
                            go_simp
                            with_reducible rfl
                          rotate_left
                          · simp only [Act.put, List.setIfInBounds_toArray, List.set_cons_zero, List.set_cons_succ, i64_w, i32_w]
                            rfl
                          refine pure_ (i := 1) (N := some 61) (v := ?_) (a' := ?_) #[true, true, false, false, false, false, false, false, false, false] rfl rfl (any_of HT_.out (by kernel_rfl)) (fun _ _ _ h => h) (Or.inl ⟨by rfl, ?_⟩) ?_ ?_
                          rotate_left
                          · intro w'
                            go_simp
                            with_reducible rfl
                          rotate_left
                          · simp only [Act.put, List.setIfInBounds_toArray, List.set_cons_zero, List.set_cons_succ, i64_w, i32_w]
                            rfl
                          refine pure_ (i := 2) (N := some 62) (v := ?_) (a' := ?_) #[true, true, true, false, false, false, false, false, false, false] rfl rfl (any_of HT_.out (by kernel_rfl)) (fun _ _ _ h => h) (Or.inl ⟨by rfl, ?_⟩) ?_ ?_
                          rotate_left
                          · intro w'
                            go_simp
                            with_reducible rfl
                          rotate_left
                          · simp only [Act.put, List.setIfInBounds_toArray, List.set_cons_zero, List.set_cons_succ, i64_w, i32_w]
                            rfl
                          refine pure_ (i := 5) (N := some 65) (v := ?_) (a' := ?_) #[true, true, true, false, false, true, false, false, false, false] rfl rfl (any_of HT_.out (by kernel_rfl)) (fun _ _ _ h => h) (Or.inl ⟨by rfl, ?_⟩) ?_ ?_
                          rotate_left
                          · intro w'
                            go_simp
                            with_reducible rfl
                          rotate_left
                          · simp only [Act.put, List.setIfInBounds_toArray, List.set_cons_zero, List.set_cons_succ, i64_w, i32_w]
                            rfl
                          refine pure_ (i := 6) (N := some 66) (v := ?_) (a' := ?_) #[true, true, true, false, false, true, true, false, false, false] rfl rfl (any_of HT_.out (by kernel_rfl)) (fun _ _ _ h => h) (Or.inl ⟨by rfl, ?_⟩) ?_ ?_
                          rotate_left
                          · intro w'
                            go_simp
                            with_reducible rfl
                          rotate_left
                          · simp only [Act.put, List.setIfInBounds_toArray, List.set_cons_zero, List.set_cons_succ, i64_w, i32_w]
                            rfl
                          refine pure_ (i := 7) (N := some 67) (v := ?_) (a' := ?_) #[true, true, true, false, false, true, true, true, false, false] rfl rfl (any_of HT_.out (by kernel_rfl)) (fun _ _ _ h => h) (Or.inl ⟨by rfl, ?_⟩) ?_ ?_
                          rotate_left
                          · intro w'
                            go_simp
                            with_reducible rfl
                          rotate_left
                          · simp only [Act.put, List.setIfInBounds_toArray, List.set_cons_zero, List.set_cons_succ, i64_w, i32_w]
                            rfl
                          refine take_ (i := 3) (N := some 63) (v := ?_) (a' := ?_) #[true, true, true, true, false, true, true, true, false, false] rfl rfl (take_ofW HT_.out HW_.out (by kernel_rfl)) (fun _ _ _ h => h) (Or.inl ⟨by rfl, ?_⟩) hHeld ?_ ?_
                          rotate_left
                          · rintro w' ⟨s0, s1, s2, s3, s4, s5, s6, s7⟩
                            go_simp
                            with_reducible rfl
                          rotate_left
                          · simp only [Act.put, List.setIfInBounds_toArray, List.set_cons_zero, List.set_cons_succ, i64_w, i32_w]
                            rfl
                          refine take_ (i := 8) (N := some 68) (v := ?_) (a' := ?_) #[true, true, true, true, false, true, true, true, true, false] rfl rfl (take_ofW HT_.out HW_.out (by kernel_rfl)) (fun _ _ _ h => h) (Or.inl ⟨by rfl, ?_⟩) hHeld ?_ ?_
                          rotate_left
                          · rintro w' ⟨s0, s1, s2, s3, s4, s5, s6, s7⟩
                            go_simp
                            with_reducible rfl
                          rotate_left
                          · simp only [Act.put, List.setIfInBounds_toArray, List.set_cons_zero, List.set_cons_succ, i64_w, i32_w]
                            rfl
                          refine one_ (i := 4) (N := some 64) #[true, true, true, true, true, true, true, true, true, false] rfl rfl (one_of HT_.out (by kernel_rfl)) (by decide) (fun K hK => ?_)
                          refine goes_ Try.func26 (by kernel_rfl) rfl #[.agg #[.int .i64 ((rd_T26 t312 x10_3).f0), .int .i64 ((rd_T26 t312 x10_3).f1), .int .i64 ((rd_T26 t312 x10_3).f2), .int .i64 ((rd_T26 t312 x10_3).f3)]] (by rfl) rfl rfl (by (try simp only [List.map_toArray, List.map_cons, List.map_nil]); first | done | rfl | (simp only [List.length_drop, List.length_take]; rfl)) ?_
                          with_reducible refine (replevinlaw16_Of.calls ((rd_T26 t312 x10_3).f0) ((rd_T26 t312 x10_3).f1) ((rd_T26 t312 x10_3).f2) ((rd_T26 t312 x10_3).f3) t323 t324 t325 t326 _ A31.out).mono ?_
                          rintro e w41 ⟨rfl, hb⟩
                          have HS0_ := (hb.cell (World.block_lt_of_cell? _ _ (hHeld.1))).trans (hHeld.1)
                          have HS1_ := (hb.cell (World.block_lt_of_cell? _ _ (hHeld.2.1))).trans (hHeld.2.1)
                          have HS2_ := (hb.cell (World.block_lt_of_cell? _ _ (hHeld.2.2.1))).trans (hHeld.2.2.1)
                          have HS3_ := (hb.cell (World.block_lt_of_cell? _ _ (hHeld.2.2.2.1))).trans (hHeld.2.2.2.1)
                          have HS4_ := (hb.cell (World.block_lt_of_cell? _ _ (hHeld.2.2.2.2.1))).trans (hHeld.2.2.2.2.1)
                          have HS5_ := (hb.cell (World.block_lt_of_cell? _ _ (hHeld.2.2.2.2.2.1))).trans (hHeld.2.2.2.2.2.1)
                          have HS6_ := (hb.cell (World.block_lt_of_cell? _ _ (hHeld.2.2.2.2.2.2.1))).trans (hHeld.2.2.2.2.2.2.1)
                          have HS7_ := (hb.cell (World.block_lt_of_cell? _ _ (hHeld.2.2.2.2.2.2.2))).trans (hHeld.2.2.2.2.2.2.2)
                          refine ⟨_, rfl, ?_⟩
                          have n0_ := Aside0.mk (Kd.R_below (by (with_reducible repeat (first | apply Kd.R_alloc | apply Kd.R_drewN | apply Kd.R_drew)); exact HO_4.out) hb)
                          have n1_ := Aside0.mk (Kd.R_below (by (with_reducible repeat (first | apply Kd.R_alloc | apply Kd.R_drewN | apply Kd.R_drew)); exact HO_7.out) hb)
                          have n2_ := Aside0.mk (below_step (by repeat (first | (with_reducible first | exact HB.out | apply below_alloc | apply pw_below_drewN | apply below_drew1) | exact HB.out)) hb)
                          clear HO_4
                          clear HO_7
                          clear HB
                          have HO_4 := n0_
                          have HO_7 := n1_
                          have HB := n2_
                          clear n0_ n1_ n2_
                          (try clear hb)
                          (try clear hb2)
                          (try clear hk)
                          (try clear hi)
                          refine hK.out _ _ ⟨HS0_, HS1_, HS2_, HS3_, HS4_, HS5_, HS6_, HS7_⟩ (fun hHeld => ?_)
                          clear hK K
                          refine norm_ (a' := ?_) ?_ ?_
                          rotate_left
                          · show Act.put _ (some 64) _ = _
                            simp only [Act.put, List.setIfInBounds_toArray, List.set_cons_zero, List.set_cons_succ, i64_w, i32_w]
                            rfl
                          refine pure_ (i := 9) (N := some 69) (v := ?_) (a' := ?_) #[true, true, true, true, true, true, true, true, true, true] rfl rfl (any_of HT_.out (by kernel_rfl)) (fun _ _ _ h => h) (Or.inl ⟨by rfl, ?_⟩) ?_ ?_
                          rotate_left
                          · intro w'
                            go_simp
                            with_reducible rfl
                          rotate_left
                          · simp only [Act.put, List.setIfInBounds_toArray, List.set_cons_zero, List.set_cons_succ, i64_w, i32_w]
                            rfl
                          refine done_ (done_of HT_.out (by kernel_rfl)) ?_
                          try go_wp2
                          go_roundg k3
                          case measure => have := HJ1.out; have := HJ11.out; have := HK3.out; omega
                          case rel => exact ⟨(wrap64 (x10_3 + 1)), (by first | rfl | (simp; done) | (simp [*]; done)), H', ⟨by have := HJ1.out; have := HJ11.out; have := HK3.out; omega⟩, ⟨by (with_reducible repeat (first | apply Kd.R_alloc | apply Kd.R_drewN | apply Kd.R_drew)); exact HO_4.out⟩, ⟨by (with_reducible repeat (first | apply Kd.R_alloc | apply Kd.R_drewN | apply Kd.R_drew)); exact HO_7.out⟩, ⟨by repeat (first | (with_reducible first | exact HB.out | apply below_alloc | apply pw_below_drewN | apply below_drew1) | exact HB.out)⟩⟩
                      · rw [if_neg c32] at H
                        exact absurd H (by simp)
                    · rw [if_neg c30] at H
                      exact absurd H (by simp)
                  · rw [if_neg c29] at H
                    have c29b0 : decide (x10_3 < (t312.length : Int)) = false := decide_eq_false c29
                    clear c29
                    obtain rfl := Option.some.inj H
                    obtain ⟨Ao42, co42, eo42⟩ := Kd.R_slice HO_4.out
                    subst eo42
                    go_wp2
                    go_ret
                    exact ⟨by first | rfl | (simp [errW_none, errW_some] <;> rfl) | (simp [*, errW_none, errW_some] <;> rfl), by repeat (first | (with_reducible first | exact HB.out | apply below_alloc | apply pw_below_drewN | apply below_drew1) | exact HB.out)⟩

/-- THE ONE PURE STATEMENT of replevinlaw16_InstrBytes: yours. -/
def replevinlaw16_InstrBytes.Pure : Prop := ∀ (l0 : List Int), l0.length ≤ maxLen → l0.length * 1 ≤ 140737488351232 → (∀ x ∈ l0, (Lit.int .u8 x).wf = true) → ∃ k, replevinlaw16_InstrBytes.f k l0 = some true
theorem replevinlaw16_InstrBytes.walk (P : replevinlaw16_InstrBytes.Pure) (a0 : Option Addr) (len0 cap0 : Nat) (z0 : List Int) (w : World) (w0 : (a0 = none ∧ len0 = 0 ∧ cap0 = 0 ∧ z0 = []) ∨ ∃ x, a0 = some x ∧ len0 ≤ cap0 ∧ cap0 ≤ maxLen ∧ z0.length = cap0 ∧ (∀ i, i < z0.length → w.cell? (x.add i) = some (.int .u8 (z0.getD i 0))) ∧ ∀ n ∈ z0, (Lit.int .u8 n).wf = true) (y0 : len0 * 1 ≤ 140737488351232) :
    Calls Try.prog 9 #[.slice a0 len0 cap0] w fun e w' => e = .returned (.bool true) ∧ Below w.heap.size w w' := by
  obtain ⟨l0, rfl, hr0, hm0, hw0, hc0⟩ := ReadsInt.ofRowC w0
  obtain ⟨k, h⟩ := P l0 hm0 y0 hw0
  refine (replevinlaw16_InstrBytes.calls k _ _ l0 true w (Kd.C_of_reads (d := (0 : Int)) (h1 := fun _ => rfl) hr0) hc0 h).mono ?_
  rintro e w' ⟨rfl, hd⟩
  exact ⟨rfl, hd⟩

end Go.Proofs.Ytdnhekgdpolenaa.Q
