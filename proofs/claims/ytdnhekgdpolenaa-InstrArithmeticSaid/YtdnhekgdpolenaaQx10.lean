/- Functions of the seat and their walks, written by a program of this session. -/
import Derived.Test.YtdnhekgdpolenaaQx0
import Derived.Test.YtdnhekgdpolenaaQx3
import Derived.Test.YtdnhekgdpolenaaQx6
import Derived.Test.YtdnhekgdpolenaaQx7
import Derived.Test.YtdnhekgdpolenaaQx8
import Derived.Test.YtdnhekgdpolenaaQx9
import Derived.Test.YtdnhekgdpolenaaHCalc
namespace Go.Proofs.Ytdnhekgdpolenaa.Q
open Go.RowKit Go.Proofs.YtdnhekgdpolenaaW.PrintWords Go.Proofs.YtdnhekgdpolenaaW.PrintLast Go.Proofs.YtdnhekgdpolenaaW.PrintMore
attribute [local go_sem] max2_int min2_int max_two min_two max_three min_three max_four min_four   -- for this text's walks alone
set_option linter.unusedVariables false
set_option linter.unusedSimpArgs false

/-! ### replevinlaw16_InstrCalculates: function 4 -/
def replevinlaw16_InstrCalculates.f (k : Nat) (a0 : Int) (a1 : Int) (a2 : Int) : Option (Bool) := (replevinlaw16_known.f k).bind fun t187 => (if t187 = true then ((instr_Calculate.f a0 a1 a2).bind fun bt188 => ((replevinref16_Calculate.f k a0 a1 a2).bind fun bt190 => (if bt188.1 = bt190.1 then (some (bt188.2 == bt190.2)) else (some false)))) else (some false))
theorem replevinlaw16_InstrCalculates.mono : ∀ a0 a1 a2 k, LeO (replevinlaw16_InstrCalculates.f k a0 a1 a2) (replevinlaw16_InstrCalculates.f (k + 1) a0 a1 a2) := by
  intro a0 a1 a2 k
  unfold replevinlaw16_InstrCalculates.f
  repeat' first
      | (with_reducible exact replevinlaw16_known.mono _)
      | (with_reducible exact replevinref16_Calculate.mono _ _ _ _)
      | (with_reducible exact LeO.refl _)
      | (with_reducible exact LeO.none _)
      | (with_reducible refine LeO.ite ?_ ?_)
      | (with_reducible refine LeO.bind ?_ (fun _ => ?_))
      | exact replevinlaw16_known.mono _
      | exact replevinref16_Calculate.mono _ _ _ _
      | exact LeO.none _
      | refine LeO.ite ?_ ?_
      | refine LeO.bind ?_ (fun _ => ?_)
set_option maxHeartbeats 8000000 in
set_option maxRecDepth 100000 in
theorem replevinlaw16_InstrCalculates.calls (k : Nat) (a0 : Int) (a1 : Int) (a2 : Int) (r : Bool) (w : World) (h : replevinlaw16_InstrCalculates.f k a0 a1 a2 = some r) :
    Calls Try.prog 4 #[.int .i64 a0, .int .u32 a1, .int .u32 a2] w fun e w' => e = .returned (.bool r) ∧ Below w.heap.size w w' := by
  have HB := Aside0.mk (Below.refl w.heap.size w)
  have H : ((replevinlaw16_known.f k).bind fun t187 => (if t187 = true then ((instr_Calculate.f a0 a1 a2).bind fun bt188 => ((replevinref16_Calculate.f k a0 a1 a2).bind fun bt190 => (if bt188.1 = bt190.1 then (some (bt188.2 == bt190.2)) else (some false)))) else (some false))) = some r := h
  clear h
  replace H := Option.bind_eq_some_iff.mp H
  obtain ⟨t187, A40, H⟩ := H
  replace H : (if t187 = true then ((instr_Calculate.f a0 a1 a2).bind fun bt188 => ((replevinref16_Calculate.f k a0 a1 a2).bind fun bt190 => (if bt188.1 = bt190.1 then (some (bt188.2 == bt190.2)) else (some false)))) else (some false)) = some r := H
  have A4 := Aside0.mk A40
  clear A40
  by_cases c5 : t187 = true
  · subst c5
    have H1 : ((instr_Calculate.f a0 a1 a2).bind fun bt188 => ((replevinref16_Calculate.f k a0 a1 a2).bind fun bt190 => (if bt188.1 = bt190.1 then (some (bt188.2 == bt190.2)) else (some false)))) = some r := by rw [if_pos rfl] at H; exact H
    clear H
    have H := H1
    clear H1
    replace H := Option.bind_eq_some_iff.mp H
    obtain ⟨⟨t188, t189⟩, A60, H⟩ := H
    replace H : ((replevinref16_Calculate.f k a0 a1 a2).bind fun bt190 => (if t188 = bt190.1 then (some (t189 == bt190.2)) else (some false))) = some r := H
    have A6 := Aside0.mk A60
    clear A60
    replace H := Option.bind_eq_some_iff.mp H
    obtain ⟨⟨t190, t191⟩, A70, H⟩ := H
    replace H : (if t188 = t190 then (some (t189 == t191)) else (some false)) = some r := H
    have A7 := Aside0.mk A70
    clear A70
    by_cases c8 : t188 = t190
    · rw [if_pos c8] at H
      have c8b0 : (t188 == t190) = true := beq_iff_eq.mpr c8
      have c8b1 : (t188 != t190) = false := bne_eq_false_iff_eq.mpr c8
      clear c8
      obtain rfl := Option.some.inj H
      go_enter Try.func4, Try.ntmps4
      go_wp2_with (first | ((with_reducible refine gate_callee (f := 13) rfl ?_); refine goesL_ (some 11) rfl rfl Try.func13 (by kernel_rfl) rfl #[] rfl (by (try simp only [List.map_toArray, List.map_cons, List.map_nil]); first | done | rfl | (simp only [List.length_drop, List.length_take]; rfl)) ?_; (with_reducible refine (replevinlaw16_known.calls k  true _ A4.out).mono ?_); rintro e w9 ⟨rfl, hb⟩; refine ⟨_, rfl, ?_⟩; have n0_ := Aside0.mk (below_step (by repeat (first | (with_reducible first | exact HB.out | apply below_alloc | apply pw_below_drewN | apply below_drew1) | exact HB.out)) hb); clear HB; have HB := n0_; clear n0_; (try clear hb); (try clear hb2); (try clear hk); (try clear hi)) | ((with_reducible refine gate_callee (f := 17) rfl ?_); refine goesL_ (some 17) rfl rfl Try.func17 (by kernel_rfl) rfl #[.int .i64 a0, .int .u32 a1, .int .u32 a2] rfl (by (try simp only [List.map_toArray, List.map_cons, List.map_nil]); first | done | rfl | (simp only [List.length_drop, List.length_take]; rfl)) ?_; (with_reducible refine (instr_Calculate.calls a0 a1 a2 t188 t189 _ A6.out).mono ?_); rintro e w10 ⟨rfl, hb⟩; refine ⟨_, rfl, ?_⟩; have n0_ := Aside0.mk (below_step (by repeat (first | (with_reducible first | exact HB.out | apply below_alloc | apply pw_below_drewN | apply below_drew1) | exact HB.out)) hb); clear HB; have HB := n0_; clear n0_; (try clear hb); (try clear hb2); (try clear hk); (try clear hi)) | ((with_reducible refine gate_callee (f := 18) rfl ?_); refine goesL_ (some 24) rfl rfl Try.func18 (by kernel_rfl) rfl #[.int .i64 a0, .int .u32 a1, .int .u32 a2] rfl (by (try simp only [List.map_toArray, List.map_cons, List.map_nil]); first | done | rfl | (simp only [List.length_drop, List.length_take]; rfl)) ?_; (with_reducible refine (replevinref16_Calculate.calls k a0 a1 a2 t190 t191 _ A7.out).mono ?_); rintro e w' ⟨rfl, ⟨nd, rfl⟩⟩; refine ⟨_, rfl, ?_⟩))
      go_ret
      exact ⟨by first | rfl | (simp [errW_none, errW_some] <;> rfl) | (simp [*, errW_none, errW_some] <;> rfl), by repeat (first | (with_reducible first | exact HB.out | apply below_alloc | apply pw_below_drewN | apply below_drew1) | exact HB.out)⟩
    · rw [if_neg c8] at H
      have c8b0 : (t188 == t190) = false := beq_eq_false_iff_ne.mpr c8
      have c8b1 : (t188 != t190) = true := bne_iff_ne.mpr c8
      obtain rfl := Option.some.inj H
      go_enter Try.func4, Try.ntmps4
      go_wp2_with (first | ((with_reducible refine gate_callee (f := 13) rfl ?_); refine goesL_ (some 11) rfl rfl Try.func13 (by kernel_rfl) rfl #[] rfl (by (try simp only [List.map_toArray, List.map_cons, List.map_nil]); first | done | rfl | (simp only [List.length_drop, List.length_take]; rfl)) ?_; (with_reducible refine (replevinlaw16_known.calls k  true _ A4.out).mono ?_); rintro e w11 ⟨rfl, hb⟩; refine ⟨_, rfl, ?_⟩; have n0_ := Aside0.mk (below_step (by repeat (first | (with_reducible first | exact HB.out | apply below_alloc | apply pw_below_drewN | apply below_drew1) | exact HB.out)) hb); clear HB; have HB := n0_; clear n0_; (try clear hb); (try clear hb2); (try clear hk); (try clear hi)) | ((with_reducible refine gate_callee (f := 17) rfl ?_); refine goesL_ (some 17) rfl rfl Try.func17 (by kernel_rfl) rfl #[.int .i64 a0, .int .u32 a1, .int .u32 a2] rfl (by (try simp only [List.map_toArray, List.map_cons, List.map_nil]); first | done | rfl | (simp only [List.length_drop, List.length_take]; rfl)) ?_; (with_reducible refine (instr_Calculate.calls a0 a1 a2 t188 t189 _ A6.out).mono ?_); rintro e w12 ⟨rfl, hb⟩; refine ⟨_, rfl, ?_⟩; have n0_ := Aside0.mk (below_step (by repeat (first | (with_reducible first | exact HB.out | apply below_alloc | apply pw_below_drewN | apply below_drew1) | exact HB.out)) hb); clear HB; have HB := n0_; clear n0_; (try clear hb); (try clear hb2); (try clear hk); (try clear hi)) | ((with_reducible refine gate_callee (f := 18) rfl ?_); refine goesL_ (some 24) rfl rfl Try.func18 (by kernel_rfl) rfl #[.int .i64 a0, .int .u32 a1, .int .u32 a2] rfl (by (try simp only [List.map_toArray, List.map_cons, List.map_nil]); first | done | rfl | (simp only [List.length_drop, List.length_take]; rfl)) ?_; (with_reducible refine (replevinref16_Calculate.calls k a0 a1 a2 t190 t191 _ A7.out).mono ?_); rintro e w' ⟨rfl, ⟨nd, rfl⟩⟩; refine ⟨_, rfl, ?_⟩))
      go_ret
      exact ⟨by first | rfl | (simp [errW_none, errW_some] <;> rfl) | (simp [*, errW_none, errW_some] <;> rfl), by repeat (first | (with_reducible first | exact HB.out | apply below_alloc | apply pw_below_drewN | apply below_drew1) | exact HB.out)⟩
  · replace c5 := Bool.eq_false_iff.mpr c5
    subst c5
    have H1 : (some false) = some r := by rw [if_neg (show ¬ (false = true) by decide)] at H; exact H
    clear H
    have H := H1
    clear H1
    obtain rfl := Option.some.inj H
    go_enter Try.func4, Try.ntmps4
    go_wp2_with (first | ((with_reducible refine gate_callee (f := 13) rfl ?_); refine goesL_ (some 11) rfl rfl Try.func13 (by kernel_rfl) rfl #[] rfl (by (try simp only [List.map_toArray, List.map_cons, List.map_nil]); first | done | rfl | (simp only [List.length_drop, List.length_take]; rfl)) ?_; (with_reducible refine (replevinlaw16_known.calls k  false _ A4.out).mono ?_); rintro e w13 ⟨rfl, hb⟩; refine ⟨_, rfl, ?_⟩; have n0_ := Aside0.mk (below_step (by repeat (first | (with_reducible first | exact HB.out | apply below_alloc | apply pw_below_drewN | apply below_drew1) | exact HB.out)) hb); clear HB; have HB := n0_; clear n0_; (try clear hb); (try clear hb2); (try clear hk); (try clear hi)))
    go_ret
    exact ⟨by first | rfl | (simp [errW_none, errW_some] <;> rfl) | (simp [*, errW_none, errW_some] <;> rfl), by repeat (first | (with_reducible first | exact HB.out | apply below_alloc | apply pw_below_drewN | apply below_drew1) | exact HB.out)⟩

/-- THE ONE PURE STATEMENT of replevinlaw16_InstrCalculates: yours. -/
def replevinlaw16_InstrCalculates.Pure : Prop := ∀ (a0 : Int) (a1 : Int) (a2 : Int), (Lit.int .i64 a0).wf = true → (Lit.int .u32 a1).wf = true → (Lit.int .u32 a2).wf = true → ∃ k, replevinlaw16_InstrCalculates.f k a0 a1 a2 = some true
theorem replevinlaw16_InstrCalculates.walk (P : replevinlaw16_InstrCalculates.Pure) (a0 : Int) (a1 : Int) (a2 : Int) (w : World) (w0 : (Lit.int .i64 a0).wf = true) (w1 : (Lit.int .u32 a1).wf = true) (w2 : (Lit.int .u32 a2).wf = true) :
    Calls Try.prog 4 #[.int .i64 a0, .int .u32 a1, .int .u32 a2] w fun e w' => e = .returned (.bool true) ∧ Below w.heap.size w w' := by
  obtain ⟨k, h⟩ := P a0 a1 a2 w0 w1 w2
  refine (replevinlaw16_InstrCalculates.calls k a0 a1 a2 true w h).mono ?_
  rintro e w' ⟨rfl, hd⟩
  exact ⟨rfl, hd⟩

/-! ### replevinlaw16_InstrArithmetic: function 5 -/
def replevinlaw16_InstrArithmetic.j0 : Nat → Int → Int → Bool → Option (Bool)
  | 0, _, _, _ => none
  | k + 1, x0, x1, x103 => if x103 = true then (some false) else ((instr_Calculate.f 7 x0 x1).bind fun bt207 => ((instr_Calculate.f 8 x0 x1).bind fun bt209 => (if x1 = 0 then (if bt207.2 = 38 then (some (bt209.2 == 38)) else (some false)) else ((instr_Calculate.f 6 bt207.1 x1).bind fun bt211 => ((instr_Calculate.f 4 bt211.1 bt209.1).bind fun bt213 => (if bt207.2 = 0 then (if bt209.2 = 0 then (if bt211.2 = 0 then (if bt213.2 = 0 then (some (bt213.1 == x0)) else (some false)) else (some false)) else (some false)) else (some false)))))))
def replevinlaw16_InstrArithmetic.f (k : Nat) (a0 : Int) (a1 : Int) : Option (Bool) := (replevinlaw16_known.f k).bind fun t192 => (if t192 = true then ((instr_Calculate.f 4 a0 a1).bind fun bt193 => ((instr_Calculate.f 5 bt193.1 a1).bind fun bt195 => ((instr_Calculate.f 11 a0 a1).bind fun bt197 => ((instr_Calculate.f 11 bt197.1 a1).bind fun bt199 => ((instr_Calculate.f 14 a0 a1).bind fun bt201 => (if bt193.2 = 0 then (if bt195.2 = 0 then (if bt197.2 = 0 then (if bt199.2 = 0 then (if bt201.2 = 0 then (if bt195.1 = a0 then (if bt199.1 = a0 then ((instr_Signed.f a0).bind fun t203 => ((instr_Signed.f a1).bind fun t204 => (if ((bt201.1 == 1) != (decide (t203 < t204))) = true then (replevinlaw16_InstrArithmetic.j0 k a0 a1 true) else (if bt201.1 > 1 then (replevinlaw16_InstrArithmetic.j0 k a0 a1 true) else ((instr_Signed.f a0).bind fun t205 => ((instr_Unsigned.f t205).bind fun t206 => (replevinlaw16_InstrArithmetic.j0 k a0 a1 (t206 != a0)))))))) else (replevinlaw16_InstrArithmetic.j0 k a0 a1 true)) else (replevinlaw16_InstrArithmetic.j0 k a0 a1 true)) else (replevinlaw16_InstrArithmetic.j0 k a0 a1 true)) else (replevinlaw16_InstrArithmetic.j0 k a0 a1 true)) else (replevinlaw16_InstrArithmetic.j0 k a0 a1 true)) else (replevinlaw16_InstrArithmetic.j0 k a0 a1 true)) else (replevinlaw16_InstrArithmetic.j0 k a0 a1 true))))))) else (some false))
theorem replevinlaw16_InstrArithmetic.mono_l : ∀ k, (∀ y0 y1 y2, LeO (replevinlaw16_InstrArithmetic.j0 k y0 y1 y2) (replevinlaw16_InstrArithmetic.j0 (k + 1) y0 y1 y2))
  | 0 => fun _ _ _ r h => by simp [replevinlaw16_InstrArithmetic.j0] at h
  | k + 1 => by
    have ih0 := replevinlaw16_InstrArithmetic.mono_l k
    · intro y0 y1 y2
      unfold replevinlaw16_InstrArithmetic.j0
      repeat' first
      | (with_reducible exact ih0 _ _ _)
      | (with_reducible exact replevinlaw16_known.mono _)
      | (with_reducible exact LeO.refl _)
      | (with_reducible exact LeO.none _)
      | (with_reducible refine LeO.ite ?_ ?_)
      | (with_reducible refine LeO.bind ?_ (fun _ => ?_))
      | exact ih0 _ _ _
      | exact replevinlaw16_known.mono _
      | exact LeO.none _
      | refine LeO.ite ?_ ?_
      | refine LeO.bind ?_ (fun _ => ?_)
theorem replevinlaw16_InstrArithmetic.mono : ∀ a0 a1 k, LeO (replevinlaw16_InstrArithmetic.f k a0 a1) (replevinlaw16_InstrArithmetic.f (k + 1) a0 a1) := by
  intro a0 a1 k
  have ih0 := replevinlaw16_InstrArithmetic.mono_l k
  unfold replevinlaw16_InstrArithmetic.f
  repeat' first
      | (with_reducible exact ih0 _ _ _)
      | (with_reducible exact replevinlaw16_known.mono _)
      | (with_reducible exact LeO.refl _)
      | (with_reducible exact LeO.none _)
      | (with_reducible refine LeO.ite ?_ ?_)
      | (with_reducible refine LeO.bind ?_ (fun _ => ?_))
      | exact ih0 _ _ _
      | exact replevinlaw16_known.mono _
      | exact LeO.none _
      | refine LeO.ite ?_ ?_
      | refine LeO.bind ?_ (fun _ => ?_)
set_option maxHeartbeats 8000000 in
set_option maxRecDepth 100000 in
theorem replevinlaw16_InstrArithmetic.calls (k : Nat) (a0 : Int) (a1 : Int) (r : Bool) (w : World) (h : replevinlaw16_InstrArithmetic.f k a0 a1 = some r) :
    Calls Try.prog 5 #[.int .u32 a0, .int .u32 a1] w fun e w' => e = .returned (.bool r) ∧ Below w.heap.size w w' := by
  have HB := Aside0.mk (Below.refl w.heap.size w)
  have H : ((replevinlaw16_known.f k).bind fun t192 => (if t192 = true then ((instr_Calculate.f 4 a0 a1).bind fun bt193 => ((instr_Calculate.f 5 bt193.1 a1).bind fun bt195 => ((instr_Calculate.f 11 a0 a1).bind fun bt197 => ((instr_Calculate.f 11 bt197.1 a1).bind fun bt199 => ((instr_Calculate.f 14 a0 a1).bind fun bt201 => (if bt193.2 = 0 then (if bt195.2 = 0 then (if bt197.2 = 0 then (if bt199.2 = 0 then (if bt201.2 = 0 then (if bt195.1 = a0 then (if bt199.1 = a0 then ((instr_Signed.f a0).bind fun t203 => ((instr_Signed.f a1).bind fun t204 => (if ((bt201.1 == 1) != (decide (t203 < t204))) = true then (replevinlaw16_InstrArithmetic.j0 k a0 a1 true) else (if bt201.1 > 1 then (replevinlaw16_InstrArithmetic.j0 k a0 a1 true) else ((instr_Signed.f a0).bind fun t205 => ((instr_Unsigned.f t205).bind fun t206 => (replevinlaw16_InstrArithmetic.j0 k a0 a1 (t206 != a0)))))))) else (replevinlaw16_InstrArithmetic.j0 k a0 a1 true)) else (replevinlaw16_InstrArithmetic.j0 k a0 a1 true)) else (replevinlaw16_InstrArithmetic.j0 k a0 a1 true)) else (replevinlaw16_InstrArithmetic.j0 k a0 a1 true)) else (replevinlaw16_InstrArithmetic.j0 k a0 a1 true)) else (replevinlaw16_InstrArithmetic.j0 k a0 a1 true)) else (replevinlaw16_InstrArithmetic.j0 k a0 a1 true))))))) else (some false))) = some r := h
  clear h
  replace H := Option.bind_eq_some_iff.mp H
  obtain ⟨t192, A30, H⟩ := H
  replace H : (if t192 = true then ((instr_Calculate.f 4 a0 a1).bind fun bt193 => ((instr_Calculate.f 5 bt193.1 a1).bind fun bt195 => ((instr_Calculate.f 11 a0 a1).bind fun bt197 => ((instr_Calculate.f 11 bt197.1 a1).bind fun bt199 => ((instr_Calculate.f 14 a0 a1).bind fun bt201 => (if bt193.2 = 0 then (if bt195.2 = 0 then (if bt197.2 = 0 then (if bt199.2 = 0 then (if bt201.2 = 0 then (if bt195.1 = a0 then (if bt199.1 = a0 then ((instr_Signed.f a0).bind fun t203 => ((instr_Signed.f a1).bind fun t204 => (if ((bt201.1 == 1) != (decide (t203 < t204))) = true then (replevinlaw16_InstrArithmetic.j0 k a0 a1 true) else (if bt201.1 > 1 then (replevinlaw16_InstrArithmetic.j0 k a0 a1 true) else ((instr_Signed.f a0).bind fun t205 => ((instr_Unsigned.f t205).bind fun t206 => (replevinlaw16_InstrArithmetic.j0 k a0 a1 (t206 != a0)))))))) else (replevinlaw16_InstrArithmetic.j0 k a0 a1 true)) else (replevinlaw16_InstrArithmetic.j0 k a0 a1 true)) else (replevinlaw16_InstrArithmetic.j0 k a0 a1 true)) else (replevinlaw16_InstrArithmetic.j0 k a0 a1 true)) else (replevinlaw16_InstrArithmetic.j0 k a0 a1 true)) else (replevinlaw16_InstrArithmetic.j0 k a0 a1 true)) else (replevinlaw16_InstrArithmetic.j0 k a0 a1 true))))))) else (some false)) = some r := H
  have A3 := Aside0.mk A30
  clear A30
  by_cases c4 : t192 = true
  · subst c4
    have H1 : ((instr_Calculate.f 4 a0 a1).bind fun bt193 => ((instr_Calculate.f 5 bt193.1 a1).bind fun bt195 => ((instr_Calculate.f 11 a0 a1).bind fun bt197 => ((instr_Calculate.f 11 bt197.1 a1).bind fun bt199 => ((instr_Calculate.f 14 a0 a1).bind fun bt201 => (if bt193.2 = 0 then (if bt195.2 = 0 then (if bt197.2 = 0 then (if bt199.2 = 0 then (if bt201.2 = 0 then (if bt195.1 = a0 then (if bt199.1 = a0 then ((instr_Signed.f a0).bind fun t203 => ((instr_Signed.f a1).bind fun t204 => (if ((bt201.1 == 1) != (decide (t203 < t204))) = true then (replevinlaw16_InstrArithmetic.j0 k a0 a1 true) else (if bt201.1 > 1 then (replevinlaw16_InstrArithmetic.j0 k a0 a1 true) else ((instr_Signed.f a0).bind fun t205 => ((instr_Unsigned.f t205).bind fun t206 => (replevinlaw16_InstrArithmetic.j0 k a0 a1 (t206 != a0)))))))) else (replevinlaw16_InstrArithmetic.j0 k a0 a1 true)) else (replevinlaw16_InstrArithmetic.j0 k a0 a1 true)) else (replevinlaw16_InstrArithmetic.j0 k a0 a1 true)) else (replevinlaw16_InstrArithmetic.j0 k a0 a1 true)) else (replevinlaw16_InstrArithmetic.j0 k a0 a1 true)) else (replevinlaw16_InstrArithmetic.j0 k a0 a1 true)) else (replevinlaw16_InstrArithmetic.j0 k a0 a1 true))))))) = some r := by rw [if_pos rfl] at H; exact H
    clear H
    have H := H1
    clear H1
    replace H := Option.bind_eq_some_iff.mp H
    obtain ⟨⟨t193, t194⟩, A50, H⟩ := H
    replace H : ((instr_Calculate.f 5 t193 a1).bind fun bt195 => ((instr_Calculate.f 11 a0 a1).bind fun bt197 => ((instr_Calculate.f 11 bt197.1 a1).bind fun bt199 => ((instr_Calculate.f 14 a0 a1).bind fun bt201 => (if t194 = 0 then (if bt195.2 = 0 then (if bt197.2 = 0 then (if bt199.2 = 0 then (if bt201.2 = 0 then (if bt195.1 = a0 then (if bt199.1 = a0 then ((instr_Signed.f a0).bind fun t203 => ((instr_Signed.f a1).bind fun t204 => (if ((bt201.1 == 1) != (decide (t203 < t204))) = true then (replevinlaw16_InstrArithmetic.j0 k a0 a1 true) else (if bt201.1 > 1 then (replevinlaw16_InstrArithmetic.j0 k a0 a1 true) else ((instr_Signed.f a0).bind fun t205 => ((instr_Unsigned.f t205).bind fun t206 => (replevinlaw16_InstrArithmetic.j0 k a0 a1 (t206 != a0)))))))) else (replevinlaw16_InstrArithmetic.j0 k a0 a1 true)) else (replevinlaw16_InstrArithmetic.j0 k a0 a1 true)) else (replevinlaw16_InstrArithmetic.j0 k a0 a1 true)) else (replevinlaw16_InstrArithmetic.j0 k a0 a1 true)) else (replevinlaw16_InstrArithmetic.j0 k a0 a1 true)) else (replevinlaw16_InstrArithmetic.j0 k a0 a1 true)) else (replevinlaw16_InstrArithmetic.j0 k a0 a1 true)))))) = some r := H
    have A5 := Aside0.mk A50
    clear A50
    replace H := Option.bind_eq_some_iff.mp H
    obtain ⟨⟨t195, t196⟩, A60, H⟩ := H
    replace H : ((instr_Calculate.f 11 a0 a1).bind fun bt197 => ((instr_Calculate.f 11 bt197.1 a1).bind fun bt199 => ((instr_Calculate.f 14 a0 a1).bind fun bt201 => (if t194 = 0 then (if t196 = 0 then (if bt197.2 = 0 then (if bt199.2 = 0 then (if bt201.2 = 0 then (if t195 = a0 then (if bt199.1 = a0 then ((instr_Signed.f a0).bind fun t203 => ((instr_Signed.f a1).bind fun t204 => (if ((bt201.1 == 1) != (decide (t203 < t204))) = true then (replevinlaw16_InstrArithmetic.j0 k a0 a1 true) else (if bt201.1 > 1 then (replevinlaw16_InstrArithmetic.j0 k a0 a1 true) else ((instr_Signed.f a0).bind fun t205 => ((instr_Unsigned.f t205).bind fun t206 => (replevinlaw16_InstrArithmetic.j0 k a0 a1 (t206 != a0)))))))) else (replevinlaw16_InstrArithmetic.j0 k a0 a1 true)) else (replevinlaw16_InstrArithmetic.j0 k a0 a1 true)) else (replevinlaw16_InstrArithmetic.j0 k a0 a1 true)) else (replevinlaw16_InstrArithmetic.j0 k a0 a1 true)) else (replevinlaw16_InstrArithmetic.j0 k a0 a1 true)) else (replevinlaw16_InstrArithmetic.j0 k a0 a1 true)) else (replevinlaw16_InstrArithmetic.j0 k a0 a1 true))))) = some r := H
    have A6 := Aside0.mk A60
    clear A60
    replace H := Option.bind_eq_some_iff.mp H
    obtain ⟨⟨t197, t198⟩, A70, H⟩ := H
    replace H : ((instr_Calculate.f 11 t197 a1).bind fun bt199 => ((instr_Calculate.f 14 a0 a1).bind fun bt201 => (if t194 = 0 then (if t196 = 0 then (if t198 = 0 then (if bt199.2 = 0 then (if bt201.2 = 0 then (if t195 = a0 then (if bt199.1 = a0 then ((instr_Signed.f a0).bind fun t203 => ((instr_Signed.f a1).bind fun t204 => (if ((bt201.1 == 1) != (decide (t203 < t204))) = true then (replevinlaw16_InstrArithmetic.j0 k a0 a1 true) else (if bt201.1 > 1 then (replevinlaw16_InstrArithmetic.j0 k a0 a1 true) else ((instr_Signed.f a0).bind fun t205 => ((instr_Unsigned.f t205).bind fun t206 => (replevinlaw16_InstrArithmetic.j0 k a0 a1 (t206 != a0)))))))) else (replevinlaw16_InstrArithmetic.j0 k a0 a1 true)) else (replevinlaw16_InstrArithmetic.j0 k a0 a1 true)) else (replevinlaw16_InstrArithmetic.j0 k a0 a1 true)) else (replevinlaw16_InstrArithmetic.j0 k a0 a1 true)) else (replevinlaw16_InstrArithmetic.j0 k a0 a1 true)) else (replevinlaw16_InstrArithmetic.j0 k a0 a1 true)) else (replevinlaw16_InstrArithmetic.j0 k a0 a1 true)))) = some r := H
    have A7 := Aside0.mk A70
    clear A70
    replace H := Option.bind_eq_some_iff.mp H
    obtain ⟨⟨t199, t200⟩, A80, H⟩ := H
    replace H : ((instr_Calculate.f 14 a0 a1).bind fun bt201 => (if t194 = 0 then (if t196 = 0 then (if t198 = 0 then (if t200 = 0 then (if bt201.2 = 0 then (if t195 = a0 then (if t199 = a0 then ((instr_Signed.f a0).bind fun t203 => ((instr_Signed.f a1).bind fun t204 => (if ((bt201.1 == 1) != (decide (t203 < t204))) = true then (replevinlaw16_InstrArithmetic.j0 k a0 a1 true) else (if bt201.1 > 1 then (replevinlaw16_InstrArithmetic.j0 k a0 a1 true) else ((instr_Signed.f a0).bind fun t205 => ((instr_Unsigned.f t205).bind fun t206 => (replevinlaw16_InstrArithmetic.j0 k a0 a1 (t206 != a0)))))))) else (replevinlaw16_InstrArithmetic.j0 k a0 a1 true)) else (replevinlaw16_InstrArithmetic.j0 k a0 a1 true)) else (replevinlaw16_InstrArithmetic.j0 k a0 a1 true)) else (replevinlaw16_InstrArithmetic.j0 k a0 a1 true)) else (replevinlaw16_InstrArithmetic.j0 k a0 a1 true)) else (replevinlaw16_InstrArithmetic.j0 k a0 a1 true)) else (replevinlaw16_InstrArithmetic.j0 k a0 a1 true))) = some r := H
    have A8 := Aside0.mk A80
    clear A80
    replace H := Option.bind_eq_some_iff.mp H
    obtain ⟨⟨t201, t202⟩, A90, H⟩ := H
    replace H : (if t194 = 0 then (if t196 = 0 then (if t198 = 0 then (if t200 = 0 then (if t202 = 0 then (if t195 = a0 then (if t199 = a0 then ((instr_Signed.f a0).bind fun t203 => ((instr_Signed.f a1).bind fun t204 => (if ((t201 == 1) != (decide (t203 < t204))) = true then (replevinlaw16_InstrArithmetic.j0 k a0 a1 true) else (if t201 > 1 then (replevinlaw16_InstrArithmetic.j0 k a0 a1 true) else ((instr_Signed.f a0).bind fun t205 => ((instr_Unsigned.f t205).bind fun t206 => (replevinlaw16_InstrArithmetic.j0 k a0 a1 (t206 != a0)))))))) else (replevinlaw16_InstrArithmetic.j0 k a0 a1 true)) else (replevinlaw16_InstrArithmetic.j0 k a0 a1 true)) else (replevinlaw16_InstrArithmetic.j0 k a0 a1 true)) else (replevinlaw16_InstrArithmetic.j0 k a0 a1 true)) else (replevinlaw16_InstrArithmetic.j0 k a0 a1 true)) else (replevinlaw16_InstrArithmetic.j0 k a0 a1 true)) else (replevinlaw16_InstrArithmetic.j0 k a0 a1 true)) = some r := H
    have A9 := Aside0.mk A90
    clear A90
    have HC10 := Aside0.mk H
    clear H
    go_enter Try.func5, Try.ntmps5
    go_upto_region 8 with (first | ((with_reducible refine gate_callee (f := 13) rfl ?_); refine goesL_ (some 23) rfl rfl Try.func13 (by kernel_rfl) rfl #[] rfl (by (try simp only [List.map_toArray, List.map_cons, List.map_nil]); first | done | rfl | (simp only [List.length_drop, List.length_take]; rfl)) ?_; (with_reducible refine (replevinlaw16_known.calls k  true _ A3.out).mono ?_); rintro e w11 ⟨rfl, hb⟩; refine ⟨_, rfl, ?_⟩; have n0_ := Aside0.mk (below_step (by repeat (first | (with_reducible first | exact HB.out | apply below_alloc | apply pw_below_drewN | apply below_drew1) | exact HB.out)) hb); clear HB; have HB := n0_; clear n0_; (try clear hb); (try clear hb2); (try clear hk); (try clear hi)) | ((with_reducible refine gate_callee (f := 17) rfl ?_); refine goesL_ (some 28) rfl rfl Try.func17 (by kernel_rfl) rfl #[.int .i64 4, .int .u32 a0, .int .u32 a1] rfl (by (try simp only [List.map_toArray, List.map_cons, List.map_nil]); first | done | rfl | (simp only [List.length_drop, List.length_take]; rfl)) ?_; (with_reducible refine (instr_Calculate.calls 4 a0 a1 t193 t194 _ A5.out).mono ?_); rintro e w12 ⟨rfl, hb⟩; refine ⟨_, rfl, ?_⟩; have n0_ := Aside0.mk (below_step (by repeat (first | (with_reducible first | exact HB.out | apply below_alloc | apply pw_below_drewN | apply below_drew1) | exact HB.out)) hb); clear HB; have HB := n0_; clear n0_; (try clear hb); (try clear hb2); (try clear hk); (try clear hi)) | ((with_reducible refine gate_callee (f := 17) rfl ?_); refine goesL_ (some 34) rfl rfl Try.func17 (by kernel_rfl) rfl #[.int .i64 5, .int .u32 t193, .int .u32 a1] rfl (by (try simp only [List.map_toArray, List.map_cons, List.map_nil]); first | done | rfl | (simp only [List.length_drop, List.length_take]; rfl)) ?_; (with_reducible refine (instr_Calculate.calls 5 t193 a1 t195 t196 _ A6.out).mono ?_); rintro e w13 ⟨rfl, hb⟩; refine ⟨_, rfl, ?_⟩; have n0_ := Aside0.mk (below_step (by repeat (first | (with_reducible first | exact HB.out | apply below_alloc | apply pw_below_drewN | apply below_drew1) | exact HB.out)) hb); clear HB; have HB := n0_; clear n0_; (try clear hb); (try clear hb2); (try clear hk); (try clear hi)) | ((with_reducible refine gate_callee (f := 17) rfl ?_); refine goesL_ (some 40) rfl rfl Try.func17 (by kernel_rfl) rfl #[.int .i64 11, .int .u32 a0, .int .u32 a1] rfl (by (try simp only [List.map_toArray, List.map_cons, List.map_nil]); first | done | rfl | (simp only [List.length_drop, List.length_take]; rfl)) ?_; (with_reducible refine (instr_Calculate.calls 11 a0 a1 t197 t198 _ A7.out).mono ?_); rintro e w14 ⟨rfl, hb⟩; refine ⟨_, rfl, ?_⟩; have n0_ := Aside0.mk (below_step (by repeat (first | (with_reducible first | exact HB.out | apply below_alloc | apply pw_below_drewN | apply below_drew1) | exact HB.out)) hb); clear HB; have HB := n0_; clear n0_; (try clear hb); (try clear hb2); (try clear hk); (try clear hi)) | ((with_reducible refine gate_callee (f := 17) rfl ?_); refine goesL_ (some 46) rfl rfl Try.func17 (by kernel_rfl) rfl #[.int .i64 11, .int .u32 t197, .int .u32 a1] rfl (by (try simp only [List.map_toArray, List.map_cons, List.map_nil]); first | done | rfl | (simp only [List.length_drop, List.length_take]; rfl)) ?_; (with_reducible refine (instr_Calculate.calls 11 t197 a1 t199 t200 _ A8.out).mono ?_); rintro e w15 ⟨rfl, hb⟩; refine ⟨_, rfl, ?_⟩; have n0_ := Aside0.mk (below_step (by repeat (first | (with_reducible first | exact HB.out | apply below_alloc | apply pw_below_drewN | apply below_drew1) | exact HB.out)) hb); clear HB; have HB := n0_; clear n0_; (try clear hb); (try clear hb2); (try clear hk); (try clear hi)) | ((with_reducible refine gate_callee (f := 17) rfl ?_); refine goesL_ (some 52) rfl rfl Try.func17 (by kernel_rfl) rfl #[.int .i64 14, .int .u32 a0, .int .u32 a1] rfl (by (try simp only [List.map_toArray, List.map_cons, List.map_nil]); first | done | rfl | (simp only [List.length_drop, List.length_take]; rfl)) ?_; (with_reducible refine (instr_Calculate.calls 14 a0 a1 t201 t202 _ A9.out).mono ?_); rintro e w16 ⟨rfl, hb⟩; refine ⟨_, rfl, ?_⟩; have n0_ := Aside0.mk (below_step (by repeat (first | (with_reducible first | exact HB.out | apply below_alloc | apply pw_below_drewN | apply below_drew1) | exact HB.out)) hb); clear HB; have HB := n0_; clear n0_; (try clear hb); (try clear hb2); (try clear hk); (try clear hi)))
    (try simp only [Act.put, List.setIfInBounds_toArray, List.set_cons_zero, List.set_cons_succ])
    go_cut [103] (fun v103 wc => ∃ (kq : Nat) (x103_9 : Bool), v103 = .bool x103_9 ∧ Aside0 (replevinlaw16_InstrArithmetic.j0 kq a0 a1 x103_9 = some r) ∧ Aside0 (kq ≤ k) ∧ Aside0 (Below w.heap.size w wc))
    case first =>
      have H := HC10.out
      clear HC10
      by_cases c17 : t194 = 0
      · rw [if_pos c17] at H
        have c17b0 : (t194 == 0) = true := beq_iff_eq.mpr c17
        have c17b1 : (t194 != 0) = false := bne_eq_false_iff_eq.mpr c17
        clear c17
        (first | rw [c17b0] | (simp only [i64_w, i32_w]; rw [c17b0]) | skip)
        by_cases c18 : t196 = 0
        · rw [if_pos c18] at H
          have c18b0 : (t196 == 0) = true := beq_iff_eq.mpr c18
          have c18b1 : (t196 != 0) = false := bne_eq_false_iff_eq.mpr c18
          clear c18
          by_cases c19 : t198 = 0
          · rw [if_pos c19] at H
            have c19b0 : (t198 == 0) = true := beq_iff_eq.mpr c19
            have c19b1 : (t198 != 0) = false := bne_eq_false_iff_eq.mpr c19
            clear c19
            by_cases c20 : t200 = 0
            · rw [if_pos c20] at H
              have c20b0 : (t200 == 0) = true := beq_iff_eq.mpr c20
              have c20b1 : (t200 != 0) = false := bne_eq_false_iff_eq.mpr c20
              clear c20
              by_cases c21 : t202 = 0
              · rw [if_pos c21] at H
                have c21b0 : (t202 == 0) = true := beq_iff_eq.mpr c21
                have c21b1 : (t202 != 0) = false := bne_eq_false_iff_eq.mpr c21
                clear c21
                by_cases c22 : t195 = a0
                · rw [if_pos c22] at H
                  have c22b0 : (t195 == a0) = true := beq_iff_eq.mpr c22
                  have c22b1 : (t195 != a0) = false := bne_eq_false_iff_eq.mpr c22
                  clear c22
                  by_cases c23 : t199 = a0
                  · rw [if_pos c23] at H
                    have c23b0 : (t199 == a0) = true := beq_iff_eq.mpr c23
                    have c23b1 : (t199 != a0) = false := bne_eq_false_iff_eq.mpr c23
                    clear c23
                    replace H := Option.bind_eq_some_iff.mp H
                    obtain ⟨t203, A240, H⟩ := H
                    replace H : ((instr_Signed.f a1).bind fun t204 => (if ((t201 == 1) != (decide (t203 < t204))) = true then (replevinlaw16_InstrArithmetic.j0 k a0 a1 true) else (if t201 > 1 then (replevinlaw16_InstrArithmetic.j0 k a0 a1 true) else ((instr_Signed.f a0).bind fun t205 => ((instr_Unsigned.f t205).bind fun t206 => (replevinlaw16_InstrArithmetic.j0 k a0 a1 (t206 != a0))))))) = some r := H
                    have A24 := Aside0.mk A240
                    clear A240
                    replace H := Option.bind_eq_some_iff.mp H
                    obtain ⟨t204, A250, H⟩ := H
                    replace H : (if ((t201 == 1) != (decide (t203 < t204))) = true then (replevinlaw16_InstrArithmetic.j0 k a0 a1 true) else (if t201 > 1 then (replevinlaw16_InstrArithmetic.j0 k a0 a1 true) else ((instr_Signed.f a0).bind fun t205 => ((instr_Unsigned.f t205).bind fun t206 => (replevinlaw16_InstrArithmetic.j0 k a0 a1 (t206 != a0)))))) = some r := H
                    have A25 := Aside0.mk A250
                    clear A250
                    by_cases c26 : ((t201 == 1) != (decide (t203 < t204))) = true
                    · rw [if_pos c26] at H
                      have c26b0 : ((t201 == 1) != (decide (t203 < t204))) = true := c26
                      (try (have c26b1 : decide ((t201 == 1) = (decide (t203 < t204))) = false := by simpa using c26))
                      (try (have c26b2 : ((t201 == 1) == (decide (t203 < t204))) = false := by simpa using c26))
                      (try (have c26b3 : ¬ ((t201 == 1) = (decide (t203 < t204))) := by simpa using c26))
                      clear c26
                      have H' := Aside0.mk H
                      clear H
                      go_wp2_with (first | (go_at_call 19; (with_reducible refine (instr_Signed.calls a0 t203 _ A24.out).mono ?_); rintro e w' ⟨rfl, ⟨nd, rfl⟩⟩) | (go_at_call 19; (with_reducible refine (instr_Signed.calls a1 t204 _ A25.out).mono ?_); rintro e w' ⟨rfl, ⟨nd, rfl⟩⟩))
                      go_meet
                      case rel => exact ⟨_, (true), (by first | rfl | (simp; done) | (simp [*]; done)), H', ⟨by first | omega | exact Nat.le_refl _⟩, ⟨by repeat (first | (with_reducible first | exact HB.out | apply below_alloc | apply pw_below_drewN | apply below_drew1) | exact HB.out)⟩⟩
                    · rw [if_neg c26] at H
                      have c26b0 : ((t201 == 1) != (decide (t203 < t204))) = false := by simpa using c26
                      (try (have c26b1 : decide ((t201 == 1) = (decide (t203 < t204))) = true := by simpa using c26))
                      (try (have c26b2 : ((t201 == 1) == (decide (t203 < t204))) = true := by simpa using c26))
                      clear c26
                      by_cases c27 : t201 > 1
                      · rw [if_pos c27] at H
                        have c27b0 : decide (1 < t201) = true := decide_eq_true c27
                        clear c27
                        have H' := Aside0.mk H
                        clear H
                        go_wp2_with (first | (go_at_call 19; (with_reducible refine (instr_Signed.calls a0 t203 _ A24.out).mono ?_); rintro e w' ⟨rfl, ⟨nd, rfl⟩⟩) | (go_at_call 19; (with_reducible refine (instr_Signed.calls a1 t204 _ A25.out).mono ?_); rintro e w' ⟨rfl, ⟨nd, rfl⟩⟩))
                        go_meet
                        case rel => exact ⟨_, (true), (by first | rfl | (simp; done) | (simp [*]; done)), H', ⟨by first | omega | exact Nat.le_refl _⟩, ⟨by repeat (first | (with_reducible first | exact HB.out | apply below_alloc | apply pw_below_drewN | apply below_drew1) | exact HB.out)⟩⟩
                      · rw [if_neg c27] at H
                        have c27b0 : decide (1 < t201) = false := decide_eq_false c27
                        clear c27
                        replace H := Option.bind_eq_some_iff.mp H
                        obtain ⟨t205, A280, H⟩ := H
                        replace H : ((instr_Unsigned.f t205).bind fun t206 => (replevinlaw16_InstrArithmetic.j0 k a0 a1 (t206 != a0))) = some r := H
                        have A28 := Aside0.mk A280
                        clear A280
                        replace H := Option.bind_eq_some_iff.mp H
                        obtain ⟨t206, A290, H⟩ := H
                        replace H : (replevinlaw16_InstrArithmetic.j0 k a0 a1 (t206 != a0)) = some r := H
                        have A29 := Aside0.mk A290
                        clear A290
                        have H' := Aside0.mk H
                        clear H
                        go_wp2_with (first | (go_at_call 19; (with_reducible refine (instr_Signed.calls a0 t203 _ A24.out).mono ?_); rintro e w' ⟨rfl, ⟨nd, rfl⟩⟩; clear A24) | (go_at_call 19; (with_reducible refine (instr_Signed.calls a1 t204 _ A25.out).mono ?_); rintro e w' ⟨rfl, ⟨nd, rfl⟩⟩) | (go_at_call 19; (with_reducible refine (instr_Signed.calls a0 t205 _ A28.out).mono ?_); rintro e w' ⟨rfl, ⟨nd, rfl⟩⟩; clear A28) | (go_at_call 20; (with_reducible refine (instr_Unsigned.calls t205 t206 _ A29.out).mono ?_); rintro e w' ⟨rfl, ⟨nd, rfl⟩⟩))
                        go_meet
                        case rel => exact ⟨_, ((t206 != a0)), (by first | rfl | (simp; done) | (simp [*]; done)), H', ⟨by first | omega | exact Nat.le_refl _⟩, ⟨by repeat (first | (with_reducible first | exact HB.out | apply below_alloc | apply pw_below_drewN | apply below_drew1) | exact HB.out)⟩⟩
                  · rw [if_neg c23] at H
                    have c23b0 : (t199 == a0) = false := beq_eq_false_iff_ne.mpr c23
                    have c23b1 : (t199 != a0) = true := bne_iff_ne.mpr c23
                    have H' := Aside0.mk H
                    clear H
                    go_wp2
                    go_meet
                    case rel => exact ⟨_, (true), (by first | rfl | (simp; done) | (simp [*]; done)), H', ⟨by first | omega | exact Nat.le_refl _⟩, ⟨by repeat (first | (with_reducible first | exact HB.out | apply below_alloc | apply pw_below_drewN | apply below_drew1) | exact HB.out)⟩⟩
                · rw [if_neg c22] at H
                  have c22b0 : (t195 == a0) = false := beq_eq_false_iff_ne.mpr c22
                  have c22b1 : (t195 != a0) = true := bne_iff_ne.mpr c22
                  have H' := Aside0.mk H
                  clear H
                  go_wp2
                  go_meet
                  case rel => exact ⟨_, (true), (by first | rfl | (simp; done) | (simp [*]; done)), H', ⟨by first | omega | exact Nat.le_refl _⟩, ⟨by repeat (first | (with_reducible first | exact HB.out | apply below_alloc | apply pw_below_drewN | apply below_drew1) | exact HB.out)⟩⟩
              · rw [if_neg c21] at H
                have c21b0 : (t202 == 0) = false := beq_eq_false_iff_ne.mpr c21
                have c21b1 : (t202 != 0) = true := bne_iff_ne.mpr c21
                have H' := Aside0.mk H
                clear H
                go_wp2
                go_meet
                case rel => exact ⟨_, (true), (by first | rfl | (simp; done) | (simp [*]; done)), H', ⟨by first | omega | exact Nat.le_refl _⟩, ⟨by repeat (first | (with_reducible first | exact HB.out | apply below_alloc | apply pw_below_drewN | apply below_drew1) | exact HB.out)⟩⟩
            · rw [if_neg c20] at H
              have c20b0 : (t200 == 0) = false := beq_eq_false_iff_ne.mpr c20
              have c20b1 : (t200 != 0) = true := bne_iff_ne.mpr c20
              have H' := Aside0.mk H
              clear H
              go_wp2
              go_meet
              case rel => exact ⟨_, (true), (by first | rfl | (simp; done) | (simp [*]; done)), H', ⟨by first | omega | exact Nat.le_refl _⟩, ⟨by repeat (first | (with_reducible first | exact HB.out | apply below_alloc | apply pw_below_drewN | apply below_drew1) | exact HB.out)⟩⟩
          · rw [if_neg c19] at H
            have c19b0 : (t198 == 0) = false := beq_eq_false_iff_ne.mpr c19
            have c19b1 : (t198 != 0) = true := bne_iff_ne.mpr c19
            have H' := Aside0.mk H
            clear H
            go_wp2
            go_meet
            case rel => exact ⟨_, (true), (by first | rfl | (simp; done) | (simp [*]; done)), H', ⟨by first | omega | exact Nat.le_refl _⟩, ⟨by repeat (first | (with_reducible first | exact HB.out | apply below_alloc | apply pw_below_drewN | apply below_drew1) | exact HB.out)⟩⟩
        · rw [if_neg c18] at H
          have c18b0 : (t196 == 0) = false := beq_eq_false_iff_ne.mpr c18
          have c18b1 : (t196 != 0) = true := bne_iff_ne.mpr c18
          have H' := Aside0.mk H
          clear H
          go_wp2
          go_meet
          case rel => exact ⟨_, (true), (by first | rfl | (simp; done) | (simp [*]; done)), H', ⟨by first | omega | exact Nat.le_refl _⟩, ⟨by repeat (first | (with_reducible first | exact HB.out | apply below_alloc | apply pw_below_drewN | apply below_drew1) | exact HB.out)⟩⟩
      · rw [if_neg c17] at H
        have c17b0 : (t194 == 0) = false := beq_eq_false_iff_ne.mpr c17
        have c17b1 : (t194 != 0) = true := bne_iff_ne.mpr c17
        (first | rw [c17b0] | (simp only [i64_w, i32_w]; rw [c17b0]) | skip)
        have H' := Aside0.mk H
        clear H
        go_wp2
        go_meet
        case rel => exact ⟨_, (true), (by first | rfl | (simp; done) | (simp [*]; done)), H', ⟨by first | omega | exact Nat.le_refl _⟩, ⟨by repeat (first | (with_reducible first | exact HB.out | apply below_alloc | apply pw_below_drewN | apply below_drew1) | exact HB.out)⟩⟩
    case rest =>
      clear HC10
      try clear c1
      try clear c2
      try clear p2
      try clear c4
      try clear c5
      try clear c13
      try clear c17
      try clear c17b0
      try clear c17b1
      try clear c18
      try clear c18b0
      try clear c18b1
      try clear c19
      try clear c19b0
      try clear c19b1
      try clear c20
      try clear c20b0
      try clear c20b1
      try clear c21
      try clear c21b0
      try clear c21b1
      try clear c22
      try clear c22b0
      try clear c22b1
      try clear c23
      try clear c23b0
      try clear c23b1
      try clear c26
      try clear c26b0
      try clear c26b1
      try clear c26b2
      try clear c27
      try clear c27b0
      obtain ⟨kq, x103_9, rfl, HA, HJ9, HB⟩ := hcut
      cases kq with
      | zero => exact absurd HA.out (by simp [replevinlaw16_InstrArithmetic.j0])
      | succ kj9 =>
        have H := HA.out
        clear HA
        simp only [replevinlaw16_InstrArithmetic.j0] at H
        by_cases c30 : x103_9 = true
        · subst c30
          have H1 : (some false) = some r := by rw [if_pos rfl] at H; exact H
          clear H
          have H := H1
          clear H1
          obtain rfl := Option.some.inj H
          go_wp2
          go_ret
          exact ⟨by first | rfl | (simp [errW_none, errW_some] <;> rfl) | (simp [*, errW_none, errW_some] <;> rfl), by repeat (first | (with_reducible first | exact HB.out | apply below_alloc | apply pw_below_drewN | apply below_drew1) | exact HB.out)⟩
        · replace c30 := Bool.eq_false_iff.mpr c30
          subst c30
          have H1 : ((instr_Calculate.f 7 a0 a1).bind fun bt207 => ((instr_Calculate.f 8 a0 a1).bind fun bt209 => (if a1 = 0 then (if bt207.2 = 38 then (some (bt209.2 == 38)) else (some false)) else ((instr_Calculate.f 6 bt207.1 a1).bind fun bt211 => ((instr_Calculate.f 4 bt211.1 bt209.1).bind fun bt213 => (if bt207.2 = 0 then (if bt209.2 = 0 then (if bt211.2 = 0 then (if bt213.2 = 0 then (some (bt213.1 == a0)) else (some false)) else (some false)) else (some false)) else (some false))))))) = some r := by rw [if_neg (show ¬ (false = true) by decide)] at H; exact H
          clear H
          have H := H1
          clear H1
          replace H := Option.bind_eq_some_iff.mp H
          obtain ⟨⟨t207, t208⟩, A310, H⟩ := H
          replace H : ((instr_Calculate.f 8 a0 a1).bind fun bt209 => (if a1 = 0 then (if t208 = 38 then (some (bt209.2 == 38)) else (some false)) else ((instr_Calculate.f 6 t207 a1).bind fun bt211 => ((instr_Calculate.f 4 bt211.1 bt209.1).bind fun bt213 => (if t208 = 0 then (if bt209.2 = 0 then (if bt211.2 = 0 then (if bt213.2 = 0 then (some (bt213.1 == a0)) else (some false)) else (some false)) else (some false)) else (some false)))))) = some r := H
          have A31 := Aside0.mk A310
          clear A310
          replace H := Option.bind_eq_some_iff.mp H
          obtain ⟨⟨t209, t210⟩, A320, H⟩ := H
          replace H : (if a1 = 0 then (if t208 = 38 then (some (t210 == 38)) else (some false)) else ((instr_Calculate.f 6 t207 a1).bind fun bt211 => ((instr_Calculate.f 4 bt211.1 t209).bind fun bt213 => (if t208 = 0 then (if t210 = 0 then (if bt211.2 = 0 then (if bt213.2 = 0 then (some (bt213.1 == a0)) else (some false)) else (some false)) else (some false)) else (some false))))) = some r := H
          have A32 := Aside0.mk A320
          clear A320
          by_cases c33 : a1 = 0
          · rw [if_pos c33] at H
            have c33b0 : (a1 == 0) = true := beq_iff_eq.mpr c33
            have c33b1 : (a1 != 0) = false := bne_eq_false_iff_eq.mpr c33
            clear c33
            by_cases c34 : t208 = 38
            · rw [if_pos c34] at H
              have c34b0 : (t208 == 38) = true := beq_iff_eq.mpr c34
              have c34b1 : (t208 != 38) = false := bne_eq_false_iff_eq.mpr c34
              clear c34
              obtain rfl := Option.some.inj H
              go_wp2_with (first | ((with_reducible refine gate_callee (f := 17) rfl ?_); refine goesL_ (some 107) rfl rfl Try.func17 (by kernel_rfl) rfl #[.int .i64 7, .int .u32 a0, .int .u32 a1] rfl (by (try simp only [List.map_toArray, List.map_cons, List.map_nil]); first | done | rfl | (simp only [List.length_drop, List.length_take]; rfl)) ?_; (with_reducible refine (instr_Calculate.calls 7 a0 a1 t207 t208 _ A31.out).mono ?_); rintro e w35 ⟨rfl, hb⟩; refine ⟨_, rfl, ?_⟩; have n0_ := Aside0.mk (below_step (by repeat (first | (with_reducible first | exact HB.out | apply below_alloc | apply pw_below_drewN | apply below_drew1) | exact HB.out)) hb); clear HB; have HB := n0_; clear n0_; (try clear hb); (try clear hb2); (try clear hk); (try clear hi)) | ((with_reducible refine gate_callee (f := 17) rfl ?_); refine goesL_ (some 113) rfl rfl Try.func17 (by kernel_rfl) rfl #[.int .i64 8, .int .u32 a0, .int .u32 a1] rfl (by (try simp only [List.map_toArray, List.map_cons, List.map_nil]); first | done | rfl | (simp only [List.length_drop, List.length_take]; rfl)) ?_; (with_reducible refine (instr_Calculate.calls 8 a0 a1 t209 t210 _ A32.out).mono ?_); rintro e w36 ⟨rfl, hb⟩; refine ⟨_, rfl, ?_⟩; have n0_ := Aside0.mk (below_step (by repeat (first | (with_reducible first | exact HB.out | apply below_alloc | apply pw_below_drewN | apply below_drew1) | exact HB.out)) hb); clear HB; have HB := n0_; clear n0_; (try clear hb); (try clear hb2); (try clear hk); (try clear hi)))
              go_ret
              exact ⟨by first | rfl | (simp [errW_none, errW_some] <;> rfl) | (simp [*, errW_none, errW_some] <;> rfl), by repeat (first | (with_reducible first | exact HB.out | apply below_alloc | apply pw_below_drewN | apply below_drew1) | exact HB.out)⟩
            · rw [if_neg c34] at H
              have c34b0 : (t208 == 38) = false := beq_eq_false_iff_ne.mpr c34
              have c34b1 : (t208 != 38) = true := bne_iff_ne.mpr c34
              obtain rfl := Option.some.inj H
              go_wp2_with (first | ((with_reducible refine gate_callee (f := 17) rfl ?_); refine goesL_ (some 107) rfl rfl Try.func17 (by kernel_rfl) rfl #[.int .i64 7, .int .u32 a0, .int .u32 a1] rfl (by (try simp only [List.map_toArray, List.map_cons, List.map_nil]); first | done | rfl | (simp only [List.length_drop, List.length_take]; rfl)) ?_; (with_reducible refine (instr_Calculate.calls 7 a0 a1 t207 t208 _ A31.out).mono ?_); rintro e w37 ⟨rfl, hb⟩; refine ⟨_, rfl, ?_⟩; have n0_ := Aside0.mk (below_step (by repeat (first | (with_reducible first | exact HB.out | apply below_alloc | apply pw_below_drewN | apply below_drew1) | exact HB.out)) hb); clear HB; have HB := n0_; clear n0_; (try clear hb); (try clear hb2); (try clear hk); (try clear hi)) | ((with_reducible refine gate_callee (f := 17) rfl ?_); refine goesL_ (some 113) rfl rfl Try.func17 (by kernel_rfl) rfl #[.int .i64 8, .int .u32 a0, .int .u32 a1] rfl (by (try simp only [List.map_toArray, List.map_cons, List.map_nil]); first | done | rfl | (simp only [List.length_drop, List.length_take]; rfl)) ?_; (with_reducible refine (instr_Calculate.calls 8 a0 a1 t209 t210 _ A32.out).mono ?_); rintro e w38 ⟨rfl, hb⟩; refine ⟨_, rfl, ?_⟩; have n0_ := Aside0.mk (below_step (by repeat (first | (with_reducible first | exact HB.out | apply below_alloc | apply pw_below_drewN | apply below_drew1) | exact HB.out)) hb); clear HB; have HB := n0_; clear n0_; (try clear hb); (try clear hb2); (try clear hk); (try clear hi)))
              go_ret
              exact ⟨by first | rfl | (simp [errW_none, errW_some] <;> rfl) | (simp [*, errW_none, errW_some] <;> rfl), by repeat (first | (with_reducible first | exact HB.out | apply below_alloc | apply pw_below_drewN | apply below_drew1) | exact HB.out)⟩
          · rw [if_neg c33] at H
            have c33b0 : (a1 == 0) = false := beq_eq_false_iff_ne.mpr c33
            have c33b1 : (a1 != 0) = true := bne_iff_ne.mpr c33
            replace H := Option.bind_eq_some_iff.mp H
            obtain ⟨⟨t211, t212⟩, A390, H⟩ := H
            replace H : ((instr_Calculate.f 4 t211 t209).bind fun bt213 => (if t208 = 0 then (if t210 = 0 then (if t212 = 0 then (if bt213.2 = 0 then (some (bt213.1 == a0)) else (some false)) else (some false)) else (some false)) else (some false))) = some r := H
            have A39 := Aside0.mk A390
            clear A390
            replace H := Option.bind_eq_some_iff.mp H
            obtain ⟨⟨t213, t214⟩, A400, H⟩ := H
            replace H : (if t208 = 0 then (if t210 = 0 then (if t212 = 0 then (if t214 = 0 then (some (t213 == a0)) else (some false)) else (some false)) else (some false)) else (some false)) = some r := H
            have A40 := Aside0.mk A400
            clear A400
            by_cases c41 : t208 = 0
            · rw [if_pos c41] at H
              have c41b0 : (t208 == 0) = true := beq_iff_eq.mpr c41
              have c41b1 : (t208 != 0) = false := bne_eq_false_iff_eq.mpr c41
              clear c41
              by_cases c42 : t210 = 0
              · rw [if_pos c42] at H
                have c42b0 : (t210 == 0) = true := beq_iff_eq.mpr c42
                have c42b1 : (t210 != 0) = false := bne_eq_false_iff_eq.mpr c42
                clear c42
                by_cases c43 : t212 = 0
                · rw [if_pos c43] at H
                  have c43b0 : (t212 == 0) = true := beq_iff_eq.mpr c43
                  have c43b1 : (t212 != 0) = false := bne_eq_false_iff_eq.mpr c43
                  clear c43
                  by_cases c44 : t214 = 0
                  · rw [if_pos c44] at H
                    have c44b0 : (t214 == 0) = true := beq_iff_eq.mpr c44
                    have c44b1 : (t214 != 0) = false := bne_eq_false_iff_eq.mpr c44
                    clear c44
                    obtain rfl := Option.some.inj H
                    go_wp2_with (first | ((with_reducible refine gate_callee (f := 17) rfl ?_); refine goesL_ (some 107) rfl rfl Try.func17 (by kernel_rfl) rfl #[.int .i64 7, .int .u32 a0, .int .u32 a1] rfl (by (try simp only [List.map_toArray, List.map_cons, List.map_nil]); first | done | rfl | (simp only [List.length_drop, List.length_take]; rfl)) ?_; (with_reducible refine (instr_Calculate.calls 7 a0 a1 t207 t208 _ A31.out).mono ?_); rintro e w45 ⟨rfl, hb⟩; refine ⟨_, rfl, ?_⟩; have n0_ := Aside0.mk (below_step (by repeat (first | (with_reducible first | exact HB.out | apply below_alloc | apply pw_below_drewN | apply below_drew1) | exact HB.out)) hb); clear HB; have HB := n0_; clear n0_; (try clear hb); (try clear hb2); (try clear hk); (try clear hi)) | ((with_reducible refine gate_callee (f := 17) rfl ?_); refine goesL_ (some 113) rfl rfl Try.func17 (by kernel_rfl) rfl #[.int .i64 8, .int .u32 a0, .int .u32 a1] rfl (by (try simp only [List.map_toArray, List.map_cons, List.map_nil]); first | done | rfl | (simp only [List.length_drop, List.length_take]; rfl)) ?_; (with_reducible refine (instr_Calculate.calls 8 a0 a1 t209 t210 _ A32.out).mono ?_); rintro e w46 ⟨rfl, hb⟩; refine ⟨_, rfl, ?_⟩; have n0_ := Aside0.mk (below_step (by repeat (first | (with_reducible first | exact HB.out | apply below_alloc | apply pw_below_drewN | apply below_drew1) | exact HB.out)) hb); clear HB; have HB := n0_; clear n0_; (try clear hb); (try clear hb2); (try clear hk); (try clear hi)) | ((with_reducible refine gate_callee (f := 17) rfl ?_); refine goesL_ (some 127) rfl rfl Try.func17 (by kernel_rfl) rfl #[.int .i64 6, .int .u32 t207, .int .u32 a1] rfl (by (try simp only [List.map_toArray, List.map_cons, List.map_nil]); first | done | rfl | (simp only [List.length_drop, List.length_take]; rfl)) ?_; (with_reducible refine (instr_Calculate.calls 6 t207 a1 t211 t212 _ A39.out).mono ?_); rintro e w47 ⟨rfl, hb⟩; refine ⟨_, rfl, ?_⟩; have n0_ := Aside0.mk (below_step (by repeat (first | (with_reducible first | exact HB.out | apply below_alloc | apply pw_below_drewN | apply below_drew1) | exact HB.out)) hb); clear HB; have HB := n0_; clear n0_; (try clear hb); (try clear hb2); (try clear hk); (try clear hi)) | ((with_reducible refine gate_callee (f := 17) rfl ?_); refine goesL_ (some 133) rfl rfl Try.func17 (by kernel_rfl) rfl #[.int .i64 4, .int .u32 t211, .int .u32 t209] rfl (by (try simp only [List.map_toArray, List.map_cons, List.map_nil]); first | done | rfl | (simp only [List.length_drop, List.length_take]; rfl)) ?_; (with_reducible refine (instr_Calculate.calls 4 t211 t209 t213 t214 _ A40.out).mono ?_); rintro e w48 ⟨rfl, hb⟩; refine ⟨_, rfl, ?_⟩; have n0_ := Aside0.mk (below_step (by repeat (first | (with_reducible first | exact HB.out | apply below_alloc | apply pw_below_drewN | apply below_drew1) | exact HB.out)) hb); clear HB; have HB := n0_; clear n0_; (try clear hb); (try clear hb2); (try clear hk); (try clear hi)))
                    go_ret
                    exact ⟨by first | rfl | (simp [errW_none, errW_some] <;> rfl) | (simp [*, errW_none, errW_some] <;> rfl), by repeat (first | (with_reducible first | exact HB.out | apply below_alloc | apply pw_below_drewN | apply below_drew1) | exact HB.out)⟩
                  · rw [if_neg c44] at H
                    have c44b0 : (t214 == 0) = false := beq_eq_false_iff_ne.mpr c44
                    have c44b1 : (t214 != 0) = true := bne_iff_ne.mpr c44
                    obtain rfl := Option.some.inj H
                    go_wp2_with (first | ((with_reducible refine gate_callee (f := 17) rfl ?_); refine goesL_ (some 107) rfl rfl Try.func17 (by kernel_rfl) rfl #[.int .i64 7, .int .u32 a0, .int .u32 a1] rfl (by (try simp only [List.map_toArray, List.map_cons, List.map_nil]); first | done | rfl | (simp only [List.length_drop, List.length_take]; rfl)) ?_; (with_reducible refine (instr_Calculate.calls 7 a0 a1 t207 t208 _ A31.out).mono ?_); rintro e w49 ⟨rfl, hb⟩; refine ⟨_, rfl, ?_⟩; have n0_ := Aside0.mk (below_step (by repeat (first | (with_reducible first | exact HB.out | apply below_alloc | apply pw_below_drewN | apply below_drew1) | exact HB.out)) hb); clear HB; have HB := n0_; clear n0_; (try clear hb); (try clear hb2); (try clear hk); (try clear hi)) | ((with_reducible refine gate_callee (f := 17) rfl ?_); refine goesL_ (some 113) rfl rfl Try.func17 (by kernel_rfl) rfl #[.int .i64 8, .int .u32 a0, .int .u32 a1] rfl (by (try simp only [List.map_toArray, List.map_cons, List.map_nil]); first | done | rfl | (simp only [List.length_drop, List.length_take]; rfl)) ?_; (with_reducible refine (instr_Calculate.calls 8 a0 a1 t209 t210 _ A32.out).mono ?_); rintro e w50 ⟨rfl, hb⟩; refine ⟨_, rfl, ?_⟩; have n0_ := Aside0.mk (below_step (by repeat (first | (with_reducible first | exact HB.out | apply below_alloc | apply pw_below_drewN | apply below_drew1) | exact HB.out)) hb); clear HB; have HB := n0_; clear n0_; (try clear hb); (try clear hb2); (try clear hk); (try clear hi)) | ((with_reducible refine gate_callee (f := 17) rfl ?_); refine goesL_ (some 127) rfl rfl Try.func17 (by kernel_rfl) rfl #[.int .i64 6, .int .u32 t207, .int .u32 a1] rfl (by (try simp only [List.map_toArray, List.map_cons, List.map_nil]); first | done | rfl | (simp only [List.length_drop, List.length_take]; rfl)) ?_; (with_reducible refine (instr_Calculate.calls 6 t207 a1 t211 t212 _ A39.out).mono ?_); rintro e w51 ⟨rfl, hb⟩; refine ⟨_, rfl, ?_⟩; have n0_ := Aside0.mk (below_step (by repeat (first | (with_reducible first | exact HB.out | apply below_alloc | apply pw_below_drewN | apply below_drew1) | exact HB.out)) hb); clear HB; have HB := n0_; clear n0_; (try clear hb); (try clear hb2); (try clear hk); (try clear hi)) | ((with_reducible refine gate_callee (f := 17) rfl ?_); refine goesL_ (some 133) rfl rfl Try.func17 (by kernel_rfl) rfl #[.int .i64 4, .int .u32 t211, .int .u32 t209] rfl (by (try simp only [List.map_toArray, List.map_cons, List.map_nil]); first | done | rfl | (simp only [List.length_drop, List.length_take]; rfl)) ?_; (with_reducible refine (instr_Calculate.calls 4 t211 t209 t213 t214 _ A40.out).mono ?_); rintro e w52 ⟨rfl, hb⟩; refine ⟨_, rfl, ?_⟩; have n0_ := Aside0.mk (below_step (by repeat (first | (with_reducible first | exact HB.out | apply below_alloc | apply pw_below_drewN | apply below_drew1) | exact HB.out)) hb); clear HB; have HB := n0_; clear n0_; (try clear hb); (try clear hb2); (try clear hk); (try clear hi)))
                    go_ret
                    exact ⟨by first | rfl | (simp [errW_none, errW_some] <;> rfl) | (simp [*, errW_none, errW_some] <;> rfl), by repeat (first | (with_reducible first | exact HB.out | apply below_alloc | apply pw_below_drewN | apply below_drew1) | exact HB.out)⟩
                · rw [if_neg c43] at H
                  have c43b0 : (t212 == 0) = false := beq_eq_false_iff_ne.mpr c43
                  have c43b1 : (t212 != 0) = true := bne_iff_ne.mpr c43
                  obtain rfl := Option.some.inj H
                  go_wp2_with (first | ((with_reducible refine gate_callee (f := 17) rfl ?_); refine goesL_ (some 107) rfl rfl Try.func17 (by kernel_rfl) rfl #[.int .i64 7, .int .u32 a0, .int .u32 a1] rfl (by (try simp only [List.map_toArray, List.map_cons, List.map_nil]); first | done | rfl | (simp only [List.length_drop, List.length_take]; rfl)) ?_; (with_reducible refine (instr_Calculate.calls 7 a0 a1 t207 t208 _ A31.out).mono ?_); rintro e w53 ⟨rfl, hb⟩; refine ⟨_, rfl, ?_⟩; have n0_ := Aside0.mk (below_step (by repeat (first | (with_reducible first | exact HB.out | apply below_alloc | apply pw_below_drewN | apply below_drew1) | exact HB.out)) hb); clear HB; have HB := n0_; clear n0_; (try clear hb); (try clear hb2); (try clear hk); (try clear hi)) | ((with_reducible refine gate_callee (f := 17) rfl ?_); refine goesL_ (some 113) rfl rfl Try.func17 (by kernel_rfl) rfl #[.int .i64 8, .int .u32 a0, .int .u32 a1] rfl (by (try simp only [List.map_toArray, List.map_cons, List.map_nil]); first | done | rfl | (simp only [List.length_drop, List.length_take]; rfl)) ?_; (with_reducible refine (instr_Calculate.calls 8 a0 a1 t209 t210 _ A32.out).mono ?_); rintro e w54 ⟨rfl, hb⟩; refine ⟨_, rfl, ?_⟩; have n0_ := Aside0.mk (below_step (by repeat (first | (with_reducible first | exact HB.out | apply below_alloc | apply pw_below_drewN | apply below_drew1) | exact HB.out)) hb); clear HB; have HB := n0_; clear n0_; (try clear hb); (try clear hb2); (try clear hk); (try clear hi)) | ((with_reducible refine gate_callee (f := 17) rfl ?_); refine goesL_ (some 127) rfl rfl Try.func17 (by kernel_rfl) rfl #[.int .i64 6, .int .u32 t207, .int .u32 a1] rfl (by (try simp only [List.map_toArray, List.map_cons, List.map_nil]); first | done | rfl | (simp only [List.length_drop, List.length_take]; rfl)) ?_; (with_reducible refine (instr_Calculate.calls 6 t207 a1 t211 t212 _ A39.out).mono ?_); rintro e w55 ⟨rfl, hb⟩; refine ⟨_, rfl, ?_⟩; have n0_ := Aside0.mk (below_step (by repeat (first | (with_reducible first | exact HB.out | apply below_alloc | apply pw_below_drewN | apply below_drew1) | exact HB.out)) hb); clear HB; have HB := n0_; clear n0_; (try clear hb); (try clear hb2); (try clear hk); (try clear hi)) | ((with_reducible refine gate_callee (f := 17) rfl ?_); refine goesL_ (some 133) rfl rfl Try.func17 (by kernel_rfl) rfl #[.int .i64 4, .int .u32 t211, .int .u32 t209] rfl (by (try simp only [List.map_toArray, List.map_cons, List.map_nil]); first | done | rfl | (simp only [List.length_drop, List.length_take]; rfl)) ?_; (with_reducible refine (instr_Calculate.calls 4 t211 t209 t213 t214 _ A40.out).mono ?_); rintro e w56 ⟨rfl, hb⟩; refine ⟨_, rfl, ?_⟩; have n0_ := Aside0.mk (below_step (by repeat (first | (with_reducible first | exact HB.out | apply below_alloc | apply pw_below_drewN | apply below_drew1) | exact HB.out)) hb); clear HB; have HB := n0_; clear n0_; (try clear hb); (try clear hb2); (try clear hk); (try clear hi)))
                  go_ret
                  exact ⟨by first | rfl | (simp [errW_none, errW_some] <;> rfl) | (simp [*, errW_none, errW_some] <;> rfl), by repeat (first | (with_reducible first | exact HB.out | apply below_alloc | apply pw_below_drewN | apply below_drew1) | exact HB.out)⟩
              · rw [if_neg c42] at H
                have c42b0 : (t210 == 0) = false := beq_eq_false_iff_ne.mpr c42
                have c42b1 : (t210 != 0) = true := bne_iff_ne.mpr c42
                obtain rfl := Option.some.inj H
                go_wp2_with (first | ((with_reducible refine gate_callee (f := 17) rfl ?_); refine goesL_ (some 107) rfl rfl Try.func17 (by kernel_rfl) rfl #[.int .i64 7, .int .u32 a0, .int .u32 a1] rfl (by (try simp only [List.map_toArray, List.map_cons, List.map_nil]); first | done | rfl | (simp only [List.length_drop, List.length_take]; rfl)) ?_; (with_reducible refine (instr_Calculate.calls 7 a0 a1 t207 t208 _ A31.out).mono ?_); rintro e w57 ⟨rfl, hb⟩; refine ⟨_, rfl, ?_⟩; have n0_ := Aside0.mk (below_step (by repeat (first | (with_reducible first | exact HB.out | apply below_alloc | apply pw_below_drewN | apply below_drew1) | exact HB.out)) hb); clear HB; have HB := n0_; clear n0_; (try clear hb); (try clear hb2); (try clear hk); (try clear hi)) | ((with_reducible refine gate_callee (f := 17) rfl ?_); refine goesL_ (some 113) rfl rfl Try.func17 (by kernel_rfl) rfl #[.int .i64 8, .int .u32 a0, .int .u32 a1] rfl (by (try simp only [List.map_toArray, List.map_cons, List.map_nil]); first | done | rfl | (simp only [List.length_drop, List.length_take]; rfl)) ?_; (with_reducible refine (instr_Calculate.calls 8 a0 a1 t209 t210 _ A32.out).mono ?_); rintro e w58 ⟨rfl, hb⟩; refine ⟨_, rfl, ?_⟩; have n0_ := Aside0.mk (below_step (by repeat (first | (with_reducible first | exact HB.out | apply below_alloc | apply pw_below_drewN | apply below_drew1) | exact HB.out)) hb); clear HB; have HB := n0_; clear n0_; (try clear hb); (try clear hb2); (try clear hk); (try clear hi)) | ((with_reducible refine gate_callee (f := 17) rfl ?_); refine goesL_ (some 127) rfl rfl Try.func17 (by kernel_rfl) rfl #[.int .i64 6, .int .u32 t207, .int .u32 a1] rfl (by (try simp only [List.map_toArray, List.map_cons, List.map_nil]); first | done | rfl | (simp only [List.length_drop, List.length_take]; rfl)) ?_; (with_reducible refine (instr_Calculate.calls 6 t207 a1 t211 t212 _ A39.out).mono ?_); rintro e w59 ⟨rfl, hb⟩; refine ⟨_, rfl, ?_⟩; have n0_ := Aside0.mk (below_step (by repeat (first | (with_reducible first | exact HB.out | apply below_alloc | apply pw_below_drewN | apply below_drew1) | exact HB.out)) hb); clear HB; have HB := n0_; clear n0_; (try clear hb); (try clear hb2); (try clear hk); (try clear hi)) | ((with_reducible refine gate_callee (f := 17) rfl ?_); refine goesL_ (some 133) rfl rfl Try.func17 (by kernel_rfl) rfl #[.int .i64 4, .int .u32 t211, .int .u32 t209] rfl (by (try simp only [List.map_toArray, List.map_cons, List.map_nil]); first | done | rfl | (simp only [List.length_drop, List.length_take]; rfl)) ?_; (with_reducible refine (instr_Calculate.calls 4 t211 t209 t213 t214 _ A40.out).mono ?_); rintro e w60 ⟨rfl, hb⟩; refine ⟨_, rfl, ?_⟩; have n0_ := Aside0.mk (below_step (by repeat (first | (with_reducible first | exact HB.out | apply below_alloc | apply pw_below_drewN | apply below_drew1) | exact HB.out)) hb); clear HB; have HB := n0_; clear n0_; (try clear hb); (try clear hb2); (try clear hk); (try clear hi)))
                go_ret
                exact ⟨by first | rfl | (simp [errW_none, errW_some] <;> rfl) | (simp [*, errW_none, errW_some] <;> rfl), by repeat (first | (with_reducible first | exact HB.out | apply below_alloc | apply pw_below_drewN | apply below_drew1) | exact HB.out)⟩
            · rw [if_neg c41] at H
              have c41b0 : (t208 == 0) = false := beq_eq_false_iff_ne.mpr c41
              have c41b1 : (t208 != 0) = true := bne_iff_ne.mpr c41
              obtain rfl := Option.some.inj H
              go_wp2_with (first | ((with_reducible refine gate_callee (f := 17) rfl ?_); refine goesL_ (some 107) rfl rfl Try.func17 (by kernel_rfl) rfl #[.int .i64 7, .int .u32 a0, .int .u32 a1] rfl (by (try simp only [List.map_toArray, List.map_cons, List.map_nil]); first | done | rfl | (simp only [List.length_drop, List.length_take]; rfl)) ?_; (with_reducible refine (instr_Calculate.calls 7 a0 a1 t207 t208 _ A31.out).mono ?_); rintro e w61 ⟨rfl, hb⟩; refine ⟨_, rfl, ?_⟩; have n0_ := Aside0.mk (below_step (by repeat (first | (with_reducible first | exact HB.out | apply below_alloc | apply pw_below_drewN | apply below_drew1) | exact HB.out)) hb); clear HB; have HB := n0_; clear n0_; (try clear hb); (try clear hb2); (try clear hk); (try clear hi)) | ((with_reducible refine gate_callee (f := 17) rfl ?_); refine goesL_ (some 113) rfl rfl Try.func17 (by kernel_rfl) rfl #[.int .i64 8, .int .u32 a0, .int .u32 a1] rfl (by (try simp only [List.map_toArray, List.map_cons, List.map_nil]); first | done | rfl | (simp only [List.length_drop, List.length_take]; rfl)) ?_; (with_reducible refine (instr_Calculate.calls 8 a0 a1 t209 t210 _ A32.out).mono ?_); rintro e w62 ⟨rfl, hb⟩; refine ⟨_, rfl, ?_⟩; have n0_ := Aside0.mk (below_step (by repeat (first | (with_reducible first | exact HB.out | apply below_alloc | apply pw_below_drewN | apply below_drew1) | exact HB.out)) hb); clear HB; have HB := n0_; clear n0_; (try clear hb); (try clear hb2); (try clear hk); (try clear hi)) | ((with_reducible refine gate_callee (f := 17) rfl ?_); refine goesL_ (some 127) rfl rfl Try.func17 (by kernel_rfl) rfl #[.int .i64 6, .int .u32 t207, .int .u32 a1] rfl (by (try simp only [List.map_toArray, List.map_cons, List.map_nil]); first | done | rfl | (simp only [List.length_drop, List.length_take]; rfl)) ?_; (with_reducible refine (instr_Calculate.calls 6 t207 a1 t211 t212 _ A39.out).mono ?_); rintro e w63 ⟨rfl, hb⟩; refine ⟨_, rfl, ?_⟩; have n0_ := Aside0.mk (below_step (by repeat (first | (with_reducible first | exact HB.out | apply below_alloc | apply pw_below_drewN | apply below_drew1) | exact HB.out)) hb); clear HB; have HB := n0_; clear n0_; (try clear hb); (try clear hb2); (try clear hk); (try clear hi)) | ((with_reducible refine gate_callee (f := 17) rfl ?_); refine goesL_ (some 133) rfl rfl Try.func17 (by kernel_rfl) rfl #[.int .i64 4, .int .u32 t211, .int .u32 t209] rfl (by (try simp only [List.map_toArray, List.map_cons, List.map_nil]); first | done | rfl | (simp only [List.length_drop, List.length_take]; rfl)) ?_; (with_reducible refine (instr_Calculate.calls 4 t211 t209 t213 t214 _ A40.out).mono ?_); rintro e w64 ⟨rfl, hb⟩; refine ⟨_, rfl, ?_⟩; have n0_ := Aside0.mk (below_step (by repeat (first | (with_reducible first | exact HB.out | apply below_alloc | apply pw_below_drewN | apply below_drew1) | exact HB.out)) hb); clear HB; have HB := n0_; clear n0_; (try clear hb); (try clear hb2); (try clear hk); (try clear hi)))
              go_ret
              exact ⟨by first | rfl | (simp [errW_none, errW_some] <;> rfl) | (simp [*, errW_none, errW_some] <;> rfl), by repeat (first | (with_reducible first | exact HB.out | apply below_alloc | apply pw_below_drewN | apply below_drew1) | exact HB.out)⟩
  · replace c4 := Bool.eq_false_iff.mpr c4
    subst c4
    have H1 : (some false) = some r := by rw [if_neg (show ¬ (false = true) by decide)] at H; exact H
    clear H
    have H := H1
    clear H1
    obtain rfl := Option.some.inj H
    go_enter Try.func5, Try.ntmps5
    go_wp2_with (first | ((with_reducible refine gate_callee (f := 13) rfl ?_); refine goesL_ (some 23) rfl rfl Try.func13 (by kernel_rfl) rfl #[] rfl (by (try simp only [List.map_toArray, List.map_cons, List.map_nil]); first | done | rfl | (simp only [List.length_drop, List.length_take]; rfl)) ?_; (with_reducible refine (replevinlaw16_known.calls k  false _ A3.out).mono ?_); rintro e w65 ⟨rfl, hb⟩; refine ⟨_, rfl, ?_⟩; have n0_ := Aside0.mk (below_step (by repeat (first | (with_reducible first | exact HB.out | apply below_alloc | apply pw_below_drewN | apply below_drew1) | exact HB.out)) hb); clear HB; have HB := n0_; clear n0_; (try clear hb); (try clear hb2); (try clear hk); (try clear hi)))
    go_ret
    exact ⟨by first | rfl | (simp [errW_none, errW_some] <;> rfl) | (simp [*, errW_none, errW_some] <;> rfl), by repeat (first | (with_reducible first | exact HB.out | apply below_alloc | apply pw_below_drewN | apply below_drew1) | exact HB.out)⟩

/-- THE ONE PURE STATEMENT of replevinlaw16_InstrArithmetic: yours. -/
def replevinlaw16_InstrArithmetic.Pure : Prop := ∀ (a0 : Int) (a1 : Int), (Lit.int .u32 a0).wf = true → (Lit.int .u32 a1).wf = true → ∃ k, replevinlaw16_InstrArithmetic.f k a0 a1 = some true
theorem replevinlaw16_InstrArithmetic.walk (P : replevinlaw16_InstrArithmetic.Pure) (a0 : Int) (a1 : Int) (w : World) (w0 : (Lit.int .u32 a0).wf = true) (w1 : (Lit.int .u32 a1).wf = true) :
    Calls Try.prog 5 #[.int .u32 a0, .int .u32 a1] w fun e w' => e = .returned (.bool true) ∧ Below w.heap.size w w' := by
  obtain ⟨k, h⟩ := P a0 a1 w0 w1
  refine (replevinlaw16_InstrArithmetic.calls k a0 a1 true w h).mono ?_
  rintro e w' ⟨rfl, hd⟩
  exact ⟨rfl, hd⟩

/-! ### replevinlaw16_InstrNumbers: function 6 -/
def replevinlaw16_InstrNumbers.f (k : Nat) (a0 : Int) (a1 : Int) : Option (Bool) := (replevinlaw16_known.f k).bind fun t215 => (if t215 = true then ((instr_Signed.f a0).bind fun t216 => ((replevinref16_Signed.f a0).bind fun t217 => (if t216 = t217 then ((instr_Unsigned.f a1).bind fun t218 => ((replevinref16_Unsigned.f a1).bind fun t219 => (some (t218 == t219)))) else (some false)))) else (some false))
theorem replevinlaw16_InstrNumbers.mono : ∀ a0 a1 k, LeO (replevinlaw16_InstrNumbers.f k a0 a1) (replevinlaw16_InstrNumbers.f (k + 1) a0 a1) := by
  intro a0 a1 k
  unfold replevinlaw16_InstrNumbers.f
  repeat' first
      | (with_reducible exact replevinlaw16_known.mono _)
      | (with_reducible exact LeO.refl _)
      | (with_reducible exact LeO.none _)
      | (with_reducible refine LeO.ite ?_ ?_)
      | (with_reducible refine LeO.bind ?_ (fun _ => ?_))
      | exact replevinlaw16_known.mono _
      | exact LeO.none _
      | refine LeO.ite ?_ ?_
      | refine LeO.bind ?_ (fun _ => ?_)
set_option maxHeartbeats 8000000 in
set_option maxRecDepth 100000 in
theorem replevinlaw16_InstrNumbers.calls (k : Nat) (a0 : Int) (a1 : Int) (r : Bool) (w : World) (h : replevinlaw16_InstrNumbers.f k a0 a1 = some r) :
    Calls Try.prog 6 #[.int .u32 a0, .int .i64 a1] w fun e w' => e = .returned (.bool r) ∧ Below w.heap.size w w' := by
  have HB := Aside0.mk (Below.refl w.heap.size w)
  have H : ((replevinlaw16_known.f k).bind fun t215 => (if t215 = true then ((instr_Signed.f a0).bind fun t216 => ((replevinref16_Signed.f a0).bind fun t217 => (if t216 = t217 then ((instr_Unsigned.f a1).bind fun t218 => ((replevinref16_Unsigned.f a1).bind fun t219 => (some (t218 == t219)))) else (some false)))) else (some false))) = some r := h
  clear h
  replace H := Option.bind_eq_some_iff.mp H
  obtain ⟨t215, A30, H⟩ := H
  replace H : (if t215 = true then ((instr_Signed.f a0).bind fun t216 => ((replevinref16_Signed.f a0).bind fun t217 => (if t216 = t217 then ((instr_Unsigned.f a1).bind fun t218 => ((replevinref16_Unsigned.f a1).bind fun t219 => (some (t218 == t219)))) else (some false)))) else (some false)) = some r := H
  have A3 := Aside0.mk A30
  clear A30
  by_cases c4 : t215 = true
  · subst c4
    have H1 : ((instr_Signed.f a0).bind fun t216 => ((replevinref16_Signed.f a0).bind fun t217 => (if t216 = t217 then ((instr_Unsigned.f a1).bind fun t218 => ((replevinref16_Unsigned.f a1).bind fun t219 => (some (t218 == t219)))) else (some false)))) = some r := by rw [if_pos rfl] at H; exact H
    clear H
    have H := H1
    clear H1
    replace H := Option.bind_eq_some_iff.mp H
    obtain ⟨t216, A50, H⟩ := H
    replace H : ((replevinref16_Signed.f a0).bind fun t217 => (if t216 = t217 then ((instr_Unsigned.f a1).bind fun t218 => ((replevinref16_Unsigned.f a1).bind fun t219 => (some (t218 == t219)))) else (some false))) = some r := H
    have A5 := Aside0.mk A50
    clear A50
    replace H := Option.bind_eq_some_iff.mp H
    obtain ⟨t217, A60, H⟩ := H
    replace H : (if t216 = t217 then ((instr_Unsigned.f a1).bind fun t218 => ((replevinref16_Unsigned.f a1).bind fun t219 => (some (t218 == t219)))) else (some false)) = some r := H
    have A6 := Aside0.mk A60
    clear A60
    by_cases c7 : t216 = t217
    · rw [if_pos c7] at H
      have c7b0 : (t216 == t217) = true := beq_iff_eq.mpr c7
      have c7b1 : (t216 != t217) = false := bne_eq_false_iff_eq.mpr c7
      clear c7
      replace H := Option.bind_eq_some_iff.mp H
      obtain ⟨t218, A80, H⟩ := H
      replace H : ((replevinref16_Unsigned.f a1).bind fun t219 => (some (t218 == t219))) = some r := H
      have A8 := Aside0.mk A80
      clear A80
      replace H := Option.bind_eq_some_iff.mp H
      obtain ⟨t219, A90, H⟩ := H
      replace H : (some (t218 == t219)) = some r := H
      have A9 := Aside0.mk A90
      clear A90
      obtain rfl := Option.some.inj H
      go_enter Try.func6, Try.ntmps6
      go_wp2_with (first | ((with_reducible refine gate_callee (f := 13) rfl ?_); refine goesL_ (some 5) rfl rfl Try.func13 (by kernel_rfl) rfl #[] rfl (by (try simp only [List.map_toArray, List.map_cons, List.map_nil]); first | done | rfl | (simp only [List.length_drop, List.length_take]; rfl)) ?_; (with_reducible refine (replevinlaw16_known.calls k  true _ A3.out).mono ?_); rintro e w10 ⟨rfl, hb⟩; refine ⟨_, rfl, ?_⟩; have n0_ := Aside0.mk (below_step (by repeat (first | (with_reducible first | exact HB.out | apply below_alloc | apply pw_below_drewN | apply below_drew1) | exact HB.out)) hb); clear HB; have HB := n0_; clear n0_; (try clear hb); (try clear hb2); (try clear hk); (try clear hi)) | ((with_reducible refine gate_callee (f := 19) rfl ?_); refine goesL_ (some 8) rfl rfl Try.func19 (by kernel_rfl) rfl #[.int .u32 a0] rfl (by (try simp only [List.map_toArray, List.map_cons, List.map_nil]); first | done | rfl | (simp only [List.length_drop, List.length_take]; rfl)) ?_; (with_reducible refine (instr_Signed.calls a0 t216 _ A5.out).mono ?_); rintro e w' ⟨rfl, ⟨nd, rfl⟩⟩; refine ⟨_, rfl, ?_⟩) | ((with_reducible refine gate_callee (f := 21) rfl ?_); refine goesL_ (some 10) rfl rfl Try.func21 (by kernel_rfl) rfl #[.int .u32 a0] rfl (by (try simp only [List.map_toArray, List.map_cons, List.map_nil]); first | done | rfl | (simp only [List.length_drop, List.length_take]; rfl)) ?_; (with_reducible refine (replevinref16_Signed.calls a0 t217 _ A6.out).mono ?_); rintro e w' ⟨rfl, ⟨nd, rfl⟩⟩; refine ⟨_, rfl, ?_⟩) | (go_at_call 20; (with_reducible refine (instr_Unsigned.calls a1 t218 _ A8.out).mono ?_); rintro e w' ⟨rfl, ⟨nd, rfl⟩⟩) | (go_at_call 22; (with_reducible refine (replevinref16_Unsigned.calls a1 t219 _ A9.out).mono ?_); rintro e w' ⟨rfl, ⟨nd, rfl⟩⟩))
      go_ret
      exact ⟨by first | rfl | (simp [errW_none, errW_some] <;> rfl) | (simp [*, errW_none, errW_some] <;> rfl), by repeat (first | (with_reducible first | exact HB.out | apply below_alloc | apply pw_below_drewN | apply below_drew1) | exact HB.out)⟩
    · rw [if_neg c7] at H
      have c7b0 : (t216 == t217) = false := beq_eq_false_iff_ne.mpr c7
      have c7b1 : (t216 != t217) = true := bne_iff_ne.mpr c7
      obtain rfl := Option.some.inj H
      go_enter Try.func6, Try.ntmps6
      go_wp2_with (first | ((with_reducible refine gate_callee (f := 13) rfl ?_); refine goesL_ (some 5) rfl rfl Try.func13 (by kernel_rfl) rfl #[] rfl (by (try simp only [List.map_toArray, List.map_cons, List.map_nil]); first | done | rfl | (simp only [List.length_drop, List.length_take]; rfl)) ?_; (with_reducible refine (replevinlaw16_known.calls k  true _ A3.out).mono ?_); rintro e w11 ⟨rfl, hb⟩; refine ⟨_, rfl, ?_⟩; have n0_ := Aside0.mk (below_step (by repeat (first | (with_reducible first | exact HB.out | apply below_alloc | apply pw_below_drewN | apply below_drew1) | exact HB.out)) hb); clear HB; have HB := n0_; clear n0_; (try clear hb); (try clear hb2); (try clear hk); (try clear hi)) | ((with_reducible refine gate_callee (f := 19) rfl ?_); refine goesL_ (some 8) rfl rfl Try.func19 (by kernel_rfl) rfl #[.int .u32 a0] rfl (by (try simp only [List.map_toArray, List.map_cons, List.map_nil]); first | done | rfl | (simp only [List.length_drop, List.length_take]; rfl)) ?_; (with_reducible refine (instr_Signed.calls a0 t216 _ A5.out).mono ?_); rintro e w' ⟨rfl, ⟨nd, rfl⟩⟩; refine ⟨_, rfl, ?_⟩) | ((with_reducible refine gate_callee (f := 21) rfl ?_); refine goesL_ (some 10) rfl rfl Try.func21 (by kernel_rfl) rfl #[.int .u32 a0] rfl (by (try simp only [List.map_toArray, List.map_cons, List.map_nil]); first | done | rfl | (simp only [List.length_drop, List.length_take]; rfl)) ?_; (with_reducible refine (replevinref16_Signed.calls a0 t217 _ A6.out).mono ?_); rintro e w' ⟨rfl, ⟨nd, rfl⟩⟩; refine ⟨_, rfl, ?_⟩))
      go_ret
      exact ⟨by first | rfl | (simp [errW_none, errW_some] <;> rfl) | (simp [*, errW_none, errW_some] <;> rfl), by repeat (first | (with_reducible first | exact HB.out | apply below_alloc | apply pw_below_drewN | apply below_drew1) | exact HB.out)⟩
  · replace c4 := Bool.eq_false_iff.mpr c4
    subst c4
    have H1 : (some false) = some r := by rw [if_neg (show ¬ (false = true) by decide)] at H; exact H
    clear H
    have H := H1
    clear H1
    obtain rfl := Option.some.inj H
    go_enter Try.func6, Try.ntmps6
    go_wp2_with (first | ((with_reducible refine gate_callee (f := 13) rfl ?_); refine goesL_ (some 5) rfl rfl Try.func13 (by kernel_rfl) rfl #[] rfl (by (try simp only [List.map_toArray, List.map_cons, List.map_nil]); first | done | rfl | (simp only [List.length_drop, List.length_take]; rfl)) ?_; (with_reducible refine (replevinlaw16_known.calls k  false _ A3.out).mono ?_); rintro e w12 ⟨rfl, hb⟩; refine ⟨_, rfl, ?_⟩; have n0_ := Aside0.mk (below_step (by repeat (first | (with_reducible first | exact HB.out | apply below_alloc | apply pw_below_drewN | apply below_drew1) | exact HB.out)) hb); clear HB; have HB := n0_; clear n0_; (try clear hb); (try clear hb2); (try clear hk); (try clear hi)))
    go_ret
    exact ⟨by first | rfl | (simp [errW_none, errW_some] <;> rfl) | (simp [*, errW_none, errW_some] <;> rfl), by repeat (first | (with_reducible first | exact HB.out | apply below_alloc | apply pw_below_drewN | apply below_drew1) | exact HB.out)⟩

/-- THE ONE PURE STATEMENT of replevinlaw16_InstrNumbers: yours. -/
def replevinlaw16_InstrNumbers.Pure : Prop := ∀ (a0 : Int) (a1 : Int), (Lit.int .u32 a0).wf = true → (Lit.int .i64 a1).wf = true → ∃ k, replevinlaw16_InstrNumbers.f k a0 a1 = some true
theorem replevinlaw16_InstrNumbers.walk (P : replevinlaw16_InstrNumbers.Pure) (a0 : Int) (a1 : Int) (w : World) (w0 : (Lit.int .u32 a0).wf = true) (w1 : (Lit.int .i64 a1).wf = true) :
    Calls Try.prog 6 #[.int .u32 a0, .int .i64 a1] w fun e w' => e = .returned (.bool true) ∧ Below w.heap.size w w' := by
  obtain ⟨k, h⟩ := P a0 a1 w0 w1
  refine (replevinlaw16_InstrNumbers.calls k a0 a1 true w h).mono ?_
  rintro e w' ⟨rfl, hd⟩
  exact ⟨rfl, hd⟩

/-! ### replevinref16_Encode: function 24 -/
def replevinref16_Encode.f (k : Nat) (a0_0 : Int) (a0_1 : Int) (a0_2 : Int) (a0_3 : Int) : Option (Int × Int × Int × Int × Int) := (replevinref16_Check.f k a0_0 a0_1 a0_2 a0_3).bind fun t222 => (if t222 = 0 then (if a0_3 < 0 then (some ((a0_0) % 256, (wrap64 ((wrap64 (16 * a0_1)) + a0_2)) % 256, (Int.tmod (wrap64 (a0_3 + 65536)) 256) % 256, (wrap64 (Int.tdiv (wrap64 (a0_3 + 65536)) 256)) % 256, 0)) else (some ((a0_0) % 256, (wrap64 ((wrap64 (16 * a0_1)) + a0_2)) % 256, (Int.tmod a0_3 256) % 256, (wrap64 (Int.tdiv a0_3 256)) % 256, 0))) else (some (0, 0, 0, 0, t222)))
theorem replevinref16_Encode.mono : ∀ a0 a1 a2 a3 k, LeO (replevinref16_Encode.f k a0 a1 a2 a3) (replevinref16_Encode.f (k + 1) a0 a1 a2 a3) := by
  intro a0 a1 a2 a3 k
  unfold replevinref16_Encode.f
  repeat' first
      | (with_reducible exact replevinref16_Check.mono _ _ _ _ _)
      | (with_reducible exact LeO.refl _)
      | (with_reducible exact LeO.none _)
      | (with_reducible refine LeO.ite ?_ ?_)
      | (with_reducible refine LeO.bind ?_ (fun _ => ?_))
      | exact replevinref16_Check.mono _ _ _ _ _
      | exact LeO.none _
      | refine LeO.ite ?_ ?_
      | refine LeO.bind ?_ (fun _ => ?_)
set_option maxHeartbeats 8000000 in
set_option maxRecDepth 100000 in
theorem replevinref16_Encode.calls (k : Nat) (a0_0 : Int) (a0_1 : Int) (a0_2 : Int) (a0_3 : Int) (r1 : Int) (r2 : Int) (r3 : Int) (r4 : Int) (r5 : Int) (w : World) (h : replevinref16_Encode.f k a0_0 a0_1 a0_2 a0_3 = some (r1, r2, r3, r4, r5)) :
    Calls Try.prog 24 #[.agg #[.int .i64 a0_0, .int .i64 a0_1, .int .i64 a0_2, .int .i64 a0_3]] w fun e w' => e = .returned (.tuple #[.agg #[.int .u8 r1, .int .u8 r2, .int .u8 r3, .int .u8 r4], .int .i64 r5]) ∧ Below w.heap.size w w' := by
  have hu23 := Try.underlying23
  have hu41 := Try.underlying41
  have HB := Aside0.mk (Below.refl w.heap.size w)
  have H : ((replevinref16_Check.f k a0_0 a0_1 a0_2 a0_3).bind fun t222 => (if t222 = 0 then (if a0_3 < 0 then (some ((a0_0) % 256, (wrap64 ((wrap64 (16 * a0_1)) + a0_2)) % 256, (Int.tmod (wrap64 (a0_3 + 65536)) 256) % 256, (wrap64 (Int.tdiv (wrap64 (a0_3 + 65536)) 256)) % 256, 0)) else (some ((a0_0) % 256, (wrap64 ((wrap64 (16 * a0_1)) + a0_2)) % 256, (Int.tmod a0_3 256) % 256, (wrap64 (Int.tdiv a0_3 256)) % 256, 0))) else (some (0, 0, 0, 0, t222)))) = some (r1, r2, r3, r4, r5) := h
  clear h
  replace H := Option.bind_eq_some_iff.mp H
  obtain ⟨t222, A20, H⟩ := H
  replace H : (if t222 = 0 then (if a0_3 < 0 then (some ((a0_0) % 256, (wrap64 ((wrap64 (16 * a0_1)) + a0_2)) % 256, (Int.tmod (wrap64 (a0_3 + 65536)) 256) % 256, (wrap64 (Int.tdiv (wrap64 (a0_3 + 65536)) 256)) % 256, 0)) else (some ((a0_0) % 256, (wrap64 ((wrap64 (16 * a0_1)) + a0_2)) % 256, (Int.tmod a0_3 256) % 256, (wrap64 (Int.tdiv a0_3 256)) % 256, 0))) else (some (0, 0, 0, 0, t222))) = some (r1, r2, r3, r4, r5) := H
  have A2 := Aside0.mk A20
  clear A20
  by_cases c3 : t222 = 0
  · rw [if_pos c3] at H
    have c3b0 : (t222 == 0) = true := beq_iff_eq.mpr c3
    have c3b1 : (t222 != 0) = false := bne_eq_false_iff_eq.mpr c3
    clear c3
    by_cases c4 : a0_3 < 0
    · rw [if_pos c4] at H
      have c4b0 : decide (a0_3 < 0) = true := decide_eq_true c4
      clear c4
      simp only [Option.some.injEq, Prod.mk.injEq] at H
      obtain ⟨rfl, rfl, rfl, rfl, rfl⟩ := H
      go_enter Try.func24, Try.ntmps24
      go_wp2_with (first | ((with_reducible refine gate_dst (N := 1) rfl ?_); refine box_event ?hg (N := 1) ?hd (cs := #[.int .i64 a0_0, .int .i64 a0_1, .int .i64 a0_2, .int .i64 a0_3]) (t := 23) ?hr ?_; (case hd => rfl); (case hg => rfl); (case hr => first | (go_simp; done) | (go_simp; rfl)); intro gb220 hg w5 hbox hb; have n0_ := Aside0.mk (below_step (by repeat (first | (with_reducible first | exact HB.out | apply below_alloc | apply pw_below_drewN | apply below_drew1) | exact HB.out)) hb); have n1_ := Aside0.mk (hbox); have n2_ := Aside0.mk ((by rw [hg]; exact (below_size (by repeat (first | (with_reducible first | exact HB.out | apply below_alloc | apply pw_below_drewN | apply below_drew1) | exact HB.out))) : w.heap.size ≤ gb220)); have n3_ := Aside0.mk ((by rw [hg]; exact (below_size (by repeat (first | (with_reducible first | exact HB.out | apply below_alloc | apply pw_below_drewN | apply below_drew1) | exact HB.out))) : w.heap.size ≤ gb220)); clear HB; have HB := n0_; have BK220 := n1_; have GW220 := n2_; have GE220 := n3_; clear n0_ n1_ n2_ n3_; clear hb hbox hg) | ((with_reducible refine gate_dst (N := 2) rfl ?_); refine box_event ?hg (N := 2) ?hd (cs := #[.int .u8 0, .int .u8 0, .int .u8 0, .int .u8 0]) (t := 41) ?hr ?_; (case hd => rfl); (case hg => rfl); (case hr => first | (go_simp; done) | (go_simp; rfl)); intro gb221 hg w6 hbox hb; have n0_ := Aside0.mk (blk_below (g := gb220) (o := .cells #[.int .i64 a0_0, .int .i64 a0_1, .int .i64 a0_2, .int .i64 a0_3] 23 (0, 0)) (by (with_reducible repeat (first | refine blk_drewN ?_ _ | refine blk_drew ?_ | refine blk_alloc ?_ _)); exact BK220.out) hb); have n1_ := Aside0.mk (below_step (by repeat (first | (with_reducible first | exact HB.out | apply below_alloc | apply pw_below_drewN | apply below_drew1 | refine below_set ?_ GE220.out) | exact HB.out)) hb); have n2_ := Aside0.mk (hbox); have n3_ := Aside0.mk ((by rw [hg]; exact (below_size (by repeat (first | (with_reducible first | exact HB.out | apply below_alloc | apply pw_below_drewN | apply below_drew1 | refine below_set ?_ GE220.out) | exact HB.out))) : w.heap.size ≤ gb221)); have n4_ := Aside0.mk ((by rw [hg]; exact (below_size (by repeat (first | (with_reducible first | exact HB.out | apply below_alloc | apply pw_below_drewN | apply below_drew1 | refine below_set ?_ GE220.out) | exact HB.out))) : w.heap.size ≤ gb221)); have n5_ := Aside0.mk ((by rw [hg]; exact Nat.ne_of_lt (blk_lt (g := gb220) (o := .cells #[.int .i64 a0_0, .int .i64 a0_1, .int .i64 a0_2, .int .i64 a0_3] 23 (0, 0)) (by (with_reducible repeat (first | refine blk_drewN ?_ _ | refine blk_drew ?_ | refine blk_alloc ?_ _)); exact BK220.out)) : gb220 ≠ gb221)); have n6_ := Aside0.mk ((by rw [hg]; exact Nat.ne_of_gt (blk_lt (g := gb220) (o := .cells #[.int .i64 a0_0, .int .i64 a0_1, .int .i64 a0_2, .int .i64 a0_3] 23 (0, 0)) (by (with_reducible repeat (first | refine blk_drewN ?_ _ | refine blk_drew ?_ | refine blk_alloc ?_ _)); exact BK220.out)) : gb221 ≠ gb220)); clear BK220; clear HB; have BK220 := n0_; have HB := n1_; have BK221 := n2_; have GW221 := n3_; have GE221 := n4_; have NB220_221 := n5_; have NB221_220 := n6_; clear n0_ n1_ n2_ n3_ n4_ n5_ n6_; clear hb hbox hg; have hnb7 := NB220_221.out; have hnc7 := NB221_220.out; have hcz8_0 : w6.cell? ⟨gb220, 0, none⟩ = some (.int .i64 a0_0) := (blk_cell BK220.out 0).trans rfl; have hcz8_1 : w6.cell? ⟨gb220, 1, none⟩ = some (.int .i64 a0_1) := (blk_cell BK220.out 1).trans rfl; have hcz8_2 : w6.cell? ⟨gb220, 2, none⟩ = some (.int .i64 a0_2) := (blk_cell BK220.out 2).trans rfl; have hcz8_3 : w6.cell? ⟨gb220, 3, none⟩ = some (.int .i64 a0_3) := (blk_cell BK220.out 3).trans rfl; have hfz8_0 := blk_frozen BK220.out 0; have hfz8_1 := blk_frozen BK220.out 1; have hfz8_2 := blk_frozen BK220.out 2; have hfz8_3 := blk_frozen BK220.out 3) | ((with_reducible refine gate_callee (f := 16) rfl ?_); refine goesL_ (some 7) rfl rfl Try.func16 (by kernel_rfl) rfl #[.agg #[.int .i64 a0_0, .int .i64 a0_1, .int .i64 a0_2, .int .i64 a0_3]] rfl (by (try simp only [List.map_toArray, List.map_cons, List.map_nil]); first | done | rfl | (simp only [List.length_drop, List.length_take]; rfl)) ?_; (with_reducible refine (replevinref16_Check.calls k a0_0 a0_1 a0_2 a0_3 t222 _ A2.out).mono ?_); rintro e w9 ⟨rfl, hb⟩; refine ⟨_, rfl, ?_⟩; have n0_ := Aside0.mk (blk_below (g := gb220) (o := .cells #[.int .i64 a0_0, .int .i64 a0_1, .int .i64 a0_2, .int .i64 a0_3] 23 (0, 0)) (by (with_reducible repeat (first | refine blk_drewN ?_ _ | refine blk_drew ?_ | refine blk_alloc ?_ _)); exact BK220.out) hb); have n1_ := Aside0.mk (blk_below (g := gb221) (o := .cells #[.int .u8 0, .int .u8 0, .int .u8 0, .int .u8 0] 41 (0, 0)) (by (with_reducible repeat (first | refine blk_drewN ?_ _ | refine blk_drew ?_ | refine blk_alloc ?_ _)); exact BK221.out) hb); have n2_ := Aside0.mk (below_step (by repeat (first | (with_reducible first | exact HB.out | apply below_alloc | apply pw_below_drewN | apply below_drew1 | refine below_set ?_ GE220.out | refine below_set ?_ GE221.out) | exact HB.out)) hb); clear BK220; clear BK221; clear HB; have BK220 := n0_; have BK221 := n1_; have HB := n2_; clear n0_ n1_ n2_; (try clear hb); (try clear hb2); (try clear hk); (try clear hi); have hcz10_0 : w9.cell? ⟨gb220, 0, none⟩ = some (.int .i64 a0_0) := (blk_cell BK220.out 0).trans rfl; have hcz10_1 : w9.cell? ⟨gb220, 1, none⟩ = some (.int .i64 a0_1) := (blk_cell BK220.out 1).trans rfl; have hcz10_2 : w9.cell? ⟨gb220, 2, none⟩ = some (.int .i64 a0_2) := (blk_cell BK220.out 2).trans rfl; have hcz10_3 : w9.cell? ⟨gb220, 3, none⟩ = some (.int .i64 a0_3) := (blk_cell BK220.out 3).trans rfl; have hfz10_0 := blk_frozen BK220.out 0; have hfz10_1 := blk_frozen BK220.out 1; have hfz10_2 := blk_frozen BK220.out 2; have hfz10_3 := blk_frozen BK220.out 3; have hcz11_0 : w9.cell? ⟨gb221, 0, none⟩ = some (.int .u8 0) := (blk_cell BK221.out 0).trans rfl; have hcz11_1 : w9.cell? ⟨gb221, 1, none⟩ = some (.int .u8 0) := (blk_cell BK221.out 1).trans rfl; have hcz11_2 : w9.cell? ⟨gb221, 2, none⟩ = some (.int .u8 0) := (blk_cell BK221.out 2).trans rfl; have hcz11_3 : w9.cell? ⟨gb221, 3, none⟩ = some (.int .u8 0) := (blk_cell BK221.out 3).trans rfl; have hfz11_0 := blk_frozen BK221.out 0; have hfz11_1 := blk_frozen BK221.out 1; have hfz11_2 := blk_frozen BK221.out 2; have hfz11_3 := blk_frozen BK221.out 3))
      refine bodyPost_ret (results_ct rfl _ _ gb221 41 #[.int .u8 ((a0_0) % 256), .int .u8 ((wrap64 ((wrap64 (16 * a0_1)) + a0_2)) % 256), .int .u8 ((Int.tmod (wrap64 (a0_3 + 65536)) 256) % 256), .int .u8 ((wrap64 (Int.tdiv (wrap64 (a0_3 + 65536)) 256)) % 256)] (0, 0) _ rfl (by (with_reducible repeat (first | refine blk_drewN ?_ _ | refine blk_drew ?_ | refine blk_alloc ?_ _)); refine blk_put (cs := #[.int .u8 ((a0_0) % 256), .int .u8 ((wrap64 ((wrap64 (16 * a0_1)) + a0_2)) % 256), .int .u8 ((Int.tmod (wrap64 (a0_3 + 65536)) 256) % 256), .int .u8 0]) ?_ 3 _ rfl; (with_reducible repeat (first | refine blk_drewN ?_ _ | refine blk_drew ?_ | refine blk_alloc ?_ _)); refine blk_put (cs := #[.int .u8 ((a0_0) % 256), .int .u8 ((wrap64 ((wrap64 (16 * a0_1)) + a0_2)) % 256), .int .u8 0, .int .u8 0]) ?_ 2 _ rfl; (with_reducible repeat (first | refine blk_drewN ?_ _ | refine blk_drew ?_ | refine blk_alloc ?_ _)); refine blk_put (cs := #[.int .u8 ((a0_0) % 256), .int .u8 0, .int .u8 0, .int .u8 0]) ?_ 1 _ rfl; (with_reducible repeat (first | refine blk_drewN ?_ _ | refine blk_drew ?_ | refine blk_alloc ?_ _)); refine blk_put (cs := #[.int .u8 0, .int .u8 0, .int .u8 0, .int .u8 0]) ?_ 0 _ rfl; (with_reducible repeat (first | refine blk_drewN ?_ _ | refine blk_drew ?_ | refine blk_alloc ?_ _)); exact BK221.out) Try.underlying41 rfl (by kernel_rfl)) rfl ?_
      exact ⟨by first | rfl | (simp [errW_none, errW_some] <;> rfl) | (simp [*, errW_none, errW_some] <;> rfl), by repeat (first | (with_reducible first | exact HB.out | apply below_alloc | apply pw_below_drewN | apply below_drew1 | refine below_set ?_ GE220.out | refine below_set ?_ GE221.out) | exact HB.out)⟩
    · rw [if_neg c4] at H
      have c4b0 : decide (a0_3 < 0) = false := decide_eq_false c4
      clear c4
      simp only [Option.some.injEq, Prod.mk.injEq] at H
      obtain ⟨rfl, rfl, rfl, rfl, rfl⟩ := H
      go_enter Try.func24, Try.ntmps24
      go_wp2_with (first | ((with_reducible refine gate_dst (N := 1) rfl ?_); refine box_event ?hg (N := 1) ?hd (cs := #[.int .i64 a0_0, .int .i64 a0_1, .int .i64 a0_2, .int .i64 a0_3]) (t := 23) ?hr ?_; (case hd => rfl); (case hg => rfl); (case hr => first | (go_simp; done) | (go_simp; rfl)); intro gb220 hg w12 hbox hb; have n0_ := Aside0.mk (below_step (by repeat (first | (with_reducible first | exact HB.out | apply below_alloc | apply pw_below_drewN | apply below_drew1) | exact HB.out)) hb); have n1_ := Aside0.mk (hbox); have n2_ := Aside0.mk ((by rw [hg]; exact (below_size (by repeat (first | (with_reducible first | exact HB.out | apply below_alloc | apply pw_below_drewN | apply below_drew1) | exact HB.out))) : w.heap.size ≤ gb220)); have n3_ := Aside0.mk ((by rw [hg]; exact (below_size (by repeat (first | (with_reducible first | exact HB.out | apply below_alloc | apply pw_below_drewN | apply below_drew1) | exact HB.out))) : w.heap.size ≤ gb220)); clear HB; have HB := n0_; have BK220 := n1_; have GW220 := n2_; have GE220 := n3_; clear n0_ n1_ n2_ n3_; clear hb hbox hg) | ((with_reducible refine gate_dst (N := 2) rfl ?_); refine box_event ?hg (N := 2) ?hd (cs := #[.int .u8 0, .int .u8 0, .int .u8 0, .int .u8 0]) (t := 41) ?hr ?_; (case hd => rfl); (case hg => rfl); (case hr => first | (go_simp; done) | (go_simp; rfl)); intro gb221 hg w13 hbox hb; have n0_ := Aside0.mk (blk_below (g := gb220) (o := .cells #[.int .i64 a0_0, .int .i64 a0_1, .int .i64 a0_2, .int .i64 a0_3] 23 (0, 0)) (by (with_reducible repeat (first | refine blk_drewN ?_ _ | refine blk_drew ?_ | refine blk_alloc ?_ _)); exact BK220.out) hb); have n1_ := Aside0.mk (below_step (by repeat (first | (with_reducible first | exact HB.out | apply below_alloc | apply pw_below_drewN | apply below_drew1 | refine below_set ?_ GE220.out) | exact HB.out)) hb); have n2_ := Aside0.mk (hbox); have n3_ := Aside0.mk ((by rw [hg]; exact (below_size (by repeat (first | (with_reducible first | exact HB.out | apply below_alloc | apply pw_below_drewN | apply below_drew1 | refine below_set ?_ GE220.out) | exact HB.out))) : w.heap.size ≤ gb221)); have n4_ := Aside0.mk ((by rw [hg]; exact (below_size (by repeat (first | (with_reducible first | exact HB.out | apply below_alloc | apply pw_below_drewN | apply below_drew1 | refine below_set ?_ GE220.out) | exact HB.out))) : w.heap.size ≤ gb221)); have n5_ := Aside0.mk ((by rw [hg]; exact Nat.ne_of_lt (blk_lt (g := gb220) (o := .cells #[.int .i64 a0_0, .int .i64 a0_1, .int .i64 a0_2, .int .i64 a0_3] 23 (0, 0)) (by (with_reducible repeat (first | refine blk_drewN ?_ _ | refine blk_drew ?_ | refine blk_alloc ?_ _)); exact BK220.out)) : gb220 ≠ gb221)); have n6_ := Aside0.mk ((by rw [hg]; exact Nat.ne_of_gt (blk_lt (g := gb220) (o := .cells #[.int .i64 a0_0, .int .i64 a0_1, .int .i64 a0_2, .int .i64 a0_3] 23 (0, 0)) (by (with_reducible repeat (first | refine blk_drewN ?_ _ | refine blk_drew ?_ | refine blk_alloc ?_ _)); exact BK220.out)) : gb221 ≠ gb220)); clear BK220; clear HB; have BK220 := n0_; have HB := n1_; have BK221 := n2_; have GW221 := n3_; have GE221 := n4_; have NB220_221 := n5_; have NB221_220 := n6_; clear n0_ n1_ n2_ n3_ n4_ n5_ n6_; clear hb hbox hg; have hnb14 := NB220_221.out; have hnc14 := NB221_220.out; have hcz15_0 : w13.cell? ⟨gb220, 0, none⟩ = some (.int .i64 a0_0) := (blk_cell BK220.out 0).trans rfl; have hcz15_1 : w13.cell? ⟨gb220, 1, none⟩ = some (.int .i64 a0_1) := (blk_cell BK220.out 1).trans rfl; have hcz15_2 : w13.cell? ⟨gb220, 2, none⟩ = some (.int .i64 a0_2) := (blk_cell BK220.out 2).trans rfl; have hcz15_3 : w13.cell? ⟨gb220, 3, none⟩ = some (.int .i64 a0_3) := (blk_cell BK220.out 3).trans rfl; have hfz15_0 := blk_frozen BK220.out 0; have hfz15_1 := blk_frozen BK220.out 1; have hfz15_2 := blk_frozen BK220.out 2; have hfz15_3 := blk_frozen BK220.out 3) | ((with_reducible refine gate_callee (f := 16) rfl ?_); refine goesL_ (some 7) rfl rfl Try.func16 (by kernel_rfl) rfl #[.agg #[.int .i64 a0_0, .int .i64 a0_1, .int .i64 a0_2, .int .i64 a0_3]] rfl (by (try simp only [List.map_toArray, List.map_cons, List.map_nil]); first | done | rfl | (simp only [List.length_drop, List.length_take]; rfl)) ?_; (with_reducible refine (replevinref16_Check.calls k a0_0 a0_1 a0_2 a0_3 t222 _ A2.out).mono ?_); rintro e w16 ⟨rfl, hb⟩; refine ⟨_, rfl, ?_⟩; have n0_ := Aside0.mk (blk_below (g := gb220) (o := .cells #[.int .i64 a0_0, .int .i64 a0_1, .int .i64 a0_2, .int .i64 a0_3] 23 (0, 0)) (by (with_reducible repeat (first | refine blk_drewN ?_ _ | refine blk_drew ?_ | refine blk_alloc ?_ _)); exact BK220.out) hb); have n1_ := Aside0.mk (blk_below (g := gb221) (o := .cells #[.int .u8 0, .int .u8 0, .int .u8 0, .int .u8 0] 41 (0, 0)) (by (with_reducible repeat (first | refine blk_drewN ?_ _ | refine blk_drew ?_ | refine blk_alloc ?_ _)); exact BK221.out) hb); have n2_ := Aside0.mk (below_step (by repeat (first | (with_reducible first | exact HB.out | apply below_alloc | apply pw_below_drewN | apply below_drew1 | refine below_set ?_ GE220.out | refine below_set ?_ GE221.out) | exact HB.out)) hb); clear BK220; clear BK221; clear HB; have BK220 := n0_; have BK221 := n1_; have HB := n2_; clear n0_ n1_ n2_; (try clear hb); (try clear hb2); (try clear hk); (try clear hi); have hcz17_0 : w16.cell? ⟨gb220, 0, none⟩ = some (.int .i64 a0_0) := (blk_cell BK220.out 0).trans rfl; have hcz17_1 : w16.cell? ⟨gb220, 1, none⟩ = some (.int .i64 a0_1) := (blk_cell BK220.out 1).trans rfl; have hcz17_2 : w16.cell? ⟨gb220, 2, none⟩ = some (.int .i64 a0_2) := (blk_cell BK220.out 2).trans rfl; have hcz17_3 : w16.cell? ⟨gb220, 3, none⟩ = some (.int .i64 a0_3) := (blk_cell BK220.out 3).trans rfl; have hfz17_0 := blk_frozen BK220.out 0; have hfz17_1 := blk_frozen BK220.out 1; have hfz17_2 := blk_frozen BK220.out 2; have hfz17_3 := blk_frozen BK220.out 3; have hcz18_0 : w16.cell? ⟨gb221, 0, none⟩ = some (.int .u8 0) := (blk_cell BK221.out 0).trans rfl; have hcz18_1 : w16.cell? ⟨gb221, 1, none⟩ = some (.int .u8 0) := (blk_cell BK221.out 1).trans rfl; have hcz18_2 : w16.cell? ⟨gb221, 2, none⟩ = some (.int .u8 0) := (blk_cell BK221.out 2).trans rfl; have hcz18_3 : w16.cell? ⟨gb221, 3, none⟩ = some (.int .u8 0) := (blk_cell BK221.out 3).trans rfl; have hfz18_0 := blk_frozen BK221.out 0; have hfz18_1 := blk_frozen BK221.out 1; have hfz18_2 := blk_frozen BK221.out 2; have hfz18_3 := blk_frozen BK221.out 3))
      refine bodyPost_ret (results_ct rfl _ _ gb221 41 #[.int .u8 ((a0_0) % 256), .int .u8 ((wrap64 ((wrap64 (16 * a0_1)) + a0_2)) % 256), .int .u8 ((Int.tmod a0_3 256) % 256), .int .u8 ((wrap64 (Int.tdiv a0_3 256)) % 256)] (0, 0) _ rfl (by (with_reducible repeat (first | refine blk_drewN ?_ _ | refine blk_drew ?_ | refine blk_alloc ?_ _)); refine blk_put (cs := #[.int .u8 ((a0_0) % 256), .int .u8 ((wrap64 ((wrap64 (16 * a0_1)) + a0_2)) % 256), .int .u8 ((Int.tmod a0_3 256) % 256), .int .u8 0]) ?_ 3 _ rfl; (with_reducible repeat (first | refine blk_drewN ?_ _ | refine blk_drew ?_ | refine blk_alloc ?_ _)); refine blk_put (cs := #[.int .u8 ((a0_0) % 256), .int .u8 ((wrap64 ((wrap64 (16 * a0_1)) + a0_2)) % 256), .int .u8 0, .int .u8 0]) ?_ 2 _ rfl; (with_reducible repeat (first | refine blk_drewN ?_ _ | refine blk_drew ?_ | refine blk_alloc ?_ _)); refine blk_put (cs := #[.int .u8 ((a0_0) % 256), .int .u8 0, .int .u8 0, .int .u8 0]) ?_ 1 _ rfl; (with_reducible repeat (first | refine blk_drewN ?_ _ | refine blk_drew ?_ | refine blk_alloc ?_ _)); refine blk_put (cs := #[.int .u8 0, .int .u8 0, .int .u8 0, .int .u8 0]) ?_ 0 _ rfl; (with_reducible repeat (first | refine blk_drewN ?_ _ | refine blk_drew ?_ | refine blk_alloc ?_ _)); exact BK221.out) Try.underlying41 rfl (by kernel_rfl)) rfl ?_
      exact ⟨by first | rfl | (simp [errW_none, errW_some] <;> rfl) | (simp [*, errW_none, errW_some] <;> rfl), by repeat (first | (with_reducible first | exact HB.out | apply below_alloc | apply pw_below_drewN | apply below_drew1 | refine below_set ?_ GE220.out | refine below_set ?_ GE221.out) | exact HB.out)⟩
  · rw [if_neg c3] at H
    have c3b0 : (t222 == 0) = false := beq_eq_false_iff_ne.mpr c3
    have c3b1 : (t222 != 0) = true := bne_iff_ne.mpr c3
    simp only [Option.some.injEq, Prod.mk.injEq] at H
    obtain ⟨rfl, rfl, rfl, rfl, rfl⟩ := H
    go_enter Try.func24, Try.ntmps24
    go_wp2_with (first | ((with_reducible refine gate_dst (N := 1) rfl ?_); refine box_event ?hg (N := 1) ?hd (cs := #[.int .i64 a0_0, .int .i64 a0_1, .int .i64 a0_2, .int .i64 a0_3]) (t := 23) ?hr ?_; (case hd => rfl); (case hg => rfl); (case hr => first | (go_simp; done) | (go_simp; rfl)); intro gb220 hg w19 hbox hb; have n0_ := Aside0.mk (below_step (by repeat (first | (with_reducible first | exact HB.out | apply below_alloc | apply pw_below_drewN | apply below_drew1) | exact HB.out)) hb); have n1_ := Aside0.mk (hbox); have n2_ := Aside0.mk ((by rw [hg]; exact (below_size (by repeat (first | (with_reducible first | exact HB.out | apply below_alloc | apply pw_below_drewN | apply below_drew1) | exact HB.out))) : w.heap.size ≤ gb220)); have n3_ := Aside0.mk ((by rw [hg]; exact (below_size (by repeat (first | (with_reducible first | exact HB.out | apply below_alloc | apply pw_below_drewN | apply below_drew1) | exact HB.out))) : w.heap.size ≤ gb220)); clear HB; have HB := n0_; have BK220 := n1_; have GW220 := n2_; have GE220 := n3_; clear n0_ n1_ n2_ n3_; clear hb hbox hg) | ((with_reducible refine gate_dst (N := 2) rfl ?_); refine box_event ?hg (N := 2) ?hd (cs := #[.int .u8 0, .int .u8 0, .int .u8 0, .int .u8 0]) (t := 41) ?hr ?_; (case hd => rfl); (case hg => rfl); (case hr => first | (go_simp; done) | (go_simp; rfl)); intro gb221 hg w20 hbox hb; have n0_ := Aside0.mk (blk_below (g := gb220) (o := .cells #[.int .i64 a0_0, .int .i64 a0_1, .int .i64 a0_2, .int .i64 a0_3] 23 (0, 0)) (by (with_reducible repeat (first | refine blk_drewN ?_ _ | refine blk_drew ?_ | refine blk_alloc ?_ _)); exact BK220.out) hb); have n1_ := Aside0.mk (below_step (by repeat (first | (with_reducible first | exact HB.out | apply below_alloc | apply pw_below_drewN | apply below_drew1 | refine below_set ?_ GE220.out) | exact HB.out)) hb); have n2_ := Aside0.mk (hbox); have n3_ := Aside0.mk ((by rw [hg]; exact (below_size (by repeat (first | (with_reducible first | exact HB.out | apply below_alloc | apply pw_below_drewN | apply below_drew1 | refine below_set ?_ GE220.out) | exact HB.out))) : w.heap.size ≤ gb221)); have n4_ := Aside0.mk ((by rw [hg]; exact (below_size (by repeat (first | (with_reducible first | exact HB.out | apply below_alloc | apply pw_below_drewN | apply below_drew1 | refine below_set ?_ GE220.out) | exact HB.out))) : w.heap.size ≤ gb221)); have n5_ := Aside0.mk ((by rw [hg]; exact Nat.ne_of_lt (blk_lt (g := gb220) (o := .cells #[.int .i64 a0_0, .int .i64 a0_1, .int .i64 a0_2, .int .i64 a0_3] 23 (0, 0)) (by (with_reducible repeat (first | refine blk_drewN ?_ _ | refine blk_drew ?_ | refine blk_alloc ?_ _)); exact BK220.out)) : gb220 ≠ gb221)); have n6_ := Aside0.mk ((by rw [hg]; exact Nat.ne_of_gt (blk_lt (g := gb220) (o := .cells #[.int .i64 a0_0, .int .i64 a0_1, .int .i64 a0_2, .int .i64 a0_3] 23 (0, 0)) (by (with_reducible repeat (first | refine blk_drewN ?_ _ | refine blk_drew ?_ | refine blk_alloc ?_ _)); exact BK220.out)) : gb221 ≠ gb220)); clear BK220; clear HB; have BK220 := n0_; have HB := n1_; have BK221 := n2_; have GW221 := n3_; have GE221 := n4_; have NB220_221 := n5_; have NB221_220 := n6_; clear n0_ n1_ n2_ n3_ n4_ n5_ n6_; clear hb hbox hg; have hnb21 := NB220_221.out; have hnc21 := NB221_220.out; have hcz22_0 : w20.cell? ⟨gb220, 0, none⟩ = some (.int .i64 a0_0) := (blk_cell BK220.out 0).trans rfl; have hcz22_1 : w20.cell? ⟨gb220, 1, none⟩ = some (.int .i64 a0_1) := (blk_cell BK220.out 1).trans rfl; have hcz22_2 : w20.cell? ⟨gb220, 2, none⟩ = some (.int .i64 a0_2) := (blk_cell BK220.out 2).trans rfl; have hcz22_3 : w20.cell? ⟨gb220, 3, none⟩ = some (.int .i64 a0_3) := (blk_cell BK220.out 3).trans rfl; have hfz22_0 := blk_frozen BK220.out 0; have hfz22_1 := blk_frozen BK220.out 1; have hfz22_2 := blk_frozen BK220.out 2; have hfz22_3 := blk_frozen BK220.out 3) | ((with_reducible refine gate_callee (f := 16) rfl ?_); refine goesL_ (some 7) rfl rfl Try.func16 (by kernel_rfl) rfl #[.agg #[.int .i64 a0_0, .int .i64 a0_1, .int .i64 a0_2, .int .i64 a0_3]] rfl (by (try simp only [List.map_toArray, List.map_cons, List.map_nil]); first | done | rfl | (simp only [List.length_drop, List.length_take]; rfl)) ?_; (with_reducible refine (replevinref16_Check.calls k a0_0 a0_1 a0_2 a0_3 t222 _ A2.out).mono ?_); rintro e w23 ⟨rfl, hb⟩; refine ⟨_, rfl, ?_⟩; have n0_ := Aside0.mk (blk_below (g := gb220) (o := .cells #[.int .i64 a0_0, .int .i64 a0_1, .int .i64 a0_2, .int .i64 a0_3] 23 (0, 0)) (by (with_reducible repeat (first | refine blk_drewN ?_ _ | refine blk_drew ?_ | refine blk_alloc ?_ _)); exact BK220.out) hb); have n1_ := Aside0.mk (blk_below (g := gb221) (o := .cells #[.int .u8 0, .int .u8 0, .int .u8 0, .int .u8 0] 41 (0, 0)) (by (with_reducible repeat (first | refine blk_drewN ?_ _ | refine blk_drew ?_ | refine blk_alloc ?_ _)); exact BK221.out) hb); have n2_ := Aside0.mk (below_step (by repeat (first | (with_reducible first | exact HB.out | apply below_alloc | apply pw_below_drewN | apply below_drew1 | refine below_set ?_ GE220.out | refine below_set ?_ GE221.out) | exact HB.out)) hb); clear BK220; clear BK221; clear HB; have BK220 := n0_; have BK221 := n1_; have HB := n2_; clear n0_ n1_ n2_; (try clear hb); (try clear hb2); (try clear hk); (try clear hi); have hcz24_0 : w23.cell? ⟨gb221, 0, none⟩ = some (.int .u8 0) := (blk_cell BK221.out 0).trans rfl; have hcz24_1 : w23.cell? ⟨gb221, 1, none⟩ = some (.int .u8 0) := (blk_cell BK221.out 1).trans rfl; have hcz24_2 : w23.cell? ⟨gb221, 2, none⟩ = some (.int .u8 0) := (blk_cell BK221.out 2).trans rfl; have hcz24_3 : w23.cell? ⟨gb221, 3, none⟩ = some (.int .u8 0) := (blk_cell BK221.out 3).trans rfl; have hfz24_0 := blk_frozen BK221.out 0; have hfz24_1 := blk_frozen BK221.out 1; have hfz24_2 := blk_frozen BK221.out 2; have hfz24_3 := blk_frozen BK221.out 3))
    refine bodyPost_ret (results_ct rfl _ _ gb221 41 #[.int .u8 0, .int .u8 0, .int .u8 0, .int .u8 0] (0, 0) _ rfl (by (with_reducible repeat (first | refine blk_drewN ?_ _ | refine blk_drew ?_ | refine blk_alloc ?_ _)); refine blk_put (cs := #[.int .u8 0, .int .u8 0, .int .u8 0, .int .u8 0]) ?_ 3 _ rfl; (with_reducible repeat (first | refine blk_drewN ?_ _ | refine blk_drew ?_ | refine blk_alloc ?_ _)); refine blk_put (cs := #[.int .u8 0, .int .u8 0, .int .u8 0, .int .u8 0]) ?_ 2 _ rfl; (with_reducible repeat (first | refine blk_drewN ?_ _ | refine blk_drew ?_ | refine blk_alloc ?_ _)); refine blk_put (cs := #[.int .u8 0, .int .u8 0, .int .u8 0, .int .u8 0]) ?_ 1 _ rfl; (with_reducible repeat (first | refine blk_drewN ?_ _ | refine blk_drew ?_ | refine blk_alloc ?_ _)); refine blk_put (cs := #[.int .u8 0, .int .u8 0, .int .u8 0, .int .u8 0]) ?_ 0 _ rfl; (with_reducible repeat (first | refine blk_drewN ?_ _ | refine blk_drew ?_ | refine blk_alloc ?_ _)); exact BK221.out) Try.underlying41 rfl (by kernel_rfl)) rfl ?_
    exact ⟨by first | rfl | (simp [errW_none, errW_some] <;> rfl) | (simp [*, errW_none, errW_some] <;> rfl), by repeat (first | (with_reducible first | exact HB.out | apply below_alloc | apply pw_below_drewN | apply below_drew1 | refine below_set ?_ GE220.out | refine below_set ?_ GE221.out) | exact HB.out)⟩

end Go.Proofs.Ytdnhekgdpolenaa.Q
