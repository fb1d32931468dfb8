/- Functions of the seat and their walks, written by a program of this session. -/
import Derived.Test.YtdnhekgdpolenaaQx0
import Derived.Test.YtdnhekgdpolenaaQx8
namespace Go.Proofs.Ytdnhekgdpolenaa.Q
open Go.RowKit Go.Proofs.YtdnhekgdpolenaaW.PrintWords Go.Proofs.YtdnhekgdpolenaaW.PrintLast Go.Proofs.YtdnhekgdpolenaaW.PrintMore
attribute [local go_sem] max2_int min2_int max_two min_two max_three min_three max_four min_four   -- for this text's walks alone
set_option linter.unusedVariables false
set_option linter.unusedSimpArgs false

/-! ### replevinref16_Calculate: function 18 -/
mutual
def replevinref16_Calculate.j0 : Nat → Int → Int → Int → Int → Int → Int → Int → Int → Int → Bool → Option (Int × Int)
  | 0, _, _, _, _, _, _, _, _, _, _ => none
  | k + 1, x0, x1, x2, x8, x9, x10, x11, x12, x25, x50 => if x50 = true then (if x11 = 0 then (some (0, 38)) else (if x0 = 8 then ((replevinref16_Unsigned.f (wrap64 (x10 - (wrap64 (x11 * (wrap64 (Int.tdiv x10 x11))))))).bind fun t176 => (some (t176, 0))) else ((replevinref16_Unsigned.f (wrap64 (Int.tdiv x10 x11))).bind fun t177 => (some (t177, 0))))) else (if x25 = 9 then (replevinref16_Calculate.j1 k x0 x1 x2 x8 x9 x10 x11 x12 x25 (x25 == 9)) else (if x25 = 10 then (replevinref16_Calculate.j1 k x0 x1 x2 x8 x9 x10 x11 x12 x25 (x25 == 10)) else (replevinref16_Calculate.j1 k x0 x1 x2 x8 x9 x10 x11 x12 x25 (x25 == 11))))
def replevinref16_Calculate.j1 : Nat → Int → Int → Int → Int → Int → Int → Int → Int → Int → Bool → Option (Int × Int)
  | 0, _, _, _, _, _, _, _, _, _, _ => none
  | k + 1, x0, x1, x2, x8, x9, x10, x11, x12, x25, x65 => if x65 = true then (replevinref16_Calculate.l0 k x0 x1 x2 x12 31) else (if x25 = 12 then (replevinref16_Calculate.l1 k x9 x8 0) else (if x25 = 13 then (replevinref16_Calculate.l2 k x9 x8 0) else (if x25 = 14 then (if x10 < x11 then ((replevinref16_Unsigned.f 1).bind fun t183 => (some (t183, 0))) else ((replevinref16_Unsigned.f x12).bind fun t184 => (some (t184, 0)))) else (if x25 = 15 then (if x8 = x9 then ((replevinref16_Unsigned.f 1).bind fun t185 => (some (t185, 0))) else ((replevinref16_Unsigned.f x12).bind fun t186 => (some (t186, 0)))) else (some (0, 11))))))
def replevinref16_Calculate.l0 : Nat → Int → Int → Int → Int → Int → Option (Int × Int)
  | 0, _, _, _, _, _ => none
  | k + 1, x0, x1, x2, x12, x13 => if x13 ≥ 0 then ((replevinref16_bit.f x1 x13).bind fun t179 => ((replevinref16_bit.f x2 x13).bind fun t180 => (if x0 = 9 then (if (wrap64 (t179 + t180)) = 2 then (replevinref16_Calculate.l0 k x0 x1 x2 (wrap64 ((wrap64 (2 * x12)) + 1)) (wrap64 (x13 - 1))) else (if x0 = 10 then (if (wrap64 (t179 + t180)) > 0 then (replevinref16_Calculate.l0 k x0 x1 x2 (wrap64 ((wrap64 (2 * x12)) + 1)) (wrap64 (x13 - 1))) else (if x0 = 11 then (if (wrap64 (t179 + t180)) = 1 then (replevinref16_Calculate.l0 k x0 x1 x2 (wrap64 ((wrap64 (2 * x12)) + 1)) (wrap64 (x13 - 1))) else (replevinref16_Calculate.l0 k x0 x1 x2 (wrap64 (2 * x12)) (wrap64 (x13 - 1)))) else (replevinref16_Calculate.l0 k x0 x1 x2 (wrap64 (2 * x12)) (wrap64 (x13 - 1))))) else (if x0 = 11 then (if (wrap64 (t179 + t180)) = 1 then (replevinref16_Calculate.l0 k x0 x1 x2 (wrap64 ((wrap64 (2 * x12)) + 1)) (wrap64 (x13 - 1))) else (replevinref16_Calculate.l0 k x0 x1 x2 (wrap64 (2 * x12)) (wrap64 (x13 - 1)))) else (replevinref16_Calculate.l0 k x0 x1 x2 (wrap64 (2 * x12)) (wrap64 (x13 - 1)))))) else (if x0 = 10 then (if (wrap64 (t179 + t180)) > 0 then (replevinref16_Calculate.l0 k x0 x1 x2 (wrap64 ((wrap64 (2 * x12)) + 1)) (wrap64 (x13 - 1))) else (if x0 = 11 then (if (wrap64 (t179 + t180)) = 1 then (replevinref16_Calculate.l0 k x0 x1 x2 (wrap64 ((wrap64 (2 * x12)) + 1)) (wrap64 (x13 - 1))) else (replevinref16_Calculate.l0 k x0 x1 x2 (wrap64 (2 * x12)) (wrap64 (x13 - 1)))) else (replevinref16_Calculate.l0 k x0 x1 x2 (wrap64 (2 * x12)) (wrap64 (x13 - 1))))) else (if x0 = 11 then (if (wrap64 (t179 + t180)) = 1 then (replevinref16_Calculate.l0 k x0 x1 x2 (wrap64 ((wrap64 (2 * x12)) + 1)) (wrap64 (x13 - 1))) else (replevinref16_Calculate.l0 k x0 x1 x2 (wrap64 (2 * x12)) (wrap64 (x13 - 1)))) else (replevinref16_Calculate.l0 k x0 x1 x2 (wrap64 (2 * x12)) (wrap64 (x13 - 1)))))))) else ((replevinref16_Unsigned.f x12).bind fun t178 => (some (t178, 0)))
def replevinref16_Calculate.l1 : Nat → Int → Int → Int → Option (Int × Int)
  | 0, _, _, _ => none
  | k + 1, x9, x12, x15 => if x15 < (Int.tmod x9 32) then (replevinref16_Calculate.l1 k x9 (Int.tmod (wrap64 (x12 * 2)) 4294967296) (wrap64 (x15 + 1))) else ((replevinref16_Unsigned.f x12).bind fun t181 => (some (t181, 0)))
def replevinref16_Calculate.l2 : Nat → Int → Int → Int → Option (Int × Int)
  | 0, _, _, _ => none
  | k + 1, x9, x12, x16 => if x16 < (Int.tmod x9 32) then (replevinref16_Calculate.l2 k x9 (wrap64 (Int.tdiv x12 2)) (wrap64 (x16 + 1))) else ((replevinref16_Unsigned.f x12).bind fun t182 => (some (t182, 0)))
end
def replevinref16_Calculate.f (k : Nat) (a0 : Int) (a1 : Int) (a2 : Int) : Option (Int × Int) := (replevinref16_Signed.f a1).bind fun t171 => ((replevinref16_Signed.f a2).bind fun t172 => (if a0 = 4 then ((replevinref16_Unsigned.f (wrap64 ((wrap64 (a1)) + (wrap64 (a2))))).bind fun t173 => (some (t173, 0))) else (if a0 = 5 then ((replevinref16_Unsigned.f (wrap64 ((wrap64 (a1)) - (wrap64 (a2))))).bind fun t174 => (some (t174, 0))) else (if a0 = 6 then ((replevinref16_Unsigned.f (wrap64 ((Int.tmod (wrap64 ((Int.tmod (wrap64 (a1)) 65536) * (wrap64 (a2)))) 4294967296) + (wrap64 ((Int.tmod (wrap64 ((wrap64 (Int.tdiv (wrap64 (a1)) 65536)) * (wrap64 (a2)))) 65536) * 65536))))).bind fun t175 => (some (t175, 0))) else (if a0 = 7 then (replevinref16_Calculate.j0 k a0 a1 a2 (wrap64 (a1)) (wrap64 (a2)) t171 t172 0 a0 (a0 == 7)) else (replevinref16_Calculate.j0 k a0 a1 a2 (wrap64 (a1)) (wrap64 (a2)) t171 t172 0 a0 (a0 == 8)))))))
theorem replevinref16_Calculate.mono_l : ∀ k, (∀ y0 y1 y2 y3 y4 y5 y6 y7 y8 y9, LeO (replevinref16_Calculate.j0 k y0 y1 y2 y3 y4 y5 y6 y7 y8 y9) (replevinref16_Calculate.j0 (k + 1) y0 y1 y2 y3 y4 y5 y6 y7 y8 y9)) ∧ (∀ y0 y1 y2 y3 y4 y5 y6 y7 y8 y9, LeO (replevinref16_Calculate.j1 k y0 y1 y2 y3 y4 y5 y6 y7 y8 y9) (replevinref16_Calculate.j1 (k + 1) y0 y1 y2 y3 y4 y5 y6 y7 y8 y9)) ∧ (∀ y0 y1 y2 y3 y4, LeO (replevinref16_Calculate.l0 k y0 y1 y2 y3 y4) (replevinref16_Calculate.l0 (k + 1) y0 y1 y2 y3 y4)) ∧ (∀ y0 y1 y2, LeO (replevinref16_Calculate.l1 k y0 y1 y2) (replevinref16_Calculate.l1 (k + 1) y0 y1 y2)) ∧ (∀ y0 y1 y2, LeO (replevinref16_Calculate.l2 k y0 y1 y2) (replevinref16_Calculate.l2 (k + 1) y0 y1 y2))
  | 0 => ⟨fun _ _ _ _ _ _ _ _ _ _ r h => by simp [replevinref16_Calculate.j0] at h, fun _ _ _ _ _ _ _ _ _ _ r h => by simp [replevinref16_Calculate.j1] at h, fun _ _ _ _ _ r h => by simp [replevinref16_Calculate.l0] at h, fun _ _ _ r h => by simp [replevinref16_Calculate.l1] at h, fun _ _ _ r h => by simp [replevinref16_Calculate.l2] at h⟩
  | k + 1 => by
    obtain ⟨ih0, ih1, ih2, ih3, ih4⟩ := replevinref16_Calculate.mono_l k
    refine ⟨?_, ?_, ?_, ?_, ?_⟩
    · intro y0 y1 y2 y3 y4 y5 y6 y7 y8 y9
      unfold replevinref16_Calculate.j0
      repeat' first
      | (with_reducible exact ih0 _ _ _ _ _ _ _ _ _ _)
      | (with_reducible exact ih1 _ _ _ _ _ _ _ _ _ _)
      | (with_reducible exact ih2 _ _ _ _ _)
      | (with_reducible exact ih3 _ _ _)
      | (with_reducible exact ih4 _ _ _)
      | (with_reducible exact LeO.refl _)
      | (with_reducible exact LeO.none _)
      | (with_reducible refine LeO.ite ?_ ?_)
      | (with_reducible refine LeO.bind ?_ (fun _ => ?_))
      | exact ih0 _ _ _ _ _ _ _ _ _ _
      | exact ih1 _ _ _ _ _ _ _ _ _ _
      | exact ih2 _ _ _ _ _
      | exact ih3 _ _ _
      | exact ih4 _ _ _
      | exact LeO.none _
      | refine LeO.ite ?_ ?_
      | refine LeO.bind ?_ (fun _ => ?_)
    · intro y0 y1 y2 y3 y4 y5 y6 y7 y8 y9
      unfold replevinref16_Calculate.j1
      repeat' first
      | (with_reducible exact ih0 _ _ _ _ _ _ _ _ _ _)
      | (with_reducible exact ih1 _ _ _ _ _ _ _ _ _ _)
      | (with_reducible exact ih2 _ _ _ _ _)
      | (with_reducible exact ih3 _ _ _)
      | (with_reducible exact ih4 _ _ _)
      | (with_reducible exact LeO.refl _)
      | (with_reducible exact LeO.none _)
      | (with_reducible refine LeO.ite ?_ ?_)
      | (with_reducible refine LeO.bind ?_ (fun _ => ?_))
      | exact ih0 _ _ _ _ _ _ _ _ _ _
      | exact ih1 _ _ _ _ _ _ _ _ _ _
      | exact ih2 _ _ _ _ _
      | exact ih3 _ _ _
      | exact ih4 _ _ _
      | exact LeO.none _
      | refine LeO.ite ?_ ?_
      | refine LeO.bind ?_ (fun _ => ?_)
    · intro y0 y1 y2 y3 y4
      unfold replevinref16_Calculate.l0
      repeat' first
      | (with_reducible exact ih0 _ _ _ _ _ _ _ _ _ _)
      | (with_reducible exact ih1 _ _ _ _ _ _ _ _ _ _)
      | (with_reducible exact ih2 _ _ _ _ _)
      | (with_reducible exact ih3 _ _ _)
      | (with_reducible exact ih4 _ _ _)
      | (with_reducible exact LeO.refl _)
      | (with_reducible exact LeO.none _)
      | (with_reducible refine LeO.ite ?_ ?_)
      | (with_reducible refine LeO.bind ?_ (fun _ => ?_))
      | exact ih0 _ _ _ _ _ _ _ _ _ _
      | exact ih1 _ _ _ _ _ _ _ _ _ _
      | exact ih2 _ _ _ _ _
      | exact ih3 _ _ _
      | exact ih4 _ _ _
      | exact LeO.none _
      | refine LeO.ite ?_ ?_
      | refine LeO.bind ?_ (fun _ => ?_)
    · intro y0 y1 y2
      unfold replevinref16_Calculate.l1
      repeat' first
      | (with_reducible exact ih0 _ _ _ _ _ _ _ _ _ _)
      | (with_reducible exact ih1 _ _ _ _ _ _ _ _ _ _)
      | (with_reducible exact ih2 _ _ _ _ _)
      | (with_reducible exact ih3 _ _ _)
      | (with_reducible exact ih4 _ _ _)
      | (with_reducible exact LeO.refl _)
      | (with_reducible exact LeO.none _)
      | (with_reducible refine LeO.ite ?_ ?_)
      | (with_reducible refine LeO.bind ?_ (fun _ => ?_))
      | exact ih0 _ _ _ _ _ _ _ _ _ _
      | exact ih1 _ _ _ _ _ _ _ _ _ _
      | exact ih2 _ _ _ _ _
      | exact ih3 _ _ _
      | exact ih4 _ _ _
      | exact LeO.none _
      | refine LeO.ite ?_ ?_
      | refine LeO.bind ?_ (fun _ => ?_)
    · intro y0 y1 y2
      unfold replevinref16_Calculate.l2
      repeat' first
      | (with_reducible exact ih0 _ _ _ _ _ _ _ _ _ _)
      | (with_reducible exact ih1 _ _ _ _ _ _ _ _ _ _)
      | (with_reducible exact ih2 _ _ _ _ _)
      | (with_reducible exact ih3 _ _ _)
      | (with_reducible exact ih4 _ _ _)
      | (with_reducible exact LeO.refl _)
      | (with_reducible exact LeO.none _)
      | (with_reducible refine LeO.ite ?_ ?_)
      | (with_reducible refine LeO.bind ?_ (fun _ => ?_))
      | exact ih0 _ _ _ _ _ _ _ _ _ _
      | exact ih1 _ _ _ _ _ _ _ _ _ _
      | exact ih2 _ _ _ _ _
      | exact ih3 _ _ _
      | exact ih4 _ _ _
      | exact LeO.none _
      | refine LeO.ite ?_ ?_
      | refine LeO.bind ?_ (fun _ => ?_)
theorem replevinref16_Calculate.mono : ∀ a0 a1 a2 k, LeO (replevinref16_Calculate.f k a0 a1 a2) (replevinref16_Calculate.f (k + 1) a0 a1 a2) := by
  intro a0 a1 a2 k
  obtain ⟨ih0, ih1, ih2, ih3, ih4⟩ := replevinref16_Calculate.mono_l k
  unfold replevinref16_Calculate.f
  repeat' first
      | (with_reducible exact ih0 _ _ _ _ _ _ _ _ _ _)
      | (with_reducible exact ih1 _ _ _ _ _ _ _ _ _ _)
      | (with_reducible exact ih2 _ _ _ _ _)
      | (with_reducible exact ih3 _ _ _)
      | (with_reducible exact ih4 _ _ _)
      | (with_reducible exact LeO.refl _)
      | (with_reducible exact LeO.none _)
      | (with_reducible refine LeO.ite ?_ ?_)
      | (with_reducible refine LeO.bind ?_ (fun _ => ?_))
      | exact ih0 _ _ _ _ _ _ _ _ _ _
      | exact ih1 _ _ _ _ _ _ _ _ _ _
      | exact ih2 _ _ _ _ _
      | exact ih3 _ _ _
      | exact ih4 _ _ _
      | exact LeO.none _
      | refine LeO.ite ?_ ?_
      | refine LeO.bind ?_ (fun _ => ?_)
set_option maxHeartbeats 8000000 in
set_option maxRecDepth 100000 in
theorem replevinref16_Calculate.calls (k : Nat) (a0 : Int) (a1 : Int) (a2 : Int) (r1 : Int) (r2 : Int) (w : World) (h : replevinref16_Calculate.f k a0 a1 a2 = some (r1, r2)) :
    Calls Try.prog 18 #[.int .i64 a0, .int .u32 a1, .int .u32 a2] w fun e w' => e = .returned (.tuple #[.int .u32 r1, .int .i64 r2]) ∧ Drawn0 w w' := by
  have H : ((replevinref16_Signed.f a1).bind fun t171 => ((replevinref16_Signed.f a2).bind fun t172 => (if a0 = 4 then ((replevinref16_Unsigned.f (wrap64 ((wrap64 (a1)) + (wrap64 (a2))))).bind fun t173 => (some (t173, 0))) else (if a0 = 5 then ((replevinref16_Unsigned.f (wrap64 ((wrap64 (a1)) - (wrap64 (a2))))).bind fun t174 => (some (t174, 0))) else (if a0 = 6 then ((replevinref16_Unsigned.f (wrap64 ((Int.tmod (wrap64 ((Int.tmod (wrap64 (a1)) 65536) * (wrap64 (a2)))) 4294967296) + (wrap64 ((Int.tmod (wrap64 ((wrap64 (Int.tdiv (wrap64 (a1)) 65536)) * (wrap64 (a2)))) 65536) * 65536))))).bind fun t175 => (some (t175, 0))) else (if a0 = 7 then (replevinref16_Calculate.j0 k a0 a1 a2 (wrap64 (a1)) (wrap64 (a2)) t171 t172 0 a0 (a0 == 7)) else (replevinref16_Calculate.j0 k a0 a1 a2 (wrap64 (a1)) (wrap64 (a2)) t171 t172 0 a0 (a0 == 8)))))))) = some (r1, r2) := h
  clear h
  replace H := Option.bind_eq_some_iff.mp H
  obtain ⟨t171, A40, H⟩ := H
  replace H : ((replevinref16_Signed.f a2).bind fun t172 => (if a0 = 4 then ((replevinref16_Unsigned.f (wrap64 ((wrap64 (a1)) + (wrap64 (a2))))).bind fun t173 => (some (t173, 0))) else (if a0 = 5 then ((replevinref16_Unsigned.f (wrap64 ((wrap64 (a1)) - (wrap64 (a2))))).bind fun t174 => (some (t174, 0))) else (if a0 = 6 then ((replevinref16_Unsigned.f (wrap64 ((Int.tmod (wrap64 ((Int.tmod (wrap64 (a1)) 65536) * (wrap64 (a2)))) 4294967296) + (wrap64 ((Int.tmod (wrap64 ((wrap64 (Int.tdiv (wrap64 (a1)) 65536)) * (wrap64 (a2)))) 65536) * 65536))))).bind fun t175 => (some (t175, 0))) else (if a0 = 7 then (replevinref16_Calculate.j0 k a0 a1 a2 (wrap64 (a1)) (wrap64 (a2)) t171 t172 0 a0 (a0 == 7)) else (replevinref16_Calculate.j0 k a0 a1 a2 (wrap64 (a1)) (wrap64 (a2)) t171 t172 0 a0 (a0 == 8))))))) = some (r1, r2) := H
  have A4 := Aside0.mk A40
  clear A40
  replace H := Option.bind_eq_some_iff.mp H
  obtain ⟨t172, A50, H⟩ := H
  replace H : (if a0 = 4 then ((replevinref16_Unsigned.f (wrap64 ((wrap64 (a1)) + (wrap64 (a2))))).bind fun t173 => (some (t173, 0))) else (if a0 = 5 then ((replevinref16_Unsigned.f (wrap64 ((wrap64 (a1)) - (wrap64 (a2))))).bind fun t174 => (some (t174, 0))) else (if a0 = 6 then ((replevinref16_Unsigned.f (wrap64 ((Int.tmod (wrap64 ((Int.tmod (wrap64 (a1)) 65536) * (wrap64 (a2)))) 4294967296) + (wrap64 ((Int.tmod (wrap64 ((wrap64 (Int.tdiv (wrap64 (a1)) 65536)) * (wrap64 (a2)))) 65536) * 65536))))).bind fun t175 => (some (t175, 0))) else (if a0 = 7 then (replevinref16_Calculate.j0 k a0 a1 a2 (wrap64 (a1)) (wrap64 (a2)) t171 t172 0 a0 (a0 == 7)) else (replevinref16_Calculate.j0 k a0 a1 a2 (wrap64 (a1)) (wrap64 (a2)) t171 t172 0 a0 (a0 == 8)))))) = some (r1, r2) := H
  have A5 := Aside0.mk A50
  clear A50
  by_cases c6 : a0 = 4
  · rw [if_pos c6] at H
    have c6b0 : (a0 == 4) = true := beq_iff_eq.mpr c6
    have c6b1 : (a0 != 4) = false := bne_eq_false_iff_eq.mpr c6
    clear c6
    replace H := Option.bind_eq_some_iff.mp H
    obtain ⟨t173, A70, H⟩ := H
    replace H : (some (t173, 0)) = some (r1, r2) := H
    have A7 := Aside0.mk A70
    clear A70
    simp only [Option.some.injEq, Prod.mk.injEq] at H
    obtain ⟨rfl, rfl⟩ := H
    go_enter Try.func18, Try.ntmps18
    go_wp2_with (first | ((with_reducible refine gate_callee (f := 21) rfl ?_); refine goesL_ (some 22) rfl rfl Try.func21 (by kernel_rfl) rfl #[.int .u32 a1] rfl (by (try simp only [List.map_toArray, List.map_cons, List.map_nil]); first | done | rfl | (simp only [List.length_drop, List.length_take]; rfl)) ?_; (with_reducible refine (replevinref16_Signed.calls a1 t171 _ A4.out).mono ?_); rintro e w' ⟨rfl, ⟨nd, rfl⟩⟩; refine ⟨_, rfl, ?_⟩) | ((with_reducible refine gate_callee (f := 21) rfl ?_); refine goesL_ (some 24) rfl rfl Try.func21 (by kernel_rfl) rfl #[.int .u32 a2] rfl (by (try simp only [List.map_toArray, List.map_cons, List.map_nil]); first | done | rfl | (simp only [List.length_drop, List.length_take]; rfl)) ?_; (with_reducible refine (replevinref16_Signed.calls a2 t172 _ A5.out).mono ?_); rintro e w' ⟨rfl, ⟨nd, rfl⟩⟩; refine ⟨_, rfl, ?_⟩) | ((with_reducible refine gate_callee (f := 22) rfl ?_); refine goesL_ (some 140) rfl rfl Try.func22 (by kernel_rfl) rfl #[.int .i64 (wrap64 ((wrap64 (a1)) + (wrap64 (a2))))] rfl (by (try simp only [List.map_toArray, List.map_cons, List.map_nil]); first | done | rfl | (simp only [List.length_drop, List.length_take]; rfl)) ?_; (with_reducible refine (replevinref16_Unsigned.calls (wrap64 ((wrap64 (a1)) + (wrap64 (a2)))) t173 _ A7.out).mono ?_); rintro e w' ⟨rfl, ⟨nd, rfl⟩⟩; refine ⟨_, rfl, ?_⟩))
    go_ret2
    exact ⟨by first | rfl | (simp; done) | (simp [*]; done), by repeat (first | exact Drawn0.refl _ | apply Drawn0.step)⟩
  · rw [if_neg c6] at H
    have c6b0 : (a0 == 4) = false := beq_eq_false_iff_ne.mpr c6
    have c6b1 : (a0 != 4) = true := bne_iff_ne.mpr c6
    by_cases c8 : a0 = 5
    · rw [if_pos c8] at H
      have c8b0 : (a0 == 5) = true := beq_iff_eq.mpr c8
      have c8b1 : (a0 != 5) = false := bne_eq_false_iff_eq.mpr c8
      clear c8
      replace H := Option.bind_eq_some_iff.mp H
      obtain ⟨t174, A90, H⟩ := H
      replace H : (some (t174, 0)) = some (r1, r2) := H
      have A9 := Aside0.mk A90
      clear A90
      simp only [Option.some.injEq, Prod.mk.injEq] at H
      obtain ⟨rfl, rfl⟩ := H
      go_enter Try.func18, Try.ntmps18
      go_wp2_with (first | ((with_reducible refine gate_callee (f := 21) rfl ?_); refine goesL_ (some 22) rfl rfl Try.func21 (by kernel_rfl) rfl #[.int .u32 a1] rfl (by (try simp only [List.map_toArray, List.map_cons, List.map_nil]); first | done | rfl | (simp only [List.length_drop, List.length_take]; rfl)) ?_; (with_reducible refine (replevinref16_Signed.calls a1 t171 _ A4.out).mono ?_); rintro e w' ⟨rfl, ⟨nd, rfl⟩⟩; refine ⟨_, rfl, ?_⟩) | ((with_reducible refine gate_callee (f := 21) rfl ?_); refine goesL_ (some 24) rfl rfl Try.func21 (by kernel_rfl) rfl #[.int .u32 a2] rfl (by (try simp only [List.map_toArray, List.map_cons, List.map_nil]); first | done | rfl | (simp only [List.length_drop, List.length_take]; rfl)) ?_; (with_reducible refine (replevinref16_Signed.calls a2 t172 _ A5.out).mono ?_); rintro e w' ⟨rfl, ⟨nd, rfl⟩⟩; refine ⟨_, rfl, ?_⟩) | ((with_reducible refine gate_callee (f := 22) rfl ?_); refine goesL_ (some 140) rfl rfl Try.func22 (by kernel_rfl) rfl #[.int .i64 (wrap64 ((wrap64 (a1)) - (wrap64 (a2))))] rfl (by (try simp only [List.map_toArray, List.map_cons, List.map_nil]); first | done | rfl | (simp only [List.length_drop, List.length_take]; rfl)) ?_; (with_reducible refine (replevinref16_Unsigned.calls (wrap64 ((wrap64 (a1)) - (wrap64 (a2)))) t174 _ A9.out).mono ?_); rintro e w' ⟨rfl, ⟨nd, rfl⟩⟩; refine ⟨_, rfl, ?_⟩))
      go_ret2
      exact ⟨by first | rfl | (simp; done) | (simp [*]; done), by repeat (first | exact Drawn0.refl _ | apply Drawn0.step)⟩
    · rw [if_neg c8] at H
      have c8b0 : (a0 == 5) = false := beq_eq_false_iff_ne.mpr c8
      have c8b1 : (a0 != 5) = true := bne_iff_ne.mpr c8
      by_cases c10 : a0 = 6
      · rw [if_pos c10] at H
        have c10b0 : (a0 == 6) = true := beq_iff_eq.mpr c10
        have c10b1 : (a0 != 6) = false := bne_eq_false_iff_eq.mpr c10
        clear c10
        replace H := Option.bind_eq_some_iff.mp H
        obtain ⟨t175, A110, H⟩ := H
        replace H : (some (t175, 0)) = some (r1, r2) := H
        have A11 := Aside0.mk A110
        clear A110
        simp only [Option.some.injEq, Prod.mk.injEq] at H
        obtain ⟨rfl, rfl⟩ := H
        go_enter Try.func18, Try.ntmps18
        go_wp2_with (first | ((with_reducible refine gate_callee (f := 21) rfl ?_); refine goesL_ (some 22) rfl rfl Try.func21 (by kernel_rfl) rfl #[.int .u32 a1] rfl (by (try simp only [List.map_toArray, List.map_cons, List.map_nil]); first | done | rfl | (simp only [List.length_drop, List.length_take]; rfl)) ?_; (with_reducible refine (replevinref16_Signed.calls a1 t171 _ A4.out).mono ?_); rintro e w' ⟨rfl, ⟨nd, rfl⟩⟩; refine ⟨_, rfl, ?_⟩) | ((with_reducible refine gate_callee (f := 21) rfl ?_); refine goesL_ (some 24) rfl rfl Try.func21 (by kernel_rfl) rfl #[.int .u32 a2] rfl (by (try simp only [List.map_toArray, List.map_cons, List.map_nil]); first | done | rfl | (simp only [List.length_drop, List.length_take]; rfl)) ?_; (with_reducible refine (replevinref16_Signed.calls a2 t172 _ A5.out).mono ?_); rintro e w' ⟨rfl, ⟨nd, rfl⟩⟩; refine ⟨_, rfl, ?_⟩) | ((with_reducible refine gate_callee (f := 22) rfl ?_); refine goesL_ (some 140) rfl rfl Try.func22 (by kernel_rfl) rfl #[.int .i64 (wrap64 ((Int.tmod (wrap64 ((Int.tmod (wrap64 (a1)) 65536) * (wrap64 (a2)))) 4294967296) + (wrap64 ((Int.tmod (wrap64 ((wrap64 (Int.tdiv (wrap64 (a1)) 65536)) * (wrap64 (a2)))) 65536) * 65536))))] rfl (by (try simp only [List.map_toArray, List.map_cons, List.map_nil]); first | done | rfl | (simp only [List.length_drop, List.length_take]; rfl)) ?_; (with_reducible refine (replevinref16_Unsigned.calls (wrap64 ((Int.tmod (wrap64 ((Int.tmod (wrap64 (a1)) 65536) * (wrap64 (a2)))) 4294967296) + (wrap64 ((Int.tmod (wrap64 ((wrap64 (Int.tdiv (wrap64 (a1)) 65536)) * (wrap64 (a2)))) 65536) * 65536)))) t175 _ A11.out).mono ?_); rintro e w' ⟨rfl, ⟨nd, rfl⟩⟩; refine ⟨_, rfl, ?_⟩))
        go_ret2
        exact ⟨by first | rfl | (simp; done) | (simp [*]; done), by repeat (first | exact Drawn0.refl _ | apply Drawn0.step)⟩
      · rw [if_neg c10] at H
        have c10b0 : (a0 == 6) = false := beq_eq_false_iff_ne.mpr c10
        have c10b1 : (a0 != 6) = true := bne_iff_ne.mpr c10
        have HC12 := Aside0.mk H
        clear H
        go_enter Try.func18, Try.ntmps18
        go_upto_if 50 with (first | ((with_reducible refine gate_callee (f := 21) rfl ?_); refine goesL_ (some 22) rfl rfl Try.func21 (by kernel_rfl) rfl #[.int .u32 a1] rfl (by (try simp only [List.map_toArray, List.map_cons, List.map_nil]); first | done | rfl | (simp only [List.length_drop, List.length_take]; rfl)) ?_; (with_reducible refine (replevinref16_Signed.calls a1 t171 _ A4.out).mono ?_); rintro e w' ⟨rfl, ⟨nd, rfl⟩⟩; refine ⟨_, rfl, ?_⟩) | ((with_reducible refine gate_callee (f := 21) rfl ?_); refine goesL_ (some 24) rfl rfl Try.func21 (by kernel_rfl) rfl #[.int .u32 a2] rfl (by (try simp only [List.map_toArray, List.map_cons, List.map_nil]); first | done | rfl | (simp only [List.length_drop, List.length_take]; rfl)) ?_; (with_reducible refine (replevinref16_Signed.calls a2 t172 _ A5.out).mono ?_); rintro e w' ⟨rfl, ⟨nd, rfl⟩⟩; refine ⟨_, rfl, ?_⟩))
        (try simp only [Act.put, List.setIfInBounds_toArray, List.set_cons_zero, List.set_cons_succ])
        go_cut [50] (fun v50 wc => ∃ (kq : Nat) (x50_11 : Bool), v50 = .bool x50_11 ∧ Aside0 (replevinref16_Calculate.j0 kq a0 a1 a2 (wrap64 (a1)) (wrap64 (a2)) t171 t172 0 a0 x50_11 = some (r1, r2)) ∧ Aside0 (kq ≤ k) ∧ Drawn0 w wc)
        case first =>
          have H := HC12.out
          clear HC12
          by_cases c13 : a0 = 7
          · rw [if_pos c13] at H
            have c13b0 : (a0 == 7) = true := beq_iff_eq.mpr c13
            have c13b1 : (a0 != 7) = false := bne_eq_false_iff_eq.mpr c13
            clear c13
            (first | rw [c13b0] | (simp only [i64_w, i32_w]; rw [c13b0]) | skip)
            have H' := Aside0.mk H
            clear H
            go_wp2
            go_meet
            case rel => exact ⟨_, ((a0 == 7)), (by first | rfl | (simp; done) | (simp [*]; done)), H', ⟨by first | omega | exact Nat.le_refl _⟩, by repeat (first | exact Drawn0.refl _ | apply Drawn0.step)⟩
          · rw [if_neg c13] at H
            have c13b0 : (a0 == 7) = false := beq_eq_false_iff_ne.mpr c13
            have c13b1 : (a0 != 7) = true := bne_iff_ne.mpr c13
            (first | rw [c13b0] | (simp only [i64_w, i32_w]; rw [c13b0]) | skip)
            have H' := Aside0.mk H
            clear H
            go_wp2
            go_meet
            case rel => exact ⟨_, ((a0 == 8)), (by first | rfl | (simp; done) | (simp [*]; done)), H', ⟨by first | omega | exact Nat.le_refl _⟩, by repeat (first | exact Drawn0.refl _ | apply Drawn0.step)⟩
        case rest =>
          clear HC12
          try clear c1
          try clear c2
          try clear p2
          try clear c6
          try clear c6b0
          try clear c6b1
          try clear p6
          try clear c8
          try clear c8b0
          try clear c8b1
          try clear c10
          try clear c10b0
          try clear c10b1
          try clear c13
          try clear c13b0
          try clear c13b1
          obtain ⟨kq, x50_11, rfl, HA, HJ11, ⟨mc11, rfl⟩⟩ := hcut
          cases kq with
          | zero => exact absurd HA.out (by simp [replevinref16_Calculate.j0])
          | succ kj11 =>
            have H := HA.out
            clear HA
            simp only [replevinref16_Calculate.j0] at H
            by_cases c14 : x50_11 = true
            · subst c14
              have H1 : (if t172 = 0 then (some (0, 38)) else (if a0 = 8 then ((replevinref16_Unsigned.f (wrap64 (t171 - (wrap64 (t172 * (wrap64 (Int.tdiv t171 t172))))))).bind fun t176 => (some (t176, 0))) else ((replevinref16_Unsigned.f (wrap64 (Int.tdiv t171 t172))).bind fun t177 => (some (t177, 0))))) = some (r1, r2) := by rw [if_pos rfl] at H; exact H
              clear H
              have H := H1
              clear H1
              by_cases c15 : t172 = 0
              · rw [if_pos c15] at H
                have c15b0 : (t172 == 0) = true := beq_iff_eq.mpr c15
                have c15b1 : (t172 != 0) = false := bne_eq_false_iff_eq.mpr c15
                clear c15
                simp only [Option.some.injEq, Prod.mk.injEq] at H
                obtain ⟨rfl, rfl⟩ := H
                go_wp2
                go_ret2
                exact ⟨by first | rfl | (simp; done) | (simp [*]; done), by repeat (first | exact Drawn0.refl _ | apply Drawn0.step)⟩
              · rw [if_neg c15] at H
                have c15b0 : (t172 == 0) = false := beq_eq_false_iff_ne.mpr c15
                have c15b1 : (t172 != 0) = true := bne_iff_ne.mpr c15
                by_cases c16 : a0 = 8
                · rw [if_pos c16] at H
                  have c16b0 : (a0 == 8) = true := beq_iff_eq.mpr c16
                  have c16b1 : (a0 != 8) = false := bne_eq_false_iff_eq.mpr c16
                  clear c16
                  replace H := Option.bind_eq_some_iff.mp H
                  obtain ⟨t176, A170, H⟩ := H
                  replace H : (some (t176, 0)) = some (r1, r2) := H
                  have A17 := Aside0.mk A170
                  clear A170
                  simp only [Option.some.injEq, Prod.mk.injEq] at H
                  obtain ⟨rfl, rfl⟩ := H
                  go_wp2_with (first | ((with_reducible refine gate_callee (f := 22) rfl ?_); refine goesL_ (some 140) rfl rfl Try.func22 (by kernel_rfl) rfl #[.int .i64 (wrap64 (t171 - (wrap64 (t172 * (wrap64 (Int.tdiv t171 t172))))))] rfl (by (try simp only [List.map_toArray, List.map_cons, List.map_nil]); first | done | rfl | (simp only [List.length_drop, List.length_take]; rfl)) ?_; (with_reducible refine (replevinref16_Unsigned.calls (wrap64 (t171 - (wrap64 (t172 * (wrap64 (Int.tdiv t171 t172)))))) t176 _ A17.out).mono ?_); rintro e w' ⟨rfl, ⟨nd, rfl⟩⟩; refine ⟨_, rfl, ?_⟩))
                  go_ret2
                  exact ⟨by first | rfl | (simp; done) | (simp [*]; done), by repeat (first | exact Drawn0.refl _ | apply Drawn0.step)⟩
                · rw [if_neg c16] at H
                  have c16b0 : (a0 == 8) = false := beq_eq_false_iff_ne.mpr c16
                  have c16b1 : (a0 != 8) = true := bne_iff_ne.mpr c16
                  replace H := Option.bind_eq_some_iff.mp H
                  obtain ⟨t177, A180, H⟩ := H
                  replace H : (some (t177, 0)) = some (r1, r2) := H
                  have A18 := Aside0.mk A180
                  clear A180
                  simp only [Option.some.injEq, Prod.mk.injEq] at H
                  obtain ⟨rfl, rfl⟩ := H
                  go_wp2_with (first | ((with_reducible refine gate_callee (f := 22) rfl ?_); refine goesL_ (some 140) rfl rfl Try.func22 (by kernel_rfl) rfl #[.int .i64 (wrap64 (Int.tdiv t171 t172))] rfl (by (try simp only [List.map_toArray, List.map_cons, List.map_nil]); first | done | rfl | (simp only [List.length_drop, List.length_take]; rfl)) ?_; (with_reducible refine (replevinref16_Unsigned.calls (wrap64 (Int.tdiv t171 t172)) t177 _ A18.out).mono ?_); rintro e w' ⟨rfl, ⟨nd, rfl⟩⟩; refine ⟨_, rfl, ?_⟩))
                  go_ret2
                  exact ⟨by first | rfl | (simp; done) | (simp [*]; done), by repeat (first | exact Drawn0.refl _ | apply Drawn0.step)⟩
            · replace c14 := Bool.eq_false_iff.mpr c14
              subst c14
              have H1 : (if a0 = 9 then (replevinref16_Calculate.j1 kj11 a0 a1 a2 (wrap64 (a1)) (wrap64 (a2)) t171 t172 0 a0 (a0 == 9)) else (if a0 = 10 then (replevinref16_Calculate.j1 kj11 a0 a1 a2 (wrap64 (a1)) (wrap64 (a2)) t171 t172 0 a0 (a0 == 10)) else (replevinref16_Calculate.j1 kj11 a0 a1 a2 (wrap64 (a1)) (wrap64 (a2)) t171 t172 0 a0 (a0 == 11)))) = some (r1, r2) := by rw [if_neg (show ¬ (false = true) by decide)] at H; exact H
              clear H
              have H := H1
              clear H1
              have HC19 := Aside0.mk H
              clear H
              go_upto_if 65 with (fail)
              go_cut [65] (fun v65 wc => ∃ (kq : Nat) (x65_18 : Bool), v65 = .bool x65_18 ∧ Aside0 (replevinref16_Calculate.j1 kq a0 a1 a2 (wrap64 (a1)) (wrap64 (a2)) t171 t172 0 a0 x65_18 = some (r1, r2)) ∧ Aside0 (kq ≤ kj11) ∧ Drawn0 w wc)
              case first =>
                have H := HC19.out
                clear HC19
                by_cases c20 : a0 = 9
                · rw [if_pos c20] at H
                  have c20b0 : (a0 == 9) = true := beq_iff_eq.mpr c20
                  have c20b1 : (a0 != 9) = false := bne_eq_false_iff_eq.mpr c20
                  clear c20
                  (first | rw [c20b0] | (simp only [i64_w, i32_w]; rw [c20b0]) | skip)
                  have H' := Aside0.mk H
                  clear H
                  go_wp2
                  go_meet
                  case rel => exact ⟨_, ((a0 == 9)), (by first | rfl | (simp; done) | (simp [*]; done)), H', ⟨by have := HJ11.out; first | omega | exact Nat.le_refl _⟩, by repeat (first | exact Drawn0.refl _ | apply Drawn0.step)⟩
                · rw [if_neg c20] at H
                  have c20b0 : (a0 == 9) = false := beq_eq_false_iff_ne.mpr c20
                  have c20b1 : (a0 != 9) = true := bne_iff_ne.mpr c20
                  (first | rw [c20b0] | (simp only [i64_w, i32_w]; rw [c20b0]) | skip)
                  by_cases c21 : a0 = 10
                  · rw [if_pos c21] at H
                    have c21b0 : (a0 == 10) = true := beq_iff_eq.mpr c21
                    have c21b1 : (a0 != 10) = false := bne_eq_false_iff_eq.mpr c21
                    clear c21
                    have H' := Aside0.mk H
                    clear H
                    go_wp2
                    go_meet
                    case rel => exact ⟨_, ((a0 == 10)), (by first | rfl | (simp; done) | (simp [*]; done)), H', ⟨by have := HJ11.out; first | omega | exact Nat.le_refl _⟩, by repeat (first | exact Drawn0.refl _ | apply Drawn0.step)⟩
                  · rw [if_neg c21] at H
                    have c21b0 : (a0 == 10) = false := beq_eq_false_iff_ne.mpr c21
                    have c21b1 : (a0 != 10) = true := bne_iff_ne.mpr c21
                    have H' := Aside0.mk H
                    clear H
                    go_wp2
                    go_meet
                    case rel => exact ⟨_, ((a0 == 11)), (by first | rfl | (simp; done) | (simp [*]; done)), H', ⟨by have := HJ11.out; first | omega | exact Nat.le_refl _⟩, by repeat (first | exact Drawn0.refl _ | apply Drawn0.step)⟩
              case rest =>
                clear HC19
                try clear c1
                try clear c2
                try clear p2
                try clear c6
                try clear c6b0
                try clear c6b1
                try clear p6
                try clear c8
                try clear c8b0
                try clear c8b1
                try clear c10
                try clear c10b0
                try clear c10b1
                try clear c11
                try clear c13
                try clear c13b0
                try clear c13b1
                try clear c14
                try clear c15
                try clear c15b0
                try clear c15b1
                try clear c16
                try clear c16b0
                try clear c16b1
                try clear c18
                try clear c20
                try clear c20b0
                try clear c20b1
                try clear c21
                try clear c21b0
                try clear c21b1
                try clear p2
                try clear p6
                obtain ⟨kq, x65_18, rfl, HA, HJ18, ⟨mc18, rfl⟩⟩ := hcut
                cases kq with
                | zero => exact absurd HA.out (by simp [replevinref16_Calculate.j1])
                | succ kj18 =>
                  have H := HA.out
                  clear HA
                  simp only [replevinref16_Calculate.j1] at H
                  by_cases c22 : x65_18 = true
                  · subst c22
                    have H1 : (replevinref16_Calculate.l0 kj18 a0 a1 a2 0 31) = some (r1, r2) := by rw [if_pos rfl] at H; exact H
                    clear H
                    have H := H1
                    clear H1
                    have H' := Aside0.mk H
                    clear H
                    go_wp2
                    go_loopg [12, 13] kj18 (fun kq v12 v13 w' => ∃ (x12_3 : Int) (x13_3 : Int), v12 = .int .i64 x12_3 ∧ v13 = .int .i64 x13_3 ∧ Aside0 (replevinref16_Calculate.l0 kq a0 a1 a2 x12_3 x13_3 = some (r1, r2)) ∧ Aside0 (kq ≤ kj18) ∧ Drawn0 w w')
                    case atStart => exact ⟨(0), (31), (by first | rfl | (simp; done) | (simp [*]; done)), (by first | rfl | (simp; done) | (simp [*]; done)), H', ⟨Nat.le_refl _⟩, by repeat (first | exact Drawn0.refl _ | apply Drawn0.step)⟩
                    case round =>
                      clear H'
                      try clear c1
                      try clear c2
                      try clear p2
                      try clear c6
                      try clear c6b0
                      try clear c6b1
                      try clear p6
                      try clear c8
                      try clear c8b0
                      try clear c8b1
                      try clear c10
                      try clear c10b0
                      try clear c10b1
                      try clear c11
                      try clear c13
                      try clear c13b0
                      try clear c13b1
                      try clear c14
                      try clear c15
                      try clear c15b0
                      try clear c15b1
                      try clear c16
                      try clear c16b0
                      try clear c16b1
                      try clear c18
                      try clear c20
                      try clear c20b0
                      try clear c20b1
                      try clear c21
                      try clear c21b0
                      try clear c21b1
                      try clear c22
                      try clear p2
                      try clear p6
                      obtain ⟨x12_3, x13_3, rfl, rfl, HA, HK3, ⟨m3, rfl⟩⟩ := hrel
                      cases gk with
                      | zero => exact absurd HA.out (by simp [replevinref16_Calculate.l0])
                      | succ k3 =>
                        have H := HA.out
                        clear HA
                        simp only [replevinref16_Calculate.l0] at H
                        by_cases c23 : x13_3 ≥ 0
                        · rw [if_pos c23] at H
                          have c23b0 : decide (0 ≤ x13_3) = true := decide_eq_true c23
                          clear c23
                          replace H := Option.bind_eq_some_iff.mp H
                          obtain ⟨t179, A240, H⟩ := H
                          replace H : ((replevinref16_bit.f a2 x13_3).bind fun t180 => (if a0 = 9 then (if (wrap64 (t179 + t180)) = 2 then (replevinref16_Calculate.l0 k3 a0 a1 a2 (wrap64 ((wrap64 (2 * x12_3)) + 1)) (wrap64 (x13_3 - 1))) else (if a0 = 10 then (if (wrap64 (t179 + t180)) > 0 then (replevinref16_Calculate.l0 k3 a0 a1 a2 (wrap64 ((wrap64 (2 * x12_3)) + 1)) (wrap64 (x13_3 - 1))) else (if a0 = 11 then (if (wrap64 (t179 + t180)) = 1 then (replevinref16_Calculate.l0 k3 a0 a1 a2 (wrap64 ((wrap64 (2 * x12_3)) + 1)) (wrap64 (x13_3 - 1))) else (replevinref16_Calculate.l0 k3 a0 a1 a2 (wrap64 (2 * x12_3)) (wrap64 (x13_3 - 1)))) else (replevinref16_Calculate.l0 k3 a0 a1 a2 (wrap64 (2 * x12_3)) (wrap64 (x13_3 - 1))))) else (if a0 = 11 then (if (wrap64 (t179 + t180)) = 1 then (replevinref16_Calculate.l0 k3 a0 a1 a2 (wrap64 ((wrap64 (2 * x12_3)) + 1)) (wrap64 (x13_3 - 1))) else (replevinref16_Calculate.l0 k3 a0 a1 a2 (wrap64 (2 * x12_3)) (wrap64 (x13_3 - 1)))) else (replevinref16_Calculate.l0 k3 a0 a1 a2 (wrap64 (2 * x12_3)) (wrap64 (x13_3 - 1)))))) else (if a0 = 10 then (if (wrap64 (t179 + t180)) > 0 then (replevinref16_Calculate.l0 k3 a0 a1 a2 (wrap64 ((wrap64 (2 * x12_3)) + 1)) (wrap64 (x13_3 - 1))) else (if a0 = 11 then (if (wrap64 (t179 + t180)) = 1 then (replevinref16_Calculate.l0 k3 a0 a1 a2 (wrap64 ((wrap64 (2 * x12_3)) + 1)) (wrap64 (x13_3 - 1))) else (replevinref16_Calculate.l0 k3 a0 a1 a2 (wrap64 (2 * x12_3)) (wrap64 (x13_3 - 1)))) else (replevinref16_Calculate.l0 k3 a0 a1 a2 (wrap64 (2 * x12_3)) (wrap64 (x13_3 - 1))))) else (if a0 = 11 then (if (wrap64 (t179 + t180)) = 1 then (replevinref16_Calculate.l0 k3 a0 a1 a2 (wrap64 ((wrap64 (2 * x12_3)) + 1)) (wrap64 (x13_3 - 1))) else (replevinref16_Calculate.l0 k3 a0 a1 a2 (wrap64 (2 * x12_3)) (wrap64 (x13_3 - 1)))) else (replevinref16_Calculate.l0 k3 a0 a1 a2 (wrap64 (2 * x12_3)) (wrap64 (x13_3 - 1))))))) = some (r1, r2) := H
                          have A24 := Aside0.mk A240
                          clear A240
                          replace H := Option.bind_eq_some_iff.mp H
                          obtain ⟨t180, A250, H⟩ := H
                          replace H : (if a0 = 9 then (if (wrap64 (t179 + t180)) = 2 then (replevinref16_Calculate.l0 k3 a0 a1 a2 (wrap64 ((wrap64 (2 * x12_3)) + 1)) (wrap64 (x13_3 - 1))) else (if a0 = 10 then (if (wrap64 (t179 + t180)) > 0 then (replevinref16_Calculate.l0 k3 a0 a1 a2 (wrap64 ((wrap64 (2 * x12_3)) + 1)) (wrap64 (x13_3 - 1))) else (if a0 = 11 then (if (wrap64 (t179 + t180)) = 1 then (replevinref16_Calculate.l0 k3 a0 a1 a2 (wrap64 ((wrap64 (2 * x12_3)) + 1)) (wrap64 (x13_3 - 1))) else (replevinref16_Calculate.l0 k3 a0 a1 a2 (wrap64 (2 * x12_3)) (wrap64 (x13_3 - 1)))) else (replevinref16_Calculate.l0 k3 a0 a1 a2 (wrap64 (2 * x12_3)) (wrap64 (x13_3 - 1))))) else (if a0 = 11 then (if (wrap64 (t179 + t180)) = 1 then (replevinref16_Calculate.l0 k3 a0 a1 a2 (wrap64 ((wrap64 (2 * x12_3)) + 1)) (wrap64 (x13_3 - 1))) else (replevinref16_Calculate.l0 k3 a0 a1 a2 (wrap64 (2 * x12_3)) (wrap64 (x13_3 - 1)))) else (replevinref16_Calculate.l0 k3 a0 a1 a2 (wrap64 (2 * x12_3)) (wrap64 (x13_3 - 1)))))) else (if a0 = 10 then (if (wrap64 (t179 + t180)) > 0 then (replevinref16_Calculate.l0 k3 a0 a1 a2 (wrap64 ((wrap64 (2 * x12_3)) + 1)) (wrap64 (x13_3 - 1))) else (if a0 = 11 then (if (wrap64 (t179 + t180)) = 1 then (replevinref16_Calculate.l0 k3 a0 a1 a2 (wrap64 ((wrap64 (2 * x12_3)) + 1)) (wrap64 (x13_3 - 1))) else (replevinref16_Calculate.l0 k3 a0 a1 a2 (wrap64 (2 * x12_3)) (wrap64 (x13_3 - 1)))) else (replevinref16_Calculate.l0 k3 a0 a1 a2 (wrap64 (2 * x12_3)) (wrap64 (x13_3 - 1))))) else (if a0 = 11 then (if (wrap64 (t179 + t180)) = 1 then (replevinref16_Calculate.l0 k3 a0 a1 a2 (wrap64 ((wrap64 (2 * x12_3)) + 1)) (wrap64 (x13_3 - 1))) else (replevinref16_Calculate.l0 k3 a0 a1 a2 (wrap64 (2 * x12_3)) (wrap64 (x13_3 - 1)))) else (replevinref16_Calculate.l0 k3 a0 a1 a2 (wrap64 (2 * x12_3)) (wrap64 (x13_3 - 1)))))) = some (r1, r2) := H
                          have A25 := Aside0.mk A250
                          clear A250
                          by_cases c26 : a0 = 9
                          · rw [if_pos c26] at H
                            have c26b0 : (a0 == 9) = true := beq_iff_eq.mpr c26
                            have c26b1 : (a0 != 9) = false := bne_eq_false_iff_eq.mpr c26
                            clear c26
                            by_cases c27 : (wrap64 (t179 + t180)) = 2
                            · rw [if_pos c27] at H
                              have c27b0 : ((wrap64 (t179 + t180)) == 2) = true := beq_iff_eq.mpr c27
                              have c27b1 : ((wrap64 (t179 + t180)) != 2) = false := bne_eq_false_iff_eq.mpr c27
                              clear c27
                              have H' := Aside0.mk H
                              clear H
                              go_wp2_with (first | ((with_reducible refine gate_callee (f := 56) rfl ?_); refine goesL_ (some 75) rfl rfl Try.func56 (by kernel_rfl) rfl #[.int .u32 a1, .int .i64 x13_3] rfl (by (try simp only [List.map_toArray, List.map_cons, List.map_nil]); first | done | rfl | (simp only [List.length_drop, List.length_take]; rfl)) ?_; (with_reducible refine (replevinref16_bit.calls a1 x13_3 t179 _ A24.out).mono ?_); rintro e w' ⟨rfl, ⟨nd, rfl⟩⟩; refine ⟨_, rfl, ?_⟩) | ((with_reducible refine gate_callee (f := 56) rfl ?_); refine goesL_ (some 78) rfl rfl Try.func56 (by kernel_rfl) rfl #[.int .u32 a2, .int .i64 x13_3] rfl (by (try simp only [List.map_toArray, List.map_cons, List.map_nil]); first | done | rfl | (simp only [List.length_drop, List.length_take]; rfl)) ?_; (with_reducible refine (replevinref16_bit.calls a2 x13_3 t180 _ A25.out).mono ?_); rintro e w' ⟨rfl, ⟨nd, rfl⟩⟩; refine ⟨_, rfl, ?_⟩))
                              go_roundg k3
                              case measure => have := HJ11.out; have := HJ18.out; have := HK3.out; omega
                              case rel => exact ⟨(wrap64 ((wrap64 (2 * x12_3)) + 1)), (wrap64 (x13_3 - 1)), (by first | rfl | (simp; done) | (simp [*]; done)), (by first | rfl | (simp; done) | (simp [*]; done)), H', ⟨by have := HJ11.out; have := HJ18.out; have := HK3.out; omega⟩, by repeat (first | exact Drawn0.refl _ | apply Drawn0.step)⟩
                            · rw [if_neg c27] at H
                              have c27b0 : ((wrap64 (t179 + t180)) == 2) = false := beq_eq_false_iff_ne.mpr c27
                              have c27b1 : ((wrap64 (t179 + t180)) != 2) = true := bne_iff_ne.mpr c27
                              by_cases c28 : a0 = 10
                              · rw [if_pos c28] at H
                                have c28b0 : (a0 == 10) = true := beq_iff_eq.mpr c28
                                have c28b1 : (a0 != 10) = false := bne_eq_false_iff_eq.mpr c28
                                clear c28
                                by_cases c29 : (wrap64 (t179 + t180)) > 0
                                · rw [if_pos c29] at H
                                  have c29b0 : decide (0 < (wrap64 (t179 + t180))) = true := decide_eq_true c29
                                  clear c29
                                  have H' := Aside0.mk H
                                  clear H
                                  go_wp2_with (first | ((with_reducible refine gate_callee (f := 56) rfl ?_); refine goesL_ (some 75) rfl rfl Try.func56 (by kernel_rfl) rfl #[.int .u32 a1, .int .i64 x13_3] rfl (by (try simp only [List.map_toArray, List.map_cons, List.map_nil]); first | done | rfl | (simp only [List.length_drop, List.length_take]; rfl)) ?_; (with_reducible refine (replevinref16_bit.calls a1 x13_3 t179 _ A24.out).mono ?_); rintro e w' ⟨rfl, ⟨nd, rfl⟩⟩; refine ⟨_, rfl, ?_⟩) | ((with_reducible refine gate_callee (f := 56) rfl ?_); refine goesL_ (some 78) rfl rfl Try.func56 (by kernel_rfl) rfl #[.int .u32 a2, .int .i64 x13_3] rfl (by (try simp only [List.map_toArray, List.map_cons, List.map_nil]); first | done | rfl | (simp only [List.length_drop, List.length_take]; rfl)) ?_; (with_reducible refine (replevinref16_bit.calls a2 x13_3 t180 _ A25.out).mono ?_); rintro e w' ⟨rfl, ⟨nd, rfl⟩⟩; refine ⟨_, rfl, ?_⟩))
                                  go_roundg k3
                                  case measure => have := HJ11.out; have := HJ18.out; have := HK3.out; omega
                                  case rel => exact ⟨(wrap64 ((wrap64 (2 * x12_3)) + 1)), (wrap64 (x13_3 - 1)), (by first | rfl | (simp; done) | (simp [*]; done)), (by first | rfl | (simp; done) | (simp [*]; done)), H', ⟨by have := HJ11.out; have := HJ18.out; have := HK3.out; omega⟩, by repeat (first | exact Drawn0.refl _ | apply Drawn0.step)⟩
                                · rw [if_neg c29] at H
                                  have c29b0 : decide (0 < (wrap64 (t179 + t180))) = false := decide_eq_false c29
                                  clear c29
                                  by_cases c30 : a0 = 11
                                  · rw [if_pos c30] at H
                                    have c30b0 : (a0 == 11) = true := beq_iff_eq.mpr c30
                                    have c30b1 : (a0 != 11) = false := bne_eq_false_iff_eq.mpr c30
                                    clear c30
                                    by_cases c31 : (wrap64 (t179 + t180)) = 1
                                    · rw [if_pos c31] at H
                                      have c31b0 : ((wrap64 (t179 + t180)) == 1) = true := beq_iff_eq.mpr c31
                                      have c31b1 : ((wrap64 (t179 + t180)) != 1) = false := bne_eq_false_iff_eq.mpr c31
                                      clear c31
                                      have H' := Aside0.mk H
                                      clear H
                                      go_wp2_with (first | ((with_reducible refine gate_callee (f := 56) rfl ?_); refine goesL_ (some 75) rfl rfl Try.func56 (by kernel_rfl) rfl #[.int .u32 a1, .int .i64 x13_3] rfl (by (try simp only [List.map_toArray, List.map_cons, List.map_nil]); first | done | rfl | (simp only [List.length_drop, List.length_take]; rfl)) ?_; (with_reducible refine (replevinref16_bit.calls a1 x13_3 t179 _ A24.out).mono ?_); rintro e w' ⟨rfl, ⟨nd, rfl⟩⟩; refine ⟨_, rfl, ?_⟩) | ((with_reducible refine gate_callee (f := 56) rfl ?_); refine goesL_ (some 78) rfl rfl Try.func56 (by kernel_rfl) rfl #[.int .u32 a2, .int .i64 x13_3] rfl (by (try simp only [List.map_toArray, List.map_cons, List.map_nil]); first | done | rfl | (simp only [List.length_drop, List.length_take]; rfl)) ?_; (with_reducible refine (replevinref16_bit.calls a2 x13_3 t180 _ A25.out).mono ?_); rintro e w' ⟨rfl, ⟨nd, rfl⟩⟩; refine ⟨_, rfl, ?_⟩))
                                      go_roundg k3
                                      case measure => have := HJ11.out; have := HJ18.out; have := HK3.out; omega
                                      case rel => exact ⟨(wrap64 ((wrap64 (2 * x12_3)) + 1)), (wrap64 (x13_3 - 1)), (by first | rfl | (simp; done) | (simp [*]; done)), (by first | rfl | (simp; done) | (simp [*]; done)), H', ⟨by have := HJ11.out; have := HJ18.out; have := HK3.out; omega⟩, by repeat (first | exact Drawn0.refl _ | apply Drawn0.step)⟩
                                    · rw [if_neg c31] at H
                                      have c31b0 : ((wrap64 (t179 + t180)) == 1) = false := beq_eq_false_iff_ne.mpr c31
                                      have c31b1 : ((wrap64 (t179 + t180)) != 1) = true := bne_iff_ne.mpr c31
                                      have H' := Aside0.mk H
                                      clear H
                                      go_wp2_with (first | ((with_reducible refine gate_callee (f := 56) rfl ?_); refine goesL_ (some 75) rfl rfl Try.func56 (by kernel_rfl) rfl #[.int .u32 a1, .int .i64 x13_3] rfl (by (try simp only [List.map_toArray, List.map_cons, List.map_nil]); first | done | rfl | (simp only [List.length_drop, List.length_take]; rfl)) ?_; (with_reducible refine (replevinref16_bit.calls a1 x13_3 t179 _ A24.out).mono ?_); rintro e w' ⟨rfl, ⟨nd, rfl⟩⟩; refine ⟨_, rfl, ?_⟩) | ((with_reducible refine gate_callee (f := 56) rfl ?_); refine goesL_ (some 78) rfl rfl Try.func56 (by kernel_rfl) rfl #[.int .u32 a2, .int .i64 x13_3] rfl (by (try simp only [List.map_toArray, List.map_cons, List.map_nil]); first | done | rfl | (simp only [List.length_drop, List.length_take]; rfl)) ?_; (with_reducible refine (replevinref16_bit.calls a2 x13_3 t180 _ A25.out).mono ?_); rintro e w' ⟨rfl, ⟨nd, rfl⟩⟩; refine ⟨_, rfl, ?_⟩))
                                      go_roundg k3
                                      case measure => have := HJ11.out; have := HJ18.out; have := HK3.out; omega
                                      case rel => exact ⟨(wrap64 (2 * x12_3)), (wrap64 (x13_3 - 1)), (by first | rfl | (simp; done) | (simp [*]; done)), (by first | rfl | (simp; done) | (simp [*]; done)), H', ⟨by have := HJ11.out; have := HJ18.out; have := HK3.out; omega⟩, by repeat (first | exact Drawn0.refl _ | apply Drawn0.step)⟩
                                  · rw [if_neg c30] at H
                                    have c30b0 : (a0 == 11) = false := beq_eq_false_iff_ne.mpr c30
                                    have c30b1 : (a0 != 11) = true := bne_iff_ne.mpr c30
                                    have H' := Aside0.mk H
                                    clear H
                                    go_wp2_with (first | ((with_reducible refine gate_callee (f := 56) rfl ?_); refine goesL_ (some 75) rfl rfl Try.func56 (by kernel_rfl) rfl #[.int .u32 a1, .int .i64 x13_3] rfl (by (try simp only [List.map_toArray, List.map_cons, List.map_nil]); first | done | rfl | (simp only [List.length_drop, List.length_take]; rfl)) ?_; (with_reducible refine (replevinref16_bit.calls a1 x13_3 t179 _ A24.out).mono ?_); rintro e w' ⟨rfl, ⟨nd, rfl⟩⟩; refine ⟨_, rfl, ?_⟩) | ((with_reducible refine gate_callee (f := 56) rfl ?_); refine goesL_ (some 78) rfl rfl Try.func56 (by kernel_rfl) rfl #[.int .u32 a2, .int .i64 x13_3] rfl (by (try simp only [List.map_toArray, List.map_cons, List.map_nil]); first | done | rfl | (simp only [List.length_drop, List.length_take]; rfl)) ?_; (with_reducible refine (replevinref16_bit.calls a2 x13_3 t180 _ A25.out).mono ?_); rintro e w' ⟨rfl, ⟨nd, rfl⟩⟩; refine ⟨_, rfl, ?_⟩))
                                    go_roundg k3
                                    case measure => have := HJ11.out; have := HJ18.out; have := HK3.out; omega
                                    case rel => exact ⟨(wrap64 (2 * x12_3)), (wrap64 (x13_3 - 1)), (by first | rfl | (simp; done) | (simp [*]; done)), (by first | rfl | (simp; done) | (simp [*]; done)), H', ⟨by have := HJ11.out; have := HJ18.out; have := HK3.out; omega⟩, by repeat (first | exact Drawn0.refl _ | apply Drawn0.step)⟩
                              · rw [if_neg c28] at H
                                have c28b0 : (a0 == 10) = false := beq_eq_false_iff_ne.mpr c28
                                have c28b1 : (a0 != 10) = true := bne_iff_ne.mpr c28
                                by_cases c32 : a0 = 11
                                · rw [if_pos c32] at H
                                  have c32b0 : (a0 == 11) = true := beq_iff_eq.mpr c32
                                  have c32b1 : (a0 != 11) = false := bne_eq_false_iff_eq.mpr c32
                                  clear c32
                                  by_cases c33 : (wrap64 (t179 + t180)) = 1
                                  · rw [if_pos c33] at H
                                    have c33b0 : ((wrap64 (t179 + t180)) == 1) = true := beq_iff_eq.mpr c33
                                    have c33b1 : ((wrap64 (t179 + t180)) != 1) = false := bne_eq_false_iff_eq.mpr c33
                                    clear c33
                                    have H' := Aside0.mk H
                                    clear H
                                    go_wp2_with (first | ((with_reducible refine gate_callee (f := 56) rfl ?_); refine goesL_ (some 75) rfl rfl Try.func56 (by kernel_rfl) rfl #[.int .u32 a1, .int .i64 x13_3] rfl (by (try simp only [List.map_toArray, List.map_cons, List.map_nil]); first | done | rfl | (simp only [List.length_drop, List.length_take]; rfl)) ?_; (with_reducible refine (replevinref16_bit.calls a1 x13_3 t179 _ A24.out).mono ?_); rintro e w' ⟨rfl, ⟨nd, rfl⟩⟩; refine ⟨_, rfl, ?_⟩) | ((with_reducible refine gate_callee (f := 56) rfl ?_); refine goesL_ (some 78) rfl rfl Try.func56 (by kernel_rfl) rfl #[.int .u32 a2, .int .i64 x13_3] rfl (by (try simp only [List.map_toArray, List.map_cons, List.map_nil]); first | done | rfl | (simp only [List.length_drop, List.length_take]; rfl)) ?_; (with_reducible refine (replevinref16_bit.calls a2 x13_3 t180 _ A25.out).mono ?_); rintro e w' ⟨rfl, ⟨nd, rfl⟩⟩; refine ⟨_, rfl, ?_⟩))
                                    go_roundg k3
                                    case measure => have := HJ11.out; have := HJ18.out; have := HK3.out; omega
                                    case rel => exact ⟨(wrap64 ((wrap64 (2 * x12_3)) + 1)), (wrap64 (x13_3 - 1)), (by first | rfl | (simp; done) | (simp [*]; done)), (by first | rfl | (simp; done) | (simp [*]; done)), H', ⟨by have := HJ11.out; have := HJ18.out; have := HK3.out; omega⟩, by repeat (first | exact Drawn0.refl _ | apply Drawn0.step)⟩
                                  · rw [if_neg c33] at H
                                    have c33b0 : ((wrap64 (t179 + t180)) == 1) = false := beq_eq_false_iff_ne.mpr c33
                                    have c33b1 : ((wrap64 (t179 + t180)) != 1) = true := bne_iff_ne.mpr c33
                                    have H' := Aside0.mk H
                                    clear H
                                    go_wp2_with (first | ((with_reducible refine gate_callee (f := 56) rfl ?_); refine goesL_ (some 75) rfl rfl Try.func56 (by kernel_rfl) rfl #[.int .u32 a1, .int .i64 x13_3] rfl (by (try simp only [List.map_toArray, List.map_cons, List.map_nil]); first | done | rfl | (simp only [List.length_drop, List.length_take]; rfl)) ?_; (with_reducible refine (replevinref16_bit.calls a1 x13_3 t179 _ A24.out).mono ?_); rintro e w' ⟨rfl, ⟨nd, rfl⟩⟩; refine ⟨_, rfl, ?_⟩) | ((with_reducible refine gate_callee (f := 56) rfl ?_); refine goesL_ (some 78) rfl rfl Try.func56 (by kernel_rfl) rfl #[.int .u32 a2, .int .i64 x13_3] rfl (by (try simp only [List.map_toArray, List.map_cons, List.map_nil]); first | done | rfl | (simp only [List.length_drop, List.length_take]; rfl)) ?_; (with_reducible refine (replevinref16_bit.calls a2 x13_3 t180 _ A25.out).mono ?_); rintro e w' ⟨rfl, ⟨nd, rfl⟩⟩; refine ⟨_, rfl, ?_⟩))
                                    go_roundg k3
                                    case measure => have := HJ11.out; have := HJ18.out; have := HK3.out; omega
                                    case rel => exact ⟨(wrap64 (2 * x12_3)), (wrap64 (x13_3 - 1)), (by first | rfl | (simp; done) | (simp [*]; done)), (by first | rfl | (simp; done) | (simp [*]; done)), H', ⟨by have := HJ11.out; have := HJ18.out; have := HK3.out; omega⟩, by repeat (first | exact Drawn0.refl _ | apply Drawn0.step)⟩
                                · rw [if_neg c32] at H
                                  have c32b0 : (a0 == 11) = false := beq_eq_false_iff_ne.mpr c32
                                  have c32b1 : (a0 != 11) = true := bne_iff_ne.mpr c32
                                  have H' := Aside0.mk H
                                  clear H
                                  go_wp2_with (first | ((with_reducible refine gate_callee (f := 56) rfl ?_); refine goesL_ (some 75) rfl rfl Try.func56 (by kernel_rfl) rfl #[.int .u32 a1, .int .i64 x13_3] rfl (by (try simp only [List.map_toArray, List.map_cons, List.map_nil]); first | done | rfl | (simp only [List.length_drop, List.length_take]; rfl)) ?_; (with_reducible refine (replevinref16_bit.calls a1 x13_3 t179 _ A24.out).mono ?_); rintro e w' ⟨rfl, ⟨nd, rfl⟩⟩; refine ⟨_, rfl, ?_⟩) | ((with_reducible refine gate_callee (f := 56) rfl ?_); refine goesL_ (some 78) rfl rfl Try.func56 (by kernel_rfl) rfl #[.int .u32 a2, .int .i64 x13_3] rfl (by (try simp only [List.map_toArray, List.map_cons, List.map_nil]); first | done | rfl | (simp only [List.length_drop, List.length_take]; rfl)) ?_; (with_reducible refine (replevinref16_bit.calls a2 x13_3 t180 _ A25.out).mono ?_); rintro e w' ⟨rfl, ⟨nd, rfl⟩⟩; refine ⟨_, rfl, ?_⟩))
                                  go_roundg k3
                                  case measure => have := HJ11.out; have := HJ18.out; have := HK3.out; omega
                                  case rel => exact ⟨(wrap64 (2 * x12_3)), (wrap64 (x13_3 - 1)), (by first | rfl | (simp; done) | (simp [*]; done)), (by first | rfl | (simp; done) | (simp [*]; done)), H', ⟨by have := HJ11.out; have := HJ18.out; have := HK3.out; omega⟩, by repeat (first | exact Drawn0.refl _ | apply Drawn0.step)⟩
                          · rw [if_neg c26] at H
                            have c26b0 : (a0 == 9) = false := beq_eq_false_iff_ne.mpr c26
                            have c26b1 : (a0 != 9) = true := bne_iff_ne.mpr c26
                            by_cases c34 : a0 = 10
                            · rw [if_pos c34] at H
                              have c34b0 : (a0 == 10) = true := beq_iff_eq.mpr c34
                              have c34b1 : (a0 != 10) = false := bne_eq_false_iff_eq.mpr c34
                              clear c34
                              by_cases c35 : (wrap64 (t179 + t180)) > 0
                              · rw [if_pos c35] at H
                                have c35b0 : decide (0 < (wrap64 (t179 + t180))) = true := decide_eq_true c35
                                clear c35
                                have H' := Aside0.mk H
                                clear H
                                go_wp2_with (first | ((with_reducible refine gate_callee (f := 56) rfl ?_); refine goesL_ (some 75) rfl rfl Try.func56 (by kernel_rfl) rfl #[.int .u32 a1, .int .i64 x13_3] rfl (by (try simp only [List.map_toArray, List.map_cons, List.map_nil]); first | done | rfl | (simp only [List.length_drop, List.length_take]; rfl)) ?_; (with_reducible refine (replevinref16_bit.calls a1 x13_3 t179 _ A24.out).mono ?_); rintro e w' ⟨rfl, ⟨nd, rfl⟩⟩; refine ⟨_, rfl, ?_⟩) | ((with_reducible refine gate_callee (f := 56) rfl ?_); refine goesL_ (some 78) rfl rfl Try.func56 (by kernel_rfl) rfl #[.int .u32 a2, .int .i64 x13_3] rfl (by (try simp only [List.map_toArray, List.map_cons, List.map_nil]); first | done | rfl | (simp only [List.length_drop, List.length_take]; rfl)) ?_; (with_reducible refine (replevinref16_bit.calls a2 x13_3 t180 _ A25.out).mono ?_); rintro e w' ⟨rfl, ⟨nd, rfl⟩⟩; refine ⟨_, rfl, ?_⟩))
                                go_roundg k3
                                case measure => have := HJ11.out; have := HJ18.out; have := HK3.out; omega
                                case rel => exact ⟨(wrap64 ((wrap64 (2 * x12_3)) + 1)), (wrap64 (x13_3 - 1)), (by first | rfl | (simp; done) | (simp [*]; done)), (by first | rfl | (simp; done) | (simp [*]; done)), H', ⟨by have := HJ11.out; have := HJ18.out; have := HK3.out; omega⟩, by repeat (first | exact Drawn0.refl _ | apply Drawn0.step)⟩
                              · rw [if_neg c35] at H
                                have c35b0 : decide (0 < (wrap64 (t179 + t180))) = false := decide_eq_false c35
                                clear c35
                                by_cases c36 : a0 = 11
                                · rw [if_pos c36] at H
                                  have c36b0 : (a0 == 11) = true := beq_iff_eq.mpr c36
                                  have c36b1 : (a0 != 11) = false := bne_eq_false_iff_eq.mpr c36
                                  clear c36
                                  by_cases c37 : (wrap64 (t179 + t180)) = 1
                                  · rw [if_pos c37] at H
                                    have c37b0 : ((wrap64 (t179 + t180)) == 1) = true := beq_iff_eq.mpr c37
                                    have c37b1 : ((wrap64 (t179 + t180)) != 1) = false := bne_eq_false_iff_eq.mpr c37
                                    clear c37
                                    have H' := Aside0.mk H
                                    clear H
                                    go_wp2_with (first | ((with_reducible refine gate_callee (f := 56) rfl ?_); refine goesL_ (some 75) rfl rfl Try.func56 (by kernel_rfl) rfl #[.int .u32 a1, .int .i64 x13_3] rfl (by (try simp only [List.map_toArray, List.map_cons, List.map_nil]); first | done | rfl | (simp only [List.length_drop, List.length_take]; rfl)) ?_; (with_reducible refine (replevinref16_bit.calls a1 x13_3 t179 _ A24.out).mono ?_); rintro e w' ⟨rfl, ⟨nd, rfl⟩⟩; refine ⟨_, rfl, ?_⟩) | ((with_reducible refine gate_callee (f := 56) rfl ?_); refine goesL_ (some 78) rfl rfl Try.func56 (by kernel_rfl) rfl #[.int .u32 a2, .int .i64 x13_3] rfl (by (try simp only [List.map_toArray, List.map_cons, List.map_nil]); first | done | rfl | (simp only [List.length_drop, List.length_take]; rfl)) ?_; (with_reducible refine (replevinref16_bit.calls a2 x13_3 t180 _ A25.out).mono ?_); rintro e w' ⟨rfl, ⟨nd, rfl⟩⟩; refine ⟨_, rfl, ?_⟩))
                                    go_roundg k3
                                    case measure => have := HJ11.out; have := HJ18.out; have := HK3.out; omega
                                    case rel => exact ⟨(wrap64 ((wrap64 (2 * x12_3)) + 1)), (wrap64 (x13_3 - 1)), (by first | rfl | (simp; done) | (simp [*]; done)), (by first | rfl | (simp; done) | (simp [*]; done)), H', ⟨by have := HJ11.out; have := HJ18.out; have := HK3.out; omega⟩, by repeat (first | exact Drawn0.refl _ | apply Drawn0.step)⟩
                                  · rw [if_neg c37] at H
                                    have c37b0 : ((wrap64 (t179 + t180)) == 1) = false := beq_eq_false_iff_ne.mpr c37
                                    have c37b1 : ((wrap64 (t179 + t180)) != 1) = true := bne_iff_ne.mpr c37
                                    have H' := Aside0.mk H
                                    clear H
                                    go_wp2_with (first | ((with_reducible refine gate_callee (f := 56) rfl ?_); refine goesL_ (some 75) rfl rfl Try.func56 (by kernel_rfl) rfl #[.int .u32 a1, .int .i64 x13_3] rfl (by (try simp only [List.map_toArray, List.map_cons, List.map_nil]); first | done | rfl | (simp only [List.length_drop, List.length_take]; rfl)) ?_; (with_reducible refine (replevinref16_bit.calls a1 x13_3 t179 _ A24.out).mono ?_); rintro e w' ⟨rfl, ⟨nd, rfl⟩⟩; refine ⟨_, rfl, ?_⟩) | ((with_reducible refine gate_callee (f := 56) rfl ?_); refine goesL_ (some 78) rfl rfl Try.func56 (by kernel_rfl) rfl #[.int .u32 a2, .int .i64 x13_3] rfl (by (try simp only [List.map_toArray, List.map_cons, List.map_nil]); first | done | rfl | (simp only [List.length_drop, List.length_take]; rfl)) ?_; (with_reducible refine (replevinref16_bit.calls a2 x13_3 t180 _ A25.out).mono ?_); rintro e w' ⟨rfl, ⟨nd, rfl⟩⟩; refine ⟨_, rfl, ?_⟩))
                                    go_roundg k3
                                    case measure => have := HJ11.out; have := HJ18.out; have := HK3.out; omega
                                    case rel => exact ⟨(wrap64 (2 * x12_3)), (wrap64 (x13_3 - 1)), (by first | rfl | (simp; done) | (simp [*]; done)), (by first | rfl | (simp; done) | (simp [*]; done)), H', ⟨by have := HJ11.out; have := HJ18.out; have := HK3.out; omega⟩, by repeat (first | exact Drawn0.refl _ | apply Drawn0.step)⟩
                                · rw [if_neg c36] at H
                                  have c36b0 : (a0 == 11) = false := beq_eq_false_iff_ne.mpr c36
                                  have c36b1 : (a0 != 11) = true := bne_iff_ne.mpr c36
                                  have H' := Aside0.mk H
                                  clear H
                                  go_wp2_with (first | ((with_reducible refine gate_callee (f := 56) rfl ?_); refine goesL_ (some 75) rfl rfl Try.func56 (by kernel_rfl) rfl #[.int .u32 a1, .int .i64 x13_3] rfl (by (try simp only [List.map_toArray, List.map_cons, List.map_nil]); first | done | rfl | (simp only [List.length_drop, List.length_take]; rfl)) ?_; (with_reducible refine (replevinref16_bit.calls a1 x13_3 t179 _ A24.out).mono ?_); rintro e w' ⟨rfl, ⟨nd, rfl⟩⟩; refine ⟨_, rfl, ?_⟩) | ((with_reducible refine gate_callee (f := 56) rfl ?_); refine goesL_ (some 78) rfl rfl Try.func56 (by kernel_rfl) rfl #[.int .u32 a2, .int .i64 x13_3] rfl (by (try simp only [List.map_toArray, List.map_cons, List.map_nil]); first | done | rfl | (simp only [List.length_drop, List.length_take]; rfl)) ?_; (with_reducible refine (replevinref16_bit.calls a2 x13_3 t180 _ A25.out).mono ?_); rintro e w' ⟨rfl, ⟨nd, rfl⟩⟩; refine ⟨_, rfl, ?_⟩))
                                  go_roundg k3
                                  case measure => have := HJ11.out; have := HJ18.out; have := HK3.out; omega
                                  case rel => exact ⟨(wrap64 (2 * x12_3)), (wrap64 (x13_3 - 1)), (by first | rfl | (simp; done) | (simp [*]; done)), (by first | rfl | (simp; done) | (simp [*]; done)), H', ⟨by have := HJ11.out; have := HJ18.out; have := HK3.out; omega⟩, by repeat (first | exact Drawn0.refl _ | apply Drawn0.step)⟩
                            · rw [if_neg c34] at H
                              have c34b0 : (a0 == 10) = false := beq_eq_false_iff_ne.mpr c34
                              have c34b1 : (a0 != 10) = true := bne_iff_ne.mpr c34
                              by_cases c38 : a0 = 11
                              · rw [if_pos c38] at H
                                have c38b0 : (a0 == 11) = true := beq_iff_eq.mpr c38
                                have c38b1 : (a0 != 11) = false := bne_eq_false_iff_eq.mpr c38
                                clear c38
                                by_cases c39 : (wrap64 (t179 + t180)) = 1
                                · rw [if_pos c39] at H
                                  have c39b0 : ((wrap64 (t179 + t180)) == 1) = true := beq_iff_eq.mpr c39
                                  have c39b1 : ((wrap64 (t179 + t180)) != 1) = false := bne_eq_false_iff_eq.mpr c39
                                  clear c39
                                  have H' := Aside0.mk H
                                  clear H
                                  go_wp2_with (first | ((with_reducible refine gate_callee (f := 56) rfl ?_); refine goesL_ (some 75) rfl rfl Try.func56 (by kernel_rfl) rfl #[.int .u32 a1, .int .i64 x13_3] rfl (by (try simp only [List.map_toArray, List.map_cons, List.map_nil]); first | done | rfl | (simp only [List.length_drop, List.length_take]; rfl)) ?_; (with_reducible refine (replevinref16_bit.calls a1 x13_3 t179 _ A24.out).mono ?_); rintro e w' ⟨rfl, ⟨nd, rfl⟩⟩; refine ⟨_, rfl, ?_⟩) | ((with_reducible refine gate_callee (f := 56) rfl ?_); refine goesL_ (some 78) rfl rfl Try.func56 (by kernel_rfl) rfl #[.int .u32 a2, .int .i64 x13_3] rfl (by (try simp only [List.map_toArray, List.map_cons, List.map_nil]); first | done | rfl | (simp only [List.length_drop, List.length_take]; rfl)) ?_; (with_reducible refine (replevinref16_bit.calls a2 x13_3 t180 _ A25.out).mono ?_); rintro e w' ⟨rfl, ⟨nd, rfl⟩⟩; refine ⟨_, rfl, ?_⟩))
                                  go_roundg k3
                                  case measure => have := HJ11.out; have := HJ18.out; have := HK3.out; omega
                                  case rel => exact ⟨(wrap64 ((wrap64 (2 * x12_3)) + 1)), (wrap64 (x13_3 - 1)), (by first | rfl | (simp; done) | (simp [*]; done)), (by first | rfl | (simp; done) | (simp [*]; done)), H', ⟨by have := HJ11.out; have := HJ18.out; have := HK3.out; omega⟩, by repeat (first | exact Drawn0.refl _ | apply Drawn0.step)⟩
                                · rw [if_neg c39] at H
                                  have c39b0 : ((wrap64 (t179 + t180)) == 1) = false := beq_eq_false_iff_ne.mpr c39
                                  have c39b1 : ((wrap64 (t179 + t180)) != 1) = true := bne_iff_ne.mpr c39
                                  have H' := Aside0.mk H
                                  clear H
                                  go_wp2_with (first | ((with_reducible refine gate_callee (f := 56) rfl ?_); refine goesL_ (some 75) rfl rfl Try.func56 (by kernel_rfl) rfl #[.int .u32 a1, .int .i64 x13_3] rfl (by (try simp only [List.map_toArray, List.map_cons, List.map_nil]); first | done | rfl | (simp only [List.length_drop, List.length_take]; rfl)) ?_; (with_reducible refine (replevinref16_bit.calls a1 x13_3 t179 _ A24.out).mono ?_); rintro e w' ⟨rfl, ⟨nd, rfl⟩⟩; refine ⟨_, rfl, ?_⟩) | ((with_reducible refine gate_callee (f := 56) rfl ?_); refine goesL_ (some 78) rfl rfl Try.func56 (by kernel_rfl) rfl #[.int .u32 a2, .int .i64 x13_3] rfl (by (try simp only [List.map_toArray, List.map_cons, List.map_nil]); first | done | rfl | (simp only [List.length_drop, List.length_take]; rfl)) ?_; (with_reducible refine (replevinref16_bit.calls a2 x13_3 t180 _ A25.out).mono ?_); rintro e w' ⟨rfl, ⟨nd, rfl⟩⟩; refine ⟨_, rfl, ?_⟩))
                                  go_roundg k3
                                  case measure => have := HJ11.out; have := HJ18.out; have := HK3.out; omega
                                  case rel => exact ⟨(wrap64 (2 * x12_3)), (wrap64 (x13_3 - 1)), (by first | rfl | (simp; done) | (simp [*]; done)), (by first | rfl | (simp; done) | (simp [*]; done)), H', ⟨by have := HJ11.out; have := HJ18.out; have := HK3.out; omega⟩, by repeat (first | exact Drawn0.refl _ | apply Drawn0.step)⟩
                              · rw [if_neg c38] at H
                                have c38b0 : (a0 == 11) = false := beq_eq_false_iff_ne.mpr c38
                                have c38b1 : (a0 != 11) = true := bne_iff_ne.mpr c38
                                have H' := Aside0.mk H
                                clear H
                                go_wp2_with (first | ((with_reducible refine gate_callee (f := 56) rfl ?_); refine goesL_ (some 75) rfl rfl Try.func56 (by kernel_rfl) rfl #[.int .u32 a1, .int .i64 x13_3] rfl (by (try simp only [List.map_toArray, List.map_cons, List.map_nil]); first | done | rfl | (simp only [List.length_drop, List.length_take]; rfl)) ?_; (with_reducible refine (replevinref16_bit.calls a1 x13_3 t179 _ A24.out).mono ?_); rintro e w' ⟨rfl, ⟨nd, rfl⟩⟩; refine ⟨_, rfl, ?_⟩) | ((with_reducible refine gate_callee (f := 56) rfl ?_); refine goesL_ (some 78) rfl rfl Try.func56 (by kernel_rfl) rfl #[.int .u32 a2, .int .i64 x13_3] rfl (by (try simp only [List.map_toArray, List.map_cons, List.map_nil]); first | done | rfl | (simp only [List.length_drop, List.length_take]; rfl)) ?_; (with_reducible refine (replevinref16_bit.calls a2 x13_3 t180 _ A25.out).mono ?_); rintro e w' ⟨rfl, ⟨nd, rfl⟩⟩; refine ⟨_, rfl, ?_⟩))
                                go_roundg k3
                                case measure => have := HJ11.out; have := HJ18.out; have := HK3.out; omega
                                case rel => exact ⟨(wrap64 (2 * x12_3)), (wrap64 (x13_3 - 1)), (by first | rfl | (simp; done) | (simp [*]; done)), (by first | rfl | (simp; done) | (simp [*]; done)), H', ⟨by have := HJ11.out; have := HJ18.out; have := HK3.out; omega⟩, by repeat (first | exact Drawn0.refl _ | apply Drawn0.step)⟩
                        · rw [if_neg c23] at H
                          have c23b0 : decide (0 ≤ x13_3) = false := decide_eq_false c23
                          clear c23
                          replace H := Option.bind_eq_some_iff.mp H
                          obtain ⟨t178, A400, H⟩ := H
                          replace H : (some (t178, 0)) = some (r1, r2) := H
                          have A40 := Aside0.mk A400
                          clear A400
                          simp only [Option.some.injEq, Prod.mk.injEq] at H
                          obtain ⟨rfl, rfl⟩ := H
                          go_wp2_with (first | ((with_reducible refine gate_callee (f := 22) rfl ?_); refine goesL_ (some 140) rfl rfl Try.func22 (by kernel_rfl) rfl #[.int .i64 x12_3] rfl (by (try simp only [List.map_toArray, List.map_cons, List.map_nil]); first | done | rfl | (simp only [List.length_drop, List.length_take]; rfl)) ?_; (with_reducible refine (replevinref16_Unsigned.calls x12_3 t178 _ A40.out).mono ?_); rintro e w' ⟨rfl, ⟨nd, rfl⟩⟩; refine ⟨_, rfl, ?_⟩))
                          go_ret2
                          exact ⟨by first | rfl | (simp; done) | (simp [*]; done), by repeat (first | exact Drawn0.refl _ | apply Drawn0.step)⟩
                  · replace c22 := Bool.eq_false_iff.mpr c22
                    subst c22
                    have H1 : (if a0 = 12 then (replevinref16_Calculate.l1 kj18 (wrap64 (a2)) (wrap64 (a1)) 0) else (if a0 = 13 then (replevinref16_Calculate.l2 kj18 (wrap64 (a2)) (wrap64 (a1)) 0) else (if a0 = 14 then (if t171 < t172 then ((replevinref16_Unsigned.f 1).bind fun t183 => (some (t183, 0))) else ((replevinref16_Unsigned.f 0).bind fun t184 => (some (t184, 0)))) else (if a0 = 15 then (if (wrap64 (a1)) = (wrap64 (a2)) then ((replevinref16_Unsigned.f 1).bind fun t185 => (some (t185, 0))) else ((replevinref16_Unsigned.f 0).bind fun t186 => (some (t186, 0)))) else (some (0, 11)))))) = some (r1, r2) := by rw [if_neg (show ¬ (false = true) by decide)] at H; exact H
                    clear H
                    have H := H1
                    clear H1
                    by_cases c41 : a0 = 12
                    · rw [if_pos c41] at H
                      have c41b0 : (a0 == 12) = true := beq_iff_eq.mpr c41
                      have c41b1 : (a0 != 12) = false := bne_eq_false_iff_eq.mpr c41
                      clear c41
                      have H' := Aside0.mk H
                      clear H
                      go_wp2
                      go_loopg [12, 15] kj18 (fun kq v12 v15 w' => ∃ (x12_3 : Int) (x15_3 : Int), v12 = .int .i64 x12_3 ∧ v15 = .int .i64 x15_3 ∧ Aside0 (replevinref16_Calculate.l1 kq (wrap64 (a2)) x12_3 x15_3 = some (r1, r2)) ∧ Aside0 (kq ≤ kj18) ∧ Drawn0 w w')
                      case atStart => exact ⟨((wrap64 (a1))), (0), (by first | rfl | (simp; done) | (simp [*]; done)), (by first | rfl | (simp; done) | (simp [*]; done)), H', ⟨Nat.le_refl _⟩, by repeat (first | exact Drawn0.refl _ | apply Drawn0.step)⟩
                      case round =>
                        clear H'
                        try clear c1
                        try clear c2
                        try clear p2
                        try clear c3
                        try clear c4
                        try clear c5
                        try clear c6
                        try clear c6b0
                        try clear c6b1
                        try clear p6
                        try clear c8
                        try clear c8b0
                        try clear c8b1
                        try clear c10
                        try clear c10b0
                        try clear c10b1
                        try clear c11
                        try clear c13
                        try clear c13b0
                        try clear c13b1
                        try clear c14
                        try clear c15
                        try clear c15b0
                        try clear c15b1
                        try clear c16
                        try clear c16b0
                        try clear c16b1
                        try clear c18
                        try clear c20
                        try clear c20b0
                        try clear c20b1
                        try clear c21
                        try clear c21b0
                        try clear c21b1
                        try clear c22
                        try clear c23
                        try clear c23b0
                        try clear c26
                        try clear c26b0
                        try clear c26b1
                        try clear c27
                        try clear c27b0
                        try clear c27b1
                        try clear c28
                        try clear c28b0
                        try clear c28b1
                        try clear c29
                        try clear c29b0
                        try clear c30
                        try clear c30b0
                        try clear c30b1
                        try clear c31
                        try clear c31b0
                        try clear c31b1
                        try clear c32
                        try clear c32b0
                        try clear c32b1
                        try clear c33
                        try clear c33b0
                        try clear c33b1
                        try clear c34
                        try clear c34b0
                        try clear c34b1
                        try clear c35
                        try clear c35b0
                        try clear c36
                        try clear c36b0
                        try clear c36b1
                        try clear c37
                        try clear c37b0
                        try clear c37b1
                        try clear c38
                        try clear c38b0
                        try clear c38b1
                        try clear c39
                        try clear c39b0
                        try clear c39b1
                        try clear c41
                        try clear c41b0
                        try clear c41b1
                        try clear p2
                        try clear p6
                        obtain ⟨x12_3, x15_3, rfl, rfl, HA, HK3, ⟨m3, rfl⟩⟩ := hrel
                        cases gk with
                        | zero => exact absurd HA.out (by simp [replevinref16_Calculate.l1])
                        | succ k3 =>
                          have H := HA.out
                          clear HA
                          simp only [replevinref16_Calculate.l1] at H
                          by_cases c42 : x15_3 < (Int.tmod (wrap64 (a2)) 32)
                          · rw [if_pos c42] at H
                            have c42b0 : decide (x15_3 < (Int.tmod (wrap64 (a2)) 32)) = true := decide_eq_true c42
                            clear c42
                            have H' := Aside0.mk H
                            clear H
                            go_wp2
                            go_roundg k3
                            case measure => have := HJ11.out; have := HJ18.out; have := HK3.out; omega
                            case rel => exact ⟨(Int.tmod (wrap64 (x12_3 * 2)) 4294967296), (wrap64 (x15_3 + 1)), (by first | rfl | (simp; done) | (simp [*]; done)), (by first | rfl | (simp; done) | (simp [*]; done)), H', ⟨by have := HJ11.out; have := HJ18.out; have := HK3.out; omega⟩, by repeat (first | exact Drawn0.refl _ | apply Drawn0.step)⟩
                          · rw [if_neg c42] at H
                            have c42b0 : decide (x15_3 < (Int.tmod (wrap64 (a2)) 32)) = false := decide_eq_false c42
                            clear c42
                            replace H := Option.bind_eq_some_iff.mp H
                            obtain ⟨t181, A430, H⟩ := H
                            replace H : (some (t181, 0)) = some (r1, r2) := H
                            have A43 := Aside0.mk A430
                            clear A430
                            simp only [Option.some.injEq, Prod.mk.injEq] at H
                            obtain ⟨rfl, rfl⟩ := H
                            go_wp2_with (first | ((with_reducible refine gate_callee (f := 22) rfl ?_); refine goesL_ (some 140) rfl rfl Try.func22 (by kernel_rfl) rfl #[.int .i64 x12_3] rfl (by (try simp only [List.map_toArray, List.map_cons, List.map_nil]); first | done | rfl | (simp only [List.length_drop, List.length_take]; rfl)) ?_; (with_reducible refine (replevinref16_Unsigned.calls x12_3 t181 _ A43.out).mono ?_); rintro e w' ⟨rfl, ⟨nd, rfl⟩⟩; refine ⟨_, rfl, ?_⟩))
                            go_ret2
                            exact ⟨by first | rfl | (simp; done) | (simp [*]; done), by repeat (first | exact Drawn0.refl _ | apply Drawn0.step)⟩
                    · rw [if_neg c41] at H
                      have c41b0 : (a0 == 12) = false := beq_eq_false_iff_ne.mpr c41
                      have c41b1 : (a0 != 12) = true := bne_iff_ne.mpr c41
                      by_cases c44 : a0 = 13
                      · rw [if_pos c44] at H
                        have c44b0 : (a0 == 13) = true := beq_iff_eq.mpr c44
                        have c44b1 : (a0 != 13) = false := bne_eq_false_iff_eq.mpr c44
                        clear c44
                        have H' := Aside0.mk H
                        clear H
                        go_wp2
                        go_loopg [12, 16] kj18 (fun kq v12 v16 w' => ∃ (x12_3 : Int) (x16_3 : Int), v12 = .int .i64 x12_3 ∧ v16 = .int .i64 x16_3 ∧ Aside0 (replevinref16_Calculate.l2 kq (wrap64 (a2)) x12_3 x16_3 = some (r1, r2)) ∧ Aside0 (kq ≤ kj18) ∧ Drawn0 w w')
                        case atStart => exact ⟨((wrap64 (a1))), (0), (by first | rfl | (simp; done) | (simp [*]; done)), (by first | rfl | (simp; done) | (simp [*]; done)), H', ⟨Nat.le_refl _⟩, by repeat (first | exact Drawn0.refl _ | apply Drawn0.step)⟩
                        case round =>
                          clear H'
                          try clear c1
                          try clear c2
                          try clear p2
                          try clear c3
                          try clear c4
                          try clear c5
                          try clear c6
                          try clear c6b0
                          try clear c6b1
                          try clear p6
                          try clear c8
                          try clear c8b0
                          try clear c8b1
                          try clear c10
                          try clear c10b0
                          try clear c10b1
                          try clear c11
                          try clear c13
                          try clear c13b0
                          try clear c13b1
                          try clear c14
                          try clear c15
                          try clear c15b0
                          try clear c15b1
                          try clear c16
                          try clear c16b0
                          try clear c16b1
                          try clear c18
                          try clear c20
                          try clear c20b0
                          try clear c20b1
                          try clear c21
                          try clear c21b0
                          try clear c21b1
                          try clear c22
                          try clear c23
                          try clear c23b0
                          try clear c26
                          try clear c26b0
                          try clear c26b1
                          try clear c27
                          try clear c27b0
                          try clear c27b1
                          try clear c28
                          try clear c28b0
                          try clear c28b1
                          try clear c29
                          try clear c29b0
                          try clear c30
                          try clear c30b0
                          try clear c30b1
                          try clear c31
                          try clear c31b0
                          try clear c31b1
                          try clear c32
                          try clear c32b0
                          try clear c32b1
                          try clear c33
                          try clear c33b0
                          try clear c33b1
                          try clear c34
                          try clear c34b0
                          try clear c34b1
                          try clear c35
                          try clear c35b0
                          try clear c36
                          try clear c36b0
                          try clear c36b1
                          try clear c37
                          try clear c37b0
                          try clear c37b1
                          try clear c38
                          try clear c38b0
                          try clear c38b1
                          try clear c39
                          try clear c39b0
                          try clear c39b1
                          try clear c41
                          try clear c41b0
                          try clear c41b1
                          try clear c42
                          try clear c42b0
                          try clear c44
                          try clear c44b0
                          try clear c44b1
                          try clear p2
                          try clear p6
                          obtain ⟨x12_3, x16_3, rfl, rfl, HA, HK3, ⟨m3, rfl⟩⟩ := hrel
                          cases gk with
                          | zero => exact absurd HA.out (by simp [replevinref16_Calculate.l2])
                          | succ k3 =>
                            have H := HA.out
                            clear HA
                            simp only [replevinref16_Calculate.l2] at H
                            by_cases c45 : x16_3 < (Int.tmod (wrap64 (a2)) 32)
                            · rw [if_pos c45] at H
                              have c45b0 : decide (x16_3 < (Int.tmod (wrap64 (a2)) 32)) = true := decide_eq_true c45
                              clear c45
                              have H' := Aside0.mk H
                              clear H
                              go_wp2
                              go_roundg k3
                              case measure => have := HJ11.out; have := HJ18.out; have := HK3.out; omega
                              case rel => exact ⟨(wrap64 (Int.tdiv x12_3 2)), (wrap64 (x16_3 + 1)), (by first | rfl | (simp; done) | (simp [*]; done)), (by first | rfl | (simp; done) | (simp [*]; done)), H', ⟨by have := HJ11.out; have := HJ18.out; have := HK3.out; omega⟩, by repeat (first | exact Drawn0.refl _ | apply Drawn0.step)⟩
                            · rw [if_neg c45] at H
                              have c45b0 : decide (x16_3 < (Int.tmod (wrap64 (a2)) 32)) = false := decide_eq_false c45
                              clear c45
                              replace H := Option.bind_eq_some_iff.mp H
                              obtain ⟨t182, A460, H⟩ := H
                              replace H : (some (t182, 0)) = some (r1, r2) := H
                              have A46 := Aside0.mk A460
                              clear A460
                              simp only [Option.some.injEq, Prod.mk.injEq] at H
                              obtain ⟨rfl, rfl⟩ := H
                              go_wp2_with (first | ((with_reducible refine gate_callee (f := 22) rfl ?_); refine goesL_ (some 140) rfl rfl Try.func22 (by kernel_rfl) rfl #[.int .i64 x12_3] rfl (by (try simp only [List.map_toArray, List.map_cons, List.map_nil]); first | done | rfl | (simp only [List.length_drop, List.length_take]; rfl)) ?_; (with_reducible refine (replevinref16_Unsigned.calls x12_3 t182 _ A46.out).mono ?_); rintro e w' ⟨rfl, ⟨nd, rfl⟩⟩; refine ⟨_, rfl, ?_⟩))
                              go_ret2
                              exact ⟨by first | rfl | (simp; done) | (simp [*]; done), by repeat (first | exact Drawn0.refl _ | apply Drawn0.step)⟩
                      · rw [if_neg c44] at H
                        have c44b0 : (a0 == 13) = false := beq_eq_false_iff_ne.mpr c44
                        have c44b1 : (a0 != 13) = true := bne_iff_ne.mpr c44
                        by_cases c47 : a0 = 14
                        · rw [if_pos c47] at H
                          have c47b0 : (a0 == 14) = true := beq_iff_eq.mpr c47
                          have c47b1 : (a0 != 14) = false := bne_eq_false_iff_eq.mpr c47
                          clear c47
                          by_cases c48 : t171 < t172
                          · rw [if_pos c48] at H
                            have c48b0 : decide (t171 < t172) = true := decide_eq_true c48
                            clear c48
                            replace H := Option.bind_eq_some_iff.mp H
                            obtain ⟨t183, A490, H⟩ := H
                            replace H : (some (t183, 0)) = some (r1, r2) := H
                            have A49 := Aside0.mk A490
                            clear A490
                            simp only [Option.some.injEq, Prod.mk.injEq] at H
                            obtain ⟨rfl, rfl⟩ := H
                            go_wp2_with (first | ((with_reducible refine gate_callee (f := 22) rfl ?_); refine goesL_ (some 140) rfl rfl Try.func22 (by kernel_rfl) rfl #[.int .i64 1] rfl (by (try simp only [List.map_toArray, List.map_cons, List.map_nil]); first | done | rfl | (simp only [List.length_drop, List.length_take]; rfl)) ?_; (with_reducible refine (replevinref16_Unsigned.calls 1 t183 _ A49.out).mono ?_); rintro e w' ⟨rfl, ⟨nd, rfl⟩⟩; refine ⟨_, rfl, ?_⟩))
                            go_ret2
                            exact ⟨by first | rfl | (simp; done) | (simp [*]; done), by repeat (first | exact Drawn0.refl _ | apply Drawn0.step)⟩
                          · rw [if_neg c48] at H
                            have c48b0 : decide (t171 < t172) = false := decide_eq_false c48
                            clear c48
                            replace H := Option.bind_eq_some_iff.mp H
                            obtain ⟨t184, A500, H⟩ := H
                            replace H : (some (t184, 0)) = some (r1, r2) := H
                            have A50 := Aside0.mk A500
                            clear A500
                            simp only [Option.some.injEq, Prod.mk.injEq] at H
                            obtain ⟨rfl, rfl⟩ := H
                            go_wp2_with (first | ((with_reducible refine gate_callee (f := 22) rfl ?_); refine goesL_ (some 140) rfl rfl Try.func22 (by kernel_rfl) rfl #[.int .i64 0] rfl (by (try simp only [List.map_toArray, List.map_cons, List.map_nil]); first | done | rfl | (simp only [List.length_drop, List.length_take]; rfl)) ?_; (with_reducible refine (replevinref16_Unsigned.calls 0 t184 _ A50.out).mono ?_); rintro e w' ⟨rfl, ⟨nd, rfl⟩⟩; refine ⟨_, rfl, ?_⟩))
                            go_ret2
                            exact ⟨by first | rfl | (simp; done) | (simp [*]; done), by repeat (first | exact Drawn0.refl _ | apply Drawn0.step)⟩
                        · rw [if_neg c47] at H
                          have c47b0 : (a0 == 14) = false := beq_eq_false_iff_ne.mpr c47
                          have c47b1 : (a0 != 14) = true := bne_iff_ne.mpr c47
                          by_cases c51 : a0 = 15
                          · rw [if_pos c51] at H
                            have c51b0 : (a0 == 15) = true := beq_iff_eq.mpr c51
                            have c51b1 : (a0 != 15) = false := bne_eq_false_iff_eq.mpr c51
                            clear c51
                            by_cases c52 : (wrap64 (a1)) = (wrap64 (a2))
                            · rw [if_pos c52] at H
                              have c52b0 : ((wrap64 (a1)) == (wrap64 (a2))) = true := beq_iff_eq.mpr c52
                              have c52b1 : ((wrap64 (a1)) != (wrap64 (a2))) = false := bne_eq_false_iff_eq.mpr c52
                              clear c52
                              replace H := Option.bind_eq_some_iff.mp H
                              obtain ⟨t185, A530, H⟩ := H
                              replace H : (some (t185, 0)) = some (r1, r2) := H
                              have A53 := Aside0.mk A530
                              clear A530
                              simp only [Option.some.injEq, Prod.mk.injEq] at H
                              obtain ⟨rfl, rfl⟩ := H
                              go_wp2_with (first | ((with_reducible refine gate_callee (f := 22) rfl ?_); refine goesL_ (some 140) rfl rfl Try.func22 (by kernel_rfl) rfl #[.int .i64 1] rfl (by (try simp only [List.map_toArray, List.map_cons, List.map_nil]); first | done | rfl | (simp only [List.length_drop, List.length_take]; rfl)) ?_; (with_reducible refine (replevinref16_Unsigned.calls 1 t185 _ A53.out).mono ?_); rintro e w' ⟨rfl, ⟨nd, rfl⟩⟩; refine ⟨_, rfl, ?_⟩))
                              go_ret2
                              exact ⟨by first | rfl | (simp; done) | (simp [*]; done), by repeat (first | exact Drawn0.refl _ | apply Drawn0.step)⟩
                            · rw [if_neg c52] at H
                              have c52b0 : ((wrap64 (a1)) == (wrap64 (a2))) = false := beq_eq_false_iff_ne.mpr c52
                              have c52b1 : ((wrap64 (a1)) != (wrap64 (a2))) = true := bne_iff_ne.mpr c52
                              replace H := Option.bind_eq_some_iff.mp H
                              obtain ⟨t186, A540, H⟩ := H
                              replace H : (some (t186, 0)) = some (r1, r2) := H
                              have A54 := Aside0.mk A540
                              clear A540
                              simp only [Option.some.injEq, Prod.mk.injEq] at H
                              obtain ⟨rfl, rfl⟩ := H
                              go_wp2_with (first | ((with_reducible refine gate_callee (f := 22) rfl ?_); refine goesL_ (some 140) rfl rfl Try.func22 (by kernel_rfl) rfl #[.int .i64 0] rfl (by (try simp only [List.map_toArray, List.map_cons, List.map_nil]); first | done | rfl | (simp only [List.length_drop, List.length_take]; rfl)) ?_; (with_reducible refine (replevinref16_Unsigned.calls 0 t186 _ A54.out).mono ?_); rintro e w' ⟨rfl, ⟨nd, rfl⟩⟩; refine ⟨_, rfl, ?_⟩))
                              go_ret2
                              exact ⟨by first | rfl | (simp; done) | (simp [*]; done), by repeat (first | exact Drawn0.refl _ | apply Drawn0.step)⟩
                          · rw [if_neg c51] at H
                            have c51b0 : (a0 == 15) = false := beq_eq_false_iff_ne.mpr c51
                            have c51b1 : (a0 != 15) = true := bne_iff_ne.mpr c51
                            simp only [Option.some.injEq, Prod.mk.injEq] at H
                            obtain ⟨rfl, rfl⟩ := H
                            go_wp2
                            go_ret2
                            exact ⟨by first | rfl | (simp; done) | (simp [*]; done), by repeat (first | exact Drawn0.refl _ | apply Drawn0.step)⟩

end Go.Proofs.Ytdnhekgdpolenaa.Q
