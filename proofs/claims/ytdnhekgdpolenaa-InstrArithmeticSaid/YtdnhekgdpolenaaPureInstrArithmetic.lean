/- InstrArithmetic: what is left of the law, on numbers alone. -/
import Derived.Test.YtdnhekgdpolenaaQx10
import Derived.Test.YtdnhekgdpolenaaPCalc
namespace Go.Proofs.Ytdnhekgdpolenaa.Pure
set_option linter.unusedVariables false
set_option linter.unusedSimpArgs false
open Go.RowKit Go.Proofs.Ytdnhekgdpolenaa Go.Proofs.Ytdnhekgdpolenaa.Q Go.Proofs.YtdnhekgdpolenaaW.PrintWords Go.Proofs.YtdnhekgdpolenaaW.PrintLast
theorem calc_word (op : Int) (x y : Int) (hx : 0 ≤ x ∧ x < 4294967296) (hy : 0 ≤ y ∧ y < 4294967296) (ho : 4 ≤ op ∧ op ≤ 15) (hz : op = 7 ∨ op = 8 → ¬ y = 0) : instr_Calculate.f op x y = some (arith op x y, 0) := by
  unfold instr_Calculate.f
  rw [if_neg (fun h => h ⟨hx.1, hx.2, hy.1, hy.2⟩), if_neg (by omega), if_neg (fun h => hz h.1 h.2)]
theorem calc_zero (op : Int) (x : Int) (hx : 0 ≤ x ∧ x < 4294967296) (ho : op = 7 ∨ op = 8) : instr_Calculate.f op x 0 = some (0, 38) := by
  unfold instr_Calculate.f
  rw [if_neg (fun h => h ⟨hx.1, hx.2, by decide, by decide⟩), if_neg (by omega), if_pos ⟨ho, rfl⟩]
theorem word_emod (n : Int) : 0 ≤ n % 4294967296 ∧ n % 4294967296 < 4294967296 := by omega
theorem arith_4 (x y : Int) : arith 4 x y = (x + y) % 4294967296 := by unfold arith; rw [if_pos rfl]
theorem arith_5 (x y : Int) : arith 5 x y = (x - y) % 4294967296 := by unfold arith; rw [if_neg (by decide), if_pos rfl]
theorem arith_6 (x y : Int) : arith 6 x y = x * y % 4294967296 := by unfold arith; rw [if_neg (by decide), if_neg (by decide), if_pos rfl]
theorem arith_11 (x y : Int) : arith 11 x y = Go.bits .xor .u32 x y := by unfold arith; rw [if_neg (by decide), if_neg (by decide), if_neg (by decide), if_neg (by decide), if_neg (by decide), if_pos rfl]
theorem parts_mod (Q S R p x : Int) (h : S * Q + R = p) (hp : p % 4294967296 = x) (hx : 0 ≤ x ∧ x < 4294967296) :
    ((Q % 4294967296 * (S % 4294967296)) % 4294967296 + R % 4294967296) % 4294967296 = x := by
  rw [← Int.mul_emod, ← Int.add_emod, Int.mul_comm Q S, h, hp]
theorem wrap_tdiv {p q : Int} (hp : -2147483648 ≤ p ∧ p ≤ 2147483647) : wrap64 (p.tdiv q) = p.tdiv q := by
  have h := tdiv_range (q := q) hp
  generalize p.tdiv q = d at *
  unfold wrap64
  omega
theorem add_sub_mod {x y : Nat} (hx : x < 4294967296) : (((x : Int) + y) % 4294967296 - y) % 4294967296 = x := by omega
theorem InstrArithmetic : replevinlaw16_InstrArithmetic.Pure := by
  intro x y hx hy
  have bx : 0 ≤ x ∧ x ≤ 4294967295 := by simpa [Lit.wf, IntKind.min, IntKind.max, IntKind.signed, IntKind.bits] using hx
  have bY : 0 ≤ y ∧ y ≤ 4294967295 := by simpa [Lit.wf, IntKind.min, IntKind.max, IntKind.signed, IntKind.bits] using hy
  clear hx hy
  obtain ⟨x, rfl⟩ := Int.eq_ofNat_of_zero_le bx.1
  obtain ⟨y, rfl⟩ := Int.eq_ofNat_of_zero_le bY.1
  have hX : x < 4294967296 := by omega
  have hY : y < 4294967296 := by omega
  have wx : 0 ≤ (x : Int) ∧ (x : Int) < 4294967296 := by omega
  have wy : 0 ≤ (y : Int) ∧ (y : Int) < 4294967296 := by omega
  have hk : replevinlaw16_known.f (48 + 2) = some true := by kernel_rfl
  have c1 := calc_word 4 x y wx wy (by decide) (fun h => absurd h (by decide))
  have c2 := calc_word 5 (arith 4 x y) y (by rw [arith_4]; exact word_emod _) wy (by decide) (fun h => absurd h (by decide))
  have e2 : arith 5 (arith 4 x y) y = x := by rw [arith_4, arith_5]; exact add_sub_mod hX
  have c3 := calc_word 11 x y wx wy (by decide) (fun h => absurd h (by decide))
  have e3 : arith 11 x y = ((x ^^^ y : Nat) : Int) := by rw [arith_11, xor_u32 x y hX hY]
  have hxor : x ^^^ y < 4294967296 := Nat.xor_lt_two_pow (n := 32) hX hY
  have c4 := calc_word 11 ((x ^^^ y : Nat) : Int) y (by omega) wy (by decide) (fun h => absurd h (by decide))
  have e4 : arith 11 ((x ^^^ y : Nat) : Int) y = x := by rw [arith_11, xor_u32 _ y hxor hY, Nat.xor_assoc, Nat.xor_self, Nat.xor_zero]
  have c5 := calc_word 14 x y wx wy (by decide) (fun h => absurd h (by decide))
  have s1 : instr_Signed.f x = some (sg x) := rfl
  have s2 : instr_Signed.f y = some (sg y) := rfl
  have rx := sg_range hX
  have ry := sg_range hY
  have s3 : instr_Unsigned.f (sg x) = some (x : Int) := by unfold instr_Unsigned.f; rw [rx.2.2]
  rw [e2] at c2
  rw [e3] at c3
  rw [e4] at c4
  rw [arith_14, ← sg_wrap32, ← sg_wrap32] at c5
  have key : replevinlaw16_InstrArithmetic.j0 (48 + 1 + 1) x y false = some true := by
    rw [replevinlaw16_InstrArithmetic.j0, if_neg (by decide)]
    by_cases hz : y = 0
    · subst hz
      have d7 := calc_zero 7 x wx (.inl rfl)
      have d8 := calc_zero 8 x wx (.inr rfl)
      rw [show (((0 : Nat) : Int)) = 0 from rfl, d7, d8]
      rfl
    · have hz' : ¬ (y : Int) = 0 := by omega
      have d7 := calc_word 7 x y wx wy (by decide) (fun _ => hz')
      have d8 := calc_word 8 x y wx wy (by decide) (fun _ => hz')
      rw [arith_7] at d7
      rw [arith_8] at d8
      have hw : wrap64 ((sg x).tdiv (sg y)) = (sg x).tdiv (sg y) := by
        exact wrap_tdiv ⟨rx.1, rx.2.1⟩
      rw [hw] at d7
      have d6 := calc_word 6 ((sg x).tdiv (sg y) % 4294967296) y (word_emod _) wy (by decide) (fun h => absurd h (by decide))
      have d4 := calc_word 4 (arith 6 ((sg x).tdiv (sg y) % 4294967296) y) ((sg x).tmod (sg y) % 4294967296) (by rw [arith_6]; exact word_emod _) (word_emod _) (by decide) (fun h => absurd h (by decide))
      have e : arith 4 (arith 6 ((sg x).tdiv (sg y) % 4294967296) y) ((sg x).tmod (sg y) % 4294967296) = x := by
        rw [arith_4, arith_6]
        conv => lhs; rw [← ry.2.2]
        rw [show sg (sg y % 4294967296) = sg y from by rw [ry.2.2]]
        exact parts_mod _ _ _ (sg x) x (Int.mul_tdiv_add_tmod _ _) rx.2.2 wx
      rw [e] at d4
      rw [d7, d8, Option.bind_some, Option.bind_some, if_neg hz', d6, Option.bind_some, d4, Option.bind_some, if_pos rfl, if_pos rfl, if_pos rfl, if_pos rfl, beq_self_eq_true]
  refine ⟨48 + 2, ?_⟩
  unfold replevinlaw16_InstrArithmetic.f
  rw [hk, Option.bind_some, if_pos rfl, c1, Option.bind_some, c2, Option.bind_some, c3, Option.bind_some, c4, Option.bind_some, c5, Option.bind_some, if_pos rfl, if_pos rfl, if_pos rfl, if_pos rfl, if_pos rfl, if_pos rfl, if_pos rfl, s1, Option.bind_some, s2, Option.bind_some]
  have t1 : ((fl (decide (sg (x : Int) < sg y)) == 1) != decide (sg (x : Int) < sg y)) = false := by
    cases decide (sg (x : Int) < sg y) <;> rfl
  have t2 : ¬ fl (decide (sg (x : Int) < sg y)) > 1 := by
    cases decide (sg (x : Int) < sg y) <;> decide
  rw [if_neg (by rw [t1]; decide), if_neg t2, Option.bind_some, s3, Option.bind_some, bne_self_eq_false]
  exact key
end Go.Proofs.Ytdnhekgdpolenaa.Pure
