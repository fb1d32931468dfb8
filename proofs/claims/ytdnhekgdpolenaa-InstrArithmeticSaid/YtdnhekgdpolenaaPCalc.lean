/- Calculate and the reference's Calculate answer alike, for any operation and any words. -/
import Derived.Test.YtdnhekgdpolenaaQx9
import Derived.Test.YtdnhekgdpolenaaHCalc
import Derived.Laws.BitsLemmas
namespace Go.Proofs.Ytdnhekgdpolenaa.Pure
set_option linter.unusedVariables false
set_option linter.unusedSimpArgs false
open Go.RowKit Go.Proofs.Ytdnhekgdpolenaa Go.Proofs.Ytdnhekgdpolenaa.Q Go.Proofs.YtdnhekgdpolenaaW.PrintWords Go.Proofs.YtdnhekgdpolenaaW.PrintLast Go.Proofs.YtdnhekgdpolenaaW.PrintMore
theorem uns_eq {n : Int} (h : -9223372036854775808 ≤ n ∧ n ≤ 9223372036854775807) : replevinref16_Unsigned.f n = some (n % 4294967296) := by
  unfold replevinref16_Unsigned.f
  have ht := Int.tmod_eq_emod (a := n) (b := 4294967296)
  split <;> (congr 1; (try unfold wrap64); split at ht <;> omega)
theorem sgn_eq {x : Int} (h : 0 ≤ x ∧ x ≤ 4294967295) : replevinref16_Signed.f x = some (sg x) := by
  unfold replevinref16_Signed.f sg
  split <;> (congr 1; unfold wrap64 wrap32; omega)
theorem wrap32_u {n : Int} (h0 : 0 ≤ n) (h1 : n < 2 ^ 32) : IntKind.u32.wrap n = n := by rw [IntKind.wrap_u32]; omega
theorem cast_lt32 {n : Nat} (h : n < 2 ^ 32) : (n : Int) < 2 ^ 32 := by exact_mod_cast h
theorem and_u32 (a b : Nat) (ha : a < 2 ^ 32) (hb : b < 2 ^ 32) : Go.bits .and .u32 a b = ((a &&& b : Nat) : Int) := (bits_nat .u32 32 (by decide) (fun _ h0 h1 => wrap32_u h0 h1) a b ha hb).1
theorem or_u32 (a b : Nat) (ha : a < 2 ^ 32) (hb : b < 2 ^ 32) : Go.bits .or .u32 a b = ((a ||| b : Nat) : Int) := (bits_nat .u32 32 (by decide) (fun _ h0 h1 => wrap32_u h0 h1) a b ha hb).2
theorem xor_u32 (a b : Nat) (ha : a < 2 ^ 32) (hb : b < 2 ^ 32) : Go.bits .xor .u32 a b = ((a ^^^ b : Nat) : Int) := by
  have ha' : a % 2 ^ IntKind.u32.bits = a := Nat.mod_eq_of_lt ha
  have hb' : b % 2 ^ IntKind.u32.bits = b := Nat.mod_eq_of_lt hb
  simp only [Go.bits, BitVec.ofInt_natCast, BitVec.toNat_xor, BitVec.toNat_ofNat, ha', hb']
  exact wrap32_u (Int.natCast_nonneg _) (cast_lt32 (Nat.xor_lt_two_pow ha hb))
/-- A bit of a word. -/
theorem bit_eq (x d : Nat) (hx : x < 2 ^ 32) (hd : d < 32) : replevinref16_bit.f x d = some (((x / 2 ^ d % 2 : Nat) : Int)) := by
  unfold replevinref16_bit.f shr
  rw [if_pos (Int.natCast_nonneg d)]
  congr 1
  rw [Int.toNat_natCast, Nat.min_eq_left (show d ≤ IntKind.u32.bits by show d ≤ 32; omega)]
  have e : ((x : Int) / 2 ^ d) = ((x / 2 ^ d : Nat) : Int) := by simp
  have hlt : x / 2 ^ d < 2 ^ 32 := Nat.lt_of_le_of_lt (Nat.div_le_self _ _) hx
  rw [e, show (1 : Int) = ((1 : Nat) : Int) from rfl, and_u32 _ 1 hlt (by decide), Nat.and_one_is_mod]
  have h2 : x / 2 ^ d % 2 < 2 := Nat.mod_lt _ (by decide)
  unfold wrap64
  omega
/-- What one round of the loop over the bits makes of them. -/
def bitOp (op : Nat) (s t : Nat) : Nat := if op = 9 then s &&& t else if op = 10 then s ||| t else s ^^^ t
theorem bitOp_bit {op s t d : Nat} : bitOp op s t / 2 ^ d % 2 = bitOp op (s / 2 ^ d % 2) (t / 2 ^ d % 2) := by
  have key : ∀ a : Nat, a / 2 ^ d % 2 = (a.testBit d).toNat := fun a => by
    rw [Nat.testBit_eq_decide_div_mod_eq]
    rcases Nat.mod_two_eq_zero_or_one (a / 2 ^ d) with h | h <;> simp [h]
  simp only [key]
  unfold bitOp
  split
  · rw [Nat.testBit_and]; cases s.testBit d <;> cases t.testBit d <;> rfl
  · split
    · rw [Nat.testBit_or]; cases s.testBit d <;> cases t.testBit d <;> rfl
    · rw [Nat.testBit_xor]; cases s.testBit d <;> cases t.testBit d <;> rfl
theorem bitOp_lt {op s t : Nat} (hs : s < 2 ^ 32) (ht : t < 2 ^ 32) : bitOp op s t < 2 ^ 32 := by
  unfold bitOp
  split
  · exact Nat.and_lt_two_pow _ ht
  · split
    · exact Nat.or_lt_two_pow hs ht
    · exact Nat.xor_lt_two_pow hs ht
theorem lt_two {s : Nat} (h : s < 2) : s = 0 ∨ s = 1 := by omega
theorem w_add {s t : Nat} (h : s < 2) (h' : t < 2) : wrap64 ((s : Int) + t) = (s : Int) + t := by unfold wrap64; omega
theorem w_two {g : Nat} (h : g < 4294967296) : wrap64 (2 * (g : Int)) = 2 * (g : Int) := by unfold wrap64; omega
theorem w_two1 {g : Nat} (h : g < 4294967296) : wrap64 (2 * (g : Int) + 1) = 2 * (g : Int) + 1 := by unfold wrap64; omega
theorem w_pred {d : Nat} (h : d < 32) : wrap64 ((d : Int) - 1) = (d : Int) - 1 := by unfold wrap64; omega
theorem w_succ {d : Nat} (h : d < 32) : wrap64 ((d : Int) + 1) = ((d + 1 : Nat) : Int) := by unfold wrap64; omega
theorem w_dbl {g : Nat} (h : g < 4294967296) : Int.tmod (wrap64 ((g : Int) * 2)) 4294967296 = ((g * 2 % 4294967296 : Nat) : Int) := by
  have e : wrap64 ((g : Int) * 2) = (g : Int) * 2 := by unfold wrap64; omega
  rw [e, Int.tmod_eq_emod_of_nonneg (by omega)]
  omega
theorem w_half {g : Nat} (h : g < 4294967296) : wrap64 (Int.tdiv (g : Int) 2) = ((g / 2 : Nat) : Int) := by
  rw [Int.tdiv_eq_ediv_of_nonneg (by omega)]
  unfold wrap64
  omega
theorem two_parts {E G b : Nat} (h : E = 2 * G + b) : (E : Int) = 2 * (G : Int) + (b : Int) := by omega
theorem uns_nat {n : Nat} (h : n < 4294967296) : replevinref16_Unsigned.f n = some (n : Int) := by
  rw [uns_eq (by omega), Int.emod_eq_of_lt (by omega) (by omega)]
theorem loop_bits (op x y : Nat) (ho : op = 9 ∨ op = 10 ∨ op = 11) (hx : x < 2 ^ 32) (hy : y < 2 ^ 32) : ∀ (d : Nat), d ≤ 32 → ∀ k, d < k →
    replevinref16_Calculate.l0 k op x y ((bitOp op x y / 2 ^ d : Nat) : Int) ((d : Int) - 1) = some (((bitOp op x y : Nat) : Int), 0) := by
  intro d
  induction d with
  | zero =>
    intro _ k hk
    obtain ⟨k, rfl⟩ : ∃ m, k = m + 1 := ⟨k - 1, by omega⟩
    simp only [replevinref16_Calculate.l0]
    rw [if_neg (by omega)]
    have hb := bitOp_lt (op := op) hx hy
    rw [Nat.pow_zero, Nat.div_one, uns_nat hb]
    rfl
  | succ d ih =>
    intro hd k hk
    obtain ⟨k, rfl⟩ : ∃ m, k = m + 1 := ⟨k - 1, by omega⟩
    have e1 : ((d + 1 : Nat) : Int) - 1 = d := by omega
    have ih' := ih (by omega) k (by omega)
    have e2 := w_pred (d := d) (by omega)
    have hF := bitOp_lt (op := op) hx hy
    have hbit := bitOp_bit (op := op) (s := x) (t := y) (d := d)
    generalize hFe : bitOp op x y = F at *
    have hstep : F / 2 ^ d = 2 * (F / 2 ^ (d + 1)) + F / 2 ^ d % 2 := by
      rw [Nat.pow_succ, ← Nat.div_div_eq_div_mul]; omega
    have hle : F / 2 ^ (d + 1) < 2 ^ 32 := Nat.lt_of_le_of_lt (Nat.div_le_self _ _) hF
    have hx2 : x / 2 ^ d % 2 < 2 := Nat.mod_lt _ (by decide)
    have hy2 : y / 2 ^ d % 2 < 2 := Nat.mod_lt _ (by decide)
    simp only [replevinref16_Calculate.l0]
    rw [e1, if_pos (by omega), bit_eq x d hx (by omega), bit_eq y d hy (by omega), e2]
    simp only [Option.bind_some]
    generalize x / 2 ^ d % 2 = s at *
    generalize y / 2 ^ d % 2 = t at *
    generalize F / 2 ^ (d + 1) = G at *
    generalize F / 2 ^ d = E at *
    rw [w_add hx2 hy2, w_two hle, w_two1 hle]
    have hs := lt_two hx2
    have ht := lt_two hy2
    have hE := two_parts hstep
    clear hstep hF hle hx2 hy2 e1 e2 ih hk hd
    rcases ho with rfl | rfl | rfl <;> rcases hs with rfl | rfl <;> rcases ht with rfl | rfl <;> simp [bitOp] at hbit ⊢ <;> (rw [hbit] at hE; simp at hE; rw [← hE]; exact ih')
theorem tmod32 {y : Nat} : Int.tmod (y : Int) 32 = ((y % 32 : Nat) : Int) := by
  rw [Int.tmod_eq_emod_of_nonneg (Int.natCast_nonneg y)]
  simp
theorem loop_shl (x y : Nat) (hx : x < 2 ^ 32) : ∀ (d i : Nat), i + d = y % 32 → ∀ k, d < k →
    replevinref16_Calculate.l1 k y ((x * 2 ^ i % 2 ^ 32 : Nat) : Int) i = some (((x * 2 ^ (y % 32) % 2 ^ 32 : Nat) : Int), 0) := by
  intro d
  induction d with
  | zero =>
    intro i hi k hk
    obtain ⟨k, rfl⟩ : ∃ m, k = m + 1 := ⟨k - 1, by omega⟩
    obtain rfl : i = y % 32 := by omega
    simp only [replevinref16_Calculate.l1, tmod32]
    rw [if_neg (by omega)]
    have hlt : x * 2 ^ (y % 32) % 2 ^ 32 < 2 ^ 32 := Nat.mod_lt _ (by decide)
    rw [uns_nat hlt]
    rfl
  | succ d ih =>
    intro i hi k hk
    obtain ⟨k, rfl⟩ : ∃ m, k = m + 1 := ⟨k - 1, by omega⟩
    have ih' := ih (i + 1) (by omega) k (by omega)
    have hlt : x * 2 ^ i % 2 ^ 32 < 2 ^ 32 := Nat.mod_lt _ (by decide)
    have hstep : x * 2 ^ (i + 1) % 2 ^ 32 = x * 2 ^ i % 2 ^ 32 * 2 % 2 ^ 32 := by
      rw [Nat.pow_succ, ← Nat.mul_assoc, Nat.mod_mul_mod]
    simp only [replevinref16_Calculate.l1, tmod32]
    rw [if_pos (by omega)]
    rw [hstep] at ih'
    generalize x * 2 ^ i % 2 ^ 32 = G at *
    rw [w_dbl hlt, w_succ (by omega)]
    exact ih'
theorem loop_shr (x y : Nat) (hx : x < 2 ^ 32) : ∀ (d i : Nat), i + d = y % 32 → ∀ k, d < k →
    replevinref16_Calculate.l2 k y ((x / 2 ^ i : Nat) : Int) i = some (((x / 2 ^ (y % 32) : Nat) : Int), 0) := by
  intro d
  induction d with
  | zero =>
    intro i hi k hk
    obtain ⟨k, rfl⟩ : ∃ m, k = m + 1 := ⟨k - 1, by omega⟩
    obtain rfl : i = y % 32 := by omega
    simp only [replevinref16_Calculate.l2, tmod32]
    rw [if_neg (by omega)]
    have hlt : x / 2 ^ (y % 32) < 2 ^ 32 := Nat.lt_of_le_of_lt (Nat.div_le_self _ _) hx
    rw [uns_nat hlt]
    rfl
  | succ d ih =>
    intro i hi k hk
    obtain ⟨k, rfl⟩ : ∃ m, k = m + 1 := ⟨k - 1, by omega⟩
    have ih' := ih (i + 1) (by omega) k (by omega)
    have hlt : x / 2 ^ i < 2 ^ 32 := Nat.lt_of_le_of_lt (Nat.div_le_self _ _) hx
    have hstep : x / 2 ^ (i + 1) = x / 2 ^ i / 2 := by
      rw [Nat.pow_succ, ← Nat.div_div_eq_div_mul]
    simp only [replevinref16_Calculate.l2, tmod32]
    rw [if_pos (by omega)]
    rw [hstep] at ih'
    generalize x / 2 ^ i = G at *
    rw [w_half hlt, w_succ (by omega)]
    exact ih'
theorem w_nat {x : Nat} (h : x < 4294967296) : wrap64 (x : Int) = x := by unfold wrap64; omega
theorem sg_range {x : Nat} (h : x < 4294967296) : -2147483648 ≤ sg x ∧ sg x ≤ 2147483647 ∧ sg x % 4294967296 = x := by
  unfold sg wrap64 wrap32
  omega
theorem wrap64_range (n : Int) : -9223372036854775808 ≤ wrap64 n ∧ wrap64 n ≤ 9223372036854775807 := by unfold wrap64; omega
theorem mul_num (A B : Nat) (hA : A < 281474976710656) (hB : B < 281474976710656) :
    wrap64 (Int.tmod (wrap64 (A : Int)) 4294967296 + wrap64 (Int.tmod (wrap64 (B : Int)) 65536 * 65536)) % 4294967296 = (((A + 65536 * B) % 4294967296 : Nat) : Int) := by
  have f1 : wrap64 (A : Int) = A := by unfold wrap64; omega
  have f2 : wrap64 (B : Int) = B := by unfold wrap64; omega
  rw [f1, f2, Int.tmod_eq_emod_of_nonneg (Int.natCast_nonneg A), Int.tmod_eq_emod_of_nonneg (Int.natCast_nonneg B)]
  clear f1 f2
  have f3 : wrap64 ((B : Int) % 65536 * 65536) = (B : Int) % 65536 * 65536 := by unfold wrap64; omega
  rw [f3]
  clear f3
  have f4 : wrap64 ((A : Int) % 4294967296 + (B : Int) % 65536 * 65536) = (A : Int) % 4294967296 + (B : Int) % 65536 * 65536 := by unfold wrap64; omega
  rw [f4]
  omega
theorem mul_split (x y : Nat) : x * y = x % 65536 * y + 65536 * (x / 65536 * y) := by
  have h := congrArg (· * y) (Nat.div_add_mod x 65536)
  simp only [Nat.add_mul, Nat.mul_assoc] at h
  omega
theorem mul_parts (x y : Nat) (hx : x < 4294967296) (hy : y < 4294967296) :
    (wrap64 ((Int.tmod (wrap64 ((Int.tmod (wrap64 x) 65536) * (wrap64 y))) 4294967296) + (wrap64 ((Int.tmod (wrap64 ((wrap64 (Int.tdiv (wrap64 x) 65536)) * (wrap64 y))) 65536) * 65536)))) % 4294967296 = ((x * y % 4294967296 : Nat) : Int) := by
  have e0 : Int.tmod (x : Int) 65536 = ((x % 65536 : Nat) : Int) := by rw [Int.tmod_eq_emod_of_nonneg (Int.natCast_nonneg x)]; simp
  have e2 : wrap64 (Int.tdiv (x : Int) 65536) = ((x / 65536 : Nat) : Int) := by
    rw [Int.tdiv_eq_ediv_of_nonneg (Int.natCast_nonneg x)]
    unfold wrap64
    omega
  have hA : x % 65536 * y < 65536 * 4294967296 := Nat.mul_lt_mul'' (Nat.mod_lt _ (by decide)) hy
  have hB : x / 65536 * y < 65536 * 4294967296 := Nat.mul_lt_mul'' (by omega) hy
  rw [w_nat hx, w_nat hy, e0, e2, ← Int.natCast_mul, ← Int.natCast_mul, mul_split x y]
  exact mul_num _ _ hA hB
theorem tdiv_range {p q : Int} (hp : -2147483648 ≤ p ∧ p ≤ 2147483647) : -2147483648 ≤ p.tdiv q ∧ p.tdiv q ≤ 2147483648 := by
  have h := Int.natAbs_tdiv_le_natAbs p q
  omega
theorem div_eq {p q : Int} (hp : -2147483648 ≤ p ∧ p ≤ 2147483647) : replevinref16_Unsigned.f (wrap64 (Int.tdiv p q)) = some (wrap64 (p.tdiv q) % 4294967296) := by
  have h := tdiv_range (q := q) hp
  rw [uns_eq (wrap64_range _)]
theorem mod_eq {p q : Int} (hp : -2147483648 ≤ p ∧ p ≤ 2147483647) : replevinref16_Unsigned.f (wrap64 (p - (wrap64 (q * (wrap64 (Int.tdiv p q)))))) = some (p.tmod q % 4294967296) := by
  have h := tdiv_range (q := q) hp
  have e : wrap64 (Int.tdiv p q) = Int.tdiv p q := by unfold wrap64; omega
  have hd : q * Int.tdiv p q = p - p.tmod q := by have := Int.mul_tdiv_add_tmod p q; omega
  have hm : (p.tmod q).natAbs ≤ p.natAbs := by
    rw [Int.natAbs_tmod]; exact Nat.mod_le _ _
  rw [e, hd]
  generalize p.tmod q = m at *
  have f : wrap64 (p - m) = p - m := by unfold wrap64; omega
  rw [f]
  have g : wrap64 (p - (p - m)) = m := by unfold wrap64; omega
  rw [g, uns_eq (by omega)]
theorem shl_cast {x y : Nat} : ((x : Int) * 2 ^ ((y : Int) % 32).toNat % 4294967296) = ((x * 2 ^ (y % 32) % 2 ^ 32 : Nat) : Int) := by
  have e : ((y : Int) % 32).toNat = y % 32 := by omega
  rw [e]
  simp
theorem shr_cast {x y : Nat} : ((x : Int) / 2 ^ ((y : Int) % 32).toNat) = ((x / 2 ^ (y % 32) : Nat) : Int) := by
  have e : ((y : Int) % 32).toNat = y % 32 := by omega
  rw [e]
  simp
theorem fl_eq {p : Prop} [Decidable p] : (if p then some ((1 : Int), (0 : Int)) else some (0, 0)) = some (fl (decide p), 0) := by
  by_cases h : p <;> simp [fl, h]
theorem calc_eq_4 (k : Nat) (hk : 48 ≤ k) (x y : Nat) (hx : x < 4294967296) (hy : y < 4294967296) : replevinref16_Calculate.f (k + 2) 4 x y = some (arith 4 x y, 0) := by
  have hr := sg_range hx
  have hq := sg_range hy
  have h1 := sgn_eq (x := (x : Int)) (by omega)
  have h2 := sgn_eq (x := (y : Int)) (by omega)
  unfold replevinref16_Calculate.f
  rw [h1, h2, Option.bind_some, Option.bind_some]
  clear h1 h2
  rw [if_pos rfl, w_nat hx, w_nat hy, uns_eq (wrap64_range _), Option.bind_some]
  have e : wrap64 ((x : Int) + y) % 4294967296 = ((x : Int) + y) % 4294967296 := by unfold wrap64; omega
  rw [e]
  rfl
theorem calc_eq_5 (k : Nat) (hk : 48 ≤ k) (x y : Nat) (hx : x < 4294967296) (hy : y < 4294967296) : replevinref16_Calculate.f (k + 2) 5 x y = some (arith 5 x y, 0) := by
  have hr := sg_range hx
  have hq := sg_range hy
  have h1 := sgn_eq (x := (x : Int)) (by omega)
  have h2 := sgn_eq (x := (y : Int)) (by omega)
  unfold replevinref16_Calculate.f
  rw [h1, h2, Option.bind_some, Option.bind_some]
  clear h1 h2
  rw [if_neg (by decide), if_pos rfl, w_nat hx, w_nat hy, uns_eq (wrap64_range _), Option.bind_some]
  have e : wrap64 ((x : Int) - y) % 4294967296 = ((x : Int) - y) % 4294967296 := by unfold wrap64; omega
  rw [e]
  rfl
theorem arith_6' (x y : Nat) : arith 6 x y = ((x * y % 4294967296 : Nat) : Int) := by
  show ((x : Int) * y % 4294967296) = _
  rw [Int.natCast_emod, Int.natCast_mul]
  rfl
theorem calc_eq_6 (k : Nat) (hk : 48 ≤ k) (x y : Nat) (hx : x < 4294967296) (hy : y < 4294967296) : replevinref16_Calculate.f (k + 2) 6 x y = some (arith 6 x y, 0) := by
  have hr := sg_range hx
  have hq := sg_range hy
  have h1 := sgn_eq (x := (x : Int)) (by omega)
  have h2 := sgn_eq (x := (y : Int)) (by omega)
  unfold replevinref16_Calculate.f
  rw [h1, h2, Option.bind_some, Option.bind_some]
  clear h1 h2
  rw [if_neg (by decide), if_neg (by decide), if_pos rfl, uns_eq (wrap64_range _), mul_parts x y hx hy, Option.bind_some, arith_6']
theorem arith_7 (x y : Int) : arith 7 x y = wrap64 ((sg x).tdiv (sg y)) % 4294967296 := by
  unfold arith
  rw [if_neg (by decide), if_neg (by decide), if_neg (by decide), if_neg (by decide), if_neg (by decide), if_neg (by decide), if_neg (by decide), if_neg (by decide), if_neg (by decide), if_neg (by decide), if_pos rfl]
theorem arith_8 (x y : Int) : arith 8 x y = (sg x).tmod (sg y) % 4294967296 := by
  unfold arith
  rw [if_neg (by decide), if_neg (by decide), if_neg (by decide), if_neg (by decide), if_neg (by decide), if_neg (by decide), if_neg (by decide), if_neg (by decide), if_neg (by decide), if_neg (by decide), if_neg (by decide)]
theorem calc_eq_7 (k : Nat) (hk : 48 ≤ k) (x y : Nat) (hx : x < 4294967296) (hy : y < 4294967296)(hz : ¬ y = 0) : replevinref16_Calculate.f (k + 2) 7 x y = some (arith 7 x y, 0) := by
  have hr := sg_range hx
  have hq := sg_range hy
  have h1 := sgn_eq (x := (x : Int)) (by omega)
  have h2 := sgn_eq (x := (y : Int)) (by omega)
  unfold replevinref16_Calculate.f
  rw [h1, h2, Option.bind_some, Option.bind_some]
  clear h1 h2
  have hz' : ¬ sg (y : Int) = 0 := by omega
  rw [if_neg (by decide), if_neg (by decide), if_neg (by decide), if_pos rfl, replevinref16_Calculate.j0, if_pos (by decide), if_neg hz', if_neg (by decide), div_eq ⟨hr.1, hr.2.1⟩, Option.bind_some, arith_7]
theorem calc_eq_8 (k : Nat) (hk : 48 ≤ k) (x y : Nat) (hx : x < 4294967296) (hy : y < 4294967296)(hz : ¬ y = 0) : replevinref16_Calculate.f (k + 2) 8 x y = some (arith 8 x y, 0) := by
  have hr := sg_range hx
  have hq := sg_range hy
  have h1 := sgn_eq (x := (x : Int)) (by omega)
  have h2 := sgn_eq (x := (y : Int)) (by omega)
  unfold replevinref16_Calculate.f
  rw [h1, h2, Option.bind_some, Option.bind_some]
  clear h1 h2
  have hz' : ¬ sg (y : Int) = 0 := by omega
  rw [if_neg (by decide), if_neg (by decide), if_neg (by decide), if_neg (by decide), replevinref16_Calculate.j0, if_pos (by decide), if_neg hz', if_pos rfl, mod_eq ⟨hr.1, hr.2.1⟩, Option.bind_some, arith_8]
theorem calc_eq_9 (k : Nat) (hk : 48 ≤ k) (x y : Nat) (hx : x < 4294967296) (hy : y < 4294967296) : replevinref16_Calculate.f (k + 2) 9 x y = some (arith 9 x y, 0) := by
  have hr := sg_range hx
  have hq := sg_range hy
  have h1 := sgn_eq (x := (x : Int)) (by omega)
  have h2 := sgn_eq (x := (y : Int)) (by omega)
  unfold replevinref16_Calculate.f
  rw [h1, h2, Option.bind_some, Option.bind_some]
  clear h1 h2
  have h := loop_bits 9 x y (.inl rfl) hx hy 32 (Nat.le_refl _) k (by omega)
  rw [Nat.div_eq_of_lt (bitOp_lt hx hy)] at h
  have e : arith 9 x y = ((bitOp 9 x y : Nat) : Int) := and_u32 x y hx hy
  rw [e]
  clear e hr hq
  rw [if_neg (by decide), if_neg (by decide), if_neg (by decide), if_neg (by decide), replevinref16_Calculate.j0, if_neg (by decide), if_pos rfl, replevinref16_Calculate.j1, if_pos (by decide)]
  exact h
theorem calc_eq_10 (k : Nat) (hk : 48 ≤ k) (x y : Nat) (hx : x < 4294967296) (hy : y < 4294967296) : replevinref16_Calculate.f (k + 2) 10 x y = some (arith 10 x y, 0) := by
  have hr := sg_range hx
  have hq := sg_range hy
  have h1 := sgn_eq (x := (x : Int)) (by omega)
  have h2 := sgn_eq (x := (y : Int)) (by omega)
  unfold replevinref16_Calculate.f
  rw [h1, h2, Option.bind_some, Option.bind_some]
  clear h1 h2
  have h := loop_bits 10 x y (.inr (.inl rfl)) hx hy 32 (Nat.le_refl _) k (by omega)
  rw [Nat.div_eq_of_lt (bitOp_lt hx hy)] at h
  have e : arith 10 x y = ((bitOp 10 x y : Nat) : Int) := or_u32 x y hx hy
  rw [e]
  clear e hr hq
  rw [if_neg (by decide), if_neg (by decide), if_neg (by decide), if_neg (by decide), replevinref16_Calculate.j0, if_neg (by decide), if_neg (by decide), if_pos rfl, replevinref16_Calculate.j1, if_pos (by decide)]
  exact h
theorem calc_eq_11 (k : Nat) (hk : 48 ≤ k) (x y : Nat) (hx : x < 4294967296) (hy : y < 4294967296) : replevinref16_Calculate.f (k + 2) 11 x y = some (arith 11 x y, 0) := by
  have hr := sg_range hx
  have hq := sg_range hy
  have h1 := sgn_eq (x := (x : Int)) (by omega)
  have h2 := sgn_eq (x := (y : Int)) (by omega)
  unfold replevinref16_Calculate.f
  rw [h1, h2, Option.bind_some, Option.bind_some]
  clear h1 h2
  have h := loop_bits 11 x y (.inr (.inr rfl)) hx hy 32 (Nat.le_refl _) k (by omega)
  rw [Nat.div_eq_of_lt (bitOp_lt hx hy)] at h
  have e : arith 11 x y = ((bitOp 11 x y : Nat) : Int) := xor_u32 x y hx hy
  rw [e]
  clear e hr hq
  rw [if_neg (by decide), if_neg (by decide), if_neg (by decide), if_neg (by decide), replevinref16_Calculate.j0, if_neg (by decide), if_neg (by decide), if_neg (by decide), replevinref16_Calculate.j1, if_pos (by decide)]
  exact h
theorem calc_eq_12 (k : Nat) (hk : 48 ≤ k) (x y : Nat) (hx : x < 4294967296) (hy : y < 4294967296) : replevinref16_Calculate.f (k + 2) 12 x y = some (arith 12 x y, 0) := by
  have hr := sg_range hx
  have hq := sg_range hy
  have h1 := sgn_eq (x := (x : Int)) (by omega)
  have h2 := sgn_eq (x := (y : Int)) (by omega)
  unfold replevinref16_Calculate.f
  rw [h1, h2, Option.bind_some, Option.bind_some]
  clear h1 h2
  have h := loop_shl x y hx (y % 32) 0 (by omega) k (by omega)
  have e : arith 12 x y = ((x * 2 ^ (y % 32) % 2 ^ 32 : Nat) : Int) := shl_cast
  rw [Nat.pow_zero, Nat.mul_one, Nat.mod_eq_of_lt hx] at h
  rw [e, w_nat hx, w_nat hy]
  clear e hr hq
  rw [if_neg (by decide), if_neg (by decide), if_neg (by decide), if_neg (by decide), replevinref16_Calculate.j0, if_neg (by decide), if_neg (by decide), if_neg (by decide), replevinref16_Calculate.j1, if_neg (by decide), if_pos rfl]
  exact h
theorem calc_eq_13 (k : Nat) (hk : 48 ≤ k) (x y : Nat) (hx : x < 4294967296) (hy : y < 4294967296) : replevinref16_Calculate.f (k + 2) 13 x y = some (arith 13 x y, 0) := by
  have hr := sg_range hx
  have hq := sg_range hy
  have h1 := sgn_eq (x := (x : Int)) (by omega)
  have h2 := sgn_eq (x := (y : Int)) (by omega)
  unfold replevinref16_Calculate.f
  rw [h1, h2, Option.bind_some, Option.bind_some]
  clear h1 h2
  have h := loop_shr x y hx (y % 32) 0 (by omega) k (by omega)
  have e : arith 13 x y = ((x / 2 ^ (y % 32) : Nat) : Int) := shr_cast
  rw [Nat.pow_zero, Nat.div_one] at h
  rw [e, w_nat hx, w_nat hy]
  clear e hr hq
  rw [if_neg (by decide), if_neg (by decide), if_neg (by decide), if_neg (by decide), replevinref16_Calculate.j0, if_neg (by decide), if_neg (by decide), if_neg (by decide), replevinref16_Calculate.j1, if_neg (by decide), if_neg (by decide), if_pos rfl]
  exact h
theorem arith_14 (x y : Int) : arith 14 x y = fl (decide (wrap32 x < wrap32 y)) := by
  unfold arith
  rw [if_neg (by decide), if_neg (by decide), if_neg (by decide), if_neg (by decide), if_neg (by decide), if_neg (by decide), if_neg (by decide), if_neg (by decide), if_pos rfl]
theorem arith_15 (x y : Int) : arith 15 x y = fl (x == y) := by
  unfold arith
  rw [if_neg (by decide), if_neg (by decide), if_neg (by decide), if_neg (by decide), if_neg (by decide), if_neg (by decide), if_neg (by decide), if_neg (by decide), if_neg (by decide), if_pos rfl]
theorem fl_true : fl true = 1 := rfl
theorem fl_false : fl false = 0 := rfl
theorem uns_one : replevinref16_Unsigned.f 1 = some 1 := uns_eq (n := 1) (by decide)
theorem uns_zero : replevinref16_Unsigned.f 0 = some 0 := uns_eq (n := 0) (by decide)
theorem sg_wrap32 (x : Int) : sg x = wrap32 x := by unfold sg wrap64 wrap32; omega
theorem calc_eq_14 (k : Nat) (hk : 48 ≤ k) (x y : Nat) (hx : x < 4294967296) (hy : y < 4294967296) : replevinref16_Calculate.f (k + 2) 14 x y = some (arith 14 x y, 0) := by
  have hr := sg_range hx
  have hq := sg_range hy
  have h1 := sgn_eq (x := (x : Int)) (by omega)
  have h2 := sgn_eq (x := (y : Int)) (by omega)
  unfold replevinref16_Calculate.f
  rw [h1, h2, Option.bind_some, Option.bind_some]
  clear h1 h2
  have e : (sg (x : Int) < sg y) ↔ (wrap32 (x : Int) < wrap32 y) := by rw [sg_wrap32, sg_wrap32]
  clear hr hq
  rw [arith_14, if_neg (by decide), if_neg (by decide), if_neg (by decide), if_neg (by decide), replevinref16_Calculate.j0, if_neg (by decide), if_neg (by decide), if_neg (by decide), replevinref16_Calculate.j1, if_neg (by decide), if_neg (by decide), if_neg (by decide), if_pos rfl, uns_one, uns_zero, Option.bind_some, Option.bind_some]
  by_cases h : sg (x : Int) < sg y
  · rw [if_pos h, decide_eq_true (e.mp h), fl_true]
  · rw [if_neg h, decide_eq_false (fun g => h (e.mpr g)), fl_false]
theorem calc_eq_15 (k : Nat) (hk : 48 ≤ k) (x y : Nat) (hx : x < 4294967296) (hy : y < 4294967296) : replevinref16_Calculate.f (k + 2) 15 x y = some (arith 15 x y, 0) := by
  have hr := sg_range hx
  have hq := sg_range hy
  have h1 := sgn_eq (x := (x : Int)) (by omega)
  have h2 := sgn_eq (x := (y : Int)) (by omega)
  unfold replevinref16_Calculate.f
  rw [h1, h2, Option.bind_some, Option.bind_some]
  clear h1 h2
  clear hr hq
  rw [arith_15, if_neg (by decide), if_neg (by decide), if_neg (by decide), if_neg (by decide), replevinref16_Calculate.j0, if_neg (by decide), if_neg (by decide), if_neg (by decide), replevinref16_Calculate.j1, if_neg (by decide), if_neg (by decide), if_neg (by decide), if_neg (by decide), if_pos rfl, uns_one, uns_zero, Option.bind_some, Option.bind_some, w_nat hx, w_nat hy]
  by_cases h : (x : Int) = y
  · rw [if_pos h, beq_iff_eq.mpr h, fl_true]
  · rw [if_neg h, beq_eq_false_iff_ne.mpr h, fl_false]
theorem calc_eq_none (k : Nat) (op : Int) (x y : Nat) (hx : x < 4294967296) (hy : y < 4294967296) (hc : op < 4 ∨ 15 < op) : replevinref16_Calculate.f (k + 2) op x y = some (0, 11) := by
  have h1 := sgn_eq (x := (x : Int)) (by omega)
  have h2 := sgn_eq (x := (y : Int)) (by omega)
  unfold replevinref16_Calculate.f
  rw [h1, h2, Option.bind_some, Option.bind_some]
  clear h1 h2 hx hy
  have h8 : ¬ (op == 8) = true := by rw [beq_iff_eq]; omega
  have h11 : ¬ (op == 11) = true := by rw [beq_iff_eq]; omega
  rw [if_neg (by omega), if_neg (by omega), if_neg (by omega), if_neg (by omega), replevinref16_Calculate.j0, if_neg h8, if_neg (by omega), if_neg (by omega), replevinref16_Calculate.j1, if_neg h11, if_neg (by omega), if_neg (by omega), if_neg (by omega), if_neg (by omega)]
theorem calc_eq_zero (k : Nat) (op : Int) (x : Nat) (hx : x < 4294967296) (ho : op = 7 ∨ op = 8) : replevinref16_Calculate.f (k + 2) op x (0 : Nat) = some (0, 38) := by
  have h1 := sgn_eq (x := (x : Int)) (by omega)
  have h2 := sgn_eq (x := ((0 : Nat) : Int)) (by omega)
  have hs0 : sg ((0 : Nat) : Int) = 0 := by unfold sg wrap64 wrap32; omega
  unfold replevinref16_Calculate.f
  rw [h1, h2, hs0, Option.bind_some, Option.bind_some]
  rcases ho with rfl | rfl
  · rw [if_neg (by decide), if_neg (by decide), if_neg (by decide), if_pos rfl, replevinref16_Calculate.j0, if_pos (by decide), if_pos rfl]
  · rw [if_neg (by decide), if_neg (by decide), if_neg (by decide), if_neg (by decide), replevinref16_Calculate.j0, if_pos (by decide), if_pos rfl]
/-- The two answer alike. -/
theorem calc_eq (k : Nat) (hk : 48 ≤ k) (op : Int) (x y : Nat) (hx : x < 4294967296) (hy : y < 4294967296) : ∃ r, instr_Calculate.f op x y = some r ∧ replevinref16_Calculate.f (k + 2) op x y = some r := by
  have hfb : ¬ ¬ (0 ≤ (x : Int) ∧ (x : Int) < 4294967296 ∧ 0 ≤ (y : Int) ∧ (y : Int) < 4294967296) := by omega
  unfold instr_Calculate.f
  rw [if_neg hfb]
  by_cases hc : op < 4 ∨ 15 < op
  · rw [if_pos hc]
    exact ⟨_, rfl, calc_eq_none k op x y hx hy hc⟩
  · rw [if_neg hc]
    by_cases hd : (op = 7 ∨ op = 8) ∧ (y : Int) = 0
    · rw [if_pos hd]
      obtain ⟨h1, h2⟩ := hd
      obtain rfl : y = 0 := by omega
      exact ⟨_, rfl, calc_eq_zero k op x hx h1⟩
    · rw [if_neg hd]
      refine ⟨_, rfl, ?_⟩
      have ho : op = 4 ∨ op = 5 ∨ op = 6 ∨ op = 7 ∨ op = 8 ∨ op = 9 ∨ op = 10 ∨ op = 11 ∨ op = 12 ∨ op = 13 ∨ op = 14 ∨ op = 15 := by omega
      rcases ho with rfl | rfl | rfl | rfl | rfl | rfl | rfl | rfl | rfl | rfl | rfl | rfl
      · exact calc_eq_4 k hk x y hx hy
      · exact calc_eq_5 k hk x y hx hy
      · exact calc_eq_6 k hk x y hx hy
      · exact calc_eq_7 k hk x y hx hy (fun h => hd ⟨by omega, by omega⟩)
      · exact calc_eq_8 k hk x y hx hy (fun h => hd ⟨by omega, by omega⟩)
      · exact calc_eq_9 k hk x y hx hy
      · exact calc_eq_10 k hk x y hx hy
      · exact calc_eq_11 k hk x y hx hy
      · exact calc_eq_12 k hk x y hx hy
      · exact calc_eq_13 k hk x y hx hy
      · exact calc_eq_14 k hk x y hx hy
      · exact calc_eq_15 k hk x y hx hy
end Go.Proofs.Ytdnhekgdpolenaa.Pure
