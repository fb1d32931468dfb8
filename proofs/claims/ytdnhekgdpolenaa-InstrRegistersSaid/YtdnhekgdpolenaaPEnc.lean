/- Encode, Decode and the reference's answer alike; Decode undoes Encode. -/
import Derived.Test.YtdnhekgdpolenaaQx7
import Derived.Test.YtdnhekgdpolenaaQx20
import Derived.Test.YtdnhekgdpolenaaQx21
import Derived.Test.YtdnhekgdpolenaaQx24
import Derived.Test.YtdnhekgdpolenaaPChk
import Derived.Laws.BitsLemmas
namespace Go.Proofs.Ytdnhekgdpolenaa.Pure
set_option linter.unusedVariables false
set_option linter.unusedSimpArgs false
open Go.RowKit Go.Proofs.Ytdnhekgdpolenaa Go.Proofs.Ytdnhekgdpolenaa.Q Go.Proofs.YtdnhekgdpolenaaW.PrintWords Go.Proofs.YtdnhekgdpolenaaW.PrintLast
theorem check_at (k n : Nat) (a b c : Int) (h : n < 27) (hk : 3 ≤ k) : instr_Instr_Check.f k n a b c = some (chk n a b c) :=
  at_rounds (g := fun k => instr_Instr_Check.f k n a b c) (fun k => instr_Instr_Check.mono _ _ _ _ k) hk (check_eq n a b c h)
theorem refcheck_at (k n : Nat) (a b c : Int) (h : n < 27) (hk : 3 ≤ k) : replevinref16_Check.f k n a b c = some (chk n a b c) :=
  at_rounds (g := fun k => replevinref16_Check.f k n a b c) (fun k => replevinref16_Check.mono _ _ _ _ k) hk (refcheck_eq n a b c h)
theorem check_out (k : Nat) (op a b c : Int) (h : ¬ (0 ≤ op ∧ op < 27)) (hk : 3 ≤ k) : instr_Instr_Check.f k op a b c = some 11 :=
  at_rounds (g := fun k => instr_Instr_Check.f k op a b c) (fun k => instr_Instr_Check.mono _ _ _ _ k) hk (checks_out op a b c h).1
theorem refcheck_out (k : Nat) (op a b c : Int) (h : ¬ (0 ≤ op ∧ op < 27)) (hk : 3 ≤ k) : replevinref16_Check.f k op a b c = some 11 :=
  at_rounds (g := fun k => replevinref16_Check.f k op a b c) (fun k => replevinref16_Check.mono _ _ _ _ k) hk (checks_out op a b c h).2
theorem wrap_i64' {n : Int} (h0 : 0 ≤ n) (h1 : n < 2 ^ 16) : IntKind.i64.wrap n = n := by rw [IntKind.wrap_i64]; omega
theorem w64 {n : Int} (h0 : -9223372036854775808 ≤ n) (h1 : n ≤ 9223372036854775807) : wrap64 n = n := by unfold wrap64; omega
theorem or_bytes (x y : Nat) (hx : x < 256) (hy : y < 256) : Go.bits .or .i64 (wrap64 (x : Int)) (wrap64 ((wrap64 (y : Int)) * 256)) = (x : Int) + 256 * y := by
  have e1 : wrap64 (x : Int) = x := w64 (by omega) (by omega)
  have e2 : wrap64 (y : Int) = y := w64 (by omega) (by omega)
  have e3 : wrap64 ((y : Int) * 256) = ((256 * y : Nat) : Int) := by rw [w64 (by omega) (by omega)]; omega
  rw [e1, e2, e3, (bits_nat .i64 16 (by decide) (fun _ h0 h1 => wrap_i64' h0 h1) x (256 * y) (by omega) (by omega)).2, Nat.or_comm]
  have := Nat.two_pow_add_eq_or_of_lt (i := 8) (b := x) hx y
  rw [show (2 : Nat) ^ 8 = 256 from rfl] at this
  rw [← this]
  omega
theorem or_regs (a b : Nat) (ha : a < 8) (hb : b < 8) : Go.bits .or .i64 (wrap64 ((a : Int) * 16)) b = (a : Int) * 16 + b := by
  have e1 : wrap64 ((a : Int) * 16) = ((16 * a : Nat) : Int) := by rw [w64 (by omega) (by omega)]; omega
  rw [e1, (bits_nat .i64 16 (by decide) (fun _ h0 h1 => wrap_i64' h0 h1) (16 * a) b (by omega) (by omega)).2]
  have := Nat.two_pow_add_eq_or_of_lt (i := 4) (b := b) (by omega) a
  rw [show (2 : Nat) ^ 4 = 16 from rfl] at this
  rw [← this]
  omega
/-- What Encode makes of an instruction without an error. -/
theorem encode_at (k n a b : Nat) (c : Int) (h : n < 27) (hk : 3 ≤ k) (h0 : chk n a b c = 0) (ha : a < 8) (hb : b < 8) : instr_Encode.f k n a b c = some ((n : Int), (a : Int) * 16 + b, c % 256, c / 256 % 256, 0) := by
  unfold instr_Encode.f
  rw [check_at k n a b c h hk, Option.bind_some, if_pos h0, or_regs a b ha hb]
  rw [show (n : Int) % 256 = n by omega, show ((a : Int) * 16 + b) % 256 = (a : Int) * 16 + b by omega]
theorem refencode_at (k n a b : Nat) (c : Int) (h : n < 27) (hk : 3 ≤ k) (h0 : chk n a b c = 0) (ha : a < 8) (hb : b < 8) (hc : -32768 ≤ c ∧ c ≤ 65535) : replevinref16_Encode.f k n a b c = some ((n : Int), (a : Int) * 16 + b, c % 256, c / 256 % 256, 0) := by
  unfold replevinref16_Encode.f
  rw [refcheck_at k n a b c h hk, Option.bind_some, if_pos h0]
  have e1 : wrap64 (16 * (a : Int)) = 16 * (a : Int) := w64 (by omega) (by omega)
  have e2 : wrap64 (16 * (a : Int) + b) % 256 = (a : Int) * 16 + b := by rw [w64 (by omega) (by omega)]; omega
  have e0 : (n : Int) % 256 = n := by omega
  rw [e1, e2, e0]
  by_cases hn : c < 0
  · rw [if_pos hn]
    have f : wrap64 (c + 65536) = c + 65536 := w64 (by omega) (by omega)
    have t1 := Int.tmod_eq_emod_of_nonneg (a := c + 65536) (b := 256) (by omega)
    have t2 := Int.tdiv_eq_ediv_of_nonneg (a := c + 65536) (b := 256) (by omega)
    rw [f, t1, t2, w64 (n := (c + 65536) / 256) (by omega) (by omega)]
    rw [show (c + 65536) % 256 % 256 = c % 256 by omega, show (c + 65536) / 256 % 256 = c / 256 % 256 by omega]
  · rw [if_neg hn]
    have t1 := Int.tmod_eq_emod_of_nonneg (a := c) (b := 256) (by omega)
    have t2 := Int.tdiv_eq_ediv_of_nonneg (a := c) (b := 256) (by omega)
    rw [t1, t2, w64 (n := c / 256) (by omega) (by omega)]
    rw [show c % 256 % 256 = c % 256 by omega]
theorem encode_err (k n : Nat) (a b c : Int) (h : n < 27) (hk : 3 ≤ k) (h0 : ¬ chk n a b c = 0) : instr_Encode.f k n a b c = some (0, 0, 0, 0, chk n a b c) ∧ replevinref16_Encode.f k n a b c = some (0, 0, 0, 0, chk n a b c) := by
  unfold instr_Encode.f replevinref16_Encode.f
  rw [check_at k n a b c h hk, refcheck_at k n a b c h hk, Option.bind_some, Option.bind_some, if_neg h0, if_neg h0]
  exact ⟨rfl, rfl⟩
theorem encode_out (k : Nat) (op a b c : Int) (h : ¬ (0 ≤ op ∧ op < 27)) (hk : 3 ≤ k) : instr_Encode.f k op a b c = some (0, 0, 0, 0, 11) ∧ replevinref16_Encode.f k op a b c = some (0, 0, 0, 0, 11) := by
  unfold instr_Encode.f replevinref16_Encode.f
  rw [check_out k op a b c h hk, refcheck_out k op a b c h hk, Option.bind_some, Option.bind_some, if_neg (by decide), if_neg (by decide)]
  exact ⟨rfl, rfl⟩
/-- The number of an instruction's bytes: signed where the operation's number is. -/
def sgnc (n : Nat) (c : Int) : Int := if (opRow n).2.2.1 < 0 ∧ c > 32767 then c - 65536 else c
theorem sgnc_neg {n : Nat} {c : Int} (h : (opRow n).2.2.1 < 0) (h' : c > 32767) : sgnc n c = c - 65536 := by unfold sgnc; rw [if_pos ⟨h, h'⟩]
theorem sgnc_else {n : Nat} {c : Int} (h : ¬ ((opRow n).2.2.1 < 0 ∧ c > 32767)) : sgnc n c = c := by unfold sgnc; rw [if_neg h]
theorem wrap_i16 {c : Int} (h : 0 ≤ c ∧ c ≤ 65535) : wrap64 (IntKind.i16.wrap c) = if c > 32767 then c - 65536 else c := by
  have e : IntKind.i16.wrap c = (c + 32768) % 65536 - 32768 := by
    simp [IntKind.wrap, IntKind.bits, IntKind.signed]
    split <;> omega
  rw [e, w64 (by omega) (by omega)]
  split <;> omega
theorem hasN_of_neg (n : Nat) (h : n < 27) (hl : (opRow n).2.2.1 < 0) : (opRow n).2.1 ≥ 4 := by
  revert hl
  rcases nat_lt_27 h with rfl | rfl | rfl | rfl | rfl | rfl | rfl | rfl | rfl | rfl | rfl | rfl | rfl | rfl | rfl | rfl | rfl | rfl | rfl | rfl | rfl | rfl | rfl | rfl | rfl | rfl | rfl <;> decide
/-- What Decode answers. -/
def dec (n : Nat) (a b c : Int) : Int × Int × Int × Int × Int := if chk n a b c = 0 then ((n : Int), a, b, c, 0) else (0, 0, 0, 0, 24)
theorem decode_at (k n p q r : Nat) (h : n < 27) (hp : p < 256) (hq : q < 256) (hr : r < 256) (hk : 3 ≤ k) :
    instr_Decode.f (k + 1) n p q r = some (dec n ((p / 16 : Nat) : Int) ((p % 16 : Nat) : Int) (sgnc n ((q : Int) + 256 * r))) := by
  have e0 : wrap64 (n : Int) = n := w64 (by omega) (by omega)
  have e1 : wrap64 ((p : Int) / 16) = ((p / 16 : Nat) : Int) := by rw [w64 (by omega) (by omega)]; omega
  have e2 : wrap64 (Go.bits .and .u8 (p : Int) 15) = ((p % 16 : Nat) : Int) := by rw [u8_and15 _ (by omega) (by omega), w64 (by omega) (by omega)]; omega
  unfold instr_Decode.f
  rw [e0, e1, e2, or_bytes q r hq hr, of_at n h, Option.bind_some]
  simp only [if_true, instr_operation_hasN.f, Option.bind_some]
  generalize hC : (q : Int) + 256 * r = C
  have hC' : 0 ≤ C ∧ C ≤ 65535 := by omega
  have kf : instr_Decode.j0 (k + 1) false (n : Int) ((p / 16 : Nat) : Int) ((p % 16 : Nat) : Int) C = some (dec n ((p / 16 : Nat) : Int) ((p % 16 : Nat) : Int) C) := by
    unfold dec
    rw [instr_Decode.j0, if_neg (by decide), check_at k n _ _ _ h hk, Option.bind_some]
    split <;> rfl
  have kt : instr_Decode.j0 (k + 1) true (n : Int) ((p / 16 : Nat) : Int) ((p % 16 : Nat) : Int) C = some (dec n ((p / 16 : Nat) : Int) ((p % 16 : Nat) : Int) (if C > 32767 then C - 65536 else C)) := by
    unfold dec
    rw [instr_Decode.j0, if_pos rfl, wrap_i16 hC', check_at k n _ _ _ h hk, Option.bind_some]
    generalize (if C > 32767 then C - 65536 else C) = D
    split <;> rfl
  by_cases hl : (opRow n).2.2.1 < 0
  · have hN := hasN_of_neg n h hl
    rw [if_pos (decide_eq_true hN), decide_eq_true hl, kt]
    by_cases hg : C > 32767
    · rw [if_pos hg, sgnc_neg hl hg]
    · rw [if_neg hg, sgnc_else (fun z => hg z.2)]
  · rw [sgnc_else (fun z => hl z.1), decide_eq_false hl, kf]
    split <;> rfl
theorem decode_out (k op p q r : Nat) (h : ¬ op < 27) (h2 : op < 256) (hk : 3 ≤ k) : instr_Decode.f (k + 1) op p q r = some (0, 0, 0, 0, 24) := by
  have e0 : wrap64 (op : Int) = op := w64 (by omega) (by omega)
  have hn : ¬ (0 ≤ (op : Int) ∧ (op : Int) < 27) := by omega
  unfold instr_Decode.f
  rw [e0, of_not hn, Option.bind_some, if_neg (by decide), instr_Decode.j0, if_neg (by decide), check_out k op _ _ _ hn hk, Option.bind_some, if_neg (by decide)]
/-- What Limits answers of the least number. -/
theorem limits_at (k n : Nat) (h : n < 27) (hk : 3 ≤ k) : ∃ lo hi e, replevinref16_Limits.f k n = some (lo, hi, e) ∧ ((e = 0 ∧ lo < 0) ↔ (opRow n).2.2.1 < 0) := by
  have key : ∃ lo hi e, replevinref16_Limits.f 3 n = some (lo, hi, e) ∧ ((e = 0 ∧ lo < 0) ↔ (opRow n).2.2.1 < 0) := by
    rcases nat_lt_27 h with rfl | rfl | rfl | rfl | rfl | rfl | rfl | rfl | rfl | rfl | rfl | rfl | rfl | rfl | rfl | rfl | rfl | rfl | rfl | rfl | rfl | rfl | rfl | rfl | rfl | rfl | rfl <;> exact ⟨_, _, _, rfl, by decide⟩
  obtain ⟨lo, hi, e, h1, h2⟩ := key
  exact ⟨lo, hi, e, at_rounds (g := fun k => replevinref16_Limits.f k n) (fun k => replevinref16_Limits.mono _ k) hk h1, h2⟩
theorem limits_out (k op : Nat) (h : ¬ op < 27) (hk : 3 ≤ k) : replevinref16_Limits.f k op = some (0, 0, 11) := by
  have key : replevinref16_Limits.f 3 op = some (0, 0, 11) := by
    unfold replevinref16_Limits.f replevinref16_Form.f
    rw [if_neg (by omega), show decide ((op : Int) > 26) = true from decide_eq_true (by omega)]
    rfl
  exact at_rounds (g := fun k => replevinref16_Limits.f k op) (fun k => replevinref16_Limits.mono _ k) hk key
theorem ref_parts (q r : Nat) (hq : q < 256) (hr : r < 256) : wrap64 ((wrap64 (q : Int)) + (wrap64 (256 * (wrap64 (r : Int))))) = (q : Int) + 256 * r := by
  rw [w64 (n := (q : Int)) (by omega) (by omega), w64 (n := (r : Int)) (by omega) (by omega), w64 (n := 256 * (r : Int)) (by omega) (by omega), w64 (by omega) (by omega)]
theorem refdecode_at (k n p q r : Nat) (h : n < 27) (hp : p < 256) (hq : q < 256) (hr : r < 256) (hk : 3 ≤ k) :
    replevinref16_Decode.f (k + 1) n p q r = some (dec n ((p / 16 : Nat) : Int) ((p % 16 : Nat) : Int) (sgnc n ((q : Int) + 256 * r))) := by
  have e0 : wrap64 (n : Int) = n := w64 (by omega) (by omega)
  have e1 : wrap64 (Int.tdiv (wrap64 (p : Int)) 16) = ((p / 16 : Nat) : Int) := by
    rw [w64 (n := (p : Int)) (by omega) (by omega), Int.tdiv_eq_ediv_of_nonneg (Int.natCast_nonneg p), w64 (by omega) (by omega)]; omega
  have e2 : Int.tmod (wrap64 (p : Int)) 16 = ((p % 16 : Nat) : Int) := by
    rw [w64 (n := (p : Int)) (by omega) (by omega), Int.tmod_eq_emod_of_nonneg (Int.natCast_nonneg p)]; omega
  obtain ⟨lo, hi, e, hL, hiff⟩ := limits_at (k + 1) n h (by omega)
  unfold replevinref16_Decode.f
  rw [e0, e1, e2, ref_parts q r hq hr, hL, Option.bind_some]
  generalize hC : (q : Int) + 256 * r = C
  have hC' : 0 ≤ C ∧ C ≤ 65535 := by omega
  have kf : replevinref16_Decode.j0 (k + 1) false (n : Int) ((p / 16 : Nat) : Int) ((p % 16 : Nat) : Int) C = some (dec n ((p / 16 : Nat) : Int) ((p % 16 : Nat) : Int) C) := by
    unfold dec
    rw [replevinref16_Decode.j0, if_neg (by decide), refcheck_at k n _ _ _ h hk, Option.bind_some]
    split <;> rfl
  have kt : replevinref16_Decode.j0 (k + 1) true (n : Int) ((p / 16 : Nat) : Int) ((p % 16 : Nat) : Int) C = some (dec n ((p / 16 : Nat) : Int) ((p % 16 : Nat) : Int) (C - 65536)) := by
    unfold dec
    rw [replevinref16_Decode.j0, if_pos rfl, w64 (n := C - 65536) (by omega) (by omega), refcheck_at k n _ _ _ h hk, Option.bind_some]
    split <;> rfl
  by_cases hl : (opRow n).2.2.1 < 0
  · obtain ⟨h1, h2⟩ := hiff.mpr hl
    rw [if_pos h1, if_pos h2]
    by_cases hg : C > 32767
    · rw [decide_eq_true hg, kt, sgnc_neg hl hg]
    · rw [decide_eq_false hg, kf, sgnc_else (fun z => hg z.2)]
  · rw [sgnc_else (fun z => hl z.1)]
    by_cases h1 : e = 0
    · rw [if_pos h1, if_neg (fun z => hl (hiff.mp ⟨h1, z⟩)), kf]
    · rw [if_neg h1, kf]
theorem refdecode_out (k op p q r : Nat) (h : ¬ op < 27) (h2 : op < 256) (hk : 3 ≤ k) : replevinref16_Decode.f (k + 1) op p q r = some (0, 0, 0, 0, 24) := by
  have e0 : wrap64 (op : Int) = op := w64 (by omega) (by omega)
  have hn : ¬ (0 ≤ (op : Int) ∧ (op : Int) < 27) := by omega
  unfold replevinref16_Decode.f
  rw [e0, limits_out (k + 1) op h (by omega), Option.bind_some, if_neg (by decide), replevinref16_Decode.j0, if_neg (by decide), refcheck_out k op _ _ _ hn hk, Option.bind_some, if_neg (by decide)]
end Go.Proofs.Ytdnhekgdpolenaa.Pure
