/- Check and the reference's Check answer alike, for any instruction. -/
import Derived.Test.YtdnhekgdpolenaaQx6
import Derived.Test.YtdnhekgdpolenaaQx13
namespace Go.Proofs.Ytdnhekgdpolenaa.Pure
set_option linter.unusedVariables false
set_option linter.unusedSimpArgs false
open Go.RowKit Go.Proofs.Ytdnhekgdpolenaa Go.Proofs.Ytdnhekgdpolenaa.Q Go.Proofs.YtdnhekgdpolenaaW.PrintWords Go.Proofs.YtdnhekgdpolenaaW.PrintLast
theorem of_at (n : Nat) (h : n < 27) : instr_of.f n = some ((opRow n).1, (opRow n).2.1, (opRow n).2.2.1, (opRow n).2.2.2, true) := by
  unfold instr_of.f
  rw [if_pos ⟨by omega, by omega⟩, Int.toNat_natCast]
theorem of_not {op : Int} (h : ¬ (0 ≤ op ∧ op < 27)) : instr_of.f op = some (⟨#[]⟩, 0, 0, 0, false) := by
  unfold instr_of.f
  rw [if_neg h]
theorem checks_out (op a b c : Int) (h : ¬ (0 ≤ op ∧ op < 27)) : instr_Instr_Check.f 3 op a b c = some 11 ∧ replevinref16_Check.f 3 op a b c = some 11 := by
  constructor
  · unfold instr_Instr_Check.f
    rw [of_not h]
    rfl
  · unfold replevinref16_Check.f replevinref16_Form.f
    by_cases h0 : op < 0
    · rw [if_pos h0]
      rfl
    · rw [if_neg h0, show decide (op > 26) = true from decide_eq_true (by omega)]
      rfl
theorem register_eq (x : Int) : instr_register.f x = some (decide (0 ≤ x ∧ x < 8)) := by
  unfold instr_register.f
  by_cases h : x ≥ 0
  · rw [if_pos h]
    congr 1
    simp only [decide_eq_decide]
    omega
  · rw [if_neg h]
    congr 1
    rw [eq_comm, decide_eq_false_iff_not]
    omega
/-- The error of an instruction whose operation is number n. -/
def chk (n : Nat) (a b c : Int) : Int :=
  if (¬ (1 ≤ (opRow n).2.1 ∧ (opRow n).2.1 ≤ 5) ∧ a ≠ 0) ∨ (¬ ((opRow n).2.1 = 2 ∨ (opRow n).2.1 = 3 ∨ (opRow n).2.1 = 5) ∧ b ≠ 0) ∨ (¬ 3 ≤ (opRow n).2.1 ∧ c ≠ 0) then 1 else
  if ¬ (0 ≤ a ∧ a < 8) ∨ ¬ (0 ≤ b ∧ b < 8) ∨ ((opRow n).2.1 = 3 ∧ ¬ (0 ≤ c ∧ c < 8)) ∨ (4 ≤ (opRow n).2.1 ∧ (c < (opRow n).2.2.1 ∨ (opRow n).2.2.2 < c)) then 2 else 0
/-- What is known of an instruction without an error. -/
def Fine (n : Nat) (a b c : Int) : Prop := 0 ≤ a ∧ a ≤ 7 ∧ 0 ≤ b ∧ b ≤ 7 ∧ ((opRow n).2.2.1 < 0 → -32768 ≤ c ∧ c ≤ 32767) ∧ (¬ (opRow n).2.2.1 < 0 → 0 ≤ c ∧ c ≤ 65535)
theorem fine_of_chk (n : Nat) (a b c : Int) (h : n < 27) (h0 : chk n a b c = 0) : Fine n a b c := by
  revert h0
  rcases nat_lt_27 h with rfl | rfl | rfl | rfl | rfl | rfl | rfl | rfl | rfl | rfl | rfl | rfl | rfl | rfl | rfl | rfl | rfl | rfl | rfl | rfl | rfl | rfl | rfl | rfl | rfl | rfl | rfl
  all_goals
    simp [Fine, chk, opRow]
    try omega
theorem check_eq (n : Nat) (a b c : Int) (h : n < 27) : instr_Instr_Check.f 3 n a b c = some (chk n a b c) := by
  unfold instr_Instr_Check.f
  rw [of_at n h]
  rcases nat_lt_27 h with rfl | rfl | rfl | rfl | rfl | rfl | rfl | rfl | rfl | rfl | rfl | rfl | rfl | rfl | rfl | rfl | rfl | rfl | rfl | rfl | rfl | rfl | rfl | rfl | rfl | rfl | rfl
  all_goals
    simp [chk, opRow, instr_operation_hasA.f, instr_operation_hasB.f, instr_operation_hasC.f, instr_operation_hasN.f, instr_Instr_Check.j0, register_eq]
    try grind
theorem refcheck_eq (n : Nat) (a b c : Int) (h : n < 27) : replevinref16_Check.f 3 n a b c = some (chk n a b c) := by
  rcases nat_lt_27 h with rfl | rfl | rfl | rfl | rfl | rfl | rfl | rfl | rfl | rfl | rfl | rfl | rfl | rfl | rfl | rfl | rfl | rfl | rfl | rfl | rfl | rfl | rfl | rfl | rfl | rfl | rfl
  all_goals
    simp [chk, opRow, replevinref16_Check.f, replevinref16_Form.f, replevinref16_Form.j0, replevinref16_Form.j1, replevinref16_hasA.f, replevinref16_hasB.f, replevinref16_hasC.f, replevinref16_Check.j0, replevinref16_Limits.f]
    try grind
end Go.Proofs.Ytdnhekgdpolenaa.Pure
