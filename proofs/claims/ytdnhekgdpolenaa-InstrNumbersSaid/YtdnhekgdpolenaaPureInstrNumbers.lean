/- InstrNumbers: what is left of the law, on numbers alone. -/
import Derived.Test.YtdnhekgdpolenaaQx10
namespace Go.Proofs.Ytdnhekgdpolenaa.Pure
set_option linter.unusedVariables false
set_option linter.unusedSimpArgs false
open Go.RowKit Go.Proofs.Ytdnhekgdpolenaa.Q Go.Proofs.YtdnhekgdpolenaaW.PrintWords Go.Proofs.YtdnhekgdpolenaaW.PrintLast
theorem known2 : replevinlaw16_known.f 2 = some true := by kernel_rfl
theorem InstrNumbers : replevinlaw16_InstrNumbers.Pure := by
  intro x n hx hn
  have bx : 0 ≤ x ∧ x ≤ 4294967295 := by simpa [Lit.wf, IntKind.min, IntKind.max, IntKind.signed, IntKind.bits] using hx
  have bn : -9223372036854775808 ≤ n ∧ n ≤ 9223372036854775807 := by simpa [Lit.wf, IntKind.min, IntKind.max, IntKind.signed, IntKind.bits] using hn
  refine ⟨2, ?_⟩
  unfold replevinlaw16_InstrNumbers.f
  rw [known2]
  have e1 : replevinref16_Signed.f x = instr_Signed.f x := by
    unfold replevinref16_Signed.f instr_Signed.f
    split <;> (congr 1; unfold wrap64 wrap32; omega)
  have e2 : replevinref16_Unsigned.f n = instr_Unsigned.f n := by
    unfold replevinref16_Unsigned.f instr_Unsigned.f
    have ht := Int.tmod_eq_emod (a := n) (b := 4294967296)
    split <;> (congr 1; (try unfold wrap64); split at ht <;> omega)
  rw [e1, e2]
  simp [instr_Signed.f, instr_Unsigned.f]
end Go.Proofs.Ytdnhekgdpolenaa.Pure
