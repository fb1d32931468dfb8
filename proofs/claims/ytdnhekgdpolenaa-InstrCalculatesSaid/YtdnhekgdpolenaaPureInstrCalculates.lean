/- InstrCalculates: what is left of the law, on numbers alone. -/
import Derived.Test.YtdnhekgdpolenaaQx10
import Derived.Test.YtdnhekgdpolenaaPCalc
namespace Go.Proofs.Ytdnhekgdpolenaa.Pure
set_option linter.unusedVariables false
set_option linter.unusedSimpArgs false
open Go.RowKit Go.Proofs.Ytdnhekgdpolenaa Go.Proofs.Ytdnhekgdpolenaa.Q Go.Proofs.YtdnhekgdpolenaaW.PrintWords Go.Proofs.YtdnhekgdpolenaaW.PrintLast
theorem InstrCalculates : replevinlaw16_InstrCalculates.Pure := by
  intro op x y _ hx hy
  have bx : 0 ≤ x ∧ x ≤ 4294967295 := by simpa [Lit.wf, IntKind.min, IntKind.max, IntKind.signed, IntKind.bits] using hx
  have bY : 0 ≤ y ∧ y ≤ 4294967295 := by simpa [Lit.wf, IntKind.min, IntKind.max, IntKind.signed, IntKind.bits] using hy
  obtain ⟨x, rfl⟩ := Int.eq_ofNat_of_zero_le bx.1
  obtain ⟨y, rfl⟩ := Int.eq_ofNat_of_zero_le bY.1
  have hk : replevinlaw16_known.f (48 + 2) = some true := by kernel_rfl
  refine ⟨48 + 2, ?_⟩
  obtain ⟨r, h1, h2⟩ := calc_eq 48 (Nat.le_refl _) op x y (by omega) (by omega)
  unfold replevinlaw16_InstrCalculates.f
  rw [hk, Option.bind_some, if_pos rfl, h1, h2, Option.bind_some, Option.bind_some, if_pos rfl, beq_self_eq_true]
end Go.Proofs.Ytdnhekgdpolenaa.Pure
