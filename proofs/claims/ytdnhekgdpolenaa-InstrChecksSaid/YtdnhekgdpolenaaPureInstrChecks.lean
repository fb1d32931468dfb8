/- InstrChecks: what is left of the law, on numbers alone. -/
import Derived.Test.YtdnhekgdpolenaaQx8
import Derived.Test.YtdnhekgdpolenaaPChk
namespace Go.Proofs.Ytdnhekgdpolenaa.Pure
open Go.RowKit Go.Proofs.Ytdnhekgdpolenaa Go.Proofs.Ytdnhekgdpolenaa.Q Go.Proofs.YtdnhekgdpolenaaW.PrintWords Go.Proofs.YtdnhekgdpolenaaW.PrintLast
theorem InstrChecks (op a b c : Int) (_w0 : (Lit.int .i64 op).wf = true) (_w1 : (Lit.int .i64 a).wf = true) (_w2 : (Lit.int .i64 b).wf = true) (_w3 : (Lit.int .i64 c).wf = true) :
    ∃ k, replevinlaw16_InstrChecks.f k op a b c = some true := by
  refine ⟨3, ?_⟩
  have hk : replevinlaw16_known.f 3 = some true := by kernel_rfl
  unfold replevinlaw16_InstrChecks.f
  rw [hk]
  simp only [Option.bind_some, if_true, replevinlaw16_To.f]
  by_cases h : 0 ≤ op ∧ op < 27
  · obtain ⟨n, rfl⟩ := Int.eq_ofNat_of_zero_le h.1
    rw [check_eq n a b c (by omega), refcheck_eq n a b c (by omega)]
    simp
  · obtain ⟨h1, h2⟩ := checks_out op a b c h
    rw [h1, h2]
    rfl
end Go.Proofs.Ytdnhekgdpolenaa.Pure
