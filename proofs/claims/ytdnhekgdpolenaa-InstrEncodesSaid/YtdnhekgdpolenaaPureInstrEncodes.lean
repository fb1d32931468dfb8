/- InstrEncodes: what is left of the law, on numbers alone. -/
import Derived.Test.YtdnhekgdpolenaaQx23
import Derived.Test.YtdnhekgdpolenaaPEnc
namespace Go.Proofs.Ytdnhekgdpolenaa.Pure
set_option linter.unusedVariables false
set_option linter.unusedSimpArgs false
open Go.RowKit Go.Proofs.Ytdnhekgdpolenaa Go.Proofs.Ytdnhekgdpolenaa.Q Go.Proofs.YtdnhekgdpolenaaW.PrintWords Go.Proofs.YtdnhekgdpolenaaW.PrintLast
theorem undo (n : Nat) (c : Int) (h : ((opRow n).2.2.1 < 0 → -32768 ≤ c ∧ c ≤ 32767) ∧ (¬ (opRow n).2.2.1 < 0 → 0 ≤ c ∧ c ≤ 65535)) : sgnc n ((((c % 256).toNat : Nat) : Int) + 256 * (((c / 256 % 256).toNat : Nat) : Int)) = c := by
  rw [Int.toNat_of_nonneg (by omega), Int.toNat_of_nonneg (by omega)]
  by_cases hl : (opRow n).2.2.1 < 0
  · have hc := h.1 hl
    by_cases hg : c % 256 + 256 * (c / 256 % 256) > 32767
    · rw [sgnc_neg hl hg]
      omega
    · rw [sgnc_else (fun z => hg z.2)]
      omega
  · have hc := h.2 hl
    rw [sgnc_else (fun z => hl z.1)]
    omega
theorem neq_self4 (a b c d : Int) : (!(a == a) || (!(b == b) || (!(c == c) || (!(d == d))))) = false := by simp
theorem InstrEncodes (op a b c : Int) (_w0 : (Lit.int .i64 op).wf = true) (_w1 : (Lit.int .i64 a).wf = true) (_w2 : (Lit.int .i64 b).wf = true) (_w3 : (Lit.int .i64 c).wf = true) :
    ∃ k, replevinlaw16_InstrEncodes.f k op a b c = some true := by
  refine ⟨4 + 1, ?_⟩
  have hk : replevinlaw16_known.f (4 + 1) = some true := by kernel_rfl
  unfold replevinlaw16_InstrEncodes.f
  rw [hk, Option.bind_some, if_pos rfl, replevinlaw16_To.f, Option.bind_some]
  by_cases h : 0 ≤ op ∧ op < 27
  · obtain ⟨n, rfl⟩ := Int.eq_ofNat_of_zero_le h.1
    have hn : n < 27 := by omega
    by_cases h0 : chk n a b c = 0
    · have hf := fine_of_chk n a b c hn h0
      obtain ⟨fa, fa', fb, fb', fc, fc'⟩ := hf
      obtain ⟨a, rfl⟩ := Int.eq_ofNat_of_zero_le fa
      obtain ⟨b, rfl⟩ := Int.eq_ofNat_of_zero_le fb
      have hc : -32768 ≤ c ∧ c ≤ 65535 := by
        by_cases hl : (opRow n).2.2.1 < 0
        · have := fc hl; omega
        · have := fc' hl; omega
      rw [encode_at (4 + 1) n a b c hn (by decide) h0 (by omega) (by omega), Option.bind_some, refencode_at (4 + 1) n a b c hn (by decide) h0 (by omega) (by omega) hc, Option.bind_some]
      rw [neq_self4, if_neg (by decide), bne_self_eq_false, replevinlaw16_InstrEncodes.j0, if_neg (by decide), if_pos rfl]
      have hd := decode_at 3 n (16 * a + b) (c % 256).toNat (c / 256 % 256).toNat hn (by omega) (by omega) (by omega) (Nat.le_refl _)
      rw [undo n c ⟨fc, fc'⟩, show (16 * a + b) / 16 = a by omega, show (16 * a + b) % 16 = b by omega, Int.toNat_of_nonneg (by omega), Int.toNat_of_nonneg (by omega)] at hd
      rw [show ((16 * a + b : Nat) : Int) = (a : Int) * 16 + b by omega] at hd
      unfold dec at hd
      rw [if_pos h0] at hd
      rw [hd, Option.bind_some, if_pos rfl, replevinlaw16_Of.f, Option.bind_some]
      simp
    · obtain ⟨h1, h2⟩ := encode_err (4 + 1) n a b c hn (by decide) h0
      rw [h1, Option.bind_some, h2, Option.bind_some, neq_self4, if_neg (by decide), bne_self_eq_false, replevinlaw16_InstrEncodes.j0, if_neg (by decide), if_neg h0]
  · obtain ⟨h1, h2⟩ := encode_out (4 + 1) op a b c h (by decide)
    rw [h1, Option.bind_some, h2, Option.bind_some, neq_self4, if_neg (by decide), bne_self_eq_false, replevinlaw16_InstrEncodes.j0, if_neg (by decide), if_neg (by decide)]
end Go.Proofs.Ytdnhekgdpolenaa.Pure
