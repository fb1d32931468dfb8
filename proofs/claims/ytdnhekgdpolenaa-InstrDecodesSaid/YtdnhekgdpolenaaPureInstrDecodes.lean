/- InstrDecodes: what is left of the law, on numbers alone. -/
import Derived.Test.YtdnhekgdpolenaaQx25
import Derived.Test.YtdnhekgdpolenaaPEnc
namespace Go.Proofs.Ytdnhekgdpolenaa.Pure
set_option linter.unusedVariables false
set_option linter.unusedSimpArgs false
open Go.RowKit Go.Proofs.Ytdnhekgdpolenaa Go.Proofs.Ytdnhekgdpolenaa.Q Go.Proofs.YtdnhekgdpolenaaW.PrintWords Go.Proofs.YtdnhekgdpolenaaW.PrintLast
theorem neq_self4' (a b c d : Int) : (!(a == a) || (!(b == b) || (!(c == c) || (!(d == d))))) = false := by simp
theorem eq_self4 (a b c d : Int) : ((a == a) && ((b == b) && ((c == c) && (d == d)))) = true := by simp
theorem redo (n q r : Nat) (hq : q < 256) (hr : r < 256) : sgnc n ((q : Int) + 256 * r) % 256 = q ∧ sgnc n ((q : Int) + 256 * r) / 256 % 256 = r := by
  by_cases hg : (opRow n).2.2.1 < 0 ∧ (q : Int) + 256 * r > 32767
  · rw [sgnc_neg hg.1 hg.2]
    omega
  · rw [sgnc_else hg]
    omega
theorem bytes_nat {b : Int} (h : (Lit.int .u8 b).wf = true) : ∃ n : Nat, b = n ∧ n < 256 := by
  have hb : 0 ≤ b ∧ b ≤ 255 := by simpa [Lit.wf, IntKind.min, IntKind.max, IntKind.signed, IntKind.bits] using h
  exact ⟨b.toNat, by omega, by omega⟩
theorem encode_zero (k : Nat) (hk : 3 ≤ k) : ∃ r, instr_Encode.f k 0 0 0 0 = some r :=
  ⟨_, encode_at k 0 0 0 0 (by decide) hk (by decide) (by decide) (by decide)⟩
theorem InstrDecodes (b0 b1 b2 b3 : Int) (w0 : (Lit.int .u8 b0).wf = true) (w1 : (Lit.int .u8 b1).wf = true) (w2 : (Lit.int .u8 b2).wf = true) (w3 : (Lit.int .u8 b3).wf = true) :
    ∃ k, replevinlaw16_InstrDecodes.f k b0 b1 b2 b3 = some true := by
  obtain ⟨n, rfl, h0⟩ := bytes_nat w0
  obtain ⟨p, rfl, h1⟩ := bytes_nat w1
  obtain ⟨q, rfl, h2⟩ := bytes_nat w2
  obtain ⟨r, rfl, h3⟩ := bytes_nat w3
  refine ⟨4 + 1, ?_⟩
  have hk : replevinlaw16_known.f (4 + 1) = some true := by kernel_rfl
  obtain ⟨z, hz⟩ := encode_zero (4 + 1) (by decide)
  unfold replevinlaw16_InstrDecodes.f
  rw [hk, Option.bind_some, if_pos rfl]
  by_cases hn : n < 27
  · have d1 := decode_at 4 n p q r hn h1 h2 h3 (by decide)
    have d2 := refdecode_at 4 n p q r hn h1 h2 h3 (by decide)
    obtain ⟨e1, e2⟩ := redo n q r h2 h3
    generalize sgnc n ((q : Int) + 256 * r) = C at *
    rw [d1, d2, Option.bind_some, Option.bind_some]
    unfold dec
    by_cases hc : chk n ((p / 16 : Nat) : Int) ((p % 16 : Nat) : Int) C = 0
    · rw [if_pos hc]
      obtain ⟨fa, fa', fb, fb', _⟩ := fine_of_chk n _ _ C hn hc
      have he := encode_at (4 + 1) n (p / 16) (p % 16) C hn (by decide) hc (by omega) (by omega)
      rw [e1, e2, show (((p / 16 : Nat) : Int)) * 16 + ((p % 16 : Nat) : Int) = p by omega] at he
      rw [replevinlaw16_Of.f, Option.bind_some, neq_self4', if_neg (by decide), if_pos rfl, he, Option.bind_some, if_pos rfl, eq_self4, if_pos rfl, beq_self_eq_true]
    · rw [if_neg hc]
      rw [replevinlaw16_Of.f, Option.bind_some, neq_self4', if_neg (by decide), if_pos rfl, hz, Option.bind_some, if_neg (by decide)]
  · have d1 := decode_out 4 n p q r hn h0 (by decide)
    have d2 := refdecode_out 4 n p q r hn h0 (by decide)
    rw [d1, d2, Option.bind_some, Option.bind_some, replevinlaw16_Of.f, Option.bind_some, neq_self4', if_neg (by decide), if_pos rfl, hz, Option.bind_some, if_neg (by decide)]
end Go.Proofs.Ytdnhekgdpolenaa.Pure
