/- InstrBytes: what is left of the law, on lists of numbers alone. -/
import Derived.Test.YtdnhekgdpolenaaQx27
import Derived.Test.YtdnhekgdpolenaaPEnc
namespace Go.Proofs.Ytdnhekgdpolenaa.Pure
set_option linter.unusedVariables false
set_option linter.unusedSimpArgs false
open Go.RowKit Go.Proofs.Ytdnhekgdpolenaa Go.Proofs.Ytdnhekgdpolenaa.Q Go.Proofs.YtdnhekgdpolenaaW.PrintWords Go.Proofs.YtdnhekgdpolenaaW.PrintLast
theorem byte_nat {b : Int} (h : (Lit.int .u8 b).wf = true) : ∃ n : Nat, b = n ∧ n < 256 := by
  have hb : 0 ≤ b ∧ b ≤ 255 := by simpa [Lit.wf, IntKind.min, IntKind.max, IntKind.signed, IntKind.bits] using h
  exact ⟨b.toNat, by omega, by omega⟩
theorem both (k k' : Nat) (hk : 4 ≤ k) (hk' : 4 ≤ k') (b0 b1 b2 b3 : Int) (w0 : (Lit.int .u8 b0).wf = true) (w1 : (Lit.int .u8 b1).wf = true) (w2 : (Lit.int .u8 b2).wf = true) (w3 : (Lit.int .u8 b3).wf = true) :
    ∃ t, instr_Decode.f k b0 b1 b2 b3 = some t ∧ replevinref16_Decode.f k' b0 b1 b2 b3 = some t := by
  obtain ⟨n, rfl, h0⟩ := byte_nat w0
  obtain ⟨p, rfl, h1⟩ := byte_nat w1
  obtain ⟨q, rfl, h2⟩ := byte_nat w2
  obtain ⟨r, rfl, h3⟩ := byte_nat w3
  obtain ⟨k, rfl⟩ : ∃ j, k = j + 1 := ⟨k - 1, by omega⟩
  obtain ⟨k', rfl⟩ : ∃ j, k' = j + 1 := ⟨k' - 1, by omega⟩
  by_cases hn : n < 27
  · exact ⟨_, decode_at k n p q r hn h1 h2 h3 (by omega), refdecode_at k' n p q r hn h1 h2 h3 (by omega)⟩
  · exact ⟨_, decode_out k n p q r hn h0 (by omega), refdecode_out k' n p q r hn h0 (by omega)⟩
def conv (x : S26) : S23 := ⟨x.f0, x.f1, x.f2, x.f3⟩
theorem rd_wf {l : List Int} (hw : ∀ x ∈ l, (Lit.int .u8 x).wf = true) (i : Nat) (h : i < l.length) : (Lit.int .u8 (rd l (i : Int))).wf = true := by
  unfold rd
  rw [Int.toNat_natCast, List.getD_eq_getElem?_getD, List.getElem?_eq_getElem h, Option.getD_some]
  exact hw _ (List.getElem_mem h)
theorem wrap_at (a j : Nat) (h : a + j < 1000) : wrap64 ((a : Int) + (j : Nat)) = ((a + j : Nat) : Int) := by
  rw [w64 (by omega) (by omega)]
  omega
theorem decodes (l : List Int) (hl : l.length ≤ 200) (hw : ∀ x ∈ l, (Lit.int .u8 x).wf = true) : ∀ (m a k k' : Nat) (out : List S26), l.length < a + 4 * m + 4 → m + 5 ≤ k → m + 5 ≤ k' → out.length ≤ a → a ≤ l.length →
    ∃ r : List S26 × Int × Int, instr_DecodeAll.l0 k l out a = some r ∧ replevinref16_DecodeAll.l0 k' l (out.map conv) (a : Int) = some (r.1.map conv, r.2) ∧ r.1.length ≤ l.length := by
  intro m
  induction m with
  | zero =>
    intro a k k' out h1 h2 h3 h4 h5
    obtain ⟨k, rfl⟩ : ∃ j, k = j + 1 := ⟨k - 1, by omega⟩
    obtain ⟨k', rfl⟩ : ∃ j, k' = j + 1 := ⟨k' - 1, by omega⟩
    have e4 := wrap_at a 4 (by omega)
    simp only [Int.natCast_add, Int.cast_ofNat_Int] at e4
    rw [instr_DecodeAll.l0, if_neg (by omega)]
    by_cases hm : l.length % 4 = 0
    · rw [if_pos hm]
      refine ⟨_, rfl, ?_, by simp only; omega⟩
      rw [replevinref16_DecodeAll.l0, e4, if_neg (by omega), if_pos (by omega)]
    · rw [if_neg hm]
      refine ⟨_, rfl, ?_, Nat.zero_le _⟩
      have e5 : wrap64 ((l.length : Int) / 4) = ((l.length / 4 : Nat) : Int) := by rw [w64 (by omega) (by omega)]; omega
      have e6 : wrap64 (((l.length / 4 : Nat) : Int) * 4) = (l.length : Int) - ((l.length % 4 : Nat) : Int) := by rw [w64 (by omega) (by omega)]; omega
      rw [replevinref16_DecodeAll.l0, e4, if_neg (by omega), if_neg (by omega), e5, e6]
      rfl
  | succ m ih =>
    intro a k k' out h1 h2 h3 h4 h5
    obtain ⟨k, rfl⟩ : ∃ j, k = j + 1 := ⟨k - 1, by omega⟩
    obtain ⟨k', rfl⟩ : ∃ j, k' = j + 1 := ⟨k' - 1, by omega⟩
    have e4 := wrap_at a 4 (by omega)
    have e1 := wrap_at a 1 (by omega)
    have e2 := wrap_at a 2 (by omega)
    have e3 := wrap_at a 3 (by omega)
    by_cases hc : a + 4 ≤ l.length
    · rw [instr_DecodeAll.l0, if_pos hc, replevinref16_DecodeAll.l0]
      simp only [Int.natCast_add, Int.cast_ofNat_Int] at e1 e2 e3 e4
      rw [e4, e1, e2, e3, if_pos (by omega), if_pos (by omega), if_pos (by omega), if_pos (by omega), if_pos (by omega), if_pos (by omega), if_pos (by omega), if_pos (by omega), if_pos (by omega)]
      obtain ⟨t, t1, t2⟩ := both k k' (by omega) (by omega) (rd l (a : Int)) (rd l ((a : Int) + 1)) (rd l ((a : Int) + 2)) (rd l ((a : Int) + 3)) (rd_wf hw a (by omega)) (rd_wf hw (a + 1) (by omega)) (rd_wf hw (a + 2) (by omega)) (rd_wf hw (a + 3) (by omega))
      rw [t1, t2, Option.bind_some, Option.bind_some]
      by_cases h0 : t.2.2.2.2 = 0
      · rw [if_pos h0, if_pos h0, if_pos (by rw [List.length_map]; omega)]
        have := ih (a + 4) k k' (out ++ [⟨t.1, t.2.1, t.2.2.1, t.2.2.2.1⟩]) (by omega) (by omega) (by omega) (by rw [List.length_append]; simp only [List.length_cons, List.length_nil]; omega) hc
        rw [List.map_append] at this
        exact this
      · rw [if_neg h0, if_neg h0]
        exact ⟨_, rfl, rfl, Nat.zero_le _⟩
    · exact (by
        obtain ⟨r, r1, r2, r3⟩ := ih a (k + 1) (k' + 1) out (by omega) (by omega) (by omega) h4 h5
        exact ⟨r, r1, r2, r3⟩)
theorem rd_conv (l : List S26) (i : Nat) (h : i < l.length) : rd_T23 (l.map conv) (i : Int) = conv (rd_T26 l (i : Int)) := by
  unfold rd_T23 rd_T26
  rw [Int.toNat_natCast, List.getD_eq_getElem?_getD, List.getD_eq_getElem?_getD, List.getElem?_map, List.getElem?_eq_getElem h, Option.map_some, Option.getD_some, Option.getD_some]
theorem neq_self4b (a b c d : Int) : (!(a == a) || (!(b == b) || (!(c == c) || (!(d == d))))) = false := by simp
theorem sames (l : List S26) (hl : l.length ≤ 200) : ∀ (m i k : Nat), i + m = l.length → m < k → replevinlaw16_InstrBytes.l0 k l (l.map conv) (i : Int) = some true := by
  intro m
  induction m with
  | zero =>
    intro i k h hk
    obtain ⟨k, rfl⟩ : ∃ j, k = j + 1 := ⟨k - 1, by omega⟩
    rw [replevinlaw16_InstrBytes.l0, if_neg (by omega)]
  | succ m ih =>
    intro i k h hk
    obtain ⟨k, rfl⟩ : ∃ j, k = j + 1 := ⟨k - 1, by omega⟩
    have e1 := wrap_at i 1 (by omega)
    simp only [Int.cast_ofNat_Int] at e1
    rw [replevinlaw16_InstrBytes.l0, if_pos (by omega), if_pos (by omega), replevinlaw16_Of.f, Option.bind_some, if_pos (by rw [List.length_map]; omega), rd_conv l i (by omega)]
    rw [if_neg (by rw [show (conv (rd_T26 l (i : Int))).f0 = (rd_T26 l (i : Int)).f0 from rfl, show (conv (rd_T26 l (i : Int))).f1 = (rd_T26 l (i : Int)).f1 from rfl, show (conv (rd_T26 l (i : Int))).f2 = (rd_T26 l (i : Int)).f2 from rfl, show (conv (rd_T26 l (i : Int))).f3 = (rd_T26 l (i : Int)).f3 from rfl]; rw [neq_self4b]; decide), e1]
    exact ih (i + 1) k (by omega) (by omega)
theorem known_at (k : Nat) : replevinlaw16_known.f (k + 2) = some true := by kernel_rfl
theorem bytes_j (l : List Int) (hl : l.length ≤ 200) (hw : ∀ x ∈ l, (Lit.int .u8 x).wf = true) (k : Nat) (hk : 300 ≤ k) : replevinlaw16_InstrBytes.j0 (k + 2) l false = some true := by
  obtain ⟨r, r1, r2, r3⟩ := decodes l hl hw 60 0 1010 (k + 1) [] (by omega) (by omega) (by omega) (Nat.le_refl _) (Nat.zero_le _)
  have e1 : instr_DecodeAll.f l = some r := by
    unfold instr_DecodeAll.f
    rw [if_pos (by omega)]
    exact r1
  have e2 : replevinref16_DecodeAll.f (k + 1) l = some (r.1.map conv, r.2) := r2
  rw [replevinlaw16_InstrBytes.j0, if_neg (by decide), e1, Option.bind_some, e2, Option.bind_some, if_pos (by rw [List.length_map]), if_pos rfl, if_pos rfl, bne_self_eq_false, replevinlaw16_InstrBytes.j1, if_neg (by decide)]
  exact sames r.1 (by omega) r.1.length 0 k (by omega) (by omega)
theorem InstrBytes : replevinlaw16_InstrBytes.Pure := by
  intro l _ _ hw
  obtain ⟨K, hK⟩ : ∃ K, K = 300 := ⟨_, rfl⟩
  refine ⟨K + 2, ?_⟩
  unfold replevinlaw16_InstrBytes.f
  rw [known_at K, Option.bind_some, if_pos rfl]
  by_cases h : (l.length : Int) > 200
  · obtain ⟨K, rfl⟩ : ∃ j, K = j + 1 := ⟨K - 1, by omega⟩
    rw [decide_eq_true h, replevinlaw16_InstrBytes.j0, if_pos rfl, known_at K, Option.bind_some]
  · rw [decide_eq_false h]
    exact bytes_j l (by omega) hw K (by omega)
end Go.Proofs.Ytdnhekgdpolenaa.Pure
