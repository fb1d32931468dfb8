/- InstrLists: what is left of the law, on lists of numbers alone. -/
import Derived.Test.YtdnhekgdpolenaaQx35
import Derived.Test.YtdnhekgdpolenaaPEnc
namespace Go.Proofs.Ytdnhekgdpolenaa.Pure
set_option linter.unusedVariables false
set_option linter.unusedSimpArgs false
open Go.RowKit Go.Proofs.Ytdnhekgdpolenaa Go.Proofs.Ytdnhekgdpolenaa.Q Go.Proofs.YtdnhekgdpolenaaW.PrintWords Go.Proofs.YtdnhekgdpolenaaW.PrintLast
def back (s : S23) : S26 := ⟨s.f0, s.f1, s.f2, s.f3⟩
theorem wrap_next (a : Nat) (h : a < 1000) : wrap64 ((a : Int) + 1) = ((a + 1 : Nat) : Int) := by
  rw [w64 (by omega) (by omega)]
  omega
theorem rd23 (l : List S23) (i : Nat) (h : i < l.length) : rd_T23 l (i : Int) = l[i] := by
  unfold rd_T23
  rw [Int.toNat_natCast, List.getD_eq_getElem?_getD, List.getElem?_eq_getElem h, Option.getD_some]
theorem rd26 (l : List S23) (i : Nat) (h : i < l.length) : rd_T26 (l.map back) (i : Int) = back l[i] := by
  unfold rd_T26
  rw [Int.toNat_natCast, List.getD_eq_getElem?_getD, List.getElem?_map, List.getElem?_eq_getElem h, Option.map_some, Option.getD_some]
theorem lists (l : List S23) (hl : l.length ≤ 40) : ∀ (m i k : Nat) (out : List S26), i + m = l.length → m < k → out.length ≤ i → replevinlaw16_list.l0 k l out (i : Int) = some (out ++ (l.drop i).map back) := by
  intro m
  induction m with
  | zero =>
    intro i k out h hk ho
    obtain ⟨k, rfl⟩ : ∃ j, k = j + 1 := ⟨k - 1, by omega⟩
    rw [replevinlaw16_list.l0, if_neg (by omega), List.drop_eq_nil_of_le (by omega), List.map_nil, List.append_nil]
  | succ m ih =>
    intro i k out h hk ho
    obtain ⟨k, rfl⟩ : ∃ j, k = j + 1 := ⟨k - 1, by omega⟩
    rw [replevinlaw16_list.l0, if_pos (by omega), if_pos (by omega), replevinlaw16_To.f, Option.bind_some, if_pos (by omega), wrap_next i (by omega), ih (i + 1) k _ (by omega) (by omega) (by rw [List.length_append]; simp only [List.length_cons, List.length_nil]; omega)]
    rw [List.drop_eq_getElem_cons (by omega : i < l.length), List.map_cons, List.append_assoc, rd23 l i (by omega)]
    rfl
/-- The four bytes of an instruction, and its error. -/
def ec (s : S23) : Int × Int × Int × Int × Int :=
  if 0 ≤ s.f0 ∧ s.f0 < 27 then (if chk s.f0.toNat s.f1 s.f2 s.f3 = 0 then (s.f0, s.f1 * 16 + s.f2, s.f3 % 256, s.f3 / 256 % 256, 0) else (0, 0, 0, 0, chk s.f0.toNat s.f1 s.f2 s.f3)) else (0, 0, 0, 0, 11)
theorem undo2 (n : Nat) (c : Int) (h : ((opRow n).2.2.1 < 0 → -32768 ≤ c ∧ c ≤ 32767) ∧ (¬ (opRow n).2.2.1 < 0 → 0 ≤ c ∧ c ≤ 65535)) : sgnc n ((((c % 256).toNat : Nat) : Int) + 256 * (((c / 256 % 256).toNat : Nat) : Int)) = c := by
  rw [Int.toNat_of_nonneg (by omega), Int.toNat_of_nonneg (by omega)]
  by_cases hl : (opRow n).2.2.1 < 0
  · have hc := h.1 hl
    by_cases hg : c % 256 + 256 * (c / 256 % 256) > 32767
    · rw [sgnc_neg hl hg]
      omega
    · rw [sgnc_else (fun z => hg z.2)]
      omega
  · have hc := h.2 hl
    rw [sgnc_else (fun z => hl z.1)]
    omega
theorem ec_ok (s : S23) : (∀ k, 4 ≤ k → instr_Encode.f k s.f0 s.f1 s.f2 s.f3 = some (ec s)) ∧ (∀ k, 4 ≤ k → replevinref16_Encode.f k s.f0 s.f1 s.f2 s.f3 = some (ec s)) ∧
    ((ec s).2.2.2.2 = 0 → ∀ k, 4 ≤ k → instr_Decode.f k (ec s).1 (ec s).2.1 (ec s).2.2.1 (ec s).2.2.2.1 = some (s.f0, s.f1, s.f2, s.f3, 0)) := by
  obtain ⟨op, a, b, c⟩ := s
  by_cases h : 0 ≤ op ∧ op < 27
  · obtain ⟨n, rfl⟩ := Int.eq_ofNat_of_zero_le h.1
    have hn : n < 27 := by omega
    by_cases h0 : chk n a b c = 0
    · have e : ec ⟨n, a, b, c⟩ = ((n : Int), a * 16 + b, c % 256, c / 256 % 256, 0) := by
        unfold ec
        rw [if_pos h, if_pos (by rw [Int.toNat_natCast]; exact h0)]
      rw [e]
      have hf := fine_of_chk n a b c hn h0
      obtain ⟨fa, fa', fb, fb', fc, fc'⟩ := hf
      obtain ⟨a, rfl⟩ := Int.eq_ofNat_of_zero_le fa
      obtain ⟨b, rfl⟩ := Int.eq_ofNat_of_zero_le fb
      have hc : -32768 ≤ c ∧ c ≤ 65535 := by
        by_cases hl : (opRow n).2.2.1 < 0
        · have := fc hl; omega
        · have := fc' hl; omega
      refine ⟨fun k hk => encode_at k n a b c hn (by omega) h0 (by omega) (by omega), fun k hk => refencode_at k n a b c hn (by omega) h0 (by omega) (by omega) hc, fun _ k hk => ?_⟩
      obtain ⟨k, rfl⟩ : ∃ j, k = j + 1 := ⟨k - 1, by omega⟩
      have hd := decode_at k n (16 * a + b) (c % 256).toNat (c / 256 % 256).toNat hn (by omega) (by omega) (by omega) (by omega)
      rw [undo2 n c ⟨fc, fc'⟩, show (16 * a + b) / 16 = a by omega, show (16 * a + b) % 16 = b by omega, Int.toNat_of_nonneg (by omega), Int.toNat_of_nonneg (by omega)] at hd
      rw [show ((16 * a + b : Nat) : Int) = (a : Int) * 16 + b by omega] at hd
      unfold dec at hd
      rw [if_pos h0] at hd
      exact hd
    · have e : ec ⟨n, a, b, c⟩ = (0, 0, 0, 0, chk n a b c) := by
        unfold ec
        rw [if_pos h, if_neg (by rw [Int.toNat_natCast]; exact h0)]
        rfl
      rw [e]
      exact ⟨fun k hk => (encode_err k n a b c hn (by omega) h0).1, fun k hk => (encode_err k n a b c hn (by omega) h0).2, fun z => absurd z h0⟩
  · have e : ec ⟨op, a, b, c⟩ = (0, 0, 0, 0, 11) := by
      unfold ec
      rw [if_neg h]
    rw [e]
    exact ⟨fun k hk => (encode_out k op a b c h (by omega)).1, fun k hk => (encode_out k op a b c h (by omega)).2, fun z => absurd z (by decide)⟩
def b4 (s : S23) : List Int := [(ec s).1, (ec s).2.1, (ec s).2.2.1, (ec s).2.2.2.1]
theorem encs (l : List S23) (hl : l.length ≤ 40) : ∀ (m i k k' : Nat) (out : List Int), i + m = l.length → m + 5 ≤ k → m + 5 ≤ k' → out.length = 4 * i →
    ∃ r : List Int × Int × Int, instr_EncodeAll.l0 k (l.map back) out i = some r ∧ replevinref16_EncodeAll.l0 k' l out (i : Int) = some r ∧ (r.2.2 = 0 → r.1 = out ++ (l.drop i).flatMap b4 ∧ ∀ s ∈ l.drop i, (ec s).2.2.2.2 = 0) := by
  intro m
  induction m with
  | zero =>
    intro i k k' out h hk hk' ho
    obtain ⟨k, rfl⟩ : ∃ j, k = j + 1 := ⟨k - 1, by omega⟩
    obtain ⟨k', rfl⟩ : ∃ j, k' = j + 1 := ⟨k' - 1, by omega⟩
    rw [instr_EncodeAll.l0, if_neg (by rw [List.length_map]; omega), replevinref16_EncodeAll.l0, if_neg (by omega), List.drop_eq_nil_of_le (by omega)]
    exact ⟨_, rfl, rfl, fun _ => ⟨by simp, by simp⟩⟩
  | succ m ih =>
    intro i k k' out h hk hk' ho
    obtain ⟨k, rfl⟩ : ∃ j, k = j + 1 := ⟨k - 1, by omega⟩
    obtain ⟨k', rfl⟩ : ∃ j, k' = j + 1 := ⟨k' - 1, by omega⟩
    obtain ⟨e1, e2, _⟩ := ec_ok l[i]
    rw [instr_EncodeAll.l0, if_pos (by rw [List.length_map]; omega), replevinref16_EncodeAll.l0, if_pos (by omega), if_pos (by omega), rd23 l i (by omega), rd26 l i (by omega)]
    have e1' : instr_Encode.f k (back l[i]).f0 (back l[i]).f1 (back l[i]).f2 (back l[i]).f3 = some (ec l[i]) := e1 k (by omega)
    rw [e1', e2 k' (by omega), Option.bind_some, Option.bind_some]
    by_cases h0 : (ec l[i]).2.2.2.2 = 0
    · rw [if_pos h0, if_pos h0, Option.bind_some, if_pos (by simp only [List.length_cons, List.length_nil]; omega), wrap_next i (by omega)]
      obtain ⟨r, r1, r2, r3⟩ := ih (i + 1) k k' (out ++ b4 l[i]) (by omega) (by omega) (by omega) (by rw [List.length_append, ho]; show 4 * i + 4 = _; omega)
      refine ⟨r, r1, r2, fun z => ?_⟩
      obtain ⟨z1, z2⟩ := r3 z
      rw [List.drop_eq_getElem_cons (by omega : i < l.length), List.flatMap_cons, ← List.append_assoc]
      refine ⟨z1, fun s hs => ?_⟩
      rcases List.mem_cons.mp hs with e | hs
      · rw [e]
        exact h0
      · exact z2 s hs
    · rw [if_neg h0, if_neg h0]
      exact ⟨_, rfl, rfl, fun z => absurd z h0⟩
theorem flat_len (l : List S23) : (l.flatMap b4).length = 4 * l.length := by
  induction l with
  | nil => rfl
  | cons a l ih =>
    rw [List.flatMap_cons, List.length_append, ih, List.length_cons]
    show 4 + _ = _
    omega
theorem flat_at (j : Nat) (hj : j < 4) : ∀ (l : List S23) (i : Nat) (h : i < l.length), (l.flatMap b4)[4 * i + j]? = (b4 l[i])[j]?
  | [], i, h => absurd h (Nat.not_lt_zero _)
  | s :: l, 0, h => by
    rw [List.flatMap_cons, List.getElem?_append_left (by show 4 * 0 + j < 4; omega), Nat.mul_zero, Nat.zero_add]
    rfl
  | s :: l, i + 1, h => by
    rw [List.flatMap_cons, List.getElem?_append_right (by show 4 ≤ _; omega)]
    have := flat_at j hj l i (by simpa using h)
    rw [show 4 * (i + 1) + j - (b4 s).length = 4 * i + j by show 4 * (i + 1) + j - 4 = _; omega, this]
    rfl
theorem rd_flat (l : List S23) (i j : Nat) (h : i < l.length) (hj : j < 4) : rd (l.flatMap b4) ((4 * i + j : Nat) : Int) = (b4 l[i]).getD j 0 := by
  unfold rd
  rw [Int.toNat_natCast, List.getD_eq_getElem?_getD, flat_at j hj l i h, List.getD_eq_getElem?_getD]
theorem decs (l : List S23) (hl : l.length ≤ 40) (hok : ∀ s ∈ l, (ec s).2.2.2.2 = 0) : ∀ (m i k : Nat) (out : List S26), i + m = l.length → m + 5 ≤ k →
    instr_DecodeAll.l0 k (l.flatMap b4) out (4 * i) = some (out ++ (l.drop i).map back, 0, 0) := by
  intro m
  induction m with
  | zero =>
    intro i k out h hk
    obtain ⟨k, rfl⟩ : ∃ j, k = j + 1 := ⟨k - 1, by omega⟩
    have hf := flat_len l
    rw [instr_DecodeAll.l0, if_neg (by omega), if_pos (by omega), List.drop_eq_nil_of_le (by omega), List.map_nil, List.append_nil]
  | succ m ih =>
    intro i k out h hk
    obtain ⟨k, rfl⟩ : ∃ j, k = j + 1 := ⟨k - 1, by omega⟩
    have hf := flat_len l
    have hi : i < l.length := by omega
    obtain ⟨_, _, e3⟩ := ec_ok l[i]
    have h0 := hok l[i] (List.getElem_mem hi)
    have r0 := rd_flat l i 0 hi (by omega)
    have r1 := rd_flat l i 1 hi (by omega)
    have r2 := rd_flat l i 2 hi (by omega)
    have r3 := rd_flat l i 3 hi (by omega)
    rw [instr_DecodeAll.l0, if_pos (by omega)]
    rw [show ((4 * i : Nat) : Int) + 1 = ((4 * i + 1 : Nat) : Int) by omega, show ((4 * i : Nat) : Int) + 2 = ((4 * i + 2 : Nat) : Int) by omega, show ((4 * i : Nat) : Int) + 3 = ((4 * i + 3 : Nat) : Int) by omega, show ((4 * i : Nat) : Int) = ((4 * i + 0 : Nat) : Int) by omega, r0, r1, r2, r3]
    have e : instr_Decode.f k ((b4 l[i]).getD 0 0) ((b4 l[i]).getD 1 0) ((b4 l[i]).getD 2 0) ((b4 l[i]).getD 3 0) = some (l[i].f0, l[i].f1, l[i].f2, l[i].f3, 0) := e3 h0 k (by omega)
    rw [e, Option.bind_some, if_pos rfl, show 4 * i + 4 = 4 * (i + 1) by omega, ih (i + 1) k _ (by omega) (by omega), List.drop_eq_getElem_cons hi, List.map_cons, List.append_assoc]
    rfl
theorem neq_self4c (a b c d : Int) : (!(a == a) || (!(b == b) || (!(c == c) || (!(d == d))))) = false := by simp
theorem sames2 (l : List S23) (hl : l.length ≤ 40) : ∀ (m i k : Nat), i + m = l.length → m < k → replevinlaw16_InstrLists.l0 k l (l.map back) (i : Int) = some true := by
  intro m
  induction m with
  | zero =>
    intro i k h hk
    obtain ⟨k, rfl⟩ : ∃ j, k = j + 1 := ⟨k - 1, by omega⟩
    rw [replevinlaw16_InstrLists.l0, if_neg (by rw [List.length_map]; omega)]
  | succ m ih =>
    intro i k h hk
    obtain ⟨k, rfl⟩ : ∃ j, k = j + 1 := ⟨k - 1, by omega⟩
    rw [replevinlaw16_InstrLists.l0, if_pos (by rw [List.length_map]; omega), if_pos (by omega), replevinlaw16_Of.f, Option.bind_some, if_pos (by omega), rd23 l i (by omega), rd26 l i (by omega)]
    rw [if_neg (by rw [show (back l[i]).f0 = l[i].f0 from rfl, show (back l[i]).f1 = l[i].f1 from rfl, show (back l[i]).f2 = l[i].f2 from rfl, show (back l[i]).f3 = l[i].f3 from rfl]; rw [neq_self4c]; decide), wrap_next i (by omega)]
    exact ih (i + 1) k (by omega) (by omega)
theorem known_2 (k : Nat) : replevinlaw16_known.f (k + 2) = some true := by kernel_rfl
theorem lists_j (l : List S23) (hl : l.length ≤ 40) (k : Nat) (hk : 100 ≤ k) : replevinlaw16_InstrLists.j0 (k + 3) l false = some true := by
  have e0 : replevinlaw16_list.f (k + 2) l = some (l.map back) := lists l hl l.length 0 (k + 2) [] (by omega) (by omega) (Nat.le_refl _)
  obtain ⟨r, r1, r2, r3⟩ := encs l hl l.length 0 1010 (k + 2) [] (by omega) (by omega) (by omega) rfl
  have e1 : instr_EncodeAll.f (l.map back) = some r := by
    unfold instr_EncodeAll.f
    rw [if_pos (by rw [List.length_map]; omega)]
    exact r1
  have e2 : replevinref16_EncodeAll.f (k + 2) l = some r := r2
  rw [replevinlaw16_InstrLists.j0, if_neg (by decide), e0, Option.bind_some, e1, Option.bind_some, e2, Option.bind_some, if_pos rfl, if_pos rfl, bne_self_eq_false, replevinlaw16_InstrLists.j1, if_neg (by decide)]
  by_cases h0 : r.2.2 = 0
  · obtain ⟨z1, z2⟩ := r3 h0
    rw [List.nil_append, List.drop_zero] at z1
    rw [List.drop_zero] at z2
    have e3 : instr_DecodeAll.f r.1 = some (l.map back, 0, 0) := by
      unfold instr_DecodeAll.f
      rw [z1, if_pos (by rw [flat_len]; omega)]
      exact decs l hl z2 l.length 0 1010 [] (by omega) (by omega)
    rw [if_pos h0, e3, Option.bind_some, if_pos (by rw [List.length_map]), if_pos rfl, bne_self_eq_false, replevinlaw16_InstrLists.j2, if_neg (by decide)]
    exact sames2 l hl l.length 0 k (by omega) (by omega)
  · rw [if_neg h0]
theorem InstrLists (l : List S23) : ∃ k, replevinlaw16_InstrLists.f k l = some true := by
  obtain ⟨K, hK⟩ : ∃ K, K = 100 := ⟨_, rfl⟩
  refine ⟨K + 3, ?_⟩
  unfold replevinlaw16_InstrLists.f
  rw [known_2 (K + 1), Option.bind_some, if_pos rfl]
  by_cases h : (l.length : Int) > 40
  · rw [decide_eq_true h, replevinlaw16_InstrLists.j0, if_pos rfl, known_2 K, Option.bind_some]
  · rw [decide_eq_false h]
    exact lists_j l (by omega) K (by omega)
end Go.Proofs.Ytdnhekgdpolenaa.Pure
