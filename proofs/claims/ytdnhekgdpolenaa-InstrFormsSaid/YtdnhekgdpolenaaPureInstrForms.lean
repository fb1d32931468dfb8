/- InstrForms: what is left of the law, on numbers and words alone. -/
import Derived.Test.YtdnhekgdpolenaaQx32
import Derived.Test.YtdnhekgdpolenaaPChk
namespace Go.Proofs.Ytdnhekgdpolenaa.Pure
set_option linter.unusedVariables false
set_option linter.unusedSimpArgs false
open Go.RowKit Go.Proofs.Ytdnhekgdpolenaa Go.Proofs.Ytdnhekgdpolenaa.Q Go.Proofs.YtdnhekgdpolenaaW.PrintWords Go.Proofs.YtdnhekgdpolenaaW.PrintLast
theorem word_at (n : Nat) (h : n < 27) : ∃ ws, replevinref16_words.f = some ws ∧ ws.length = 27 ∧ rdOf ByteArray.empty ws (n : Int) = (opRow n).1 := by
  refine ⟨_, rfl, rfl, ?_⟩
  rcases nat_lt_27 h with rfl | rfl | rfl | rfl | rfl | rfl | rfl | rfl | rfl | rfl | rfl | rfl | rfl | rfl | rfl | rfl | rfl | rfl | rfl | rfl | rfl | rfl | rfl | rfl | rfl | rfl | rfl <;> rfl
def found (o : Option Nat) : Option (Int × Bool) := match o with | some n => some ((n : Int), true) | none => some (0, false)
theorem wrap_small (n : Nat) (h : n < 27) : wrap64 ((n : Int) + 1) = ((n + 1 : Nat) : Int) := by
  unfold wrap64
  omega
theorem find_loop (w : ByteArray) (ws : List ByteArray) (hl : ws.length = 27) (hw : ∀ n : Nat, n < 27 → rdOf ByteArray.empty ws (n : Int) = (opRow n).1) :
    ∀ (d i k : Nat), i + d = 27 → d < k → replevinref16_Find.l0 k w ws (i : Int) = found (lookFrom w d i)
  | 0, i, k, h, hk => by
    obtain ⟨k, rfl⟩ : ∃ j, k = j + 1 := ⟨k - 1, by omega⟩
    rw [replevinref16_Find.l0, if_neg (by omega)]
    rfl
  | d + 1, i, k, h, hk => by
    obtain ⟨k, rfl⟩ : ∃ j, k = j + 1 := ⟨k - 1, by omega⟩
    rw [replevinref16_Find.l0, if_pos (by omega), if_pos (by omega), hw i (by omega), lookFrom]
    by_cases he : (opRow i).1.toList = w.toList
    · rw [if_pos he, if_pos (beq_iff_eq.mpr he)]
      rfl
    · rw [if_neg he, if_neg (fun z => he (beq_iff_eq.mp z)), wrap_small i (by omega)]
      exact find_loop w ws hl hw d (i + 1) k (by omega) (by omega)
theorem find_ref (w : ByteArray) (k : Nat) (hk : 27 < k) : replevinref16_Find.f k w = found (lookFrom w 27 0) := by
  obtain ⟨ws, h1, h2, -⟩ := word_at 0 (by decide)
  unfold replevinref16_Find.f
  rw [h1, Option.bind_some]
  refine find_loop w ws h2 (fun n hn => ?_) 27 0 k (by decide) hk
  obtain ⟨ws', h1', -, h3⟩ := word_at n hn
  rw [h1] at h1'
  obtain rfl := Option.some.inj h1'
  exact h3
theorem find_own (w : ByteArray) : instr_Find.f w = found (lookFrom w 27 0) := rfl
theorem look_at (n : Nat) (h : n < 27) : lookFrom (opRow n).1 27 0 = some n := by
  rcases nat_lt_27 h with rfl | rfl | rfl | rfl | rfl | rfl | rfl | rfl | rfl | rfl | rfl | rfl | rfl | rfl | rfl | rfl | rfl | rfl | rfl | rfl | rfl | rfl | rfl | rfl | rfl | rfl | rfl <;> kernel_rfl
theorem look_none : lookFrom ⟨#[]⟩ 27 0 = none := by kernel_rfl
theorem form_at (k n : Nat) (h : n < 27) : instr_Form.f n = some ((opRow n).2.1, 0) ∧ replevinref16_Form.f (k + 2) n = some ((opRow n).2.1, 0) := by
  constructor
  · unfold instr_Form.f
    rw [of_at n h]
    rfl
  · rcases nat_lt_27 h with rfl | rfl | rfl | rfl | rfl | rfl | rfl | rfl | rfl | rfl | rfl | rfl | rfl | rfl | rfl | rfl | rfl | rfl | rfl | rfl | rfl | rfl | rfl | rfl | rfl | rfl | rfl <;> rfl
theorem form_out (k : Nat) (op : Int) (h : ¬ (0 ≤ op ∧ op < 27)) : instr_Form.f op = some (0, 11) ∧ replevinref16_Form.f (k + 1) op = some (0, 11) := by
  constructor
  · unfold instr_Form.f
    rw [of_not h]
    rfl
  · unfold replevinref16_Form.f
    by_cases h0 : op < 0
    · rw [if_pos h0]
      rfl
    · rw [if_neg h0, show decide (op > 26) = true from decide_eq_true (by omega)]
      rfl
theorem limits_at (k n : Nat) (h : n < 27) : ∃ t, instr_Limits.f n = some t ∧ replevinref16_Limits.f (k + 2) n = some t := by
  unfold instr_Limits.f replevinref16_Limits.f
  rw [of_at n h, (form_at k n h).2]
  rcases nat_lt_27 h with rfl | rfl | rfl | rfl | rfl | rfl | rfl | rfl | rfl | rfl | rfl | rfl | rfl | rfl | rfl | rfl | rfl | rfl | rfl | rfl | rfl | rfl | rfl | rfl | rfl | rfl | rfl <;> exact ⟨_, rfl, rfl⟩
theorem limits_out (k : Nat) (op : Int) (h : ¬ (0 ≤ op ∧ op < 27)) : instr_Limits.f op = some (0, 0, 11) ∧ replevinref16_Limits.f (k + 1) op = some (0, 0, 11) := by
  unfold instr_Limits.f replevinref16_Limits.f
  rw [of_not h, (form_out k op h).2]
  exact ⟨rfl, rfl⟩
theorem words_at (n : Nat) (h : n < 27) : instr_Word.f n = some (opRow n).1 ∧ replevinref16_Word.f n = some (opRow n).1 := by
  constructor
  · unfold instr_Word.f
    rw [of_at n h]
    rfl
  · obtain ⟨ws, h1, h2, h3⟩ := word_at n h
    unfold replevinref16_Word.f
    rw [if_neg (by omega), if_neg (by omega), h1, Option.bind_some, if_pos (by omega), if_pos (by omega), h3]
theorem words_out (op : Int) (h : ¬ (0 ≤ op ∧ op < 27)) : instr_Word.f op = some ⟨#[]⟩ ∧ replevinref16_Word.f op = some ⟨#[]⟩ := by
  constructor
  · unfold instr_Word.f
    rw [of_not h]
    rfl
  · unfold replevinref16_Word.f
    by_cases h0 : op < 0
    · rw [if_pos h0]
    · rw [if_neg h0, if_pos (by omega)]
theorem known_more (k : Nat) : replevinlaw16_known.f (k + 2) = some true := by kernel_rfl
theorem found_some (o : Option Nat) : ∃ p, found o = some p := by cases o <;> exact ⟨_, rfl⟩
theorem forms_j1 (k : Nat) (op : Int) (e : Int) (h : (0 ≤ op ∧ op < 27 ∧ e = 0) ∨ (¬ (0 ≤ op ∧ op < 27) ∧ e = 11)) : replevinlaw16_InstrForms.j1 (k + 1) op e false = some true := by
  rw [replevinlaw16_InstrForms.j1, if_neg (by decide)]
  rcases h with ⟨h0, h1, rfl⟩ | ⟨h0, rfl⟩
  · obtain ⟨n, rfl⟩ := Int.eq_ofNat_of_zero_le h0
    have hn : n < 27 := by omega
    obtain ⟨e1, e2⟩ := words_at n hn
    rw [e1, Option.bind_some, find_own, look_at n hn, found, Option.bind_some, e2, Option.bind_some, if_pos rfl]
    simp
  · obtain ⟨e1, e2⟩ := words_out op h0
    rw [e1, Option.bind_some, find_own, look_none, found, Option.bind_some, e2, Option.bind_some, if_pos rfl]
    rfl
theorem forms_j0 (k : Nat) (op : Int) (w : ByteArray) : replevinlaw16_InstrForms.j0 (k + 29) op w false = some true := by
  rw [replevinlaw16_InstrForms.j0, if_neg (by decide)]
  obtain ⟨⟨p1, p2⟩, hp⟩ := found_some (lookFrom w 27 0)
  by_cases h : 0 ≤ op ∧ op < 27
  · obtain ⟨n, rfl⟩ := Int.eq_ofNat_of_zero_le h.1
    have hn : n < 27 := by omega
    obtain ⟨e1, e2⟩ := form_at (k + 26) n hn
    obtain ⟨⟨t1, t2, t3⟩, e3, e4⟩ := limits_at (k + 26) n hn
    rw [e1, Option.bind_some, e2, Option.bind_some, e3, Option.bind_some, e4, Option.bind_some, find_own, find_ref w _ (by omega), hp, Option.bind_some, Option.bind_some, if_pos rfl, if_pos rfl, if_pos rfl, if_pos rfl, if_pos rfl, if_pos rfl, bne_self_eq_false]
    exact forms_j1 (k + 27) n 0 (Or.inl ⟨h.1, h.2, rfl⟩)
  · obtain ⟨e1, e2⟩ := form_out (k + 27) op h
    obtain ⟨e3, e4⟩ := limits_out (k + 27) op h
    rw [e1, Option.bind_some, e2, Option.bind_some, e3, Option.bind_some, e4, Option.bind_some, find_own, find_ref w _ (by omega), hp, Option.bind_some, Option.bind_some, if_pos rfl, if_pos rfl, if_pos rfl, if_pos rfl, if_pos rfl, if_pos rfl, bne_self_eq_false]
    exact forms_j1 (k + 27) op 11 (Or.inr ⟨h, rfl⟩)
theorem InstrForms : replevinlaw16_InstrForms.Pure := by
  intro op w _ _
  refine ⟨0 + 29, ?_⟩
  unfold replevinlaw16_InstrForms.f
  rw [known_more 27, Option.bind_some, if_pos rfl]
  by_cases h : (w.size : Int) > 40
  · rw [decide_eq_true h, replevinlaw16_InstrForms.j0, if_pos rfl, known_more 26, Option.bind_some]
  · rw [decide_eq_false h]
    exact forms_j0 0 op w
end Go.Proofs.Ytdnhekgdpolenaa.Pure
