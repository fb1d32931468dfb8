/- InstrRegisters: what is left of the law, on numbers and lists alone. -/
import Derived.Test.YtdnhekgdpolenaaQx41
import Derived.Test.YtdnhekgdpolenaaPEnc
import Derived.Test.YtdnhekgdpolenaaPSet
namespace Go.Proofs.Ytdnhekgdpolenaa.Pure
set_option linter.unusedVariables false
set_option linter.unusedSimpArgs false
open Go.RowKit Go.Proofs.Ytdnhekgdpolenaa Go.Proofs.Ytdnhekgdpolenaa.Q Go.Proofs.YtdnhekgdpolenaaW.PrintWords Go.Proofs.YtdnhekgdpolenaaW.PrintLast
theorem same_from (l : List Int) (hl : l.length ≤ 1000) : ∀ (d i k : Nat), i + d = l.length → d < k → replevinref16_Same.l0 k l l (i : Int) = some true
  | 0, i, k, hi, hk => by
    obtain ⟨k, rfl⟩ : ∃ m, k = m + 1 := ⟨k - 1, by omega⟩
    rw [replevinref16_Same.l0, if_neg (by omega)]
  | d + 1, i, k, hi, hk => by
    obtain ⟨k, rfl⟩ : ∃ m, k = m + 1 := ⟨k - 1, by omega⟩
    rw [replevinref16_Same.l0, if_pos (by omega), if_pos (by omega), if_pos (by omega), if_pos rfl, w64 (by omega) (by omega)]
    exact same_from l hl d (i + 1) k (by omega) (by omega)
theorem same_self (l : List Int) (hl : l.length ≤ 8) : replevinref16_Same.f 20 l l = some true := by
  unfold replevinref16_Same.f
  rw [if_pos rfl]
  exact same_from l (by omega) l.length 0 20 (by omega) (by omega)
def hbq (f : Int) : Bool := f == 2 || f == 3 || f == 5
theorem hasB_eq (f : Int) : replevinref16_hasB.f f = some (hbq f) := by
  unfold replevinref16_hasB.f hbq
  by_cases h2 : f = 2
  · rw [if_pos h2]; simp [h2]
  · rw [if_neg h2]
    by_cases h3 : f = 3
    · rw [if_pos h3]; simp [h3]
    · rw [if_neg h3]
      simp [h2, h3]
theorem reads_at (n : Nat) (a b c : Int) (h : n < 27) (h0 : chk n a b c = 0) : instr_Instr_Reads.f 20 n a b c = some (regs ((if rdop n then [a] else []) ++ (if hbq (opRow n).2.1 then [b] else []) ++ (if (opRow n).2.1 == 3 then [c] else []))) := by
  unfold instr_Instr_Reads.f
  rw [check_at 20 n a b c h (by decide), Option.bind_some, if_pos h0]
  clear h0
  rcases nat_lt_27 h with rfl | rfl | rfl | rfl | rfl | rfl | rfl | rfl | rfl | rfl | rfl | rfl | rfl | rfl | rfl | rfl | rfl | rfl | rfl | rfl | rfl | rfl | rfl | rfl | rfl | rfl | rfl <;> kernel_rfl
theorem writes_at (n : Nat) (a b c : Int) (h : n < 27) (h0 : chk n a b c = 0) : instr_Instr_Writes.f 20 n a b c = some (if wrop n then [a] else []) := by
  unfold instr_Instr_Writes.f
  rw [check_at 20 n a b c h (by decide), Option.bind_some, if_pos h0]
  clear h0
  rcases nat_lt_27 h with rfl | rfl | rfl | rfl | rfl | rfl | rfl | rfl | rfl | rfl | rfl | rfl | rfl | rfl | rfl | rfl | rfl | rfl | rfl | rfl | rfl | rfl | rfl | rfl | rfl | rfl | rfl <;> kernel_rfl
theorem form_at (n : Nat) (h : n < 27) : ∃ t, replevinref16_Form.f 3 n = some ((opRow n).2.1, t) := by
  refine ⟨((replevinref16_Form.f 3 n).getD (0, 0)).2, ?_⟩
  rcases nat_lt_27 h with rfl | rfl | rfl | rfl | rfl | rfl | rfl | rfl | rfl | rfl | rfl | rfl | rfl | rfl | rfl | rfl | rfl | rfl | rfl | rfl | rfl | rfl | rfl | rfl | rfl | rfl | rfl <;> kernel_rfl
theorem form_out (op : Int) (h : ¬ (0 ≤ op ∧ op < 27)) : ∃ t, replevinref16_Form.f 3 op = some t := by
  unfold replevinref16_Form.f
  by_cases h0 : op < 0
  · rw [if_pos h0]
    exact ⟨_, rfl⟩
  · rw [if_neg h0, show decide (op > 26) = true from decide_eq_true (by omega)]
    exact ⟨_, rfl⟩
theorem fine3 (n : Nat) (a b c : Int) (h0 : chk n a b c = 0) (h3 : (opRow n).2.1 = 3) : 0 ≤ c ∧ c < 8 := by
  unfold chk at h0
  split at h0
  · cases h0
  · rename_i g1
    split at h0
    · cases h0
    · rename_i g2
      have : ¬ ((opRow n).2.1 = 3 ∧ ¬ (0 ≤ c ∧ c < 8)) := fun z => g2 (.inr (.inr (.inl z)))
      exact Classical.byContradiction fun z => this ⟨h3, z⟩
theorem refreads_at (n : Nat) (a b c : Int) (h : n < 27) (h0 : chk n a b c = 0) : replevinref16_Reads.f n a b c = some (marked (rdMarks (rdop n) (hbq (opRow n).2.1) ((opRow n).2.1 == 3) a.toNat b.toNat c.toNat) 8) := by
  obtain ⟨t, ht⟩ := form_at n h
  have hf := fine_of_chk n a b c h h0
  unfold Fine at hf
  unfold replevinref16_Reads.f
  rw [ht, Option.bind_some, refcheck_eq n a b c h, Option.bind_some, if_pos h0]
  show (replevinref16_hasB.f (opRow n).2.1).bind _ = _
  rw [hasB_eq, Option.bind_some]
  exact if_pos ⟨by omega, by omega, fun h3 => fine3 n a b c h0 h3⟩
theorem refwrites_at (n : Nat) (a b c : Int) (h : n < 27) (h0 : chk n a b c = 0) : replevinref16_Writes.f n a b c = some (marked (fun j => wrop n && j == a.toNat) 8) := by
  have hf := fine_of_chk n a b c h h0
  unfold Fine at hf
  unfold replevinref16_Writes.f
  rw [refcheck_eq n a b c h, Option.bind_some]
  cases hw : wrop n with
  | true =>
    rw [if_pos ⟨h0, rfl⟩, if_pos (by omega)]
    simp
  | false =>
    rw [if_neg (by simp)]
    simp
theorem marked_strict (β : Nat → Bool) (n : Nat) : (marked β n).Pairwise (· < ·) := by
  unfold marked
  rw [List.pairwise_map]
  exact List.Pairwise.filter _ (List.pairwise_lt_range.imp fun h => by omega)
theorem mem_marked (β : Nat → Bool) (n : Nat) (x : Int) : x ∈ marked β n ↔ 0 ≤ x ∧ x < n ∧ β x.toNat = true := by
  unfold marked
  simp only [List.mem_map, List.mem_filter, List.mem_range]
  constructor
  · rintro ⟨j, ⟨h1, h2⟩, rfl⟩
    exact ⟨by omega, by omega, by simpa using h2⟩
  · rintro ⟨h1, h2, h3⟩
    exact ⟨x.toNat, ⟨by omega, h3⟩, by omega⟩
theorem nat_beq {x a : Int} (hx : 0 ≤ x) (ha : 0 ≤ a) : (x.toNat == a.toNat) = true ↔ x = a := by
  rw [beq_iff_eq]
  omega
theorem regs_marks (r hb h3 : Bool) (a b c : Int) (ha : 0 ≤ a ∧ a < 8) (hbb : 0 ≤ b ∧ b < 8) (hc : h3 = true → 0 ≤ c ∧ c < 8) :
    regs ((if r then [a] else []) ++ (if hb then [b] else []) ++ (if h3 then [c] else [])) = marked (rdMarks r hb h3 a.toNat b.toNat c.toNat) 8 := by
  refine regs_eq (marked_strict _ _) fun x => ?_
  rw [mem_marked]
  unfold rdMarks
  simp only [Bool.false_or, Bool.or_eq_true, Bool.and_eq_true, List.mem_append]
  have e : ∀ (q : Bool) (y : Int), x ∈ (if q = true then [y] else []) ↔ q = true ∧ x = y := fun q y => by cases q <;> simp
  rw [e, e, e]
  constructor
  · rintro ⟨h0, _, h⟩
    rcases h with (⟨h, h'⟩ | ⟨h, h'⟩) | ⟨h, h'⟩
    · exact .inl (.inl ⟨h, (nat_beq h0 ha.1).mp h'⟩)
    · exact .inl (.inr ⟨h, (nat_beq h0 hbb.1).mp h'⟩)
    · exact .inr ⟨h, (nat_beq h0 (hc h).1).mp h'⟩
  · rintro ((⟨h, rfl⟩ | ⟨h, rfl⟩) | ⟨h, rfl⟩)
    · exact ⟨ha.1, by omega, .inl (.inl ⟨h, by simp⟩)⟩
    · exact ⟨hbb.1, by omega, .inl (.inr ⟨h, by simp⟩)⟩
    · have := hc h
      exact ⟨this.1, by omega, .inr ⟨h, by simp⟩⟩
theorem one_marks (r : Bool) (a : Int) (ha : 0 ≤ a ∧ a < 8) : (if r then [a] else []) = marked (fun j => r && j == a.toNat) 8 := by
  refine strict_ext (by cases r <;> simp) (marked_strict _ _) fun x => ?_
  rw [mem_marked, Bool.and_eq_true]
  have e : x ∈ (if r = true then [a] else []) ↔ r = true ∧ x = a := by cases r <;> simp
  rw [e]
  constructor
  · rintro ⟨h, rfl⟩
    exact ⟨ha.1, by omega, h, by simp⟩
  · rintro ⟨h0, _, h, h'⟩
    exact ⟨h, (nat_beq h0 ha.1).mp h'⟩
theorem reads_same (op a b c : Int) : ∃ l : List Int, l.length ≤ 8 ∧ instr_Instr_Reads.f 20 op a b c = some l ∧ replevinref16_Reads.f op a b c = some l := by
  by_cases h : 0 ≤ op ∧ op < 27
  · obtain ⟨n, rfl⟩ := Int.eq_ofNat_of_zero_le h.1
    have hn : n < 27 := by omega
    by_cases h0 : chk n a b c = 0
    · have hf := fine_of_chk n a b c hn h0
      unfold Fine at hf
      refine ⟨_, marked_len _ 8, ?_, refreads_at n a b c hn h0⟩
      rw [reads_at n a b c hn h0, regs_marks _ _ _ a b c (by omega) (by omega) fun h3 => fine3 n a b c h0 (beq_iff_eq.mp h3)]
    · refine ⟨[], by simp, ?_, ?_⟩
      · unfold instr_Instr_Reads.f
        rw [check_at 20 n a b c hn (by decide), Option.bind_some, if_neg h0]
      · obtain ⟨t, ht⟩ := form_at n hn
        unfold replevinref16_Reads.f
        rw [ht, Option.bind_some, refcheck_eq n a b c hn, Option.bind_some, if_neg h0]
  · refine ⟨[], by simp, ?_, ?_⟩
    · unfold instr_Instr_Reads.f
      rw [check_out 20 op a b c h (by decide), Option.bind_some, if_neg (by decide)]
    · obtain ⟨t, ht⟩ := form_out op h
      unfold replevinref16_Reads.f
      rw [ht, Option.bind_some, (checks_out op a b c h).2, Option.bind_some, if_neg (by decide)]
theorem marked_none : marked (fun _ => false) 8 = [] := by simp [marked]
theorem writes_same (op a b c : Int) : ∃ l : List Int, l.length ≤ 8 ∧ instr_Instr_Writes.f 20 op a b c = some l ∧ replevinref16_Writes.f op a b c = some l := by
  by_cases h : 0 ≤ op ∧ op < 27
  · obtain ⟨n, rfl⟩ := Int.eq_ofNat_of_zero_le h.1
    have hn : n < 27 := by omega
    by_cases h0 : chk n a b c = 0
    · have hf := fine_of_chk n a b c hn h0
      unfold Fine at hf
      refine ⟨_, marked_len _ 8, ?_, refwrites_at n a b c hn h0⟩
      rw [writes_at n a b c hn h0, one_marks _ a (by omega)]
    · refine ⟨[], by simp, ?_, ?_⟩
      · unfold instr_Instr_Writes.f
        rw [check_at 20 n a b c hn (by decide), Option.bind_some, if_neg h0]
      · unfold replevinref16_Writes.f
        rw [refcheck_eq n a b c hn, Option.bind_some, if_neg (fun z => h0 z.1), marked_none]
  · refine ⟨[], by simp, ?_, ?_⟩
    · unfold instr_Instr_Writes.f
      rw [check_out 20 op a b c h (by decide), Option.bind_some, if_neg (by decide)]
    · unfold replevinref16_Writes.f
      rw [(checks_out op a b c h).2, Option.bind_some, if_neg (fun z => absurd z.1 (by decide)), marked_none]
theorem InstrRegisters (op a b c : Int) (_w0 : (Lit.int .i64 op).wf = true) (_w1 : (Lit.int .i64 a).wf = true) (_w2 : (Lit.int .i64 b).wf = true) (_w3 : (Lit.int .i64 c).wf = true) :
    ∃ k, replevinlaw16_InstrRegisters.f k op a b c = some true := by
  refine ⟨20, ?_⟩
  have hk : replevinlaw16_known.f 20 = some true := by kernel_rfl
  obtain ⟨l, hl, e1, e2⟩ := reads_same op a b c
  obtain ⟨m, hm, e3, e4⟩ := writes_same op a b c
  unfold replevinlaw16_InstrRegisters.f
  rw [hk, Option.bind_some, if_pos rfl, replevinlaw16_To.f, Option.bind_some]
  show (instr_Instr_Reads.f 20 op a b c).bind _ = _
  rw [e1, Option.bind_some, e2, Option.bind_some, same_self l hl, Option.bind_some, if_pos rfl, Option.bind_some]
  show (instr_Instr_Writes.f 20 op a b c).bind _ = _
  rw [e3, Option.bind_some, e4, Option.bind_some, same_self m hm, Option.bind_some]
end Go.Proofs.Ytdnhekgdpolenaa.Pure
