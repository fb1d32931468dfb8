/- Sorted lists in which each number stands once: what slices.Sort and slices.Compact make of a list. -/
import Derived.Lib.SlicesCompact
import Derived.Lib.RowBridge
namespace Go.Proofs.Ytdnhekgdpolenaa.Pure
set_option linter.unusedVariables false
set_option linter.unusedSimpArgs false
open Go
/-- Two lists in strict order with the same members are the same. -/
theorem strict_ext : ∀ {l m : List Int}, l.Pairwise (· < ·) → m.Pairwise (· < ·) → (∀ x, x ∈ l ↔ x ∈ m) → l = m
  | [], [], _, _, _ => rfl
  | [], b :: m, _, _, h => absurd ((h b).mpr (List.mem_cons_self ..)) (by simp)
  | a :: l, [], _, _, h => absurd ((h a).mp (List.mem_cons_self ..)) (by simp)
  | a :: l, b :: m, hl, hm, h => by
    rw [List.pairwise_cons] at hl hm
    have hab : a = b := by
      have h1 := (h a).mp (List.mem_cons_self ..)
      have h2 := (h b).mpr (List.mem_cons_self ..)
      rcases List.mem_cons.mp h1 with e | h1
      · exact e
      · rcases List.mem_cons.mp h2 with e | h2
        · exact e.symm
        · have := hm.1 a h1
          have := hl.1 b h2
          omega
    subst hab
    congr 1
    refine strict_ext hl.2 hm.2 fun x => ⟨fun hx => ?_, fun hx => ?_⟩
    · rcases List.mem_cons.mp ((h x).mp (List.mem_cons_of_mem _ hx)) with e | hy
      · subst e
        have := hl.1 x hx
        omega
      · exact hy
    · rcases List.mem_cons.mp ((h x).mpr (List.mem_cons_of_mem _ hx)) with e | hy
      · subst e
        have := hm.1 x hx
        omega
      · exact hy
theorem upTo_spec (zs : List Int) (hs : ∀ i j, i < j → j < zs.length → zs[i]! ≤ zs[j]!) : ∀ m, m ≤ zs.length →
    (Lib.compactUpTo zs.toArray m).Pairwise (· < ·) ∧ (∀ x, x ∈ Lib.compactUpTo zs.toArray m ↔ ∃ j, j < m ∧ zs[j]! = x)
  | 0, _ => ⟨by simp [Lib.compactUpTo], by simp [Lib.compactUpTo]⟩
  | m + 1, h => by
    obtain ⟨ih1, ih2⟩ := upTo_spec zs hs m (by omega)
    rw [Lib.compactUpTo_succ]
    have hget : ∀ j : Nat, zs.toArray[j]! = zs[j]! := fun j => by rw [List.getElem!_toArray]
    by_cases hk : Lib.keeps zs.toArray m = true
    · rw [if_pos hk]
      refine ⟨List.pairwise_append.mpr ⟨ih1, by simp, fun a ha b hb => ?_⟩, fun x => ?_⟩
      · rw [List.mem_singleton.mp hb, hget]
        obtain ⟨j, hj, rfl⟩ := (ih2 a).mp ha
        have h1 := hs j m (by omega) (by omega)
        have hne : zs[m - 1]! ≠ zs[m]! := by
          simp only [Lib.keeps, Bool.or_eq_true, decide_eq_true_eq, hget] at hk
          rcases hk with hk | hk
          · omega
          · exact fun e => hk e.symm
        rcases Nat.lt_or_ge j (m - 1) with hlt | hge
        · have h2 := hs j (m - 1) hlt (by omega)
          have h3 := hs (m - 1) m (by omega) (by omega)
          omega
        · obtain rfl : j = m - 1 := by omega
          omega
      · rw [List.mem_append, ih2 x, List.mem_singleton, hget]
        constructor
        · rintro (⟨j, hj, e⟩ | e)
          · exact ⟨j, by omega, e⟩
          · exact ⟨m, by omega, e.symm⟩
        · rintro ⟨j, hj, e⟩
          rcases Nat.lt_or_ge j m with hlt | hge
          · exact .inl ⟨j, hlt, e⟩
          · obtain rfl : j = m := by omega
            exact .inr e.symm
    · rw [if_neg hk, List.append_nil]
      refine ⟨ih1, fun x => (ih2 x).trans ⟨fun ⟨j, hj, e⟩ => ⟨j, by omega, e⟩, fun ⟨j, hj, e⟩ => ?_⟩⟩
      rcases Nat.lt_or_ge j m with hlt | hge
      · exact ⟨j, hlt, e⟩
      · obtain rfl : j = m := by omega
        simp only [Lib.keeps, Bool.or_eq_true, decide_eq_true_eq, hget, not_or] at hk
        refine ⟨j - 1, ?_, ?_⟩
        · have := hk.1; omega
        · rw [← e]; exact (Decidable.not_not.mp hk.2).symm
theorem regs_spec (zs : List Int) : (Lib.compact (zs.mergeSort fun x y => decide (x ≤ y))).Pairwise (· < ·) ∧ ∀ x, x ∈ Lib.compact (zs.mergeSort fun x y => decide (x ≤ y)) ↔ x ∈ zs := by
  have hp := List.mergeSort_perm zs fun x y => decide (x ≤ y)
  have hs := List.pairwise_mergeSort (le := fun x y : Int => decide (x ≤ y)) (fun a b c h1 h2 => by simp at *; omega) (fun a b => by simp; omega) zs
  generalize zs.mergeSort (fun x y => decide (x ≤ y)) = ys at hp hs
  have hget : ∀ j, j < ys.length → ∃ h, ys[j]! = ys[j]'h := fun j h => ⟨h, by simp [h]⟩
  have := upTo_spec ys (fun i j hij hj => by
    obtain ⟨h1, e1⟩ := hget i (by omega)
    obtain ⟨h2, e2⟩ := hget j hj
    rw [e1, e2]
    simpa using List.pairwise_iff_getElem.mp hs i j h1 h2 hij) ys.length (Nat.le_refl _)
  refine ⟨this.1, fun x => (this.2 x).trans ⟨fun ⟨j, hj, e⟩ => ?_, fun hx => ?_⟩⟩
  · obtain ⟨h1, e1⟩ := hget j hj
    rw [e1] at e
    exact hp.mem_iff.mp (e ▸ List.getElem_mem h1)
  · obtain ⟨j, hj, e⟩ := List.getElem_of_mem (hp.mem_iff.mpr hx)
    exact ⟨j, hj, by rw [← e]; simp [hj]⟩
/-- A list in strict order with the members of another is what Sort and Compact make of it. -/
theorem regs_eq {zs m : List Int} (hm : m.Pairwise (· < ·)) (h : ∀ x, x ∈ m ↔ x ∈ zs) : Lib.compact (zs.mergeSort fun x y => decide (x ≤ y)) = m :=
  strict_ext (regs_spec zs).1 hm fun x => ((regs_spec zs).2 x).trans (h x).symm
end Go.Proofs.Ytdnhekgdpolenaa.Pure
