/- Several texts of this session in one file. -/
import Derived.Test.YthkgfmjgilkdeaaMF
import Derived.Test.YthkgfmjgilkdeaaQx9
import Derived.Test.YthkgfmjgilkdeaaQx10
import Derived.Test.YthkgfmjgilkdeaaQx16
import Derived.Test.YthkgfmjgilkdeaaQx7
import Derived.Test.YthkgfmjgilkdeaaQx4
import Derived.Test.YthkgfmjgilkdeaaMA
import Derived.Test.YthkgfmjgilkdeaaQx2
import Derived.Test.YthkgfmjgilkdeaaWTab
import Derived.Deep.CutRange
import Derived.Deep.Slices
import Derived.ChangeSame
import Derived.Test.YthkgfmjgilkdeaaQx0
/- Plain laws: the reference's edges in order, the rows of the graph, After, Before, Reverse, sameEdges, BinarySearch. -/
namespace Go.Proofs.Ythkgfmjgilkdeaa
set_option linter.unusedVariables false
set_option linter.unusedSimpArgs false
open Go.RowKit Go.Proofs.Ythkgfmjgilkdeaa.Q Go.Proofs.YthkgfmjgilkdeaaW.PrintWords Go.Proofs.YthkgfmjgilkdeaaW.PrintLast Go.Proofs.YthkgfmjgilkdeaaW.PrintMore
def ltE (a b : S43) : Prop := a.f0 < b.f0 ∨ (a.f0 = b.f0 ∧ a.f1 < b.f1)
theorem bef_iff (a b : S43) : bef a b = true ↔ ltE a b := by unfold bef ltE; simp
theorem ltE_trans {a b c : S43} (h1 : ltE a b) (h2 : ltE b c) : ltE a c := by unfold ltE at *; omega
theorem ltE_irrefl (a : S43) : ¬ ltE a a := by unfold ltE; omega
theorem ltE_total {a b : S43} (h1 : ¬ ltE a b) (h2 : a ≠ b) : ltE b a := by
  unfold ltE at *
  have : ¬ (a.f0 = b.f0 ∧ a.f1 = b.f1) := fun h => h2 (by cases a; cases b; simp_all)
  omega
/-- An edge into its place. -/
def ins1 : List S43 → S43 → List S43
  | [], e => [e]
  | x :: xs, e => if bef x e then x :: ins1 xs e else if x = e then x :: xs else e :: x :: xs
theorem insE_eq : ∀ (g : List S43) (e : S43), insE g e = ins1 g e
  | [], e => rfl
  | x :: xs, e => by
    have ih := insE_eq xs e
    unfold insE at ih ⊢
    unfold ins1
    by_cases h : bef x e = true
    · have hp : posE (x :: xs) e = posE xs e + 1 := by rw [posE, if_pos h]
      rw [hp, if_pos h, ← ih]
      by_cases h2 : posE xs e < xs.length ∧ xs.getD (posE xs e) z43 = e
      · rw [if_pos h2, if_pos (by simpa using h2)]
      · rw [if_neg h2, if_neg (by simpa using h2)]
        simp
    · have hp : posE (x :: xs) e = 0 := by rw [posE, if_neg h]
      rw [hp, if_neg h]
      by_cases h2 : x = e
      · rw [if_pos h2, if_pos (by simpa using h2)]
      · rw [if_neg h2, if_neg (by simpa using h2)]
        simp
theorem ins1_mem : ∀ (g : List S43) (e x : S43), x ∈ ins1 g e ↔ x = e ∨ x ∈ g
  | [], e, x => by simp [ins1]
  | y :: ys, e, x => by
    unfold ins1
    split
    · rw [List.mem_cons, List.mem_cons, ins1_mem ys e x]
      exact ⟨fun h => by rcases h with h | h | h; exact .inr (.inl h); exact .inl h; exact .inr (.inr h), fun h => by rcases h with h | h | h; exact .inr (.inl h); exact .inl h; exact .inr (.inr h)⟩
    · split
      · rename_i h; subst h; simp
      · simp
theorem ins1_sorted : ∀ (g : List S43) (e : S43), g.Pairwise ltE → (ins1 g e).Pairwise ltE
  | [], e, _ => by simp [ins1]
  | y :: ys, e, h => by
    rw [List.pairwise_cons] at h
    unfold ins1
    split
    · rename_i hb
      rw [List.pairwise_cons]
      refine ⟨fun x hx => ?_, ins1_sorted ys e h.2⟩
      rcases (ins1_mem ys e x).mp hx with rfl | hx
      · exact (bef_iff _ _).mp hb
      · exact h.1 x hx
    · rename_i hb
      split
      · rw [List.pairwise_cons]; exact h
      · rename_i he
        have hlt : ltE e y := ltE_total (fun h => hb ((bef_iff _ _).mpr h)) he
        rw [List.pairwise_cons, List.pairwise_cons]
        refine ⟨fun x hx => ?_, h⟩
        rcases List.mem_cons.mp hx with rfl | hx
        · exact hlt
        · exact ltE_trans hlt (h.1 x hx)
theorem insL_spec : ∀ (l g : List S43), g.Pairwise ltE → (insL g l).Pairwise ltE ∧ ∀ x, x ∈ insL g l ↔ x ∈ g ∨ x ∈ l
  | [], g, h => ⟨h, fun x => by simp [insL]⟩
  | e :: l, g, h => by
    have ih := insL_spec l (insE g e) (by rw [insE_eq]; exact ins1_sorted g e h)
    refine ⟨ih.1, fun x => ?_⟩
    rw [insL, ih.2 x, insE_eq, ins1_mem, List.mem_cons]
    exact ⟨fun h => by rcases h with (h | h) | h; exact .inr (.inl h); exact .inl h; exact .inr (.inr h), fun h => by rcases h with h | h | h; exact .inl (.inr h); exact .inl (.inl h); exact .inr h⟩
theorem ins_sorted (l : List S43) : (insL [] l).Pairwise ltE := (insL_spec l [] List.Pairwise.nil).1
theorem ins_mem (l : List S43) (x : S43) : x ∈ insL [] l ↔ x ∈ l := by rw [(insL_spec l [] List.Pairwise.nil).2 x]; simp
theorem sorted_ext : ∀ {l m : List S43}, l.Pairwise ltE → m.Pairwise ltE → (∀ x, x ∈ l ↔ x ∈ m) → l = m
  | [], [], _, _, _ => rfl
  | [], b :: m, _, _, h => absurd ((h b).mpr (List.mem_cons_self ..)) (by simp)
  | a :: l, [], _, _, h => absurd ((h a).mp (List.mem_cons_self ..)) (by simp)
  | a :: l, b :: m, hl, hm, h => by
    rw [List.pairwise_cons] at hl hm
    have hab : a = b := by
      rcases List.mem_cons.mp ((h a).mp (List.mem_cons_self ..)) with e | h1
      · exact e
      · rcases List.mem_cons.mp ((h b).mpr (List.mem_cons_self ..)) with e | h2
        · exact e.symm
        · exact absurd (ltE_trans (hm.1 a h1) (hl.1 b h2)) (ltE_irrefl b)
    subst hab
    congr 1
    refine sorted_ext hl.2 hm.2 fun x => ⟨fun hx => ?_, fun hx => ?_⟩
    · rcases List.mem_cons.mp ((h x).mp (List.mem_cons_of_mem _ hx)) with e | hy
      · exact absurd (e ▸ hl.1 x hx) (ltE_irrefl _)
      · exact hy
    · rcases List.mem_cons.mp ((h x).mpr (List.mem_cons_of_mem _ hx)) with e | hy
      · exact absurd (e ▸ hm.1 x hx) (ltE_irrefl _)
      · exact hy
def afterL (g : List S43) (n : Int) : List Int := (g.filter fun e => decide (e.f0 = n)).map S43.f1
def beforeL (g : List S43) (n : Int) : List Int := (g.filter fun e => decide (e.f1 = n)).map S43.f0
theorem afterL_mem (g : List S43) (n x : Int) : x ∈ afterL g n ↔ (⟨n, x⟩ : S43) ∈ g := by
  unfold afterL
  rw [List.mem_map]
  constructor
  · rintro ⟨⟨a, b⟩, h, rfl⟩
    rw [List.mem_filter] at h
    have : a = n := by simpa using h.2
    subst this
    exact h.1
  · intro h
    exact ⟨⟨n, x⟩, List.mem_filter.mpr ⟨h, by simp⟩, rfl⟩
theorem beforeL_mem (g : List S43) (n x : Int) : x ∈ beforeL g n ↔ (⟨x, n⟩ : S43) ∈ g := by
  unfold beforeL
  rw [List.mem_map]
  constructor
  · rintro ⟨⟨a, b⟩, h, rfl⟩
    rw [List.mem_filter] at h
    have : b = n := by simpa using h.2
    subst this
    exact h.1
  · intro h
    exact ⟨⟨x, n⟩, List.mem_filter.mpr ⟨h, by simp⟩, rfl⟩
theorem afterL_sorted {g : List S43} (h : g.Pairwise ltE) (n : Int) : (afterL g n).Pairwise (· < ·) := by
  unfold afterL
  rw [List.pairwise_map]
  refine (h.filter _).imp_of_mem ?_
  intro a b ha hb hlt
  have h1 : a.f0 = n := by simpa using (List.mem_filter.mp ha).2
  have h2 : b.f0 = n := by simpa using (List.mem_filter.mp hb).2
  unfold ltE at hlt
  omega
theorem beforeL_sorted {g : List S43} (h : g.Pairwise ltE) (n : Int) : (beforeL g n).Pairwise (· < ·) := by
  unfold beforeL
  rw [List.pairwise_map]
  refine (h.filter _).imp_of_mem ?_
  intro a b ha hb hlt
  have h1 : a.f1 = n := by simpa using (List.mem_filter.mp ha).2
  have h2 : b.f1 = n := by simpa using (List.mem_filter.mp hb).2
  unfold ltE at hlt
  omega
theorem ends_mem_t (l : List S43) (i : Nat) (x : Int) : x ∈ ends (l.map to44) true i ↔ (⟨(i : Int), x⟩ : S43) ∈ l := by
  unfold ends
  simp only [if_true, List.mem_map, List.mem_filter]
  constructor
  · rintro ⟨e, ⟨⟨y, hy, rfl⟩, h2⟩, rfl⟩
    have h2 : y.f0 = (i : Int) := by simpa [to44] using h2
    have : y = ⟨(i : Int), (to44 y).f1⟩ := by cases y; simp at h2; subst h2; rfl
    rw [← this]; exact hy
  · intro h
    exact ⟨⟨(i : Int), x⟩, ⟨⟨_, h, rfl⟩, by simp⟩, rfl⟩
theorem ends_mem_f (l : List S43) (i : Nat) (x : Int) : x ∈ ends (l.map to44) false i ↔ (⟨x, (i : Int)⟩ : S43) ∈ l := by
  unfold ends
  simp only [Bool.false_eq_true, if_false, List.mem_map, List.mem_filter]
  constructor
  · rintro ⟨e, ⟨⟨y, hy, rfl⟩, h2⟩, rfl⟩
    have h2 : y.f1 = (i : Int) := by simpa [to44] using h2
    have : y = ⟨(to44 y).f0, (i : Int)⟩ := by cases y; simp at h2; subst h2; rfl
    rw [← this]; exact hy
  · intro h
    exact ⟨⟨x, (i : Int)⟩, ⟨⟨_, h, rfl⟩, by simp⟩, rfl⟩
theorem rows_at_t (N : Nat) (l : List S43) (i : Nat) : regs (ends (l.map to44) true i) = afterL (insL [] l) (i : Int) :=
  Pure.regs_eq (afterL_sorted (ins_sorted l) _) fun x => by rw [afterL_mem, ins_mem, ends_mem_t]
theorem rows_at_f (N : Nat) (l : List S43) (i : Nat) : regs (ends (l.map to44) false i) = beforeL (insL [] l) (i : Int) :=
  Pure.regs_eq (beforeL_sorted (ins_sorted l) _) fun x => by rw [beforeL_mem, ins_mem, ends_mem_f]
theorem rowsT_len (N : Nat) (es : List S44) (t : Bool) : (rowsOf N es t).length = N := by simp [rowsOf]
theorem rowsT_get (N : Nat) (l : List S43) (t : Bool) (i : Nat) (h : i < N) : (rowsOf N (l.map to44) t).getD i [] = if t then afterL (insL [] l) (i : Int) else beforeL (insL [] l) (i : Int) := by
  unfold rowsOf
  rw [List.getD_eq_getElem?_getD]
  simp only [List.getElem?_map, List.getElem?_range h, Option.map_some, Option.getD_some]
  cases t
  · exact rows_at_f N l i
  · exact rows_at_t N l i
theorem afterL_out {N : Nat} {l : List S43} (h : ∀ e, e ∈ l → okE (N : Int) e = true) {n : Int} (hn : ¬ (0 ≤ n ∧ n < N)) : afterL (insL [] l) n = [] := by
  rw [List.eq_nil_iff_forall_not_mem]
  intro x hx
  rw [afterL_mem, ins_mem] at hx
  have := h _ hx
  unfold okE at this
  simp only [Bool.and_eq_true, decide_eq_true_eq] at this
  omega
theorem beforeL_out {N : Nat} {l : List S43} (h : ∀ e, e ∈ l → okE (N : Int) e = true) {n : Int} (hn : ¬ (0 ≤ n ∧ n < N)) : beforeL (insL [] l) n = [] := by
  rw [List.eq_nil_iff_forall_not_mem]
  intro x hx
  rw [beforeL_mem, ins_mem] at hx
  have := h _ hx
  unfold okE at this
  simp only [Bool.and_eq_true, decide_eq_true_eq] at this
  omega
/-- What After returns. -/
theorem row_after {N : Nat} {l : List S43} (h : ∀ e, e ∈ l → okE (N : Int) e = true) (n : Int) : row (rowsOf N (l.map to44) true) n = afterL (insL [] l) n := by
  unfold row
  rw [rowsT_len]
  by_cases hn : 0 ≤ n ∧ n < N
  · rw [if_pos hn, rowsT_get N l true n.toNat (by omega), if_pos rfl, Int.toNat_of_nonneg hn.1]
  · rw [if_neg hn, afterL_out h hn]
theorem row_before {N : Nat} {l : List S43} (h : ∀ e, e ∈ l → okE (N : Int) e = true) (n : Int) : row (rowsOf N (l.map to44) false) n = beforeL (insL [] l) n := by
  unfold row
  rw [rowsT_len]
  by_cases hn : 0 ≤ n ∧ n < N
  · rw [if_pos hn, rowsT_get N l false n.toNat (by omega), if_neg (by decide), Int.toNat_of_nonneg hn.1]
  · rw [if_neg hn, beforeL_out h hn]
/-- The reference's After, as printed. -/
theorem after_l0 (N : Int) (g : List S43) (n : Int) (hl : g.length ≤ 65536) : ∀ (d i k : Nat) (out : List Int), i + d = g.length → d < k → out.length ≤ i → replevinref08_After.l0 k n out (i : Int) N g = some (out ++ afterL (g.drop i) n)
  | 0, i, k, out, h, hk, ho => by
    obtain ⟨k, rfl⟩ : ∃ m, k = m + 1 := ⟨k - 1, by omega⟩
    simp only [replevinref08_After.l0]
    rw [if_neg (by omega), List.drop_of_length_le (by omega)]
    simp [afterL]
  | d + 1, i, k, out, h, hk, ho => by
    obtain ⟨k, rfl⟩ : ∃ m, k = m + 1 := ⟨k - 1, by omega⟩
    simp only [replevinref08_After.l0]
    have hi : i < g.length := by omega
    have e : rd_T43 g (i : Int) = g[i] := by unfold rd_T43; simp [hi]
    rw [if_pos (by omega), if_pos (by omega), wrap_i64 (by omega) (by omega), show ((i : Int) + 1) = ((i + 1 : Nat) : Int) by omega, e]
    have hd := List.drop_eq_getElem_cons hi
    by_cases hc : g[i].f0 = n
    · rw [if_pos hc, if_pos (by omega), after_l0 N g n hl d (i + 1) k _ (by omega) (by omega) (by simp; omega)]
      unfold afterL
      rw [hd, List.filter_cons_of_pos (by simpa using hc)]
      simp
    · rw [if_neg hc, after_l0 N g n hl d (i + 1) k _ (by omega) (by omega) (by omega)]
      unfold afterL
      rw [hd, List.filter_cons_of_neg (by simpa using hc)]
theorem after_f (N : Int) (g : List S43) (n : Int) (hl : g.length ≤ 65536) (k : Nat) (hk : g.length < k) : replevinref08_After.f k N g n = some (afterL g n) := by
  unfold replevinref08_After.f
  have := after_l0 N g n hl g.length 0 k [] (by omega) hk (Nat.le_refl _)
  simpa using this
theorem before_l0 (N : Int) (g : List S43) (n : Int) (hl : g.length ≤ 65536) : ∀ (d i k : Nat) (out : List Int), i + d = g.length → d < k → out.length ≤ i → replevinref08_Before.l0 k n out (i : Int) N g = some (out ++ beforeL (g.drop i) n)
  | 0, i, k, out, h, hk, ho => by
    obtain ⟨k, rfl⟩ : ∃ m, k = m + 1 := ⟨k - 1, by omega⟩
    simp only [replevinref08_Before.l0]
    rw [if_neg (by omega), List.drop_of_length_le (by omega)]
    simp [beforeL]
  | d + 1, i, k, out, h, hk, ho => by
    obtain ⟨k, rfl⟩ : ∃ m, k = m + 1 := ⟨k - 1, by omega⟩
    simp only [replevinref08_Before.l0]
    have hi : i < g.length := by omega
    have e : rd_T43 g (i : Int) = g[i] := by unfold rd_T43; simp [hi]
    rw [if_pos (by omega), if_pos (by omega), wrap_i64 (by omega) (by omega), show ((i : Int) + 1) = ((i + 1 : Nat) : Int) by omega, e]
    have hd := List.drop_eq_getElem_cons hi
    by_cases hc : g[i].f1 = n
    · rw [if_pos hc, if_pos (by omega), before_l0 N g n hl d (i + 1) k _ (by omega) (by omega) (by simp; omega)]
      unfold beforeL
      rw [hd, List.filter_cons_of_pos (by simpa using hc)]
      simp
    · rw [if_neg hc, before_l0 N g n hl d (i + 1) k _ (by omega) (by omega) (by omega)]
      unfold beforeL
      rw [hd, List.filter_cons_of_neg (by simpa using hc)]
theorem before_f (N : Int) (g : List S43) (n : Int) (hl : g.length ≤ 65536) (k : Nat) (hk : g.length < k) : replevinref08_Before.f k N g n = some (beforeL g n) := by
  unfold replevinref08_Before.f
  have := before_l0 N g n hl g.length 0 k [] (by omega) hk (Nat.le_refl _)
  simpa using this
theorem less_f (a b : Int) : cmp_Less_int.f a b = some (decide (a < b)) := by unfold cmp_Less_int.f cmp_isNaN_int.f; simp
theorem nan_f (a : Int) : slices_isNaN_int.f a = some false := by unfold slices_isNaN_int.f; simp
theorem half_eq (lo hi : Nat) (h : lo + hi < 1000000) : wrap64 ((IntKind.u64.wrap (wrap64 ((lo : Int) + (hi : Int)))) / 2) = (((lo + hi) / 2 : Nat) : Int) := by
  have h1 : wrap64 ((lo : Int) + (hi : Int)) = ((lo + hi : Nat) : Int) := by rw [wrap_i64 (by omega) (by omega)]; omega
  rw [h1]
  have h2 : IntKind.u64.wrap (((lo + hi : Nat) : Int)) = ((lo + hi : Nat) : Int) := by
    show ((lo + hi : Nat) : Int) % 18446744073709551616 = _
    omega
  rw [h2, wrap_i64 (by omega) (by omega)]
  omega
/-- Binary search in a list in strict order. -/
theorem bin_l0 (l : List Int) (x : Int) (hs : l.Pairwise (· < ·)) (hl : l.length ≤ 65536) : ∀ (d lo hi k : Nat), hi - lo ≤ d → d < k → lo ≤ hi → hi ≤ l.length → (∀ j (h : j < l.length), j < lo → l[j] < x) → (∀ j (h : j < l.length), hi ≤ j → x ≤ l[j]) →
    ∃ t, slices_BinarySearch_int_int.l0 k l x (l.length : Int) (lo : Int) (hi : Int) = some (t, decide (x ∈ l)) := by
  intro d
  induction d with
  | zero =>
    intro lo hi k h1 hk h2 h3 ha hb
    obtain ⟨k, rfl⟩ : ∃ m, k = m + 1 := ⟨k - 1, by omega⟩
    obtain rfl : lo = hi := by omega
    simp only [slices_BinarySearch_int_int.l0]
    rw [if_neg (by omega)]
    have hmem : x ∈ l ↔ ∃ h : lo < l.length, l[lo] = x := by
      constructor
      · intro hx
        obtain ⟨j, hj, e⟩ := List.getElem_of_mem hx
        rcases Nat.lt_trichotomy j lo with h | h | h
        · have := ha j hj h; omega
        · subst h; exact ⟨hj, e⟩
        · have h4 : lo < l.length := by omega
          have := List.pairwise_iff_getElem.mp hs lo j h4 hj h
          have := hb lo h4 (Nat.le_refl _)
          omega
      · rintro ⟨h, rfl⟩; exact List.getElem_mem h
    by_cases h : lo < l.length
    · rw [if_pos (by omega), if_pos (by omega), if_pos (by omega)]
      have e : rd l (lo : Int) = l[lo] := by unfold rd; simp [h]
      rw [e]
      by_cases hx : l[lo] = x
      · rw [if_pos hx, decide_eq_true (hmem.mpr ⟨h, hx⟩)]
        exact ⟨_, rfl⟩
      · rw [if_neg hx, nan_f, decide_eq_false (fun h2 => by obtain ⟨_, h3⟩ := hmem.mp h2; exact hx h3)]
        exact ⟨_, rfl⟩
    · rw [if_neg (by omega), decide_eq_false (fun h2 => by obtain ⟨h3, _⟩ := hmem.mp h2; exact h h3)]
      exact ⟨_, rfl⟩
  | succ d ih =>
    intro lo hi k h1 hk h2 h3 ha hb
    by_cases hlt : lo < hi
    · obtain ⟨k, rfl⟩ : ∃ m, k = m + 1 := ⟨k - 1, by omega⟩
      simp only [slices_BinarySearch_int_int.l0]
      rw [if_pos (by omega), half_eq lo hi (by omega)]
      obtain ⟨m, hm⟩ : ∃ m, m = (lo + hi) / 2 := ⟨_, rfl⟩
      rw [← hm]
      have hml : m < l.length := by omega
      rw [if_pos (by omega), if_pos (by omega), less_f]
      have e : rd l (m : Int) = l[m] := by unfold rd; simp [hml]
      rw [e]
      simp only [Option.bind_some]
      by_cases hx : l[m] < x
      · rw [decide_eq_true hx, if_pos rfl, wrap_i64 (by omega) (by omega), show ((m : Int) + 1) = ((m + 1 : Nat) : Int) by omega]
        refine ih (m + 1) hi k (by omega) (by omega) (by omega) h3 (fun j hj hjm => ?_) hb
        rcases Nat.lt_or_ge j m with h | h
        · have := List.pairwise_iff_getElem.mp hs j m hj hml h
          omega
        · obtain rfl : j = m := by omega
          exact hx
      · rw [decide_eq_false hx, if_neg (by decide)]
        refine ih lo m k (by omega) (by omega) (by omega) (by omega) ha (fun j hj hjm => ?_)
        rcases Nat.lt_or_ge m j with h | h
        · have := List.pairwise_iff_getElem.mp hs m j hml hj h
          omega
        · obtain rfl : j = m := by omega
          omega
    · exact ih lo hi k (by omega) (by omega) h2 h3 ha hb
theorem bin_f (l : List Int) (x : Int) (hs : l.Pairwise (· < ·)) (hl : l.length ≤ 65536) : ∃ t, slices_BinarySearch_int_int.f (l.length + 1) l x = some (t, decide (x ∈ l)) :=
  bin_l0 l x hs hl l.length 0 l.length (l.length + 1) (by omega) (by omega) (by omega) (Nat.le_refl _) (fun j _ h => absurd h (Nat.not_lt_zero _)) (fun j h h2 => absurd h (by omega))
instance : DecidableEq S44 := fun a b => decidable_of_iff (a.f0 = b.f0 ∧ a.f1 = b.f1) ⟨fun ⟨h1, h2⟩ => by cases a; cases b; simp_all, fun h => by subst h; exact ⟨rfl, rfl⟩⟩
theorem edges_l0 (a : List S44) (b : List S43) (hl : a.length = b.length) (hb : a.length ≤ 8796093022208) : ∀ (d i k : Nat), i + d = a.length → d < k → replevinlaw08_sameEdges.l0 k a b (i : Int) = some (decide (a.drop i = (b.drop i).map to44))
  | 0, i, k, h, hk => by
    obtain ⟨k, rfl⟩ : ∃ m, k = m + 1 := ⟨k - 1, by omega⟩
    simp only [replevinlaw08_sameEdges.l0]
    rw [if_neg (by omega), List.drop_of_length_le (by omega), List.drop_of_length_le (by omega)]
    simp
  | d + 1, i, k, h, hk => by
    obtain ⟨k, rfl⟩ : ∃ m, k = m + 1 := ⟨k - 1, by omega⟩
    simp only [replevinlaw08_sameEdges.l0]
    have hia : i < a.length := by omega
    have hib : i < b.length := by omega
    have ea : rd_T44 a (i : Int) = a[i] := by unfold rd_T44; simp [hia]
    have eb : rd_T43 b (i : Int) = b[i] := by unfold rd_T43; simp [hib]
    rw [if_pos (by omega), if_pos (by omega), if_pos (by omega), ea, eb]
    have ha2 := List.drop_eq_getElem_cons hia
    have hb2 := List.drop_eq_getElem_cons hib
    have hc : (a.drop i = (b.drop i).map to44) ↔ (a[i].f0 = b[i].f0 ∧ a[i].f1 = b[i].f1) ∧ a.drop (i + 1) = (b.drop (i + 1)).map to44 := by
      rw [ha2, hb2, List.map_cons, List.cons.injEq]
      refine and_congr ⟨fun h => by rw [h]; exact ⟨rfl, rfl⟩, fun h => ?_⟩ Iff.rfl
      obtain ⟨h1, h2⟩ := h
      generalize a[i] = u at h1 h2
      generalize b[i] = v at h1 h2
      cases u; cases v; simp at h1 h2; subst h1 h2; rfl
    by_cases e0 : a[i].f0 = b[i].f0
    · rw [if_pos e0]
      by_cases e1 : a[i].f1 = b[i].f1
      · rw [if_pos e1, wrap_i64 (by omega) (by omega), show ((i : Int) + 1) = ((i + 1 : Nat) : Int) by omega, edges_l0 a b hl hb d (i + 1) k (by omega) (by omega)]
        exact congrArg some (decide_eq_decide.mpr ⟨fun h => hc.mpr ⟨⟨e0, e1⟩, h⟩, fun h => (hc.mp h).2⟩)
      · rw [if_neg e1]
        exact congrArg some (decide_eq_false (fun h => e1 (hc.mp h).1.2)).symm
    · rw [if_neg e0]
      exact congrArg some (decide_eq_false (fun h => e0 (hc.mp h).1.1)).symm
theorem edges_f (a : List S44) (b : List S43) (hb : a.length ≤ 8796093022208) (k : Nat) (hk : a.length < k) : replevinlaw08_sameEdges.f k a b = some (decide (a = b.map to44)) := by
  unfold replevinlaw08_sameEdges.f
  by_cases h : a.length = b.length
  · rw [if_pos (by omega)]
    have := edges_l0 a b h hb a.length 0 k (by omega) hk
    simpa using this
  · rw [if_neg (by omega)]
    have : a ≠ b.map to44 := fun e => h (by rw [e, List.length_map])
    simp [this]
/-- The edges of a table of rows. -/
def edges43 (X : List (List Int)) (n : Nat) : List S43 := (List.range n).flatMap fun i => (X.getD i []).map fun x => ⟨(i : Int), x⟩
theorem edgesTo_43 (X : List (List Int)) (n : Nat) : edgesTo X n = (edges43 X n).map to44 := by
  unfold edgesTo edges43 edgesRow
  rw [List.map_flatMap]
  congr 1
  funext i
  rw [List.map_map]
  rfl
theorem edges43_mem (X : List (List Int)) (n : Nat) (e : S43) : e ∈ edges43 X n ↔ ∃ i : Nat, i < n ∧ e.f0 = i ∧ e.f1 ∈ X.getD i [] := by
  unfold edges43
  rw [List.mem_flatMap]
  constructor
  · rintro ⟨i, hi, h⟩
    obtain ⟨x, hx, rfl⟩ := List.mem_map.1 h
    exact ⟨i, List.mem_range.1 hi, rfl, hx⟩
  · rintro ⟨i, hi, h1, h2⟩
    exact ⟨i, List.mem_range.2 hi, List.mem_map.2 ⟨e.f1, h2, by cases e; simp at h1; subst h1; rfl⟩⟩
theorem edges43_sorted (X : List (List Int)) : ∀ (n : Nat), (∀ i, i < n → (X.getD i []).Pairwise (· < ·)) → (edges43 X n).Pairwise ltE
  | 0, _ => by simp [edges43]
  | n + 1, h => by
    have e : edges43 X (n + 1) = edges43 X n ++ (X.getD n []).map fun x => (⟨(n : Int), x⟩ : S43) := by
      unfold edges43
      rw [List.range_succ, List.flatMap_append]
      simp
    rw [e, List.pairwise_append]
    refine ⟨edges43_sorted X n (fun i hi => h i (by omega)), ?_, fun a ha b hb => ?_⟩
    · rw [List.pairwise_map]
      exact (h n (by omega)).imp (fun h => .inr ⟨rfl, h⟩)
    · obtain ⟨i, hi, h1, _⟩ := (edges43_mem X n a).mp ha
      obtain ⟨x, _, rfl⟩ := List.mem_map.1 hb
      exact .inl (by show a.f0 < (n : Int); omega)
/-- Edges returns the edges in order. -/
theorem edges_rows {N : Nat} {l : List S43} (h : ∀ e, e ∈ l → okE (N : Int) e = true) : edges43 (rowsOf N (l.map to44) true) N = insL [] l := by
  refine sorted_ext (edges43_sorted _ _ fun i hi => ?_) (ins_sorted l) fun e => ?_
  · rw [rowsT_get N l true i hi, if_pos rfl]
    exact afterL_sorted (ins_sorted l) _
  · rw [edges43_mem]
    constructor
    · rintro ⟨i, hi, h1, h2⟩
      rw [rowsT_get N l true i hi, if_pos rfl, afterL_mem] at h2
      have : e = ⟨(i : Int), e.f1⟩ := by cases e; simp at h1; subst h1; rfl
      rw [this]; exact h2
    · intro he
      have := h e ((ins_mem l e).mp he)
      unfold okE at this
      simp only [Bool.and_eq_true, decide_eq_true_eq] at this
      refine ⟨e.f0.toNat, by omega, by omega, ?_⟩
      rw [rowsT_get N l true _ (by omega), if_pos rfl, afterL_mem, Int.toNat_of_nonneg this.1.1.1]
      exact he
def swapE (e : S43) : S43 := ⟨e.f1, e.f0⟩
theorem swap_ok {n : Int} {l : List S43} (h : ∀ e, e ∈ l → okE n e = true) : ∀ e, e ∈ l.map swapE → okE n e = true := by
  intro e he
  obtain ⟨x, hx, rfl⟩ := List.mem_map.1 he
  have := h x hx
  unfold okE swapE at *
  simp only [Bool.and_eq_true, decide_eq_true_eq] at *
  omega
theorem edges_rows_f {N : Nat} {l : List S43} (h : ∀ e, e ∈ l → okE (N : Int) e = true) : edges43 (rowsOf N (l.map to44) false) N = insL [] ((insL [] l).map swapE) := by
  refine sorted_ext (edges43_sorted _ _ fun i hi => ?_) (ins_sorted _) fun e => ?_
  · rw [rowsT_get N l false i hi, if_neg (by decide)]
    exact beforeL_sorted (ins_sorted l) _
  · rw [edges43_mem, ins_mem, List.mem_map]
    constructor
    · rintro ⟨i, hi, h1, h2⟩
      rw [rowsT_get N l false i hi, if_neg (by decide), beforeL_mem] at h2
      exact ⟨_, h2, by cases e; simp at h1; subst h1; rfl⟩
    · rintro ⟨x, hx, rfl⟩
      have := h x ((ins_mem l x).mp hx)
      unfold okE at this
      simp only [Bool.and_eq_true, decide_eq_true_eq] at this
      refine ⟨x.f1.toNat, by omega, by show x.f1 = _; omega, ?_⟩
      rw [rowsT_get N l false _ (by omega), if_neg (by decide), beforeL_mem, Int.toNat_of_nonneg this.1.2]
      exact hx
theorem rev_l0 {N : Nat} (hN : N ≤ 4096) (g : List S43) (hg : ∀ e, e ∈ g → okE (N : Int) e = true) (hl : g.length ≤ 65536) : ∀ (d i k : Nat) (out : List S43), i + d = g.length → d < k → out = (g.take i).map swapE → replevinref08_Reverse.l0 k out (i : Int) (N : Int) g = some ((N : Int), insL [] (g.map swapE))
  | 0, i, k, out, h, hk, ho => by
    obtain ⟨k, rfl⟩ : ∃ m, k = m + 1 := ⟨k - 1, by omega⟩
    simp only [replevinref08_Reverse.l0]
    rw [if_neg (by omega), ho, List.take_of_length_le (by omega), refnew_f hN (by rw [List.length_map]; exact hl) (swap_ok hg)]
    rfl
  | d + 1, i, k, out, h, hk, ho => by
    obtain ⟨k, rfl⟩ : ∃ m, k = m + 1 := ⟨k - 1, by omega⟩
    simp only [replevinref08_Reverse.l0]
    have hi : i < g.length := by omega
    have e : rd_T43 g (i : Int) = g[i] := by unfold rd_T43; simp [hi]
    rw [if_pos (by omega), if_pos (by omega), if_pos (by rw [ho, List.length_map, List.length_take]; omega), wrap_i64 (by omega) (by omega), show ((i : Int) + 1) = ((i + 1 : Nat) : Int) by omega, e]
    refine rev_l0 hN g hg hl d (i + 1) k _ (by omega) (by omega) ?_
    rw [take_map_succ g swapE i (List.getElem?_eq_getElem hi), ho]
    rfl
theorem rev_f {N : Nat} (hN : N ≤ 4096) (g : List S43) (hg : ∀ e, e ∈ g → okE (N : Int) e = true) (hl : g.length ≤ 65536) (k : Nat) (hk : g.length < k) : replevinref08_Reverse.f k (N : Int) g = some ((N : Int), insL [] (g.map swapE)) :=
  rev_l0 hN g hg hl g.length 0 k [] (by omega) hk rfl
theorem insL_len : ∀ (l g : List S43), (insL g l).length ≤ g.length + l.length
  | [], g => by simp [insL]
  | e :: l, g => by
    have h1 := insL_len l (insE g e)
    have h2 := insE_len g e
    rw [insL, List.length_cons]
    omega
theorem ins_ok {n : Int} {l : List S43} (h : ∀ e, e ∈ l → okE n e = true) : ∀ e, e ∈ insL [] l → okE n e = true := fun e he => h e ((ins_mem l e).mp he)
end Go.Proofs.Ythkgfmjgilkdeaa

/- graph.Equal. -/
namespace Go.Proofs.Ythkgfmjgilkdeaa
set_option linter.unusedVariables false
set_option linter.unusedSimpArgs false
open Go.RowKit Go.Shelf Go.Proofs.Ythkgfmjgilkdeaa.Q Go.Proofs.YthkgfmjgilkdeaaW.PrintWords Go.Proofs.YthkgfmjgilkdeaaW.PrintLast Go.Proofs.YthkgfmjgilkdeaaW.PrintMore
theorem eq_from (l m : List Int) (hlm : l.length = m.length) (hs : l.length ≤ 65536) : ∀ (d i k : Nat), i + d = l.length → d < k → l.take i = m.take i → slices_Equal_int_int.l0 k l m (l.length : Int) (i : Int) = some (decide (l = m))
  | 0, i, k, hi, hk, ht => by
    obtain ⟨k, rfl⟩ : ∃ z, k = z + 1 := ⟨k - 1, by omega⟩
    rw [slices_Equal_int_int.l0, if_neg (by omega)]
    have : l = m := by
      rw [List.take_of_length_le (by omega), List.take_of_length_le (by omega)] at ht
      exact ht
    rw [decide_eq_true this]
  | d + 1, i, k, hi, hk, ht => by
    obtain ⟨k, rfl⟩ : ∃ z, k = z + 1 := ⟨k - 1, by omega⟩
    have hil : i < l.length := by omega
    have him : i < m.length := by omega
    have r1 : rd l (i : Int) = l[i] := by unfold rd; simp [hil]
    have r2 : rd m (i : Int) = m[i] := by unfold rd; simp [him]
    rw [slices_Equal_int_int.l0, if_pos (by omega), if_pos (by omega), if_pos (by omega), if_pos (by omega), r1, r2]
    by_cases e : l[i] = m[i]
    · rw [if_pos e, show wrap64 ((i : Int) + 1) = ((i + 1 : Nat) : Int) by unfold wrap64; omega]
      refine eq_from l m hlm hs d (i + 1) k (by omega) (by omega) ?_
      rw [List.take_add_one, List.take_add_one, ht, List.getElem?_eq_getElem hil, List.getElem?_eq_getElem him, e]
    · rw [if_neg e]
      have : ¬ l = m := fun h => e (by subst h; rfl)
      rw [decide_eq_false this]
theorem equal_eq (l m : List Int) (hs : l.length ≤ 65536) : slices_Equal_int_int.f 65537 l m = some (decide (l = m)) := by
  unfold slices_Equal_int_int.f
  by_cases h : l.length = m.length
  · rw [if_pos (by omega)]
    exact eq_from l m h hs l.length 0 65537 (by omega) (by omega) (by simp)
  · rw [if_neg (by omega), decide_eq_false (fun e => h (by rw [e]))]
theorem closure41 {W : World} {A0 A1 : Option Addr} {c0 c1 : Nat} {l m : List Int} (h0 : kI.C W A0 l.length l) (hc0 : l.length ≤ c0) (h1 : kI.C W A1 m.length m) (hc1 : m.length ≤ c1) (hs : l.length ≤ 65536) :
    Calls Try.prog 41 #[.slice A0 l.length c0, .slice A1 m.length c1] W fun e w' => e = .returned (.bool (decide (l = m))) ∧ Drawn0 W w' := by
  have HC := Aside0.mk (slices_Equal_int_int.calls 65537 A0 c0 l A1 c1 m (decide (l = m)) W h0 hc0 h1 hc1 (equal_eq l m hs))
  obtain ⟨r, hr⟩ : ∃ r, r = decide (l = m) := ⟨_, rfl⟩
  rw [← hr] at HC ⊢
  clear hr h0 hc0 h1 hc1
  go_enter Try.func41, Try.ntmps41
  go_wp2_with (go_at_call 42; refine HC.out.mono ?_; rintro e w2 ⟨rfl, hd⟩)
  go_ret
  exact ⟨rfl, hd⟩
set_option maxHeartbeats 4000000 in
set_option maxRecDepth 100000 in
theorem EqualFunc_calls {w : World} {A B : Option Addr} {cx cz : Nat} {X Z : List (List Int)} (hX : kL.C w A X.length X) (hZ : kL.C w B Z.length Z) (few : X.length ≤ 4096) (fewX : ∀ l, l ∈ X → l.length ≤ 65536) :
    Calls Try.prog 40 #[.slice A X.length cx, .slice B Z.length cz, .func (.func 41) #[] #[]] w fun e w' => e = .returned (.bool (decide (X = Z))) ∧ Drawn0 w w' := by
  have HX := Aside0.mk hX
  have HZ := Aside0.mk hZ
  have HF := Aside0.mk fewX
  obtain ⟨N, hN⟩ : ∃ N, N = X.length := ⟨_, rfl⟩
  have HN := Aside0.mk hN
  obtain ⟨M, hM⟩ : ∃ M, M = Z.length := ⟨_, rfl⟩
  have HM := Aside0.mk hM
  obtain ⟨r, hr⟩ : ∃ r, r = decide (X = Z) := ⟨_, rfl⟩
  have HR := Aside0.mk hr
  rw [← hN] at few
  rw [← hN, ← hM, ← hr]
  by_cases hNM : N = M
  · have b1 : ((N : Int) != (M : Int)) = false := by simp [hNM]
    have HNM := Aside0.mk hNM
    clear hX hZ hN hM hr hNM fewX
    go_enter Try.func40, Try.ntmps40
    go_wp2_with fail
    go_loopg [17] N (fun kq v17 w' => ∃ (j q : Nat), v17 = .int .i64 j ∧ j + kq = N ∧ Aside0 (X.take j = Z.take j) ∧ w' = w.drewN q)
    case atStart => exact ⟨0, 0, rfl, by omega, ⟨by simp⟩, rfl⟩
    case round =>
      obtain ⟨j, q, rfl, hj, HT, rfl⟩ := hrel
      cases gk with
      | zero =>
        have ej : j = N := by omega
        rw [ej] at HT
        rw [ej]
        clear ej hj
        go_wp2_with fail
        go_ret
        have e1 : X = Z := by
          have := HT.out
          rw [List.take_of_length_le (by rw [HN.out]; exact Nat.le_refl _), List.take_of_length_le (by have := HNM.out; have := HM.out; omega)] at this
          exact this
        exact ⟨by rw [HR.out, decide_eq_true e1]; rfl, by repeat (first | exact Drawn0.refl _ | apply Drawn0.step)⟩
      | succ k1 =>
        have hjN : j < N := by omega
        have c0 : (0 : Int) ≤ (j : Int) := by omega
        have c1 : (j : Int) < (N : Int) := by omega
        have hjX : j < X.length := by have := HN.out; omega
        have hjZ : j < Z.length := by have := HM.out; have := HNM.out; omega
        obtain ⟨ad, A0, d0, e0, hc, hlc, hC⟩ := at_L4 HX.out (j : Int) c0 (by have := HN.out; omega)
        obtain ⟨bd, B0, f0, g0, hcb, hlb, hCb⟩ := at_L4 HZ.out (j : Int) c0 (by omega)
        rw [Int.toNat_natCast] at hc hcb
        subst e0 g0
        have c2 : (j : Int) < (M : Int) := by have := HNM.out; omega
        have e1 : rd_L4 X (j : Int) = X.getD j [] := rfl
        have e2 : rd_L4 Z (j : Int) = Z.getD j [] := rfl
        have g1 : X[j]? = some (X.getD j []) := by rw [List.getD_eq_getElem?_getD, List.getElem?_eq_getElem hjX]; rfl
        have g2 : Z[j]? = some (Z.getD j []) := by rw [List.getD_eq_getElem?_getD, List.getElem?_eq_getElem hjZ]; rfl
        have hC1 := closure41 (W := w.drewN q) (Kd.C_below hC (pw_below_drewN (Below.refl _ _) q)) hlc (Kd.C_below hCb (pw_below_drewN (Below.refl _ _) q)) hlb (by rw [e1, List.getD_eq_getElem?_getD, List.getElem?_eq_getElem hjX]; exact HF.out _ (List.getElem_mem hjX))
        have HCl := Aside0.mk hC1
        obtain ⟨l, hl⟩ : ∃ z, z = rd_L4 X (j : Int) := ⟨_, rfl⟩
        obtain ⟨m, hm⟩ : ∃ z, z = rd_L4 Z (j : Int) := ⟨_, rfl⟩
        rw [← hl] at hc HCl
        rw [← hm] at hcb HCl
        have El := Aside0.mk (hl.trans e1)
        have Em := Aside0.mk (hm.trans e2)
        have HX1 := Aside0.mk g1
        have HZ1 := Aside0.mk g2
        clear g1 g2 e1 e2 hl hm hC hCb hlc hlb hC1 hjX hjZ
        by_cases hlm : l = m
        · have Hlm := Aside0.mk hlm
          rw [decide_eq_true hlm] at HCl
          clear hlm
          go_wp2_with (go_at_call 41; refine HCl.out.mono ?_; rintro e w2 ⟨rfl, ⟨q2, rfl⟩⟩)
          go_roundg k1
          case measure => omega
          case rel => exact ⟨j + 1, q + q2, by go_num, by omega, ⟨by rw [List.take_add_one, List.take_add_one, HT.out, HX1.out, HZ1.out, ← El.out, ← Em.out, Hlm.out]⟩, by simp [World.drewN, Nat.add_assoc]⟩
        · have Hlm := Aside0.mk hlm
          rw [decide_eq_false hlm] at HCl
          clear hlm
          go_wp2_with (go_at_call 41; refine HCl.out.mono ?_; rintro e w2 ⟨rfl, ⟨q2, rfl⟩⟩)
          go_ret
          have e3 : ¬ X = Z := fun h => Hlm.out (by rw [El.out, Em.out]; subst h; rfl)
          exact ⟨by rw [HR.out, decide_eq_false e3]; rfl, by repeat (first | exact Drawn0.refl _ | apply Drawn0.step)⟩
  · have b1 : ((N : Int) != (M : Int)) = true := by rw [bne_iff_ne]; omega
    have HNM := Aside0.mk hNM
    clear hX hZ hN hM hr hNM fewX
    go_enter Try.func40, Try.ntmps40
    go_wp2_with fail
    go_ret
    have e3 : ¬ X = Z := fun h => HNM.out (by rw [HN.out, HM.out, h])
    exact ⟨by rw [HR.out, decide_eq_false e3]; rfl, by repeat (first | exact Drawn0.refl _ | apply Drawn0.step)⟩
def EqualR.T3 : Bool × List (List Nat × List Nat) := (true, [([], []), ([0], [0]), ([1], [1]), ([2], [2]), ([], []), ([4], [4]), ([5], [5]), ([6], [6]), ([3, 7], [3, 7]), ([8, 8, 0, 1, 2, 3, 4, 5, 6, 7, 8], [8])])
def EqualR.B3 : List Nat := [0, 1, 3, 7, 0, 16, 48, 112, 255, 511]
theorem EqualR.tab3 : rtab .any (opsOf Try.f24 3) = EqualR.T3 := by kernel_rfl
theorem EqualR.bits3 : waitsOk EqualR.T3.2 EqualR.B3 = true := by kernel_rfl
set_option maxHeartbeats 4000000 in
set_option maxRecDepth 100000 in
theorem Equal_calls {w : World} {b b' : Nat} {X Y Z V : List (List Int)} (hG : IsG w b X Y) (hG' : IsG w b' Z V) :
    Calls Try.prog 24 #[.pointer (some ⟨b, 0, none⟩), .pointer (some ⟨b', 0, none⟩)] w fun e w' => e = .returned (.bool (decide (X = Z))) ∧ Below w.heap.size w w' := by
  obtain ⟨g, h, cx, cy, hb, hX, hY, -, -⟩ := hG.ex
  obtain ⟨g', h', cx', cy', hb', hX', hY', -, -⟩ := hG'.ex
  have z0 : w.drew.cell? ⟨b, 0, none⟩ = some (.slice g X.length cx) := (blk_cell hb 0).trans rfl
  have z1 : w.drew.cell? ⟨b', 0, none⟩ = some (.slice g' Z.length cx') := (blk_cell hb' 0).trans rfl
  have HC := Aside0.mk (EqualFunc_calls (w := w.drew) (cx := cx) (cz := cx') (Kd.C_below hX (below_drew1 (Below.refl _ _))) (Kd.C_below hX' (below_drew1 (Below.refl _ _))) hG.few hG.fewX)
  have HB0 := Aside0.mk (below_drew1 (Below.refl w.heap.size w))
  obtain ⟨r, hr⟩ : ∃ r, r = decide (X = Z) := ⟨_, rfl⟩
  rw [← hr] at HC ⊢
  clear hr hX hX' hY hY' hb hb' hG hG'
  go_enter Try.func24, Try.ntmps24
  go_upto_region 3 with fail
  refine start_ (n := 10) (S := fun w' => w'.cell? ⟨b, 0, none⟩ = some (.slice g X.length cx) ∧ w'.cell? ⟨b', 0, none⟩ = some (.slice g' Z.length cx')) (ds := []) #[false, false, false, false, false, false, false, false, false, false] (by kernel_rfl) rfl rfl ⟨z0, z1⟩ (fun hHeld => ?_)
  refine with_tabW EqualR.tab3 EqualR.bits3 (fun HT_ HW_ => ?_)
  generalize w.drew = w5 at z0 z1 HC HB0 hHeld ⊢
  refine pure_ (i := 0) (N := some 14) (v := ?_) (a' := ?_) #[true, false, false, false, false, false, false, false, false, false] rfl rfl (any_of HT_.out (by kernel_rfl)) (fun _ _ _ h => h) (Or.inl ⟨by rfl, ?_⟩) ?_ ?_
  rotate_left
  · intro w'
    go_simp
    with_reducible rfl
  rotate_left
  · simp only [Act.put, List.setIfInBounds_toArray, List.set_cons_zero, List.set_cons_succ, i64_w, i32_w]
    rfl
  refine pure_ (i := 1) (N := some 15) (v := ?_) (a' := ?_) #[true, true, false, false, false, false, false, false, false, false] rfl rfl (any_of HT_.out (by kernel_rfl)) (fun _ _ _ h => h) (Or.inl ⟨by rfl, ?_⟩) ?_ ?_
  rotate_left
  · intro w'
    go_simp
    with_reducible rfl
  rotate_left
  · simp only [Act.put, List.setIfInBounds_toArray, List.set_cons_zero, List.set_cons_succ, i64_w, i32_w]
    rfl
  refine pure_ (i := 2) (N := some 16) (v := ?_) (a' := ?_) #[true, true, true, false, false, false, false, false, false, false] rfl rfl (any_of HT_.out (by kernel_rfl)) (fun _ _ _ h => h) (Or.inl ⟨by rfl, ?_⟩) ?_ ?_
  rotate_left
  · intro w'
    go_simp
    with_reducible rfl
  rotate_left
  · simp only [Act.put, List.setIfInBounds_toArray, List.set_cons_zero, List.set_cons_succ, i64_w, i32_w]
    rfl
  refine pure_ (i := 4) (N := some 18) (v := ?_) (a' := ?_) #[true, true, true, false, true, false, false, false, false, false] rfl rfl (any_of HT_.out (by kernel_rfl)) (fun _ _ _ h => h) (Or.inl ⟨by rfl, ?_⟩) ?_ ?_
  rotate_left
  · intro w'
    go_simp
    with_reducible rfl
  rotate_left
  · simp only [Act.put, List.setIfInBounds_toArray, List.set_cons_zero, List.set_cons_succ, i64_w, i32_w]
    rfl
  refine pure_ (i := 5) (N := some 19) (v := ?_) (a' := ?_) #[true, true, true, false, true, true, false, false, false, false] rfl rfl (any_of HT_.out (by kernel_rfl)) (fun _ _ _ h => h) (Or.inl ⟨by rfl, ?_⟩) ?_ ?_
  rotate_left
  · intro w'
    go_simp
    with_reducible rfl
  rotate_left
  · simp only [Act.put, List.setIfInBounds_toArray, List.set_cons_zero, List.set_cons_succ, i64_w, i32_w]
    rfl
  refine pure_ (i := 6) (N := some 20) (v := ?_) (a' := ?_) #[true, true, true, false, true, true, true, false, false, false] rfl rfl (any_of HT_.out (by kernel_rfl)) (fun _ _ _ h => h) (Or.inl ⟨by rfl, ?_⟩) ?_ ?_
  rotate_left
  · intro w'
    go_simp
    with_reducible rfl
  rotate_left
  · simp only [Act.put, List.setIfInBounds_toArray, List.set_cons_zero, List.set_cons_succ, i64_w, i32_w]
    rfl
  refine take_ (i := 3) (N := some 17) (v := ?_) (a' := ?_) #[true, true, true, true, true, true, true, false, false, false] rfl rfl (take_ofW HT_.out HW_.out (by kernel_rfl)) (fun _ _ _ h => h) (Or.inl ⟨by rfl, ?_⟩) hHeld ?_ ?_
  rotate_left
  · rintro w' ⟨s0, s1⟩
    go_simp
    with_reducible rfl
  rotate_left
  · simp only [Act.put, List.setIfInBounds_toArray, List.set_cons_zero, List.set_cons_succ, i64_w, i32_w]
    rfl
  refine take_ (i := 7) (N := some 21) (v := ?_) (a' := ?_) #[true, true, true, true, true, true, true, true, false, false] rfl rfl (take_ofW HT_.out HW_.out (by kernel_rfl)) (fun _ _ _ h => h) (Or.inl ⟨by rfl, ?_⟩) hHeld ?_ ?_
  rotate_left
  · rintro w' ⟨s0, s1⟩
    go_simp
    with_reducible rfl
  rotate_left
  · simp only [Act.put, List.setIfInBounds_toArray, List.set_cons_zero, List.set_cons_succ, i64_w, i32_w]
    rfl
  refine one_ (i := 8) (N := some 22) #[true, true, true, true, true, true, true, true, true, false] rfl rfl (one_of HT_.out (by kernel_rfl)) (by decide) (fun K hK => ?_)
  refine goes_ Try.func40 (by kernel_rfl) rfl #[.slice g X.length cx, .slice g' Z.length cx', .func (.func 41) #[] #[]] (by rfl) rfl rfl (by simp only [List.map_toArray, List.map_cons, List.map_nil]; rfl) ?_
  with_reducible refine (HC.out).mono ?_
  rintro e w6 ⟨rfl, ⟨q6, hq6⟩⟩
  refine ⟨_, rfl, ?_⟩
  have y0 : w6.cell? ⟨b, 0, none⟩ = some (.slice g X.length cx) := hq6 ▸ z0
  have y1 : w6.cell? ⟨b', 0, none⟩ = some (.slice g' Z.length cx') := hq6 ▸ z1
  have HB1 := Aside0.mk (show Below w.heap.size w w6 from hq6 ▸ pw_below_drewN HB0.out q6)
  clear hq6
  refine hK.out _ _ ⟨y0, y1⟩ (fun hHeld => ?_)
  clear hK K
  refine norm_ (a' := ?_) ?_ ?_
  rotate_left
  · show Act.put _ (some 22) _ = _
    simp only [Act.put, List.setIfInBounds_toArray, List.set_cons_zero, List.set_cons_succ, i64_w, i32_w]
    rfl
  refine pure_ (i := 9) (N := some 4) (v := ?_) (a' := ?_) #[true, true, true, true, true, true, true, true, true, true] rfl rfl (any_of HT_.out (by kernel_rfl)) (fun _ _ _ h => h) (Or.inl ⟨by rfl, ?_⟩) ?_ ?_
  rotate_left
  · intro w'
    go_simp
    with_reducible rfl
  rotate_left
  · simp only [Act.put, List.setIfInBounds_toArray, List.set_cons_zero, List.set_cons_succ, i64_w, i32_w]
    rfl
  refine done_ (done_of HT_.out (by kernel_rfl)) ?_

  go_wp2_with fail
  go_ret
  exact ⟨rfl, HB1.out⟩
end Go.Proofs.Ythkgfmjgilkdeaa

/- The two graphs of one input side by side: each function's call, as the laws want it. -/
namespace Go.Proofs.Ythkgfmjgilkdeaa
set_option linter.unusedVariables false
set_option linter.unusedSimpArgs false
open Go.RowKit Go.Shelf Go.Proofs.Ythkgfmjgilkdeaa.Q Go.Proofs.YthkgfmjgilkdeaaW.PrintWords Go.Proofs.YthkgfmjgilkdeaaW.PrintLast Go.Proofs.YthkgfmjgilkdeaaW.PrintMore
/-- A list of numbers in memory. -/
def Ls (W : World) (A : Option Addr) (c : Nat) (L : List Int) : Prop := L.length ≤ c ∧ kI.C W A L.length L
theorem Ls.below {W W' : World} {A : Option Addr} {c : Nat} {L : List Int} (h : Ls W A c L) (hb : Below W.heap.size W W') : Ls W' A c L := ⟨h.1, Kd.C_below h.2 hb⟩
theorem Ls.of_R {W : World} {base : Nat} {v : Value} {L : List Int} (h : kI.R 3 W base (fun _ => True) v L) : ∃ A c, v = .slice A L.length c ∧ Ls W A c L := by
  obtain ⟨A, c, e, h1, h2⟩ := Kd.R_reads h
  exact ⟨A, c, e, h1, h2⟩
/-- The graph in block b, the reference's graph in the box b8. -/
structure LG (W : World) (b b8 N : Nat) (A5 : Option Addr) (c5 : Nat) (E : List S43) : Prop where
  g : IsG W b (rowsOf N (E.map to44) true) (rowsOf N (E.map to44) false)
  box : W.heap[b8]? = some (.cells #[.int .i64 N, .slice A5 (insL [] E).length c5] 26 (0, 0))
  ref : k43.C W A5 (insL [] E).length (insL [] E)
  rc : (insL [] E).length ≤ c5
  ok : ∀ e, e ∈ E → okE (N : Int) e = true
  n1 : 1 ≤ N
  n2 : N ≤ 30
  el : E.length ≤ 120
section
variable {W W' : World} {b b8 N : Nat} {A5 : Option Addr} {c5 : Nat} {E : List S43}
theorem LG.below (h : LG W b b8 N A5 c5 E) (hb : Below W.heap.size W W') : LG W' b b8 N A5 c5 E := ⟨h.g.below hb, blk_below h.box hb, Kd.C_below h.ref hb, h.rc, h.ok, h.n1, h.n2, h.el⟩
theorem LG.rl (h : LG W b b8 N A5 c5 E) : (insL [] E).length ≤ 120 := by
  have := insL_len E []
  have := h.el
  simp at *
  omega
theorem LG.c0 (h : LG W b b8 N A5 c5 E) : W.cell? ⟨b8, 0, none⟩ = some (.int .i64 N) := (blk_cell h.box 0).trans rfl
theorem LG.c1 (h : LG W b b8 N A5 c5 E) : W.cell? ⟨b8, 1, none⟩ = some (.slice A5 (insL [] E).length c5) := (blk_cell h.box 1).trans rfl
theorem lg_after (h : LG W b b8 N A5 c5 E) (n : Int) : Calls Try.prog 14 #[.pointer (some ⟨b, 0, none⟩), .int .i64 n] W fun e W' => ∃ A c, e = .returned (.slice A (afterL (insL [] E) n).length c) ∧ Ls W' A c (afterL (insL [] E) n) ∧ LG W' b b8 N A5 c5 E ∧ Below W.heap.size W W' := by
  refine (After_calls h.g n).mono ?_
  rintro e W' ⟨v, rfl, hv, hb⟩
  rw [row_after h.ok] at hv
  obtain ⟨A, c, rfl, hl⟩ := Ls.of_R hv
  exact ⟨A, c, rfl, hl, h.below hb, hb⟩
theorem lg_before (h : LG W b b8 N A5 c5 E) (n : Int) : Calls Try.prog 16 #[.pointer (some ⟨b, 0, none⟩), .int .i64 n] W fun e W' => ∃ A c, e = .returned (.slice A (beforeL (insL [] E) n).length c) ∧ Ls W' A c (beforeL (insL [] E) n) ∧ LG W' b b8 N A5 c5 E ∧ Below W.heap.size W W' := by
  refine (Before_calls h.g n).mono ?_
  rintro e W' ⟨v, rfl, hv, hb⟩
  rw [row_before h.ok] at hv
  obtain ⟨A, c, rfl, hl⟩ := Ls.of_R hv
  exact ⟨A, c, rfl, hl, h.below hb, hb⟩
theorem lg_rafter (h : LG W b b8 N A5 c5 E) (n : Int) : Calls Try.prog 15 #[.agg #[.int .i64 N, .slice A5 (insL [] E).length c5], .int .i64 n] W fun e W' => ∃ A c, e = .returned (.slice A (afterL (insL [] E) n).length c) ∧ Ls W' A c (afterL (insL [] E) n) ∧ LG W' b b8 N A5 c5 E ∧ Below W.heap.size W W' := by
  have := h.rl
  refine (replevinref08_After.calls ((insL [] E).length + 1) (N : Int) A5 c5 (insL [] E) n _ W h.ref h.rc (after_f (N : Int) (insL [] E) n (by omega) _ (by omega))).mono ?_
  rintro e W' ⟨v, rfl, hv, hb⟩
  obtain ⟨A, c, rfl, hl⟩ := Ls.of_R hv
  exact ⟨A, c, rfl, hl, h.below hb, hb⟩
theorem lg_rbefore (h : LG W b b8 N A5 c5 E) (n : Int) : Calls Try.prog 17 #[.agg #[.int .i64 N, .slice A5 (insL [] E).length c5], .int .i64 n] W fun e W' => ∃ A c, e = .returned (.slice A (beforeL (insL [] E) n).length c) ∧ Ls W' A c (beforeL (insL [] E) n) ∧ LG W' b b8 N A5 c5 E ∧ Below W.heap.size W W' := by
  have := h.rl
  refine (replevinref08_Before.calls ((insL [] E).length + 1) (N : Int) A5 c5 (insL [] E) n _ W h.ref h.rc (before_f (N : Int) (insL [] E) n (by omega) _ (by omega))).mono ?_
  rintro e W' ⟨v, rfl, hv, hb⟩
  obtain ⟨A, c, rfl, hl⟩ := Ls.of_R hv
  exact ⟨A, c, rfl, hl, h.below hb, hb⟩
theorem lg_same (h : LG W b b8 N A5 c5 E) {A B : Option Addr} {c d : Nat} {L : List Int} (h1 : Ls W A c L) (h2 : Ls W B d L) (hl : L.length ≤ 65536) :
    Calls Try.prog 13 #[.slice A L.length c, .slice B L.length d] W fun e W' => e = .returned (.bool true) ∧ LG W' b b8 N A5 c5 E ∧ Below W.heap.size W W' := by
  refine (replevinref08_Same.calls (L.length + 1) A c L B d L true W h1.2 h1.1 h2.2 h2.1 (by rw [same_f L L (by omega) _ (by omega)]; simp)).mono ?_
  rintro e W' ⟨rfl, q, hq⟩
  have hb : Below W.heap.size W W' := by rw [hq]; exact pw_below_drewN (Below.refl _ _) q
  exact ⟨rfl, h.below hb, hb⟩
theorem afterL_len (g : List S43) (n : Int) : (afterL g n).length ≤ g.length := by unfold afterL; rw [List.length_map]; exact List.length_filter_le _ _
theorem beforeL_len (g : List S43) (n : Int) : (beforeL g n).length ≤ g.length := by unfold beforeL; rw [List.length_map]; exact List.length_filter_le _ _
theorem lg_has (h : LG W b b8 N A5 c5 E) (i j : Int) (h0 : 0 ≤ i) (h1 : i < N) : Calls Try.prog 18 #[.pointer (some ⟨b, 0, none⟩), .int .i64 i, .int .i64 j] W fun e W' => e = .returned (.bool (decide (j ∈ afterL (insL [] E) i))) ∧ LG W' b b8 N A5 c5 E ∧ Below W.heap.size W W' := by
  have hrl := h.rl
  have hal := afterL_len (insL [] E) i
  obtain ⟨t, ht⟩ := bin_f (afterL (insL [] E) i) j (afterL_sorted (ins_sorted E) i) (by omega)
  rw [← row_after h.ok i] at ht
  refine (Has_in h.g i j h0 (by rw [rowsT_len]; exact h1) _ t _ ht).mono ?_
  rintro e W' ⟨rfl, q, hq⟩
  have hb : Below W.heap.size W W' := by rw [hq]; exact pw_below_drewN (Below.refl _ _) q
  exact ⟨by rw [row_after h.ok i], h.below hb, hb⟩
theorem lg_hasnot (h : LG W b b8 N A5 c5 E) (i j : Int) (h0 : ¬ (0 ≤ i ∧ i < N)) : Calls Try.prog 18 #[.pointer (some ⟨b, 0, none⟩), .int .i64 i, .int .i64 j] W fun e W' => e = .returned (.bool false) ∧ LG W' b b8 N A5 c5 E ∧ Below W.heap.size W W' := by
  refine (Has_out h.g i j (by rw [rowsT_len]; exact h0)).mono ?_
  rintro e W' ⟨rfl, q, hq⟩
  have hb : Below W.heap.size W W' := by rw [hq]; exact pw_below_drewN (Below.refl _ _) q
  exact ⟨rfl, h.below hb, hb⟩
end
end Go.Proofs.Ythkgfmjgilkdeaa

/- A slice of the reference's edges, as it came in, read as a list. -/
namespace Go.Proofs.Ythkgfmjgilkdeaa
set_option linter.unusedVariables false
set_option linter.unusedSimpArgs false
open Go.RowKit Go.ChangeShapes Go.WideShapes Go.Deep Go.Proofs.Ythkgfmjgilkdeaa.Q Go.Proofs.YthkgfmjgilkdeaaW.PrintWords Go.Proofs.YthkgfmjgilkdeaaW.PrintLast
section
variable {H : Type} {enc : TypeId × Value → H} {w : World} {base : Nat} {spare : Nat → Bool} {held : Bool}
set_option maxRecDepth 100000 in
theorem edge_cells {fuel : Nat} {cs : List Value} {x : DataW H × List MemPlace} (hC : Try.prog.cellsOf 43 = 2) (h3 : Try.prog.cellsOf 3 = 1) (h : DataW.trod enc Try.prog w base spare held fuel 43 cs = some x) :
    ∃ s : S43, cs = [.int .i64 s.f0, .int .i64 s.f1] := by
  obtain ⟨xs, n, _, _, hl, hxl, hf⟩ := DataW.trod_struct Try.underlying43 h
  replace hxl : xs.length = 2 := hxl
  rw [hC] at hl
  match cs, hl with
  | [c0, c1], _ =>
    have e0 : DataW.trod enc Try.prog w base spare held n 3 (([c0, c1].drop 0).take (Try.prog.cellsOf 3)) = xs[0]? := hf 0 _ rfl
    have e1 : DataW.trod enc Try.prog w base spare held n 3 (([c0, c1].drop 1).take (Try.prog.cellsOf 3)) = xs[1]? := hf 1 _ rfl
    rw [h3] at e0 e1
    obtain ⟨a, ha, -, -⟩ := DataW.trod_int Try.underlying3 (x := xs[0]'(by omega)) (by rw [e0]; exact List.getElem?_eq_getElem (by omega))
    obtain ⟨b, hb, -, -⟩ := DataW.trod_int Try.underlying3 (x := xs[1]'(by omega)) (by rw [e1]; exact List.getElem?_eq_getElem (by omega))
    simp at ha hb
    subst ha hb
    exact ⟨⟨a, b⟩, rfl⟩
set_option maxRecDepth 100000 in
theorem edge_rows {fuel : Nat} {A : Option Addr} {len cap : Nat} {x : DataW H × List MemPlace} (hC : Try.prog.cellsOf 43 = 2) (h3 : Try.prog.cellsOf 3 = 1) (hsp : ∀ b, spare b = true)
    (h : DataW.trod enc Try.prog w base spare held fuel 22 [.slice A len cap] = some x) : ∃ l : List S43, l.length = len ∧ len ≤ cap ∧ Kd.C k43 w A l.length l := by
  rcases open_slice Try.underlying22 h with ⟨hcs, _⟩ | ⟨a, l, c, m, n, D, Pl, hcs, _, hl, hm, hmm, _, hx⟩
  · simp at hcs
    obtain ⟨rfl, rfl, rfl⟩ := hcs
    exact ⟨[], rfl, Nat.le_refl _, Kd.C_nil _ _⟩
  · simp at hcs
    obtain ⟨rfl, rfl, rfl⟩ := hcs
    rw [hsp] at hmm
    simp only [if_true] at hmm
    have hi : ∀ i, i < len → ∃ s : S43, ∀ (j : Nat) (u : Value), [Value.int .i64 s.f0, .int .i64 s.f1][j]? = some u → w.cell? (a.add (i * 2 + j)) = some u := by
      intro i hi
      obtain ⟨cs, h1, h2⟩ := hx i (by omega)
      rw [hC] at h1
      obtain ⟨s, rfl⟩ := edge_cells hC h3 h2
      obtain ⟨_, _, hc⟩ := World.cells?_some h1
      refine ⟨s, fun j u hj => ?_⟩
      have hj4 : j < 2 := by
        have := (List.getElem?_eq_some_iff.1 hj).1
        simpa using this
      rw [← hj, ← hc j hj4]
      rw [Go.Deep.add_add]
    have : Inhabited S43 := ⟨z43⟩
    obtain ⟨f, hf⟩ := choose_lt hi
    refine ⟨(List.range len).map f, by simp, hl, by simp, ?_, fun _ => ⟨a, rfl, fun j p hj => ?_⟩⟩
    · have : maxLen ≤ 9223372036854775807 := Nat.le_refl _
      simp
      omega
    · obtain ⟨hjl, rfl⟩ : j < len ∧ p = f j := by
        rw [List.getElem?_map] at hj
        by_cases hjl : j < len
        · rw [List.getElem?_range hjl] at hj
          simp at hj
          exact ⟨hjl, hj.symm⟩
        · rw [List.getElem?_eq_none (by simp; omega)] at hj
          simp at hj
      exact ⟨_, rfl, k43_mk w (f j), hf j hjl⟩
end
end Go.Proofs.Ythkgfmjgilkdeaa

/- Arguments read: a byte. -/
namespace Go.Proofs.Ythkgfmjgilkdeaa
set_option linter.unusedVariables false
set_option linter.unusedSimpArgs false
open Go.RowKit
theorem u8_nat {a : Int} (hw : (Lit.int .u8 a).wf = true) : ∃ n : Nat, a = n ∧ n < 256 := by
  simp only [Lit.wf, Bool.and_eq_true, decide_eq_true_eq] at hw
  have h1 : IntKind.u8.min = 0 := by decide
  have h2 : IntKind.u8.max = 255 := by decide
  rw [h1, h2] at hw
  exact ⟨a.toNat, by omega, by omega⟩
end Go.Proofs.Ythkgfmjgilkdeaa
