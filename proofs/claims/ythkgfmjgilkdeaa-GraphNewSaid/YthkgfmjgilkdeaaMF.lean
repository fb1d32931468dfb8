/- Several texts of this session in one file. -/
import Derived.Test.YthkgfmjgilkdeaaME
import Derived.Test.YthkgfmjgilkdeaaHNew
import Derived.Test.YthkgfmjgilkdeaaMC
import Derived.Test.YthkgfmjgilkdeaaMD
import Derived.Test.YthkgfmjgilkdeaaQx8
import Derived.Test.YthkgfmjgilkdeaaHRefNew
import Derived.Test.YthkgfmjgilkdeaaQx6
/- Plain laws: Same, a permutation that is sorted, the visit of Components returns. -/
namespace Go.Proofs.Ythkgfmjgilkdeaa
set_option linter.unusedVariables false
set_option linter.unusedSimpArgs false
open Go.RowKit Go.Proofs.Ythkgfmjgilkdeaa.Q Go.Proofs.YthkgfmjgilkdeaaW.PrintWords Go.Proofs.YthkgfmjgilkdeaaW.PrintLast Go.Proofs.YthkgfmjgilkdeaaW.PrintMore
theorem wrap_i64 {x : Int} (h1 : 0 ≤ x) (h2 : x < 9223372036854775808) : wrap64 x = x := by unfold wrap64; omega
theorem same_l0 (a b : List Int) (hl : a.length = b.length) (hb : a.length < 9223372036854775807) : ∀ (d i k : Nat), i + d = a.length → d < k → replevinref08_Same.l0 k a b (i : Int) = some (decide (a.drop i = b.drop i))
  | 0, i, k, h, hk => by
    obtain ⟨k, rfl⟩ : ∃ m, k = m + 1 := ⟨k - 1, by omega⟩
    simp only [replevinref08_Same.l0]
    rw [if_neg (by omega), List.drop_of_length_le (by omega), List.drop_of_length_le (by omega)]
    simp
  | d + 1, i, k, h, hk => by
    obtain ⟨k, rfl⟩ : ∃ m, k = m + 1 := ⟨k - 1, by omega⟩
    simp only [replevinref08_Same.l0]
    rw [if_pos (by omega), if_pos (by omega), if_pos (by omega)]
    have hia : i < a.length := by omega
    have hib : i < b.length := by omega
    have ea : rd a (i : Int) = a[i] := by unfold rd; simp [hia]
    have eb : rd b (i : Int) = b[i] := by unfold rd; simp [hib]
    have ha2 := List.drop_eq_getElem_cons hia
    have hb2 := List.drop_eq_getElem_cons hib
    rw [ea, eb]
    by_cases e : a[i] = b[i]
    · rw [if_pos e, wrap_i64 (by omega) (by omega)]
      have := same_l0 a b hl hb d (i + 1) k (by omega) (by omega)
      rw [show ((i : Int) + 1) = ((i + 1 : Nat) : Int) by omega, this, ha2, hb2]
      exact congrArg some (decide_eq_decide.mpr (by rw [List.cons.injEq]; exact ⟨fun h => ⟨e, h⟩, fun h => h.2⟩))
    · rw [if_neg e, ha2, hb2]
      exact congrArg some (decide_eq_false (by rw [List.cons.injEq]; exact fun h => e h.1)).symm
theorem same_f (a b : List Int) (hb : a.length < 9223372036854775807) (k : Nat) (hk : a.length < k) : replevinref08_Same.f k a b = some (decide (a = b)) := by
  unfold replevinref08_Same.f
  by_cases h : a.length = b.length
  · rw [if_pos (by omega)]
    have := same_l0 a b h hb a.length 0 k (by omega) hk
    simpa using this
  · rw [if_neg (by omega)]
    have : a ≠ b := fun e => h (by rw [e])
    simp [this]
/-- Two sorted lists of the same members, no key twice. -/
theorem perm_sorted {α : Type} (key : α → Int) : ∀ {l m : List α}, l.Perm m → l.Pairwise (fun x y => key x ≤ key y) → m.Pairwise (fun x y => key x < key y) → l = m
  | [], m, h, _, _ => (List.nil_perm.mp h).symm
  | a :: l, [], h, _, _ => absurd h (by simp)
  | a :: l, b :: m, h, hl, hm => by
    rw [List.pairwise_cons] at hl hm
    have hab : a = b := by
      have h1 : a ∈ b :: m := h.mem_iff.mp (List.mem_cons_self ..)
      have h2 : b ∈ a :: l := h.mem_iff.mpr (List.mem_cons_self ..)
      rcases List.mem_cons.mp h1 with e | h1
      · exact e
      · rcases List.mem_cons.mp h2 with e | h2
        · exact e.symm
        · have := hm.1 a h1
          have := hl.1 b h2
          omega
    subst hab
    rw [perm_sorted key (List.Perm.cons_inv h) hl.2 hm.2]
theorem srt_eq {l m : List Int} (h : m.Perm l) (hm : m.Pairwise (· < ·)) : srt l = m := by
  refine perm_sorted (fun x => x) ((List.mergeSort_perm l _).trans h.symm) ?_ hm
  have := List.pairwise_mergeSort (le := fun x y : Int => decide (x ≤ y)) (fun a b c h1 h2 => by simp at *; omega) (fun a b => by simp; omega) l
  exact this.imp (fun h => by simpa using h)
/-- How many are not marked. -/
def unm (m : List Bool) : Nat := m.count false
theorem unm_set (m : List Bool) (n : Nat) (h : n < m.length) (hf : m.getD n false = false) : unm (m.set n true) + 1 = unm m := by
  unfold unm
  induction m generalizing n with
  | nil => simp at h
  | cons x m ih =>
    cases n with
    | zero =>
      obtain rfl : x = false := by simpa using hf
      simp
    | succ n =>
      have := ih n (by simpa using h) (by simpa using hf)
      cases x <;> simp at * <;> omega
/-- The visit returns: each node that it marks it puts behind the others. -/
theorem dfs_total (X : List (List Int)) (hX : ∀ l, l ∈ X → ∀ x, x ∈ l → 0 ≤ x ∧ x < X.length) : ∀ (k : Nat) (s : List Bool × List Int) (n : Int), unm s.1 < k → s.1.length = X.length → s.2.length + unm s.1 ≤ 65536 → 0 ≤ n → n < X.length →
    ∃ t, dfs k X s n = some t ∧ t.1.length = X.length ∧ t.2.length + unm t.1 = s.2.length + unm s.1 ∧ unm t.1 ≤ unm s.1 ∧ (s.1.getD n.toNat false = false → unm t.1 < unm s.1) := by
  intro k
  induction k with
  | zero => intro s n h; omega
  | succ k ih =>
    intro s n hk hl hb h0 h1
    rw [dfs, if_pos ⟨h0, by omega, h1⟩]
    cases hm : s.1.getD n.toNat false with
    | true => exact ⟨s, by rw [if_pos rfl], hl, rfl, Nat.le_refl _, fun h => by cases h⟩
    | false =>
      rw [if_neg (by decide)]
      have hu := unm_set s.1 n.toNat (by omega) hm
      have hrow : ∀ x, x ∈ row X n → 0 ≤ x ∧ x < X.length := by
        intro x hx
        unfold row at hx
        rw [if_pos ⟨h0, h1⟩] at hx
        have hl : n.toNat < X.length := by omega
        rw [List.getD_eq_getElem?_getD, List.getElem?_eq_getElem hl] at hx
        exact hX _ (List.getElem_mem hl) x hx
      have hL : ∀ (l : List Int), (∀ x, x ∈ l → 0 ≤ x ∧ x < X.length) → ∀ s : List Bool × List Int, unm s.1 < k → s.1.length = X.length → s.2.length + unm s.1 ≤ 65536 →
          ∃ t, dfsL (dfs k X) l s = some t ∧ t.1.length = X.length ∧ t.2.length + unm t.1 = s.2.length + unm s.1 ∧ unm t.1 ≤ unm s.1 := by
        intro l
        induction l with
        | nil => intro _ s h1 h2 h3; exact ⟨s, rfl, h2, rfl, Nat.le_refl _⟩
        | cons x l ihl =>
          intro hx s h1 h2 h3
          obtain ⟨t, ht, t1, t2, t3, _⟩ := ih s x h1 h2 h3 (hx x (List.mem_cons_self ..)).1 (hx x (List.mem_cons_self ..)).2
          obtain ⟨u, hu, u1, u2, u3⟩ := ihl (fun y hy => hx y (List.mem_cons_of_mem _ hy)) t (by omega) t1 (by omega)
          exact ⟨u, by rw [dfsL, ht]; exact hu, u1, by omega, by omega⟩
      obtain ⟨t, ht, t1, t2, t3⟩ := hL (row X n) hrow (s.1.set n.toNat true, s.2) (by show unm (s.1.set n.toNat true) < k; omega) (by simpa using hl) (by show s.2.length + unm (s.1.set n.toNat true) ≤ 65536; omega)
      rw [ht]
      have t2' : t.2.length + unm t.1 = s.2.length + unm (s.1.set n.toNat true) := t2
      have t3' : unm t.1 ≤ unm (s.1.set n.toNat true) := t3
      refine ⟨(t.1, t.2 ++ [n]), ?_, t1, ?_, ?_, fun _ => ?_⟩
      · simp only [Option.bind_some]
        rw [if_pos (by omega)]
      · simp only [List.length_append, List.length_cons, List.length_nil]
        omega
      · show unm t.1 ≤ unm s.1
        omega
      · show unm t.1 < unm s.1
        omega
theorem unm_le (m : List Bool) : unm m ≤ m.length := List.count_le_length
/-- What Components asks of the second pass. -/
theorem dfs_group (Y : List (List Int)) (hY : ∀ l, l ∈ Y → ∀ x, x ∈ l → 0 ≤ x ∧ x < Y.length) (few : Y.length ≤ 4096) (K : Nat) (hK : Y.length < K) (m : List Bool) (n : Int) (hm : m.length = Y.length) (h0 : 0 ≤ n) (h1 : n < Y.length) (hf : m.getD n.toNat false = false) :
    ∃ t, dfs K Y (m, []) n = some t ∧ 0 < t.2.length ∧ t.2.length ≤ 65536 := by
  have hu := unm_le m
  obtain ⟨t, ht, t1, t2, t3, t4⟩ := dfs_total Y hY K (m, []) n (by show unm m < K; omega) hm (by show 0 + unm m ≤ 65536; omega) h0 h1
  have t4' := t4 hf
  have t2' : t.2.length + unm t.1 = 0 + unm m := t2
  have t5' : unm t.1 < unm m := t4'
  exact ⟨t, ht, by omega, by omega⟩
/-- The second pass with the groups as they come. -/
def grpU (K : Nat) (Y : List (List Int)) : List Int → List Bool × List (List Int) → Option (List Bool × List (List Int))
  | [], s => some s
  | n :: ns, s => if s.1.getD n.toNat false = true then grpU K Y ns s else (dfs K Y (s.1, []) n).bind fun t => grpU K Y ns (t.1, s.2 ++ [t.2])
theorem grps_U (K : Nat) (Y : List (List Int)) : ∀ (ns : List Int) (m : List Bool) (gs : List (List Int)), grps K Y ns (m, gs.map srt) = (grpU K Y ns (m, gs)).map fun t => (t.1, t.2.map srt)
  | [], m, gs => rfl
  | n :: ns, m, gs => by
    rw [grps, grpU, grp1]
    by_cases h : m.getD n.toNat false = true
    · rw [if_pos h, if_pos h, Option.bind_some]
      exact grps_U K Y ns m gs
    · rw [if_neg h, if_neg h]
      cases hd : dfs K Y (m, []) n with
      | none => rfl
      | some t =>
        simp only [Option.bind_some]
        have := grps_U K Y ns t.1 (gs ++ [t.2])
        rw [List.map_append] at this
        exact this
end Go.Proofs.Ythkgfmjgilkdeaa

/- known: the chapter's examples. -/
namespace Go.Proofs.Ythkgfmjgilkdeaa
set_option linter.unusedVariables false
set_option linter.unusedSimpArgs false
open Go.RowKit Go.Shelf Go.Proofs.Ythkgfmjgilkdeaa.Q Go.Proofs.YthkgfmjgilkdeaaW.PrintWords Go.Proofs.YthkgfmjgilkdeaaW.PrintLast Go.Proofs.YthkgfmjgilkdeaaW.PrintMore
def ex1 : List S44 := [⟨2, 3⟩, ⟨0, 1⟩, ⟨0, 2⟩, ⟨1, 3⟩]
def ex2 : List S44 := [⟨2, 3⟩, ⟨0, 1⟩, ⟨0, 2⟩, ⟨1, 3⟩, ⟨3, 1⟩]
theorem regs_lit {l m : List Int} (hm : m.Pairwise (· < ·)) (h : ∀ x, x ∈ m ↔ x ∈ l) : regs l = m := Pure.regs_eq hm h
theorem rows1t : rowsOf 4 ex1 true = [[1, 2], [3], [3], []] := by
  have h0 : regs (ends ex1 true 0) = [1, 2] := regs_lit (by decide) (by simp [ends, ex1])
  have h1 : regs (ends ex1 true 1) = [3] := regs_lit (by decide) (by simp [ends, ex1])
  have h2 : regs (ends ex1 true 2) = [3] := regs_lit (by decide) (by simp [ends, ex1])
  have h3 : regs (ends ex1 true 3) = [] := regs_lit (by decide) (by simp [ends, ex1])
  simp [rowsOf, List.range_succ, h0, h1, h2, h3]
theorem rows1f : rowsOf 4 ex1 false = [[], [0], [0], [1, 2]] := by
  have h0 : regs (ends ex1 false 0) = [] := regs_lit (by decide) (by simp [ends, ex1])
  have h1 : regs (ends ex1 false 1) = [0] := regs_lit (by decide) (by simp [ends, ex1])
  have h2 : regs (ends ex1 false 2) = [0] := regs_lit (by decide) (by simp [ends, ex1])
  have h3 : regs (ends ex1 false 3) = [1, 2] := regs_lit (by decide) (by simp [ends, ex1]; omega)
  simp [rowsOf, List.range_succ, h0, h1, h2, h3]
theorem rows2t : rowsOf 4 ex2 true = [[1, 2], [3], [3], [1]] := by
  have h0 : regs (ends ex2 true 0) = [1, 2] := regs_lit (by decide) (by simp [ends, ex2])
  have h1 : regs (ends ex2 true 1) = [3] := regs_lit (by decide) (by simp [ends, ex2])
  have h2 : regs (ends ex2 true 2) = [3] := regs_lit (by decide) (by simp [ends, ex2])
  have h3 : regs (ends ex2 true 3) = [1] := regs_lit (by decide) (by simp [ends, ex2])
  simp [rowsOf, List.range_succ, h0, h1, h2, h3]
theorem rows2f : rowsOf 4 ex2 false = [[], [0, 3], [0], [1, 2]] := by
  have h0 : regs (ends ex2 false 0) = [] := regs_lit (by decide) (by simp [ends, ex2])
  have h1 : regs (ends ex2 false 1) = [0, 3] := regs_lit (by decide) (by simp [ends, ex2])
  have h2 : regs (ends ex2 false 2) = [0] := regs_lit (by decide) (by simp [ends, ex2])
  have h3 : regs (ends ex2 false 3) = [1, 2] := regs_lit (by decide) (by simp [ends, ex2]; omega)
  simp [rowsOf, List.range_succ, h0, h1, h2, h3]
theorem ok1 : ∀ e, e ∈ ex1 → okEdge 4 e := by
  intro e he
  simp [ex1] at he
  rcases he with rfl | rfl | rfl | rfl <;> (unfold okEdge; simp)
theorem ok2 : ∀ e, e ∈ ex2 → okEdge 4 e := by
  intro e he
  simp [ex2] at he
  rcases he with rfl | rfl | rfl | rfl | rfl <;> (unfold okEdge; simp)
theorem bfs1 : bfs 9 [[], [0], [0], [1, 2]] ((List.replicate 4 (-1)).set 3 0) [3] = some [2, 1, 1, 0] := by kernel_rfl
theorem way1 : way 9 [[1, 2], [3], [3], []] [2, 1, 1, 0] 3 0 [0] = some [0, 1, 3] := by kernel_rfl
theorem ord1 : ord 4 [[1, 2], [3], [3], []] (degs [[], [0], [0], [1, 2]]) [] = some ([0, 1, 2, 3], true) := by kernel_rfl
theorem ord2 : ord 4 [[1, 2], [3], [3], [1]] (degs [[], [0, 3], [0], [1, 2]]) [] = some ([], false) := by kernel_rfl
theorem fin2 : dfsL (dfs 5 [[1, 2], [3], [3], [1]]) (nums 4) (List.replicate 4 false, []) = some (List.replicate 4 true, [3, 1, 2, 0]) := by kernel_rfl
theorem grp2 : grps 5 [[], [0, 3], [0], [1, 2]] [0, 2, 1, 3] (List.replicate 4 false, []) = some (List.replicate 4 true, [[0], [2], [1, 3]]) := by
  have h := grps_U 5 [[], [0, 3], [0], [1, 2]] [0, 2, 1, 3] (List.replicate 4 false) []
  have h2 : grpU 5 [[], [0, 3], [0], [1, 2]] [0, 2, 1, 3] (List.replicate 4 false, []) = some (List.replicate 4 true, [[0], [2], [3, 1]]) := by kernel_rfl
  rw [h2] at h
  have e0 : srt [0] = [0] := srt_eq (List.Perm.refl _) (by decide)
  have e1 : srt [2] = [2] := srt_eq (List.Perm.refl _) (by decide)
  have e2 : srt [3, 1] = [1, 3] := srt_eq (List.Perm.swap _ _ _) (by decide)
  simpa [e0, e1, e2] using h
theorem vis1 : fromL (vis 5 [[1, 2], [3], [3], []]) 4 [2] (List.replicate 4 false) = some [false, false, true, true] := by kernel_rfl
theorem vis2 : fromL (vis 5 [[], [0], [0], [1, 2]]) 4 [3] (List.replicate 4 false) = some [true, true, true, true] := by kernel_rfl
theorem those1 : those (fun n => [false, false, true, true].getD n false && [true, true, true, true].getD n false) 4 = [2, 3] := by kernel_rfl
theorem lit_R (w : World) : k44.R 44 (w.alloc (.cells #[.int .i64 2, .int .i64 3, .int .i64 0, .int .i64 1, .int .i64 0, .int .i64 2, .int .i64 1, .int .i64 3] 44)) w.heap.size (fun _ => True) (.slice (some ⟨w.heap.size, 0, none⟩) 4 4) ex1 :=
  ⟨fun _ _ => trivial, _, ⟨rfl, .inr ⟨w.heap.size, 4, _, rfl, Nat.le_refl _, heap_alloc_last w _, Nat.le_refl _, by decide, rfl, rfl⟩⟩, Reps.snoc (Reps.snoc (Reps.snoc (Reps.snoc (Reps.none _ _) (k44_mkM _ _ _ ⟨2, 3⟩) rfl) (k44_mkM _ _ _ ⟨0, 1⟩) rfl) (k44_mkM _ _ _ ⟨0, 2⟩) rfl) (k44_mkM _ _ _ ⟨1, 3⟩) rfl⟩
theorem ex2_read {w : World} {base : Nat} {v : Value} (h : w.ownsRow base 44 2 v (4 + 1) ([.int .i64 2, .int .i64 3, .int .i64 0, .int .i64 1, .int .i64 0, .int .i64 2, .int .i64 1, .int .i64 3] ++ [.int .i64 3, .int .i64 1])) : ∃ A c, v = .slice A 5 c ∧ k44.C w A 5 ex2 := by
  have hR : k44.R 44 w base (fun _ => True) v ex2 := ⟨fun _ _ => trivial, _, h, Reps.snoc (Reps.snoc (Reps.snoc (Reps.snoc (Reps.snoc (Reps.none _ _) (k44_mkM _ _ _ ⟨2, 3⟩) rfl) (k44_mkM _ _ _ ⟨0, 1⟩) rfl) (k44_mkM _ _ _ ⟨0, 2⟩) rfl) (k44_mkM _ _ _ ⟨1, 3⟩) rfl) (k44_mkM _ _ _ ⟨3, 1⟩) rfl⟩
  obtain ⟨A, c, e, _, hC⟩ := Kd.R_reads hR
  exact ⟨A, c, e, hC⟩
theorem lit_ints (w : World) (L : List Int) (hl : L.length ≤ 65536) : kI.C (w.alloc (.cells (ints L) 3)) (some ⟨w.heap.size, 0, none⟩) L.length L := ints_C (heap_alloc_last w _) hl
abbrev X1 : List (List Int) := [[1, 2], [3], [3], []]
abbrev Y1 : List (List Int) := [[], [0], [0], [1, 2]]
abbrev X2 : List (List Int) := [[1, 2], [3], [3], [1]]
abbrev Y2 : List (List Int) := [[], [0, 3], [0], [1, 2]]
theorem known_path {w : World} {b : Nat} (hG : IsG w b X1 Y1) : Calls Try.prog 25 #[.pointer (some ⟨b, 0, none⟩), .int .i64 0, .int .i64 3] w fun e w' => ∃ A c, e = .returned (.tuple #[.slice A 3 c, .bool true]) ∧ (kI.C w' A 3 [0, 1, 3] ∧ 3 ≤ c) ∧ Below w.heap.size w w' := by
  refine (Path_calls hG 0 3 9 [2, 1, 1, 0] (by decide) (by decide) bfs1 rfl [0, 1, 3] (fun _ => way1)).mono ?_
  rintro e w' ⟨v, rfl, hv, hb⟩
  have hv : kI.R 3 w' w.heap.size (fun _ => True) v [0, 1, 3] := hv
  obtain ⟨A, c, rfl, hl, hc⟩ := Kd.R_reads hv
  exact ⟨A, c, rfl, ⟨hc, hl⟩, hb⟩
theorem known_order1 {w : World} {b : Nat} (hG : IsG w b X1 Y1) : Calls Try.prog 26 #[.pointer (some ⟨b, 0, none⟩)] w fun e w' => ∃ A c, e = .returned (.tuple #[.slice A 4 c, .bool true]) ∧ (kI.C w' A 4 [0, 1, 2, 3] ∧ 4 ≤ c) ∧ Below w.heap.size w w' := by
  refine (Order_calls hG [0, 1, 2, 3] true ord1).mono ?_
  rintro e w' ⟨v, rfl, hv, hb⟩
  obtain ⟨A, c, rfl, hl, hc⟩ := Kd.R_reads hv
  exact ⟨A, c, rfl, ⟨hc, hl⟩, hb⟩
theorem known_order2 {w : World} {b : Nat} (hG : IsG w b X2 Y2) : Calls Try.prog 26 #[.pointer (some ⟨b, 0, none⟩)] w fun e w' => ∃ A c, e = .returned (.tuple #[.slice A 0 c, .bool false]) ∧ Below w.heap.size w w' := by
  refine (Order_calls hG [] false ord2).mono ?_
  rintro e w' ⟨v, rfl, hv, hb⟩
  obtain ⟨A, c, rfl⟩ := Kd.R_slice hv
  exact ⟨A, c, rfl, hb⟩
theorem known_comp {w : World} {b : Nat} (hG : IsG w b X2 Y2) : Calls Try.prog 29 #[.pointer (some ⟨b, 0, none⟩)] w fun e w' => ∃ ad c A1 c1, e = .returned (.slice (some ad) 3 c) ∧ w'.cell? (ad.add 1) = some (.slice A1 2 c1) ∧ (kI.C w' A1 2 [1, 3] ∧ 2 ≤ c1) ∧ Below w.heap.size w w' := by
  refine (Components_calls hG 5 (List.replicate 4 true) (List.replicate 4 true) [3, 1, 2, 0] [[0], [2], [1, 3]] fin2 rfl (by decide) (by decide) (fun m n hm h0 h1 hf => ?_) grp2 (by decide) (by decide)).mono ?_
  · exact dfs_group Y2 (by decide) (by decide) 5 (by decide) m n hm h0 h1 hf
  · rintro e w' ⟨A, n, c, gs', rfl, hn, hc, hp, hs, hC, hb⟩
    have e0 : gs' = [[0], [1, 3], [2]] := perm_sorted (fun l => rd l 0) (hp.trans (List.Perm.cons _ (List.Perm.swap _ _ _))) hs (by simp [rd])
    subst e0
    subst hn
    obtain ⟨ad, A0, c0, rfl, h1, h2, h3⟩ := at_L4 hC 1 (by decide) (by decide)
    exact ⟨ad, c, A0, c0, rfl, h1, ⟨h3, h2⟩, hb⟩
theorem known_between {w : World} {b : Nat} (hG : IsG w b X1 Y1) (A1 : Option Addr) (c1 : Nat) (h1 : kI.C w A1 1 [2]) (A2 : Option Addr) (c2 : Nat) (h2 : kI.C w A2 1 [3]) :
    Calls Try.prog 28 #[.pointer (some ⟨b, 0, none⟩), .slice A1 1 c1, .slice A2 1 c2] w fun e w' => ∃ A c, e = .returned (.slice A 2 c) ∧ (kI.C w' A 2 [2, 3] ∧ 2 ≤ c) ∧ Below w.heap.size w w' := by
  refine (Between_calls hG 5 A1 c1 [2] h1 (by decide) [false, false, true, true] vis1 A2 c2 [3] h2 (by decide) [true, true, true, true] vis2).mono ?_
  rintro e w' ⟨v, rfl, hv, hb⟩
  have hv : kI.R 3 w' w.heap.size (fun _ => True) v [2, 3] := hv
  obtain ⟨A, c, rfl, hl, hc⟩ := Kd.R_reads hv
  exact ⟨A, c, rfl, ⟨hc, hl⟩, hb⟩
theorem known_same {w : World} (A B : Option Addr) (n c d : Nat) (l : List Int) (hl : l.length = n) (hn : n ≤ 4096) (h1 : kI.C w A n l) (h2 : kI.C w B n l) (hc : n ≤ c) (hd : n ≤ d) :
    Calls Try.prog 13 #[.slice A n c, .slice B n d] w fun e w' => e = .returned (.bool true) ∧ Drawn0 w w' := by
  subst hl
  exact replevinref08_Same.calls (l.length + 1) A c l B d l true w h1 hc h2 hd (by rw [same_f l l (by omega) _ (by omega)]; simp)
theorem lit013 (w : World) : kI.C (w.alloc (.cells #[.int .i64 0, .int .i64 1, .int .i64 3] 3)) (some ⟨w.heap.size, 0, none⟩) 3 [0, 1, 3] := lit_ints w [0, 1, 3] (by decide)
theorem lit0123 (w : World) : kI.C (w.alloc (.cells #[.int .i64 0, .int .i64 1, .int .i64 2, .int .i64 3] 3)) (some ⟨w.heap.size, 0, none⟩) 4 [0, 1, 2, 3] := lit_ints w [0, 1, 2, 3] (by decide)
theorem lit2 (w : World) : kI.C (w.alloc (.cells #[.int .i64 2] 3)) (some ⟨w.heap.size, 0, none⟩) 1 [2] := lit_ints w [2] (by decide)
theorem lit3 (w : World) : kI.C (w.alloc (.cells #[.int .i64 3] 3)) (some ⟨w.heap.size, 0, none⟩) 1 [3] := lit_ints w [3] (by decide)
theorem lit23 (w : World) : kI.C (w.alloc (.cells #[.int .i64 2, .int .i64 3] 3)) (some ⟨w.heap.size, 0, none⟩) 2 [2, 3] := lit_ints w [2, 3] (by decide)
theorem lit13 (w : World) : kI.C (w.alloc (.cells #[.int .i64 1, .int .i64 3] 3)) (some ⟨w.heap.size, 0, none⟩) 2 [1, 3] := lit_ints w [1, 3] (by decide)
set_option maxHeartbeats 8000000 in
set_option maxRecDepth 100000 in
theorem known_calls (w : World) : Calls Try.prog 11 #[] w fun e w' => e = .returned (.bool true) ∧ Below w.heap.size w w' := by
  have HB0 := Aside0.mk (Below.refl w.heap.size w)
  go_enter Try.func11, Try.ntmps11
  go_upto_region 2 with fail
  have HL1 := Aside0.mk (heap_alloc_last w (.cells #[.int .i64 2, .int .i64 3, .int .i64 0, .int .i64 1, .int .i64 0, .int .i64 2, .int .i64 1, .int .i64 3] 44))
  have HR1 := Aside0.mk (lit_R w)
  have HB1 := Aside0.mk (below_alloc HB0.out (.cells #[.int .i64 2, .int .i64 3, .int .i64 0, .int .i64 1, .int .i64 0, .int .i64 2, .int .i64 1, .int .i64 3] 44))
  obtain ⟨W1, hW1⟩ : ∃ W1, W1 = w.alloc (.cells #[.int .i64 2, .int .i64 3, .int .i64 0, .int .i64 1, .int .i64 0, .int .i64 2, .int .i64 1, .int .i64 3] 44) := ⟨_, rfl⟩
  rw [← hW1] at HR1 HB1 HL1 ⊢
  clear hW1
  have HN1 := Aside0.mk (New_calls 4 (some ⟨w.heap.size, 0, none⟩) 4 ex1 W1 (by decide) (by decide) ok1 (Kd.R_reads' HR1.out).2.2)
  go_upto_region 3 with (go_at_call 33; refine HN1.out.mono ?_; rintro e w2 ⟨b1, rfl, hG, hb⟩; rw [rows1t, rows1f] at hG; have HG1 := Aside0.mk hG; have HB2 := Aside0.mk (below_step HB1.out hb); have HL2 := Aside0.mk (blk_below HL1.out hb); clear hG hb)
  clear HN1 HR1 HB1 HL1
  obtain ⟨i44, hi44, hz0, hz1, hz2⟩ := info_parts info44
  have I44 := Aside0.mk (And.intro hi44 (And.intro hz0 (And.intro hz1 hz2)))
  clear hi44 hz0 hz1 hz2
  go_upto_region 6 with ((with_reducible refine gate_builtin (b := .append) (xs := #[.tmp 24, .tmp 26]) rfl ?_); at_builtin; refine Aside0.out ?_)
  refine ⟨?_⟩
  refine wpList_append_grows _ rfl (.tmp 24) (.tmp 26) 37 rfl 44 i44 (.agg #[.int .i64 0, .int .i64 0]) 2 16 Try.underlying37 I44.out.1 I44.out.2.1 I44.out.2.2.1 I44.out.2.2.2 rfl (by decide) (some ⟨w.heap.size, 0, none⟩) 4 4 [.int .i64 2, .int .i64 3, .int .i64 0, .int .i64 1, .int .i64 0, .int .i64 2, .int .i64 1, .int .i64 3] rfl (by simp) rfl (fun b hb j u hu => ?olds) ⟨w2.heap.size, 0, none⟩ 1 1 [.int .i64 3, .int .i64 1] rfl rfl (fun j u hu => ?news) ?ones (by decide) (by decide) (by decide) ?_
  case olds =>
    injection hb with hb
    subst hb
    have h1 := blk_cell (blk_alloc HL2.out (.cells #[.int .i64 3, .int .i64 1] 44)) j
    have h2 : (⟨w.heap.size, 0, none⟩ : Addr).add j = ⟨w.heap.size, j, none⟩ := by unfold Addr.add; split <;> simp_all
    rw [h2]
    refine h1.trans ?_
    rw [← hu]
    simp
  case news =>
    have h1 := blk_cell (heap_alloc_last w2 (.cells #[.int .i64 3, .int .i64 1] 44)) j
    have h2 : (⟨w2.heap.size, 0, none⟩ : Addr).add j = ⟨w2.heap.size, j, none⟩ := by unfold Addr.add; split <;> simp_all
    rw [h2]
    refine h1.trans ?_
    rw [← hu]
    simp
  case ones =>
    intro u hu
    simp at hu
    rcases hu with rfl | rfl <;> rfl
  intro v3 w3 ho hg
  have hb3 : Below w2.heap.size w2 w3 := (below_alloc (Below.refl _ _) _).grown hg (by rw [World.size_alloc]; omega) (fun k hk => by cases hk)
  obtain ⟨A3, c3, e3, hC3⟩ : ∃ A c, v3 = .slice A 5 c ∧ k44.C w3 A 5 ex2 := ex2_read ho
  subst e3
  have HG3 := Aside0.mk (HG1.out.below hb3)
  have HB3 := Aside0.mk (below_step HB2.out hb3)
  have HN2 := Aside0.mk (New_calls 4 A3 c3 ex2 w3 (by decide) (by decide) ok2 hC3)
  clear ho hg hb3 hC3
  go_upto_region 6 with (go_at_call 33; refine HN2.out.mono ?_; rintro e w4 ⟨b2, rfl, hG, hb⟩; rw [rows2t, rows2f] at hG; have HG4 := Aside0.mk hG; have HG5 := Aside0.mk (HG3.out.below hb); have HB4 := Aside0.mk (below_step HB3.out hb); clear hG hb)
  clear HN2
  go_upto_region 10 with (first
    | (go_at_call 25; refine (known_path HG5.out).mono ?_; rintro e w5 ⟨A5, c5, rfl, hC, hb⟩; have HC5 := Aside0.mk hC; have HB5 := Aside0.mk (below_step HB4.out hb); have HG6 := Aside0.mk (HG5.out.below hb); have HG7 := Aside0.mk (HG4.out.below hb); clear hC hb)
    | (go_at_call 26; refine (known_order1 HG6.out).mono ?_; rintro e w6 ⟨A6, c6, rfl, hC, hb⟩; have HC6 := Aside0.mk hC; have HB6 := Aside0.mk (below_step HB5.out hb); have HG8 := Aside0.mk (HG6.out.below hb); have HG9 := Aside0.mk (HG7.out.below hb); have HC5b := Aside0.mk (And.intro (Kd.C_below HC5.out.1 hb) HC5.out.2); clear hC hb HG6)
    | (go_at_call 26; refine (known_order2 HG9.out).mono ?_; rintro e w7 ⟨A7, c7, rfl, hb⟩; have HB7 := Aside0.mk (below_step HB6.out hb); have HG10 := Aside0.mk (HG8.out.below hb); have HG11 := Aside0.mk (HG9.out.below hb); have HC5c := Aside0.mk (And.intro (Kd.C_below HC5b.out.1 hb) HC5b.out.2); have HC6b := Aside0.mk (And.intro (Kd.C_below HC6.out.1 hb) HC6.out.2); clear hb)
    | (go_at_call 29; refine (known_comp HG11.out).mono ?_; rintro e w8 ⟨A8, c8, A9, c9, rfl, h1, hC, hb⟩; have HC8 := Aside0.mk (And.intro h1 hC); have HB8 := Aside0.mk (below_step HB7.out hb); have HG12 := Aside0.mk (HG10.out.below hb); have HC5d := Aside0.mk (And.intro (Kd.C_below HC5c.out.1 hb) HC5c.out.2); have HC6c := Aside0.mk (And.intro (Kd.C_below HC6b.out.1 hb) HC6b.out.2); clear h1 hC hb))
  have HW8 := Aside0.mk (Below.refl w8.heap.size w8)
  have T1 := Aside0.mk trivial
  have T2 := Aside0.mk trivial
  have T3 := Aside0.mk trivial
  have T4 := Aside0.mk trivial
  have HS1 := Aside0.mk (known_same (w := w8.alloc (.cells #[.int .i64 0, .int .i64 1, .int .i64 3] 3)) A5 (some ⟨w8.heap.size, 0, none⟩) 3 c5 3 [0, 1, 3] rfl (by decide) (Kd.C_below HC5d.out.1 (below_alloc (Below.refl _ _) _)) (lit013 w8) HC5d.out.2 (by decide))
  go_wp2_with (first
    | (go_at_call 13; clear T1; refine HS1.out.mono ?_; rintro e w9 ⟨rfl, q9, hq9⟩; have HW9 := Aside0.mk (show Below w8.heap.size w8 w9 from by rw [hq9]; exact pw_below_drewN (below_alloc (Below.refl _ _) _) _); have HS2 := Aside0.mk (known_same (w := w9.alloc (.cells #[.int .i64 0, .int .i64 1, .int .i64 2, .int .i64 3] 3)) A6 (some ⟨w9.heap.size, 0, none⟩) 4 c6 4 [0, 1, 2, 3] rfl (by decide) (Kd.C_below (Kd.C_below HC6c.out.1 HW9.out) (below_alloc (Below.refl _ _) _)) (lit0123 w9) HC6c.out.2 (by decide)); clear hq9 HS1)
    | (go_at_call 13; clear T2; refine HS2.out.mono ?_; rintro e w10 ⟨rfl, q9, hq9⟩; have HW10 := Aside0.mk (show Below w8.heap.size w8 w10 from by rw [hq9]; exact pw_below_drewN (below_alloc HW9.out _) _); clear hq9 HS2; have HS3 := Aside0.mk (known_between (((HG12.out.below HW10.out).alloc (.cells #[.int .i64 2] 3)).alloc (.cells #[.int .i64 3] 3)) _ 1 (Kd.C_below (lit2 w10) (below_alloc (Below.refl _ _) _)) _ 1 (lit3 (w10.alloc (.cells #[.int .i64 2] 3)))))
    | (go_at_call 28; rw [← World.size_alloc w10 (.cells #[.int .i64 2] 3)]; refine HS3.out.mono ?_; rintro e w11 ⟨A11, c11, rfl, hC, hb⟩; have HC11 := Aside0.mk hC; have HW11 := Aside0.mk (below_step (below_alloc (below_alloc HW10.out _) _) hb); clear hC hb; have HS4 := Aside0.mk (known_same (w := w11.alloc (.cells #[.int .i64 2, .int .i64 3] 3)) A11 (some ⟨w11.heap.size, 0, none⟩) 2 c11 2 [2, 3] rfl (by decide) (Kd.C_below HC11.out.1 (below_alloc (Below.refl _ _) _)) (lit23 w11) HC11.out.2 (by decide)))
    | (go_at_call 13; clear T3; refine HS4.out.mono ?_; rintro e w12 ⟨rfl, q9, hq9⟩; have HW12 := Aside0.mk (show Below w8.heap.size w8 w12 from by rw [hq9]; exact pw_below_drewN (below_alloc HW11.out _) _); have z8 : w12.cell? ⟨A8.block, A8.off + 1, none⟩ = some (.slice A9 2 c9) := pw_cell_below HW12.out HC8.out.1; clear hq9 HS4; have HS5 := Aside0.mk (known_same (w := w12.alloc (.cells #[.int .i64 1, .int .i64 3] 3)) A9 (some ⟨w12.heap.size, 0, none⟩) 2 c9 2 [1, 3] rfl (by decide) (Kd.C_below (Kd.C_below HC8.out.2.1 HW12.out) (below_alloc (Below.refl _ _) _)) (lit13 w12) HC8.out.2.2 (by decide)))
    | (go_at_call 13; clear T4; refine HS5.out.mono ?_; rintro e w13 ⟨rfl, q9, hq9⟩; have HW13 := Aside0.mk (show Below w8.heap.size w8 w13 from by rw [hq9]; exact pw_below_drewN (below_alloc HW12.out _) _); clear hq9 HS5))
  go_ret
  exact ⟨rfl, below_step HB8.out HW13.out⟩
end Go.Proofs.Ythkgfmjgilkdeaa

/- Make: the two graphs of one input. -/
namespace Go.Proofs.Ythkgfmjgilkdeaa
set_option linter.unusedVariables false
set_option linter.unusedSimpArgs false
open Go.RowKit Go.Shelf Go.Proofs.Ythkgfmjgilkdeaa.Q Go.Proofs.YthkgfmjgilkdeaaW.PrintWords Go.Proofs.YthkgfmjgilkdeaaW.PrintLast Go.Proofs.YthkgfmjgilkdeaaW.PrintMore
def nOf (a : Nat) : Nat := 1 + a % 30
def modE (N : Nat) (e : S43) : S43 := ⟨(e.f0 % 18446744073709551616) % (N : Int), (e.f1 % 18446744073709551616) % (N : Int)⟩
theorem u64_small {N : Nat} (h : N ≤ 30) : IntKind.u64.wrap (N : Int) = (N : Int) := by
  show ((N : Int)) % 18446744073709551616 = _
  omega
theorem rem_mod (x : Int) {N : Nat} (h1 : 1 ≤ N) (h2 : N ≤ 30) : (IntKind.u64.wrap x).tmod (IntKind.u64.wrap (N : Int)) = (x % 18446744073709551616) % (N : Int) := by
  rw [u64_small h2]
  show (x % 18446744073709551616).tmod (N : Int) = _
  exact Int.tmod_eq_emod_of_nonneg (by omega)
theorem mod_range (x : Int) {N : Nat} (h1 : 1 ≤ N) : 0 ≤ (x % 18446744073709551616) % (N : Int) ∧ (x % 18446744073709551616) % (N : Int) < N :=
  ⟨Int.emod_nonneg _ (by omega), Int.emod_lt_of_pos _ (by omega)⟩
theorem mod_i64 (x : Int) {N : Nat} (h1 : 1 ≤ N) (h2 : N ≤ 30) : IntKind.i64.wrap ((x % 18446744073709551616) % (N : Int)) = (x % 18446744073709551616) % (N : Int) := by
  have := mod_range x h1
  generalize (x % 18446744073709551616) % (N : Int) = m at *
  rw [i64_w]
  unfold wrap64
  omega
theorem take_map_succ {α β : Type} (l : List α) (f : α → β) (j : Nat) {x : α} (h : l[j]? = some x) : (l.take (j + 1)).map f = (l.take j).map f ++ [f x] := by
  rw [List.take_add_one, h]
  simp
def ownE (N : Nat) (l : List S43) : List S43 := (l.take 120).map (modE N)
theorem own_ok {N : Nat} (h : 1 ≤ N) {l : List S43} {e : S43} (he : e ∈ ownE N l) : okE (N : Int) e = true := by
  unfold ownE at he
  obtain ⟨x, _, rfl⟩ := List.mem_map.1 he
  have h0 := mod_range x.f0 h
  have h1 := mod_range x.f1 h
  unfold okE modE
  simp only [Bool.and_eq_true, decide_eq_true_eq]
  exact ⟨⟨⟨h0.1, h0.2⟩, h1.1⟩, h1.2⟩
def to44 (e : S43) : S44 := ⟨e.f0, e.f1⟩
theorem to_l0 (l : List S43) (hl : l.length ≤ 65536) : ∀ (d i k : Nat) (out : List S44), i + d = l.length → d < k → out.length = i → replevinlaw08_To.l0 k l out (i : Int) = some (out ++ (l.drop i).map to44)
  | 0, i, k, out, h, hk, ho => by
    obtain ⟨k, rfl⟩ : ∃ m, k = m + 1 := ⟨k - 1, by omega⟩
    simp only [replevinlaw08_To.l0]
    rw [if_neg (by omega), List.drop_of_length_le (by omega)]
    simp
  | d + 1, i, k, out, h, hk, ho => by
    obtain ⟨k, rfl⟩ : ∃ m, k = m + 1 := ⟨k - 1, by omega⟩
    simp only [replevinlaw08_To.l0]
    have hi : i < l.length := by omega
    rw [if_pos (by omega), if_pos (by omega), if_pos (by omega), wrap_i64 (by omega) (by omega), show ((i : Int) + 1) = ((i + 1 : Nat) : Int) by omega, to_l0 l hl d (i + 1) k _ (by omega) (by omega) (by simp [ho]), List.drop_eq_getElem_cons hi]
    have e : rd_T43 l (i : Int) = l[i] := by unfold rd_T43; simp [hi]
    rw [e, List.append_assoc]
    rfl
theorem to_f (l : List S43) (hl : l.length ≤ 65536) : replevinlaw08_To.f (l.length + 1) l = some (l.map to44) := by
  unfold replevinlaw08_To.f
  have := to_l0 l hl l.length 0 (l.length + 1) [] (by omega) (by omega) rfl
  simpa using this
/-- The edges put in one by one. -/
def insL (g : List S43) : List S43 → List S43
  | [] => g
  | e :: es => insL (insE g e) es
theorem insAll_some (n : Int) : ∀ (l g : List S43), (∀ e, e ∈ l → okE n e = true) → insAll n l g = some (insL g l)
  | [], g, _ => rfl
  | e :: l, g, h => by
    rw [insAll, if_pos (h e (List.mem_cons_self ..)), insL]
    exact insAll_some n l _ (fun x hx => h x (List.mem_cons_of_mem _ hx))
theorem refnew_f {N : Nat} (hN : N ≤ 4096) {l : List S43} (hl : l.length ≤ 65536) (h : ∀ e, e ∈ l → okE (N : Int) e = true) : replevinref08_New.f (N : Int) l = some ((N : Int), insL [] l, 0) := by
  unfold replevinref08_New.f
  rw [if_pos ⟨by omega, by omega⟩, if_pos hl, insAll_some _ _ _ h]
theorem ok44 {N : Nat} {l : List S43} (h : ∀ e, e ∈ l → okE (N : Int) e = true) : ∀ e, e ∈ l.map to44 → okEdge N e := by
  intro e he
  obtain ⟨x, hx, rfl⟩ := List.mem_map.1 he
  have := h x hx
  unfold okE at this
  simp only [Bool.and_eq_true, decide_eq_true_eq] at this
  exact ⟨⟨this.1.1.1, this.1.1.2⟩, this.1.2, this.2⟩
def MakeR.T6 : Bool × List (List Nat × List Nat) := (true, [([], []), ([], []), ([], []), ([1, 2], [1, 2]), ([3], [3]), ([4], [4]), ([5], [5]), ([], []), ([7], [7]), ([6, 8], [6, 8]), ([9], [9]), ([], []), ([], []), ([11, 12], [11, 12]), ([13], [13]), ([14], [14]), ([15], [15]), ([], []), ([17], [17]), ([16, 18], [16, 18]), ([19], [19]), ([10, 20], [10, 20]), ([21], [21]), ([0, 22], [0, 22]), ([23, 23, 0, 1, 2, 3, 4, 5, 6, 7, 8, 9, 10, 11, 12, 13, 14, 15, 16, 17, 18, 19, 20, 21, 22, 23], [0, 23])])
def MakeR.B6 : List Nat := [0, 0, 0, 6, 14, 30, 62, 0, 128, 510, 1022, 0, 0, 6144, 14336, 30720, 63488, 0, 131072, 522240, 1046528, 2097150, 4194302, 8388607, 16777215]
theorem MakeR.tab6 : rtab .any (opsOf Try.f12 6) = MakeR.T6 := by kernel_rfl
theorem MakeR.bits6 : waitsOk MakeR.T6.2 MakeR.B6 = true := by kernel_rfl
def MakeR.T9 : Bool × List (List Nat × List Nat) := (true, [([], []), ([], []), ([0, 0], [0]), ([1, 2, 0, 1, 2], [1])])
def MakeR.B9 : List Nat := [0, 0, 1, 7]
theorem MakeR.tab9 : rtab .any (opsOf Try.f12 9) = MakeR.T9 := by kernel_rfl
theorem MakeR.bits9 : waitsOk MakeR.T9.2 MakeR.B9 = true := by kernel_rfl
set_option maxHeartbeats 8000000 in
set_option maxRecDepth 100000 in
theorem Make_calls (a : Nat) (ha : a < 256) (A : Option Addr) (c : Nat) (l : List S43) (w : World) (hr : k43.C w A l.length l) (hc : l.length ≤ c) (hl : l.length ≤ 9223372036854775807) :
    Calls Try.prog 12 #[.int .u8 a, .slice A l.length c] w fun e w' => ∃ b v, e = .returned (.tuple #[.pointer (some ⟨b, 0, none⟩), .agg #[.int .i64 (nOf a), v]]) ∧ Keeps w' b (rowsOf (nOf a) ((ownE (nOf a) l).map to44) true) (rowsOf (nOf a) ((ownE (nOf a) l).map to44) false) ∧ k43.R 43 w' w.heap.size (fun _ => True) v (insL [] (ownE (nOf a) l)) ∧ Below w.heap.size w w' := by
  have HB0 := Aside0.mk (Below.refl w.heap.size w)
  have HR := Aside0.mk hr
  clear hr
  go_enter Try.func12, Try.ntmps12
  go_wp2_with fail
  have eN : (1 + (a : Int) % 30) = ((nOf a : Nat) : Int) := by unfold nOf; omega
  rw [eN]
  obtain ⟨N, hN⟩ : ∃ N, N = nOf a := ⟨_, rfl⟩
  have hN1 : 1 ≤ N := by rw [hN]; unfold nOf; omega
  have hN2 : N ≤ 30 := by rw [hN]; unfold nOf; omega
  have HN := Aside0.mk hN
  rw [← hN]
  clear eN hN
  obtain ⟨Wa, hWa⟩ : ∃ Wa, Wa = w.alloc (.cells #[.int .i64 0, .slice none 0 0] 26) := ⟨_, rfl⟩
  have HBa := Aside0.mk (show Below w.heap.size w Wa from by rw [hWa]; exact below_alloc HB0.out _)
  have Hba := Aside0.mk (show Wa.heap[w.heap.size]? = some (.cells #[.int .i64 0, .slice none 0 0] 26 (0, 0)) from by rw [hWa]; exact heap_alloc_last w _)
  rw [← hWa]
  clear hWa
  obtain ⟨M, hM⟩ : ∃ M, M = min l.length 120 := ⟨_, rfl⟩
  have HM := Aside0.mk hM
  have hM1 : M ≤ l.length := by omega
  have hM2 : M ≤ 120 := by omega
  go_loopg [7, 8] M (fun kq v7 v8 w' => ∃ (j : Nat), v8 = .int .i64 j ∧ j + kq = M ∧ Aside0 (k43.R 43 w' w.heap.size (fun _ => True) v7 ((l.take j).map (modE N))) ∧ Aside0 (w'.heap[w.heap.size]? = some (.cells #[.int .i64 0, .slice none 0 0] 26 (0, 0))) ∧ Aside0 (Below w.heap.size w w'))
  case atStart => exact ⟨0, rfl, by omega, ⟨Kd.R_nil _ _ _ _ _⟩, Hba, HBa⟩
  case round =>
    clear HBa Hba
    obtain ⟨j, rfl, hj, HV, Hb0, HB⟩ := hrel
    cases gk with
    | succ k1 =>
      have hjM : j < M := by omega
      have p0 : (j : Int) < (l.length : Int) := by omega
      have p1 : (j : Int) < 120 := by omega
      have p2 : (0 : Int) ≤ (j : Int) := by omega
      obtain ⟨ad, e0, hx0, hx1⟩ := at_T43 (Kd.C_below HR.out HB.out) (j : Int) (by omega) (by omega)
      rw [Int.toNat_natCast] at hx0 hx1
      subst e0
      obtain ⟨x, hx⟩ : ∃ x, x = rd_T43 l (j : Int) := ⟨_, rfl⟩
      rw [← hx] at hx0 hx1
      have Hx := Aside0.mk (show l[j]? = some x from by rw [hx]; unfold rd_T43; rw [Int.toNat_natCast, List.getD_eq_getElem?_getD]; have : j < l.length := by omega
                                                        simp [this])
      obtain ⟨x0, x1⟩ := x
      have z0 : wr.drew.cell? (ad.add (j * 2)) = some (.int .i64 x0) := hx0
      have z1 : wr.drew.cell? ⟨(ad.add (j * 2)).block, (ad.add (j * 2)).off + 1, none⟩ = some (.int .i64 x1) := hx1
      have HVd := Aside0.mk (Kd.R_drew HV.out)
      have Hbd := Aside0.mk (blk_drew Hb0.out)
      have HBd := Aside0.mk (below_drew1 HB.out)
      have eW : (IntKind.u64.wrap (N : Int) = 0) = False := eq_false (by rw [u64_small hN2]; omega)
      obtain ⟨m0, hm0⟩ : ∃ m, m = (modE N ⟨x0, x1⟩).f0 := ⟨_, rfl⟩
      obtain ⟨m1, hm1⟩ : ∃ m, m = (modE N ⟨x0, x1⟩).f1 := ⟨_, rfl⟩
      have eM0 : (IntKind.u64.wrap x0).tmod (IntKind.u64.wrap (N : Int)) = m0 := by rw [hm0]; exact rem_mod x0 hN1 hN2
      have eM1 : (IntKind.u64.wrap x1).tmod (IntKind.u64.wrap (N : Int)) = m1 := by rw [hm1]; exact rem_mod x1 hN1 hN2
      have eC0 : IntKind.i64.wrap m0 = m0 := by rw [hm0]; exact mod_i64 x0 hN1 hN2
      have eC1 : IntKind.i64.wrap m1 = m1 := by rw [hm1]; exact mod_i64 x1 hN1 hN2
      have Hm := Aside0.mk (show modE N ⟨x0, x1⟩ = ⟨m0, m1⟩ by rw [hm0, hm1])
      clear hm0 hm1
      have HXr := Aside0.mk (show ∀ W1, Below w.heap.size w W1 → W1.cell? (ad.add (j * 2)) = some (.int .i64 x0) ∧ W1.cell? ⟨(ad.add (j * 2)).block, (ad.add (j * 2)).off + 1, none⟩ = some (.int .i64 x1) from fun W1 hB => by
        obtain ⟨ad3, e3, h1, h2⟩ := at_T43 (Kd.C_below HR.out hB) (j : Int) (by omega) (by omega)
        obtain rfl : ad = ad3 := by injection e3
        rw [Int.toNat_natCast, ← hx] at h1 h2
        exact ⟨h1, h2⟩)
      clear hx hx0 hx1 HV Hb0 HB
      go_upto_region 6 with fail
      refine start_ (n := 25) (S := fun w' => w'.cell? (ad.add (j * 2)) = some (.int .i64 x0) ∧ w'.cell? ⟨(ad.add (j * 2)).block, (ad.add (j * 2)).off + 1, none⟩ = some (.int .i64 x1)) (ds := []) #[false, false, false, false, false, false, false, false, false, false, false, false, false, false, false, false, false, false, false, false, false, false, false, false, false] (by kernel_rfl) rfl rfl ⟨z0, z1⟩ (fun hHeld => ?_)
      refine with_tabW MakeR.tab6 MakeR.bits6 (fun HT_ HW_ => ?_)
      generalize wr.drew = w5 at z0 z1 HVd Hbd HBd hHeld ⊢
      refine pure_ (i := 0) (N := some 27) (v := ?_) (a' := ?_) #[true, false, false, false, false, false, false, false, false, false, false, false, false, false, false, false, false, false, false, false, false, false, false, false, false] rfl rfl (any_of HT_.out (by kernel_rfl)) (fun _ _ _ h => h) (Or.inl ⟨by rfl, ?_⟩) ?_ ?_
      rotate_left
      · intro w'
        go_simp
        with_reducible rfl
      rotate_left
      · simp only [Act.put, List.setIfInBounds_toArray, List.set_cons_zero, List.set_cons_succ, i64_w, i32_w]
        rfl
      refine pure_ (i := 1) (N := some 28) (v := ?_) (a' := ?_) #[true, true, false, false, false, false, false, false, false, false, false, false, false, false, false, false, false, false, false, false, false, false, false, false, false] rfl rfl (any_of HT_.out (by kernel_rfl)) (fun _ _ _ h => h) (Or.inl ⟨by rfl, ?_⟩) ?_ ?_
      rotate_left
      · intro w'
        go_simp
        with_reducible rfl
      rotate_left
      · simp only [Act.put, List.setIfInBounds_toArray, List.set_cons_zero, List.set_cons_succ, i64_w, i32_w]
        rfl
      refine pure_ (i := 2) (N := some 29) (v := ?_) (a' := ?_) #[true, true, true, false, false, false, false, false, false, false, false, false, false, false, false, false, false, false, false, false, false, false, false, false, false] rfl rfl (any_of HT_.out (by kernel_rfl)) (fun _ _ _ h => h) (Or.inl ⟨by rfl, ?_⟩) ?_ ?_
      rotate_left
      · intro w'
        go_simp
        with_reducible rfl
      rotate_left
      · simp only [Act.put, List.setIfInBounds_toArray, List.set_cons_zero, List.set_cons_succ, i64_w, i32_w]
        rfl
      refine pure_ (i := 3) (N := some 30) (v := ?_) (a' := ?_) #[true, true, true, true, false, false, false, false, false, false, false, false, false, false, false, false, false, false, false, false, false, false, false, false, false] rfl rfl (any_of HT_.out (by kernel_rfl)) (fun _ _ _ h => h) (Or.inl ⟨by rfl, ?_⟩) ?_ ?_
      rotate_left
      · intro w'
        go_simp
        with_reducible rfl
      rotate_left
      · simp only [Act.put, List.setIfInBounds_toArray, List.set_cons_zero, List.set_cons_succ, i64_w, i32_w]
        rfl
      refine pure_ (i := 4) (N := some 31) (v := ?_) (a' := ?_) #[true, true, true, true, true, false, false, false, false, false, false, false, false, false, false, false, false, false, false, false, false, false, false, false, false] rfl rfl (any_of HT_.out (by kernel_rfl)) (fun _ _ _ h => h) (Or.inl ⟨by rfl, ?_⟩) ?_ ?_
      rotate_left
      · intro w'
        go_simp
        with_reducible rfl
      rotate_left
      · simp only [Act.put, List.setIfInBounds_toArray, List.set_cons_zero, List.set_cons_succ, i64_w, i32_w]
        rfl
      refine pure_ (i := 7) (N := some 34) (v := ?_) (a' := ?_) #[true, true, true, true, true, false, false, true, false, false, false, false, false, false, false, false, false, false, false, false, false, false, false, false, false] rfl rfl (any_of HT_.out (by kernel_rfl)) (fun _ _ _ h => h) (Or.inl ⟨by rfl, ?_⟩) ?_ ?_
      rotate_left
      · intro w'
        go_simp
        with_reducible rfl
      rotate_left
      · simp only [Act.put, List.setIfInBounds_toArray, List.set_cons_zero, List.set_cons_succ, i64_w, i32_w]
        rfl
      refine pure_ (i := 8) (N := some 35) (v := ?_) (a' := ?_) #[true, true, true, true, true, false, false, true, true, false, false, false, false, false, false, false, false, false, false, false, false, false, false, false, false] rfl rfl (any_of HT_.out (by kernel_rfl)) (fun _ _ _ h => h) (Or.inl ⟨by rfl, ?_⟩) ?_ ?_
      rotate_left
      · intro w'
        go_simp
        with_reducible rfl
      rotate_left
      · simp only [Act.put, List.setIfInBounds_toArray, List.set_cons_zero, List.set_cons_succ, i64_w, i32_w]
        rfl
      refine pure_ (i := 11) (N := some 38) (v := ?_) (a' := ?_) #[true, true, true, true, true, false, false, true, true, false, false, true, false, false, false, false, false, false, false, false, false, false, false, false, false] rfl rfl (any_of HT_.out (by kernel_rfl)) (fun _ _ _ h => h) (Or.inl ⟨by rfl, ?_⟩) ?_ ?_
      rotate_left
      · intro w'
        go_simp
        with_reducible rfl
      rotate_left
      · simp only [Act.put, List.setIfInBounds_toArray, List.set_cons_zero, List.set_cons_succ, i64_w, i32_w]
        rfl
      refine pure_ (i := 12) (N := some 39) (v := ?_) (a' := ?_) #[true, true, true, true, true, false, false, true, true, false, false, true, true, false, false, false, false, false, false, false, false, false, false, false, false] rfl rfl (any_of HT_.out (by kernel_rfl)) (fun _ _ _ h => h) (Or.inl ⟨by rfl, ?_⟩) ?_ ?_
      rotate_left
      · intro w'
        go_simp
        with_reducible rfl
      rotate_left
      · simp only [Act.put, List.setIfInBounds_toArray, List.set_cons_zero, List.set_cons_succ, i64_w, i32_w]
        rfl
      refine pure_ (i := 13) (N := some 40) (v := ?_) (a' := ?_) #[true, true, true, true, true, false, false, true, true, false, false, true, true, true, false, false, false, false, false, false, false, false, false, false, false] rfl rfl (any_of HT_.out (by kernel_rfl)) (fun _ _ _ h => h) (Or.inl ⟨by rfl, ?_⟩) ?_ ?_
      rotate_left
      · intro w'
        go_simp
        with_reducible rfl
      rotate_left
      · simp only [Act.put, List.setIfInBounds_toArray, List.set_cons_zero, List.set_cons_succ, i64_w, i32_w]
        rfl
      refine pure_ (i := 14) (N := some 41) (v := ?_) (a' := ?_) #[true, true, true, true, true, false, false, true, true, false, false, true, true, true, true, false, false, false, false, false, false, false, false, false, false] rfl rfl (any_of HT_.out (by kernel_rfl)) (fun _ _ _ h => h) (Or.inl ⟨by rfl, ?_⟩) ?_ ?_
      rotate_left
      · intro w'
        go_simp
        with_reducible rfl
      rotate_left
      · simp only [Act.put, List.setIfInBounds_toArray, List.set_cons_zero, List.set_cons_succ, i64_w, i32_w]
        rfl
      refine pure_ (i := 17) (N := some 44) (v := ?_) (a' := ?_) #[true, true, true, true, true, false, false, true, true, false, false, true, true, true, true, false, false, true, false, false, false, false, false, false, false] rfl rfl (any_of HT_.out (by kernel_rfl)) (fun _ _ _ h => h) (Or.inl ⟨by rfl, ?_⟩) ?_ ?_
      rotate_left
      · intro w'
        go_simp
        with_reducible rfl
      rotate_left
      · simp only [Act.put, List.setIfInBounds_toArray, List.set_cons_zero, List.set_cons_succ, i64_w, i32_w]
        rfl
      refine pure_ (i := 18) (N := some 45) (v := ?_) (a' := ?_) #[true, true, true, true, true, false, false, true, true, false, false, true, true, true, true, false, false, true, true, false, false, false, false, false, false] rfl rfl (any_of HT_.out (by kernel_rfl)) (fun _ _ _ h => h) (Or.inl ⟨by rfl, ?_⟩) ?_ ?_
      rotate_left
      · intro w'
        go_simp
        with_reducible rfl
      rotate_left
      · simp only [Act.put, List.setIfInBounds_toArray, List.set_cons_zero, List.set_cons_succ, i64_w, i32_w]
        rfl
      refine take_ (i := 5) (N := some 32) (v := ?_) (a' := ?_) #[true, true, true, true, true, true, false, true, true, false, false, true, true, true, true, false, false, true, true, false, false, false, false, false, false] rfl rfl (take_ofW HT_.out HW_.out (by kernel_rfl)) (fun _ _ _ h => h) (Or.inl ⟨by rfl, ?_⟩) hHeld ?_ ?_
      rotate_left
      · rintro w' ⟨s0, s1⟩
        go_simp
        with_reducible rfl
      rotate_left
      · simp only [Act.put, List.setIfInBounds_toArray, List.set_cons_zero, List.set_cons_succ, i64_w, i32_w]
        rfl
      refine pure_ (i := 6) (N := some 33) (v := ?_) (a' := ?_) #[true, true, true, true, true, true, true, true, true, false, false, true, true, true, true, false, false, true, true, false, false, false, false, false, false] rfl rfl (any_of HT_.out (by kernel_rfl)) (fun _ _ _ h => h) (Or.inl ⟨by rfl, ?_⟩) ?_ ?_
      rotate_left
      · intro w'
        go_simp
        with_reducible rfl
      rotate_left
      · simp only [Act.put, List.setIfInBounds_toArray, List.set_cons_zero, List.set_cons_succ, i64_w, i32_w]
        rfl
      refine pure_ (i := 9) (N := some 36) (v := ?_) (a' := ?_) #[true, true, true, true, true, true, true, true, true, true, false, true, true, true, true, false, false, true, true, false, false, false, false, false, false] rfl rfl (any_of HT_.out (by kernel_rfl)) (fun _ _ _ h => h) (Or.inl ⟨by rfl, ?_⟩) ?_ ?_
      rotate_left
      · intro w'
        go_simp
        with_reducible rfl
      rotate_left
      · simp only [Act.put, List.setIfInBounds_toArray, List.set_cons_zero, List.set_cons_succ, i64_w, i32_w]
        rfl
      refine pure_ (i := 10) (N := some 37) (v := ?_) (a' := ?_) #[true, true, true, true, true, true, true, true, true, true, true, true, true, true, true, false, false, true, true, false, false, false, false, false, false] rfl rfl (any_of HT_.out (by kernel_rfl)) (fun _ _ _ h => h) (Or.inl ⟨by rfl, ?_⟩) ?_ ?_
      rotate_left
      · intro w'
        go_simp
        with_reducible rfl
      rotate_left
      · simp only [Act.put, List.setIfInBounds_toArray, List.set_cons_zero, List.set_cons_succ, i64_w, i32_w]
        rfl
      refine take_ (i := 15) (N := some 42) (v := ?_) (a' := ?_) #[true, true, true, true, true, true, true, true, true, true, true, true, true, true, true, true, false, true, true, false, false, false, false, false, false] rfl rfl (take_ofW HT_.out HW_.out (by kernel_rfl)) (fun _ _ _ h => h) (Or.inl ⟨by rfl, ?_⟩) hHeld ?_ ?_
      rotate_left
      · rintro w' ⟨s0, s1⟩
        go_simp
        with_reducible rfl
      rotate_left
      · simp only [Act.put, List.setIfInBounds_toArray, List.set_cons_zero, List.set_cons_succ, i64_w, i32_w]
        rfl
      refine pure_ (i := 16) (N := some 43) (v := ?_) (a' := ?_) #[true, true, true, true, true, true, true, true, true, true, true, true, true, true, true, true, true, true, true, false, false, false, false, false, false] rfl rfl (any_of HT_.out (by kernel_rfl)) (fun _ _ _ h => h) (Or.inl ⟨by rfl, ?_⟩) ?_ ?_
      rotate_left
      · intro w'
        go_simp
        with_reducible rfl
      rotate_left
      · simp only [Act.put, List.setIfInBounds_toArray, List.set_cons_zero, List.set_cons_succ, i64_w, i32_w]
        rfl
      refine pure_ (i := 19) (N := some 46) (v := ?_) (a' := ?_) #[true, true, true, true, true, true, true, true, true, true, true, true, true, true, true, true, true, true, true, true, false, false, false, false, false] rfl rfl (any_of HT_.out (by kernel_rfl)) (fun _ _ _ h => h) (Or.inl ⟨by rfl, ?_⟩) ?_ ?_
      rotate_left
      · intro w'
        go_simp
        with_reducible rfl
      rotate_left
      · simp only [Act.put, List.setIfInBounds_toArray, List.set_cons_zero, List.set_cons_succ, i64_w, i32_w]
        rfl
      refine pure_ (i := 20) (N := some 47) (v := ?_) (a' := ?_) #[true, true, true, true, true, true, true, true, true, true, true, true, true, true, true, true, true, true, true, true, true, false, false, false, false] rfl rfl (any_of HT_.out (by kernel_rfl)) (fun _ _ _ h => h) (Or.inl ⟨by rfl, ?_⟩) ?_ ?_
      rotate_left
      · intro w'
        go_simp
        with_reducible rfl
      rotate_left
      · simp only [Act.put, List.setIfInBounds_toArray, List.set_cons_zero, List.set_cons_succ, i64_w, i32_w]
        rfl
      refine pure_ (i := 21) (N := some 48) (v := ?_) (a' := ?_) #[true, true, true, true, true, true, true, true, true, true, true, true, true, true, true, true, true, true, true, true, true, true, false, false, false] rfl rfl (any_of HT_.out (by kernel_rfl)) (fun _ _ _ h => h) (Or.inl ⟨by rfl, ?_⟩) ?_ ?_
      rotate_left
      · intro w'
        go_simp
        with_reducible rfl
      rotate_left
      · simp only [Act.put, List.setIfInBounds_toArray, List.set_cons_zero, List.set_cons_succ, i64_w, i32_w]
        rfl
      refine one_ (i := 22) (N := some 49) #[true, true, true, true, true, true, true, true, true, true, true, true, true, true, true, true, true, true, true, true, true, true, true, false, false] rfl rfl (one_of HT_.out (by kernel_rfl)) (by decide) (fun K hK => ?_)
      refine value_ (w1 := ?_) (v := ?_) (by rfl) rfl ?_ ?_
      rotate_left 2
      · go_simp
        constructor
        · rfl
        · rfl
      refine hK.out _ _ ⟨(World.cell?_alloc_lt _ _ _ (World.block_lt_of_cell? _ _ z0)).trans z0, (World.cell?_alloc_lt _ _ _ (World.block_lt_of_cell? _ _ z1)).trans z1⟩ (fun hHeld => ?_)
      clear hK K
      refine norm_ (a' := ?_) ?_ ?_
      rotate_left
      · show Act.put _ (some 49) _ = _
        simp only [Act.put, List.setIfInBounds_toArray, List.set_cons_zero, List.set_cons_succ, i64_w, i32_w]
        rfl
      refine one_ (i := 23) (N := some 50) #[true, true, true, true, true, true, true, true, true, true, true, true, true, true, true, true, true, true, true, true, true, true, true, true, false] rfl rfl (one_of HT_.out (by kernel_rfl)) (by decide) (fun K hK => ?_)
      refine Kd.R_append_step k43 (w0 := w) w.heap.size (by rfl) (.tmp 27) (.tmp 49) 22 43 (.agg #[(.int .i64 0), (.int .i64 0)]) 16 rfl Try.underlying22 info43 rfl (by decide) (by omega) u7 ((l.take j).map (modE N)) (⟨m0, m1⟩ : S43) [.int .i64 m0, .int .i64 m1] (fun _ => True) (fun _ => False) rfl rfl ?aP (fun _ hk => hk.elim) ?aF ?aO ?aB ?aS ?aL ?_
      (case aP => exact k43_mkM _ _ _ (⟨m0, m1⟩ : S43))
      (case aB => exact HBd.out)
      (case aF => exact (fun _ _ => trivial))
      (case aO => exact HVd.out)
      (case aS => exact below_size HBd.out)
      (case aL => rw [List.length_map, List.length_take]; omega)
      intro v8 w8 ho hb hg hat
      have HV8 := Aside0.mk ho
      have HB8 := Aside0.mk hb
      have Hb8 := Aside0.mk (blk_grown Hbd.out hg (Kd.R_ne HVd.out Hbd.out (by decide)))
      obtain ⟨y0, y1⟩ := HXr.out w8 hb
      clear ho hb hg hat
      refine hK.out _ _ ⟨y0, y1⟩ (fun hHeld => ?_)
      clear hK K
      refine norm_ (a' := ?_) ?_ ?_
      rotate_left
      · show Act.put _ (some 50) _ = _
        simp only [Act.put, List.setIfInBounds_toArray, List.set_cons_zero, List.set_cons_succ, i64_w, i32_w]
        rfl
      refine pure_ (i := 24) (N := some 7) (v := ?_) (a' := ?_) #[true, true, true, true, true, true, true, true, true, true, true, true, true, true, true, true, true, true, true, true, true, true, true, true, true] rfl rfl (any_of HT_.out (by kernel_rfl)) (fun _ _ _ h => h) (Or.inl ⟨by rfl, ?_⟩) ?_ ?_
      rotate_left
      · intro w'
        go_simp
        with_reducible rfl
      rotate_left
      · simp only [Act.put, List.setIfInBounds_toArray, List.set_cons_zero, List.set_cons_succ, i64_w, i32_w]
        rfl
      refine done_ (done_of HT_.out (by kernel_rfl)) ?_

      go_wp2_with fail
      go_roundg k1
      case measure => omega
      case rel => exact ⟨j + 1, by go_num, by omega, ⟨by rw [take_map_succ l (modE N) j Hx.out, Hm.out]; exact HV8.out⟩, Hb8, HB8⟩
    | zero =>
      have ej : j = M := by omega
      have eown : (l.take j).map (modE N) = ownE N l := by
        unfold ownE
        rw [ej, hM]
        rcases Nat.le_total l.length 120 with h | h
        · rw [Nat.min_eq_left h, List.take_of_length_le (Nat.le_refl _), List.take_of_length_le h]
        · rw [Nat.min_eq_right h]
      rw [eown] at HV
      obtain ⟨G, hG⟩ : ∃ G, G = ownE N l := ⟨_, rfl⟩
      have HGe := Aside0.mk hG
      have HGl := Aside0.mk (show G.length ≤ 120 by rw [hG]; unfold ownE; simp; omega)
      have HGk := Aside0.mk (show ∀ e, e ∈ G → okE (N : Int) e = true from fun e he => by rw [hG] at he; exact own_ok hN1 he)
      rw [← hG] at HV
      obtain ⟨E, hE⟩ : ∃ E, E = G.map to44 := ⟨_, rfl⟩
      obtain ⟨R, hR⟩ : ∃ R, R = insL [] G := ⟨_, rfl⟩
      have HTo := Aside0.mk (show replevinlaw08_To.f (G.length + 1) G = some E by rw [hE]; exact to_f G (by have := HGl.out; omega))
      have HEk := Aside0.mk (show ∀ e, e ∈ E → okEdge N e by rw [hE]; exact ok44 HGk.out)
      have HEl := Aside0.mk (show E.length ≤ 120 by rw [hE, List.length_map]; exact HGl.out)
      have HRf := Aside0.mk (show replevinref08_New.f (N : Int) G = some ((N : Int), R, 0) by rw [hR]; exact refnew_f (by omega) (by have := HGl.out; omega) HGk.out)
      have HEe := Aside0.mk (And.intro hE hR)
      clear hE hR
      obtain ⟨A7, c7, e7⟩ := Kd.R_slice HV.out
      subst e7
      clear eown hG hM
      by_cases hlen : l.length ≤ 120
      · have p0 : ((j : Int) < (l.length : Int)) = False := eq_false (by have := HM.out; omega)
        clear ej hj hM1 hM2 hlen
        go_wp2_with (first
          | (go_at_call 34; refine (replevinlaw08_To.calls (G.length + 1) A7 c7 G E _ (Kd.R_reads' HV.out).2.2 (Kd.R_reads' HV.out).2.1 HTo.out).mono ?_; rintro e w3 ⟨v3, rfl, hv, hb⟩; obtain ⟨A3, c3, e3⟩ := Kd.R_slice hv; subst e3; have HV3 := Aside0.mk hv; have HW3 := Aside0.mk hb; clear hv hb)
          | (go_at_call 33; refine (New_keeps N A3 c3 E _ (by omega) (by have := HEl.out; omega) HEk.out (Kd.R_reads' HV3.out).2.2).mono ?_; rintro e w4 ⟨b, rfl, hG, hb⟩; have HG4 := Aside0.mk hG; have HB4 := Aside0.mk (below_step (below_step HB.out HW3.out) hb); have HV4 := Aside0.mk (Kd.R_below (Kd.R_below HV.out HW3.out) hb); have Hb4 := Aside0.mk (blk_below (blk_below Hb0.out HW3.out) hb); clear hG hb)
          | (go_at_call 35; refine (replevinref08_New.calls (N : Int) A7 c7 G _ _ _ _ (Kd.R_reads' HV4.out).2.2 (Kd.R_reads' HV4.out).2.1 HRf.out).mono ?_; rintro e w5 ⟨v5, rfl, hv, hb⟩; obtain ⟨A5, c5, e5⟩ := Kd.R_slice hv; subst e5; have HR5 := Aside0.mk (Kd.R_lower hv (below_size HB4.out)); have HG5 := Aside0.mk (HG4.out.below hb); have HB5 := Aside0.mk (below_step HB4.out hb); have Hb5 := Aside0.mk (blk_below Hb4.out hb); clear hv hb))
        obtain ⟨W6, hW6⟩ : ∃ W6, W6 = w5.alloc (.cells #[.int .i64 N, .slice A5 R.length c5] 26) := ⟨_, rfl⟩
        have h6n := heap_alloc_last w5 (.cells #[.int .i64 N, .slice A5 R.length c5] 26)
        rw [← hW6] at h6n ⊢
        have s0 := (blk_cell h6n 0).trans rfl
        have s1 := (blk_cell h6n 1).trans rfl
        have Hb6 := Aside0.mk (show W6.heap[w.heap.size]? = some (.cells #[.int .i64 0, .slice none 0 0] 26 (0, 0)) from by rw [hW6]; exact blk_alloc Hb5.out _)
        have t0 := (blk_cell Hb6.out 0).trans rfl
        have t1 := (blk_cell Hb6.out 1).trans rfl
        have f0 := blk_frozen Hb6.out 0
        have f1 := blk_frozen Hb6.out 1
        have HB6 := Aside0.mk (show Below w5.heap.size w5 W6 from by rw [hW6]; exact below_alloc (Below.refl _ _) _)
        clear hW6 h6n
        go_region
        all_goals go_wp2
        all_goals
          have Hx0 := blk_put Hb6.out 0 (.int .i64 N) (cs' := #[.int .i64 N, .slice none 0 0]) rfl
          have Hx := blk_put Hx0 1 (.slice A5 R.length c5) (cs' := #[.int .i64 N, .slice A5 R.length c5]) rfl
          refine bodyPost_ret (results_list (rs := [.tmp 4, .cell 5 26]) rfl (by simp) (.tmp (.cell w.heap.size 26 #[.int .i64 N, .slice A5 R.length c5] (0, 0) _ rfl Hx Try.underlying26 rfl (by kernel_rfl) .nil))) rfl ?_
          rw [← HN.out, ← HGe.out, ← HEe.out.1, ← HEe.out.2]
          exact ⟨b, _, rfl, ((HG5.out.below HB6.out).set Hb6.out (by decide) (by decide) (by decide) 0 _).set Hx0 (by decide) (by decide) (by decide) 1 _, Kd.R_set (Kd.R_set (Kd.R_below HR5.out HB6.out) Hb6.out (by decide) 0 _) Hx0 (by decide) 1 _, below_drew1 (below_set (below_set (below_step HB5.out HB6.out) (Nat.le_refl _)) (Nat.le_refl _))⟩
      · have p0 : ((j : Int) < (l.length : Int)) = True := eq_true (by have := HM.out; omega)
        have p1 : ((j : Int) < 120) = False := eq_false (by have := HM.out; omega)
        clear ej hj hM1 hM2 hlen
        go_wp2_with (first
          | (go_at_call 34; refine (replevinlaw08_To.calls (G.length + 1) A7 c7 G E _ (Kd.R_reads' HV.out).2.2 (Kd.R_reads' HV.out).2.1 HTo.out).mono ?_; rintro e w3 ⟨v3, rfl, hv, hb⟩; obtain ⟨A3, c3, e3⟩ := Kd.R_slice hv; subst e3; have HV3 := Aside0.mk hv; have HW3 := Aside0.mk hb; clear hv hb)
          | (go_at_call 33; refine (New_keeps N A3 c3 E _ (by omega) (by have := HEl.out; omega) HEk.out (Kd.R_reads' HV3.out).2.2).mono ?_; rintro e w4 ⟨b, rfl, hG, hb⟩; have HG4 := Aside0.mk hG; have HB4 := Aside0.mk (below_step (below_step HB.out HW3.out) hb); have HV4 := Aside0.mk (Kd.R_below (Kd.R_below HV.out HW3.out) hb); have Hb4 := Aside0.mk (blk_below (blk_below Hb0.out HW3.out) hb); clear hG hb)
          | (go_at_call 35; refine (replevinref08_New.calls (N : Int) A7 c7 G _ _ _ _ (Kd.R_reads' HV4.out).2.2 (Kd.R_reads' HV4.out).2.1 HRf.out).mono ?_; rintro e w5 ⟨v5, rfl, hv, hb⟩; obtain ⟨A5, c5, e5⟩ := Kd.R_slice hv; subst e5; have HR5 := Aside0.mk (Kd.R_lower hv (below_size HB4.out)); have HG5 := Aside0.mk (HG4.out.below hb); have HB5 := Aside0.mk (below_step HB4.out hb); have Hb5 := Aside0.mk (blk_below Hb4.out hb); clear hv hb))
        obtain ⟨W6, hW6⟩ : ∃ W6, W6 = w5.alloc (.cells #[.int .i64 N, .slice A5 R.length c5] 26) := ⟨_, rfl⟩
        have h6n := heap_alloc_last w5 (.cells #[.int .i64 N, .slice A5 R.length c5] 26)
        rw [← hW6] at h6n ⊢
        have s0 := (blk_cell h6n 0).trans rfl
        have s1 := (blk_cell h6n 1).trans rfl
        have Hb6 := Aside0.mk (show W6.heap[w.heap.size]? = some (.cells #[.int .i64 0, .slice none 0 0] 26 (0, 0)) from by rw [hW6]; exact blk_alloc Hb5.out _)
        have t0 := (blk_cell Hb6.out 0).trans rfl
        have t1 := (blk_cell Hb6.out 1).trans rfl
        have f0 := blk_frozen Hb6.out 0
        have f1 := blk_frozen Hb6.out 1
        have HB6 := Aside0.mk (show Below w5.heap.size w5 W6 from by rw [hW6]; exact below_alloc (Below.refl _ _) _)
        clear hW6 h6n
        go_region
        all_goals go_wp2
        all_goals
          have Hx0 := blk_put Hb6.out 0 (.int .i64 N) (cs' := #[.int .i64 N, .slice none 0 0]) rfl
          have Hx := blk_put Hx0 1 (.slice A5 R.length c5) (cs' := #[.int .i64 N, .slice A5 R.length c5]) rfl
          refine bodyPost_ret (results_list (rs := [.tmp 4, .cell 5 26]) rfl (by simp) (.tmp (.cell w.heap.size 26 #[.int .i64 N, .slice A5 R.length c5] (0, 0) _ rfl Hx Try.underlying26 rfl (by kernel_rfl) .nil))) rfl ?_
          rw [← HN.out, ← HGe.out, ← HEe.out.1, ← HEe.out.2]
          exact ⟨b, _, rfl, ((HG5.out.below HB6.out).set Hb6.out (by decide) (by decide) (by decide) 0 _).set Hx0 (by decide) (by decide) (by decide) 1 _, Kd.R_set (Kd.R_set (Kd.R_below HR5.out HB6.out) Hb6.out (by decide) 0 _) Hx0 (by decide) 1 _, below_drew1 (below_set (below_set (below_step HB5.out HB6.out) (Nat.le_refl _)) (Nat.le_refl _))⟩
end Go.Proofs.Ythkgfmjgilkdeaa
