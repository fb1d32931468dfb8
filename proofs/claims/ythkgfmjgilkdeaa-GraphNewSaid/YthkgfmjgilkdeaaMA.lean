/- Several texts of this session in one file. -/
import Derived.Lib.SlicesCompact
import Derived.Lib.RowBridge
import Derived.Test.YthkgfmjgilkdeaaQx0
import Derived.Test.YthkgfmjgilkdeaaQx4
import Derived.Shelf.Lay
import Derived.Shelf.Sort.Plain
import Derived.Shelf.Slices.In.SortNone
import Derived.Shelf.Slices.CompactI
import Derived.Shelf.Slices.Clone
import Derived.Ground.NamesProg
import Derived.Ground.Names2Prog
import Derived.Lib.OwnBridge
import Derived.Sort.OwnSortedInts
import Derived.Sort.Grow
import Derived.Laws.IdiomArrays
import Derived.Deep.RegionHeld3
import Derived.Deep.WholeRow
import Derived.Test.YthkgfmjgilkdeaaQx1
import Derived.Laws.CopyOwn
import Derived.Laws.BitsLemmas
import Derived.Deep.RegionLaw
import Derived.Deep.CutRange
/- Sorted lists in which each number stands once: what slices.Sort and slices.Compact make of a list. -/
namespace Go.Proofs.Ythkgfmjgilkdeaa.Pure
set_option linter.unusedVariables false
set_option linter.unusedSimpArgs false
open Go
/-- Two lists in strict order with the same members are the same. -/
theorem strict_ext : ∀ {l m : List Int}, l.Pairwise (· < ·) → m.Pairwise (· < ·) → (∀ x, x ∈ l ↔ x ∈ m) → l = m
  | [], [], _, _, _ => rfl
  | [], b :: m, _, _, h => absurd ((h b).mpr (List.mem_cons_self ..)) (by simp)
  | a :: l, [], _, _, h => absurd ((h a).mp (List.mem_cons_self ..)) (by simp)
  | a :: l, b :: m, hl, hm, h => by
    rw [List.pairwise_cons] at hl hm
    have hab : a = b := by
      have h1 := (h a).mp (List.mem_cons_self ..)
      have h2 := (h b).mpr (List.mem_cons_self ..)
      rcases List.mem_cons.mp h1 with e | h1
      · exact e
      · rcases List.mem_cons.mp h2 with e | h2
        · exact e.symm
        · have := hm.1 a h1
          have := hl.1 b h2
          omega
    subst hab
    congr 1
    refine strict_ext hl.2 hm.2 fun x => ⟨fun hx => ?_, fun hx => ?_⟩
    · rcases List.mem_cons.mp ((h x).mp (List.mem_cons_of_mem _ hx)) with e | hy
      · subst e
        have := hl.1 x hx
        omega
      · exact hy
    · rcases List.mem_cons.mp ((h x).mpr (List.mem_cons_of_mem _ hx)) with e | hy
      · subst e
        have := hm.1 x hx
        omega
      · exact hy
theorem upTo_spec (zs : List Int) (hs : ∀ i j, i < j → j < zs.length → zs[i]! ≤ zs[j]!) : ∀ m, m ≤ zs.length →
    (Lib.compactUpTo zs.toArray m).Pairwise (· < ·) ∧ (∀ x, x ∈ Lib.compactUpTo zs.toArray m ↔ ∃ j, j < m ∧ zs[j]! = x)
  | 0, _ => ⟨by simp [Lib.compactUpTo], by simp [Lib.compactUpTo]⟩
  | m + 1, h => by
    obtain ⟨ih1, ih2⟩ := upTo_spec zs hs m (by omega)
    rw [Lib.compactUpTo_succ]
    have hget : ∀ j : Nat, zs.toArray[j]! = zs[j]! := fun j => by rw [List.getElem!_toArray]
    by_cases hk : Lib.keeps zs.toArray m = true
    · rw [if_pos hk]
      refine ⟨List.pairwise_append.mpr ⟨ih1, by simp, fun a ha b hb => ?_⟩, fun x => ?_⟩
      · rw [List.mem_singleton.mp hb, hget]
        obtain ⟨j, hj, rfl⟩ := (ih2 a).mp ha
        have h1 := hs j m (by omega) (by omega)
        have hne : zs[m - 1]! ≠ zs[m]! := by
          simp only [Lib.keeps, Bool.or_eq_true, decide_eq_true_eq, hget] at hk
          rcases hk with hk | hk
          · omega
          · exact fun e => hk e.symm
        rcases Nat.lt_or_ge j (m - 1) with hlt | hge
        · have h2 := hs j (m - 1) hlt (by omega)
          have h3 := hs (m - 1) m (by omega) (by omega)
          omega
        · obtain rfl : j = m - 1 := by omega
          omega
      · rw [List.mem_append, ih2 x, List.mem_singleton, hget]
        constructor
        · rintro (⟨j, hj, e⟩ | e)
          · exact ⟨j, by omega, e⟩
          · exact ⟨m, by omega, e.symm⟩
        · rintro ⟨j, hj, e⟩
          rcases Nat.lt_or_ge j m with hlt | hge
          · exact .inl ⟨j, hlt, e⟩
          · obtain rfl : j = m := by omega
            exact .inr e.symm
    · rw [if_neg hk, List.append_nil]
      refine ⟨ih1, fun x => (ih2 x).trans ⟨fun ⟨j, hj, e⟩ => ⟨j, by omega, e⟩, fun ⟨j, hj, e⟩ => ?_⟩⟩
      rcases Nat.lt_or_ge j m with hlt | hge
      · exact ⟨j, hlt, e⟩
      · obtain rfl : j = m := by omega
        simp only [Lib.keeps, Bool.or_eq_true, decide_eq_true_eq, hget, not_or] at hk
        refine ⟨j - 1, ?_, ?_⟩
        · have := hk.1; omega
        · rw [← e]; exact (Decidable.not_not.mp hk.2).symm
theorem regs_spec (zs : List Int) : (Lib.compact (zs.mergeSort fun x y => decide (x ≤ y))).Pairwise (· < ·) ∧ ∀ x, x ∈ Lib.compact (zs.mergeSort fun x y => decide (x ≤ y)) ↔ x ∈ zs := by
  have hp := List.mergeSort_perm zs fun x y => decide (x ≤ y)
  have hs := List.pairwise_mergeSort (le := fun x y : Int => decide (x ≤ y)) (fun a b c h1 h2 => by simp at *; omega) (fun a b => by simp; omega) zs
  generalize zs.mergeSort (fun x y => decide (x ≤ y)) = ys at hp hs
  have hget : ∀ j, j < ys.length → ∃ h, ys[j]! = ys[j]'h := fun j h => ⟨h, by simp [h]⟩
  have := upTo_spec ys (fun i j hij hj => by
    obtain ⟨h1, e1⟩ := hget i (by omega)
    obtain ⟨h2, e2⟩ := hget j hj
    rw [e1, e2]
    simpa using List.pairwise_iff_getElem.mp hs i j h1 h2 hij) ys.length (Nat.le_refl _)
  refine ⟨this.1, fun x => (this.2 x).trans ⟨fun ⟨j, hj, e⟩ => ?_, fun hx => ?_⟩⟩
  · obtain ⟨h1, e1⟩ := hget j hj
    rw [e1] at e
    exact hp.mem_iff.mp (e ▸ List.getElem_mem h1)
  · obtain ⟨j, hj, e⟩ := List.getElem_of_mem (hp.mem_iff.mpr hx)
    exact ⟨j, hj, by rw [← e]; simp [hj]⟩
/-- A list in strict order with the members of another is what Sort and Compact make of it. -/
theorem regs_eq {zs m : List Int} (hm : m.Pairwise (· < ·)) (h : ∀ x, x ∈ m ↔ x ∈ zs) : Lib.compact (zs.mergeSort fun x y => decide (x ≤ y)) = m :=
  strict_ext (regs_spec zs).1 hm fun x => ((regs_spec zs).2 x).trans (h x).symm
end Go.Proofs.Ythkgfmjgilkdeaa.Pure

/- The graph in memory; its small functions: Nodes, node, After, Before, Has, Reverse, set. -/
namespace Go.Proofs.Ythkgfmjgilkdeaa
set_option linter.unusedVariables false
set_option linter.unusedSimpArgs false
open Go.Shelf
shelf_lay Lays.n189 Nm 189 at Try as laysSort
shelf_lay Lays2.n20 Nm2 20 at Try as laysCompact
shelf_lay Lays2.n15 Nm2 15 at Try as laysClone
end Go.Proofs.Ythkgfmjgilkdeaa
namespace Go.Proofs.Ythkgfmjgilkdeaa
open Go.RowKit Go.Shelf Go.Sort Go.Proofs.Ythkgfmjgilkdeaa.Q Go.Proofs.YthkgfmjgilkdeaaW.PrintWords Go.Proofs.YthkgfmjgilkdeaaW.PrintLast Go.Proofs.YthkgfmjgilkdeaaW.PrintMore
abbrev kI : Kd Int := Kd.int .i64
abbrev kL : Kd (List Int) := Kd.slice 3 (Kd.int .i64)
/-- Block b holds a graph: the rows of what comes after each node, and of what comes before it. -/
structure IsG (w : World) (b : Nat) (X Y : List (List Int)) : Prop where
  ex : ∃ g h cx cy, w.heap[b]? = some (.cells #[.slice g X.length cx, .slice h Y.length cy] 76 (0, 0)) ∧ kL.C w g X.length X ∧ kL.C w h Y.length Y ∧ X.length ≤ cx ∧ Y.length ≤ cy
  same : Y.length = X.length
  few : X.length ≤ 4096
  fewX : ∀ l, l ∈ X → l.length ≤ 65536
  fewY : ∀ l, l ∈ Y → l.length ≤ 65536
theorem IsG.below {w w1 : World} {b : Nat} {X Y : List (List Int)} (h : IsG w b X Y) (hb : Below w.heap.size w w1) : IsG w1 b X Y := by
  obtain ⟨⟨g, hh, cx, cy, h1, h2, h3, h4, h5⟩, h6, h7, h8, h9⟩ := h
  exact ⟨⟨g, hh, cx, cy, blk_below h1 hb, Kd.C_below h2 hb, Kd.C_below h3 hb, h4, h5⟩, h6, h7, h8, h9⟩
theorem IsG.drewN {w : World} {b : Nat} {X Y : List (List Int)} (h : IsG w b X Y) (n : Nat) : IsG (w.drewN n) b X Y := h.below (pw_below_drewN (Below.refl _ w) n)
theorem IsG.alloc {w : World} {b : Nat} {X Y : List (List Int)} (h : IsG w b X Y) (o : Obj) : IsG (w.alloc o) b X Y := h.below (below_alloc (Below.refl _ w) o)
/-- The row of a node. -/
def row (X : List (List Int)) (i : Int) : List Int := if 0 ≤ i ∧ i < X.length then X.getD i.toNat [] else []
theorem row_in {X : List (List Int)} {i : Int} (h0 : 0 ≤ i) (h1 : i < X.length) : row X i = rd_L4 X i := by rw [row, if_pos ⟨h0, h1⟩]; rfl
theorem row_out {X : List (List Int)} {i : Int} (h : ¬ (0 ≤ i ∧ i < X.length)) : row X i = [] := by rw [row, if_neg h]
theorem row_len {X : List (List Int)} (i : Int) (h : ∀ l, l ∈ X → l.length ≤ 65536) : (row X i).length ≤ 65536 := by
  unfold row
  split
  · rename_i hi
    have hl : i.toNat < X.length := by omega
    rw [List.getD_eq_getElem?_getD, List.getElem?_eq_getElem hl]
    exact h _ (List.getElem_mem hl)
  · simp
set_option maxHeartbeats 2000000 in
set_option maxRecDepth 100000 in
theorem Nodes_cell {w : World} {b n c : Nat} {g : Option Addr} (z0 : w.cell? ⟨b, 0, none⟩ = some (.slice g n c)) :
    Calls Try.prog 20 #[.pointer (some ⟨b, 0, none⟩)] w fun e w' => e = .returned (.int .i64 n) ∧ Drawn0 w w' := by
  have hu := Try.underlying76
  go_enter Try.func20, Try.ntmps20
  go_wp2
  go_ret
  exact ⟨rfl, by repeat (first | exact Drawn0.refl _ | apply Drawn0.step)⟩
/-- Is it a node? -/
def isIn (n : Nat) (i : Int) : Bool := decide (0 ≤ i) && decide (i < n)
set_option maxHeartbeats 2000000 in
set_option maxRecDepth 100000 in
theorem node_cell {w : World} {b n c : Nat} {g : Option Addr} (z0 : w.cell? ⟨b, 0, none⟩ = some (.slice g n c)) (i : Int) :
    Calls Try.prog 37 #[.pointer (some ⟨b, 0, none⟩), .int .i64 i] w fun e w' => e = .returned (.bool (isIn n i)) ∧ Drawn0 w w' := by
  have HZ := Aside0.mk z0
  clear z0
  unfold isIn
  by_cases h0 : 0 ≤ i
  · have d0 : decide (0 ≤ i) = true := decide_eq_true h0
    have h0 := eq_true h0
    obtain ⟨r, hr⟩ : ∃ r, r = decide (i < (n : Int)) := ⟨_, rfl⟩
    have Hr := Aside0.mk hr
    clear hr
    go_enter Try.func37, Try.ntmps37
    go_wp2_with (first | (go_at_call 20; refine (Nodes_cell HZ.out).mono ?_; rintro e w' ⟨rfl, ⟨m1, rfl⟩⟩))
    go_ret
    exact ⟨by have := of_decide_eq_true d0; have e := Hr.out; simp [this], by repeat (first | exact Drawn0.refl _ | apply Drawn0.step)⟩
  · have d0 : decide (0 ≤ i) = false := decide_eq_false h0
    clear h0
    go_enter Try.func37, Try.ntmps37
    go_wp2_with fail
    go_ret
    exact ⟨by have := of_decide_eq_false d0; simp; omega, by repeat (first | exact Drawn0.refl _ | apply Drawn0.step)⟩
theorem Nodes_calls {w : World} {b : Nat} {X Y : List (List Int)} (hG : IsG w b X Y) :
    Calls Try.prog 20 #[.pointer (some ⟨b, 0, none⟩)] w fun e w' => e = .returned (.int .i64 X.length) ∧ Drawn0 w w' := by
  obtain ⟨g, h, cx, cy, hb, -, -, -, -⟩ := hG.ex
  exact Nodes_cell ((blk_cell hb 0).trans rfl)
abbrev isNode (X : List (List Int)) (i : Int) : Bool := isIn X.length i
theorem node_calls {w : World} {b : Nat} {X Y : List (List Int)} (hG : IsG w b X Y) (i : Int) :
    Calls Try.prog 37 #[.pointer (some ⟨b, 0, none⟩), .int .i64 i] w fun e w' => e = .returned (.bool (isNode X i)) ∧ Drawn0 w w' := by
  obtain ⟨g, h, cx, cy, hb, -, -, -, -⟩ := hG.ex
  exact node_cell ((blk_cell hb 0).trans rfl) i
theorem clone_R {w : World} (A : Option Addr) (c : Nat) (xs : List Int) (h : kI.C w A xs.length xs) (hb : xs.length ≤ 65536) :
    Calls Try.prog 38 #[.slice A xs.length c] w fun e w' => ∃ v, e = .returned v ∧ kI.R 3 w' w.heap.size (fun _ => True) v xs ∧ Below w.heap.size w w' := by
  have hr := Kd.reads_of_C (d := 0) h
  cases A with
  | none =>
    have h0 : xs.length = 0 := by
      rcases Nat.eq_zero_or_pos xs.length with e | e
      · exact e
      · obtain ⟨ad, e', _⟩ := hr.2.2 e
        cases e'
    obtain rfl := List.eq_nil_of_length_eq_zero h0
    refine (Any.slices_Clone_int_nil laysClone 0 c w).mono ?_
    rintro e w' ⟨rfl, rfl⟩
    exact ⟨_, rfl, Kd.R_nil _ _ _ _ _, Below.refl _ _⟩
  | some a =>
    rcases Nat.eq_zero_or_pos xs.length with e | e
    · obtain rfl := List.eq_nil_of_length_eq_zero e
      refine (Any.slices_Clone_int_zero laysClone a c w).mono ?_
      rintro e w' ⟨v', rfl, ho, _, hbl⟩
      exact ⟨_, rfl, Kd.R_of_own ho (fun _ _ => trivial), hbl⟩
    · obtain ⟨ad, e', hc⟩ := hr.2.2 e
      cases e'
      obtain ⟨blk, off, sp⟩ := a
      have hsp : sp = none := by
        have h0 := hc 0 e
        unfold Addr.add at h0
        rw [if_pos rfl] at h0
        unfold World.cell? at h0
        cases sp with
        | none => rfl
        | some s =>
          simp at h0
          split at h0
          · simp at h0
          · cases h0
      subst hsp
      refine (Any.slices_Clone_int laysClone blk off xs.length c xs w (Nat.le_refl _) (by omega) fun j hj => ?_).mono ?_
      · have := hc j hj
        unfold Addr.add at this
        by_cases h0 : j = 0
        · subst h0; simpa using this
        · rw [if_neg h0] at this
          exact this
      · rintro e w' ⟨v', rfl, ho, _, hbl⟩
        rw [List.take_length] at ho
        exact ⟨_, rfl, Kd.R_of_own ho (fun _ _ => trivial), hbl⟩
set_option maxHeartbeats 2000000 in
set_option maxRecDepth 100000 in
theorem After_calls {w : World} {b : Nat} {X Y : List (List Int)} (hG : IsG w b X Y) (i : Int) :
    Calls Try.prog 14 #[.pointer (some ⟨b, 0, none⟩), .int .i64 i] w fun e w' => ∃ v, e = .returned v ∧ kI.R 3 w' w.heap.size (fun _ => True) v (row X i) ∧ Below w.heap.size w w' := by
  have HG := Aside0.mk hG
  have HB0 := Aside0.mk (Below.refl w.heap.size w)
  by_cases hi : 0 ≤ i ∧ i < X.length
  · obtain ⟨g, h, cx, cy, hb, hX, hY, -, -⟩ := hG.ex
    have z0 : w.cell? ⟨b, 0, none⟩ = some (.slice g X.length cx) := (blk_cell hb 0).trans rfl
    have hu := Try.underlying76
    have hin : isNode X i = true := by unfold isNode isIn; simp [hi.1, hi.2]
    have hs := hG.same
    obtain ⟨ad, A0, c0, e0, hc, hlc, hC⟩ := at_L4 hX i hi.1 (by omega)
    have Hlen := Aside0.mk (row_len (X := X) i hG.fewX)
    have HR := Aside0.mk hC
    have p := eq_true hi.1
    have q : (i < (X.length : Int)) = True := eq_true (by omega)
    rw [← row_in hi.1 (by omega)] at HR hc
    obtain ⟨xs, hxs⟩ : ∃ xs, xs = row X i := ⟨_, rfl⟩
    rw [← hxs] at HR hc Hlen ⊢
    subst e0
    clear hxs hlc hC hX hY hb hG hi hs
    go_enter Try.func14, Try.ntmps14
    go_wp2_with (first | (go_at_call 37; refine (node_calls (by first | exact HG.out | exact HG.out.drewN _) i).mono ?_; rw [hin]; rintro e w' ⟨rfl, ⟨m1, rfl⟩⟩) | (go_at_call 38; refine (clone_R A0 c0 xs (Kd.C_below HR.out (by first | exact Below.refl _ _ | exact pw_below_drewN (Below.refl _ _) _)) Hlen.out).mono ?_; rintro e w7 ⟨v1, rfl, hv, hb7⟩))
    go_ret
    exact ⟨_, rfl, Kd.R_lower hv (Nat.le_refl _), below_step (by repeat (first | exact HB0.out | apply pw_below_drewN)) hb7⟩
  · have hin : isNode X i = false := by unfold isNode isIn; simp; omega
    have hs := hG.same
    rw [row_out (X := X) (by omega)]
    clear hG hi hs
    go_enter Try.func14, Try.ntmps14
    go_wp2_with (first | (go_at_call 37; refine (node_calls (by first | exact HG.out | exact HG.out.drewN _) i).mono ?_; rw [hin]; rintro e w' ⟨rfl, ⟨m1, rfl⟩⟩))
    go_ret
    exact ⟨_, rfl, Kd.R_nil _ _ _ _ _, by repeat (first | exact HB0.out | apply pw_below_drewN)⟩
set_option maxHeartbeats 2000000 in
set_option maxRecDepth 100000 in
theorem Before_calls {w : World} {b : Nat} {X Y : List (List Int)} (hG : IsG w b X Y) (i : Int) :
    Calls Try.prog 16 #[.pointer (some ⟨b, 0, none⟩), .int .i64 i] w fun e w' => ∃ v, e = .returned v ∧ kI.R 3 w' w.heap.size (fun _ => True) v (row Y i) ∧ Below w.heap.size w w' := by
  have HG := Aside0.mk hG
  have HB0 := Aside0.mk (Below.refl w.heap.size w)
  by_cases hi : 0 ≤ i ∧ i < X.length
  · obtain ⟨g, h, cx, cy, hb, hX, hY, -, -⟩ := hG.ex
    have z0 : w.cell? ⟨b, 1, none⟩ = some (.slice h Y.length cy) := (blk_cell hb 1).trans rfl
    have hu := Try.underlying76
    have hin : isNode X i = true := by unfold isNode isIn; simp [hi.1, hi.2]
    have hs := hG.same
    obtain ⟨ad, A0, c0, e0, hc, hlc, hC⟩ := at_L4 hY i hi.1 (by omega)
    have Hlen := Aside0.mk (row_len (X := Y) i hG.fewY)
    have HR := Aside0.mk hC
    have p := eq_true hi.1
    have q : (i < (Y.length : Int)) = True := eq_true (by omega)
    rw [← row_in hi.1 (by omega)] at HR hc
    obtain ⟨xs, hxs⟩ : ∃ xs, xs = row Y i := ⟨_, rfl⟩
    rw [← hxs] at HR hc Hlen ⊢
    subst e0
    clear hxs hlc hC hX hY hb hG hi hs
    go_enter Try.func16, Try.ntmps16
    go_wp2_with (first | (go_at_call 37; refine (node_calls (by first | exact HG.out | exact HG.out.drewN _) i).mono ?_; rw [hin]; rintro e w' ⟨rfl, ⟨m1, rfl⟩⟩) | (go_at_call 38; refine (clone_R A0 c0 xs (Kd.C_below HR.out (by first | exact Below.refl _ _ | exact pw_below_drewN (Below.refl _ _) _)) Hlen.out).mono ?_; rintro e w7 ⟨v1, rfl, hv, hb7⟩))
    go_ret
    exact ⟨_, rfl, Kd.R_lower hv (Nat.le_refl _), below_step (by repeat (first | exact HB0.out | apply pw_below_drewN)) hb7⟩
  · have hin : isNode X i = false := by unfold isNode isIn; simp; omega
    have hs := hG.same
    rw [row_out (X := Y) (by omega)]
    clear hG hi hs
    go_enter Try.func16, Try.ntmps16
    go_wp2_with (first | (go_at_call 37; refine (node_calls (by first | exact HG.out | exact HG.out.drewN _) i).mono ?_; rw [hin]; rintro e w' ⟨rfl, ⟨m1, rfl⟩⟩))
    go_ret
    exact ⟨_, rfl, Kd.R_nil _ _ _ _ _, by repeat (first | exact HB0.out | apply pw_below_drewN)⟩
end Go.Proofs.Ythkgfmjgilkdeaa

/- The graph's Has, Reverse, Edges and set. -/
namespace Go.Proofs.Ythkgfmjgilkdeaa
set_option linter.unusedVariables false
set_option linter.unusedSimpArgs false
open Go.RowKit Go.Shelf Go.Sort Go.Proofs.Ythkgfmjgilkdeaa.Q Go.Proofs.YthkgfmjgilkdeaaW.PrintWords Go.Proofs.YthkgfmjgilkdeaaW.PrintLast Go.Proofs.YthkgfmjgilkdeaaW.PrintMore
set_option maxHeartbeats 2000000 in
set_option maxRecDepth 100000 in
theorem Has_in {w : World} {b : Nat} {X Y : List (List Int)} (hG : IsG w b X Y) (i j : Int) (h0 : 0 ≤ i) (h1 : i < X.length) (k : Nat) (t : Int) (r : Bool) (hbs : slices_BinarySearch_int_int.f k (row X i) j = some (t, r)) :
    Calls Try.prog 18 #[.pointer (some ⟨b, 0, none⟩), .int .i64 i, .int .i64 j] w fun e w' => e = .returned (.bool r) ∧ Drawn0 w w' := by
  have HG := Aside0.mk hG
  have HS := Aside0.mk hbs
  obtain ⟨g, h, cx, cy, hb, hX, hY, -, -⟩ := hG.ex
  have z0 : w.cell? ⟨b, 0, none⟩ = some (.slice g X.length cx) := (blk_cell hb 0).trans rfl
  have hu := Try.underlying76
  have hin : isNode X i = true := by unfold isNode isIn; simp [h0, h1]
  obtain ⟨ad, A0, c0, e0, hc, hlc, hC⟩ := at_L4 hX i h0 h1
  rw [← row_in h0 h1] at hc hlc hC
  have HR := Aside0.mk hC
  have HC := Aside0.mk hlc
  have p := eq_true h0
  have q : (i < (X.length : Int)) = True := eq_true h1
  obtain ⟨xs, hxs⟩ : ∃ xs, xs = row X i := ⟨_, rfl⟩
  rw [← hxs] at HR HC HS hc
  subst e0
  clear hxs hlc hC hX hY hb hG hbs h0 h1
  go_enter Try.func18, Try.ntmps18
  go_wp2_with (first | (go_at_call 37; refine (node_calls (by first | exact HG.out | exact HG.out.drewN _) i).mono ?_; rw [hin]; rintro e w' ⟨rfl, ⟨m1, rfl⟩⟩) | (go_at_call 39; refine (slices_BinarySearch_int_int.calls k A0 c0 xs j t r _ (Kd.C_below HR.out (by first | exact Below.refl _ _ | exact pw_below_drewN (Below.refl _ _) _)) HC.out HS.out).mono ?_; rintro e w7 ⟨rfl, ⟨m2, rfl⟩⟩))
  go_ret
  exact ⟨rfl, by repeat (first | exact Drawn0.refl _ | apply Drawn0.step)⟩
set_option maxHeartbeats 2000000 in
set_option maxRecDepth 100000 in
theorem Has_out {w : World} {b : Nat} {X Y : List (List Int)} (hG : IsG w b X Y) (i j : Int) (hi : ¬ (0 ≤ i ∧ i < X.length)) :
    Calls Try.prog 18 #[.pointer (some ⟨b, 0, none⟩), .int .i64 i, .int .i64 j] w fun e w' => e = .returned (.bool false) ∧ Drawn0 w w' := by
  have HG := Aside0.mk hG
  have hin : isNode X i = false := by unfold isNode isIn; simp; omega
  clear hG hi
  go_enter Try.func18, Try.ntmps18
  go_wp2_with (first | (go_at_call 37; refine (node_calls (by first | exact HG.out | exact HG.out.drewN _) i).mono ?_; rw [hin]; rintro e w' ⟨rfl, ⟨m1, rfl⟩⟩))
  go_ret
  exact ⟨rfl, by repeat (first | exact Drawn0.refl _ | apply Drawn0.step)⟩
set_option maxHeartbeats 2000000 in
set_option maxRecDepth 100000 in
theorem Reverse_calls {w : World} {b : Nat} {X Y : List (List Int)} (hG : IsG w b X Y) :
    Calls Try.prog 19 #[.pointer (some ⟨b, 0, none⟩)] w fun e w' => ∃ b', e = .returned (.pointer (some ⟨b', 0, none⟩)) ∧ IsG w' b' Y X ∧ Below w.heap.size w w' := by
  have HG := Aside0.mk hG
  have HB0 := Aside0.mk (Below.refl w.heap.size w)
  obtain ⟨g, h, cx, cy, hb, hX, hY, hcx, hcy⟩ := hG.ex
  have z0 : w.cell? ⟨b, 0, none⟩ = some (.slice g X.length cx) := (blk_cell hb 0).trans rfl
  have z1 : w.cell? ⟨b, 1, none⟩ = some (.slice h Y.length cy) := (blk_cell hb 1).trans rfl
  have hu := Try.underlying76
  have HX := Aside0.mk hX
  have HY := Aside0.mk hY
  have HC := Aside0.mk (And.intro hcx hcy)
  clear hb hX hY hcx hcy hG
  go_enter Try.func19, Try.ntmps19
  go_wp2
  go_region_held3 (fun w' => w'.cell? ⟨b, 0, none⟩ = some (.slice g X.length cx) ∧ w'.cell? ⟨b, 1, none⟩ = some (.slice h Y.length cy)) (go_keep) (fail)
  all_goals go_wp2
  all_goals go_ret
  all_goals
    have hbl : Below w.heap.size w (w.alloc (.cells #[.slice h Y.length cy, .slice g X.length cx] 76)).drew := by repeat (first | exact HB0.out | apply below_alloc | apply pw_below_drewN | apply below_drew1)
    exact ⟨_, rfl, ⟨⟨h, g, cy, cx, blk_drew (heap_alloc_last w _), Kd.C_below HY.out hbl, Kd.C_below HX.out hbl, HC.out.2, HC.out.1⟩, HG.out.same.symm, by have := HG.out.same; have := HG.out.few; omega, HG.out.fewY, HG.out.fewX⟩, hbl⟩
/-- What graph.set makes of a list: sorted, each once. -/
def regs (zs : List Int) : List Int := Lib.compact (zs.mergeSort fun x y => decide (x ≤ y))
theorem regs_left {w w1 : World} {g cap nn q : Nat} {os : Array Obj} {zs : List Int} (hown : w1.ownsRow w.heap.size 3 1 (.slice (some ⟨g, 0, none⟩) zs.length cap) zs.length (zs.map (Value.int .i64))) (hbel : Below w.heap.size w w1) :
    (putRow (Value.int .i64) (Sort.ahead (grow (putRow (Value.int .i64) (Sort.ahead w1 nn) g 0 (zs.mergeSort fun x y => decide (x ≤ y)).toArray) os) q) g 0 (regs zs ++ List.replicate ((zs.mergeSort fun x y => decide (x ≤ y)).length - (regs zs).length) 0).toArray).ownsRow w.heap.size 3 1 (.slice (some ⟨g, 0, none⟩) (regs zs).length cap) (regs zs).length ((regs zs).map (Value.int .i64)) ∧
    Below w.heap.size w (putRow (Value.int .i64) (Sort.ahead (grow (putRow (Value.int .i64) (Sort.ahead w1 nn) g 0 (zs.mergeSort fun x y => decide (x ≤ y)).toArray) os) q) g 0 (regs zs ++ List.replicate ((zs.mergeSort fun x y => decide (x ≤ y)).length - (regs zs).length) 0).toArray) ∧ w1.grownBy (putRow (Value.int .i64) (Sort.ahead (grow (putRow (Value.int .i64) (Sort.ahead w1 nn) g 0 (zs.mergeSort fun x y => decide (x ≤ y)).toArray) os) q) g 0 (regs zs ++ List.replicate ((zs.mergeSort fun x y => decide (x ≤ y)).length - (regs zs).length) 0).toArray) (some g) := by
  have hl2 : (zs.mergeSort fun x y => decide (x ≤ y)).length = zs.length := List.length_mergeSort zs
  have hle : (regs zs).length ≤ zs.length := by
    have := Lib.compact_length_le (zs.mergeSort fun x y => decide (x ≤ y))
    unfold regs
    omega
  rcases hown.2 with ⟨h0, _⟩ | ⟨g', cap', cur, hv, hbase, hb, h1, h2, h3, h4⟩
  · cases h0
  cases hv
  have hs := ownsRow_sortedI (n := nn) (os := os) (ts := zs.mergeSort fun x y => decide (x ≤ y)) hl2 hbase hb h1 h2 h3
  have hc := Lib.ownsRow_putRow (q := q) (k := (regs zs).length) (ys := regs zs ++ List.replicate ((zs.mergeSort fun x y => decide (x ≤ y)).length - (regs zs).length) 0) hs (by simp; omega) (by omega)
  rw [List.take_left] at hc
  refine ⟨hc, Lib.below_putRow (hbel.grown (grownBy_sortedI _) hbel.size (fun j hj => by cases hj; exact hbase)) hbase, (grownBy_sortedI (n := nn) (os := os) (zs.mergeSort fun x y => decide (x ≤ y)).toArray).trans ⟨rfl, rfl, rfl, by simp [putRow, mapBlock, Sort.ahead], fun k hk hne => ?_⟩⟩
  have : g ≠ k := fun e => hne (by rw [e])
  simp [putRow, mapBlock, Sort.ahead, Array.getElem?_modify, this]
set_option maxHeartbeats 2000000 in
set_option maxRecDepth 100000 in
theorem set_own (w0 w : World) (g cap : Nat) (zs : List Int) (hown : w.ownsRow w0.heap.size 3 1 (.slice (some ⟨g, 0, none⟩) zs.length cap) zs.length (zs.map (Value.int .i64))) (hbel : Below w0.heap.size w0 w) (hz : zs.length ≤ 65536) :
    Calls Try.prog 61 #[.slice (some ⟨g, 0, none⟩) zs.length cap] w fun e w' => e = .returned (.slice (some ⟨g, 0, none⟩) (regs zs).length cap) ∧ w'.ownsRow w0.heap.size 3 1 (.slice (some ⟨g, 0, none⟩) (regs zs).length cap) (regs zs).length ((regs zs).map (Value.int .i64)) ∧ Below w0.heap.size w0 w' ∧ w.grownBy w' (some g) := by
  obtain ⟨g', cap', e, hbg, hgl, hncap, hcm, hlen, hH⟩ := Lib.holds_of_ownsRow hown (by simp)
  injection e with e1 _ e3
  injection e1 with e1
  injection e1 with e1
  subst e1 e3
  have hsort := Any.slices_Sort_int laysSort g 0 cap zs w hH hgl (by omega)
  change Calls Try.prog 55 _ _ _ at hsort
  have X := Aside0.mk (And.intro hown (And.intro hbel (And.intro hgl (And.intro hncap hH))))
  clear hown hbel hH
  go_enter Try.func61, Try.ntmps61
  go_wp2_with (first
    | (go_at_call 55; refine hsort.mono ?_; rintro e w2 ⟨rfl, nn, os, rfl⟩
       have hl2 : (zs.mergeSort fun x y => decide (x ≤ y)).length = zs.length := List.length_mergeSort zs
       have hH2 : Holds (Value.int .i64) (grow (putRow (Value.int .i64) (Sort.ahead w nn) g 0 (zs.mergeSort fun x y => decide (x ≤ y)).toArray) os) g 0 (zs.mergeSort fun x y => decide (x ≤ y)).toArray :=
         holds_grow (Value.int .i64) _ os g 0 _ (by simpa [putRow, mapBlock, Sort.ahead] using X.out.2.2.1) (holds_putRow (Value.int .i64) _ g 0 _ _ (holds_ahead (Value.int .i64) w nn g 0 _ X.out.2.2.2.2) (by simp))
       have hcomp := Any.slices_Compact_int laysCompact g 0 cap (zs.mergeSort fun x y => decide (x ≤ y)) _ hH2 (by omega) (by have := X.out.2.2.2.1; omega)
       change Calls Try.prog 72 _ _ _ at hcomp
       rw [show (zs.mergeSort fun x y => decide (x ≤ y)).length = zs.length from hl2] at hcomp
       clear hH2 hsort)
    | (go_at_call 72; refine hcomp.mono ?_; rintro e w3 ⟨rfl, q, rfl⟩))
  go_ret
  have := regs_left (nn := nn) (q := q) (os := os) X.out.1 X.out.2.1
  rw [hl2] at this
  exact ⟨rfl, this⟩
set_option maxHeartbeats 2000000 in
set_option maxRecDepth 100000 in
theorem set_none (w : World) :
    Calls Try.prog 61 #[.slice none 0 0] w fun e w' => e = .returned (.slice none 0 0) ∧ w' = w := by
  have h1 := Any.slices_Sort_int_none laysSort none 0 w
  change Calls Try.prog 55 _ _ _ at h1
  have h2 := Any.slices_Compact_int_empty laysCompact none 0 w
  change Calls Try.prog 72 _ _ _ at h2
  go_enter Try.func61, Try.ntmps61
  go_wp2_with (first | (go_at_call 55; refine h1.mono ?_; rintro e w2 ⟨rfl, rfl⟩) | (go_at_call 72; refine h2.mono ?_; rintro e w2 ⟨rfl, rfl⟩))
  go_ret
  exact ⟨rfl, rfl⟩

/-- graph.set at a row that the caller owns. -/
theorem set_row {w : World} {base : Nat} {v : Value} {zs : List Int} (hown : w.ownsRow base 3 1 v zs.length (zs.map (Value.int .i64))) (hz : zs.length ≤ 65536) :
    Calls Try.prog 61 #[v] w fun e w' => ∃ v', e = .returned v' ∧ w'.ownsRow base 3 1 v' (regs zs).length ((regs zs).map (Value.int .i64)) ∧ w.grownBy w' v.ownBlock ∧ v'.ownBlock = v.ownBlock := by
  rcases hown.2 with ⟨e0, h0⟩ | ⟨g, cap, cur, e0, hbase, hcur, -⟩
  · obtain rfl := List.eq_nil_of_length_eq_zero h0
    subst e0
    refine (set_none w).mono ?_
    rintro e w' ⟨rfl, rfl⟩
    rw [show regs [] = [] by simp [regs, Lib.compact, Lib.compactUpTo]]
    exact ⟨_, rfl, hown, World.grownBy.refl _ _, rfl⟩
  · subst e0
    obtain ⟨W0, hW0⟩ : ∃ W0 : World, W0.heap.size = base ∧ Below W0.heap.size W0 w := by
      have hlt := blk_lt hcur
      have hs : (w.heap.extract 0 base).size = base := by rw [Array.size_extract]; omega
      refine ⟨{ w with heap := w.heap.extract 0 base }, hs, ⟨rfl, rfl, rfl, ?_, fun k hk => ?_⟩⟩
      · show (w.heap.extract 0 base).size ≤ _
        rw [hs]; omega
      · have hk : k < base := by
          have hk : k < (w.heap.extract 0 base).size := hk
          rwa [hs] at hk
        show w.heap[k]? = (w.heap.extract 0 base)[k]?
        rw [Array.getElem?_extract, if_pos (by omega), Nat.zero_add]
    refine (set_own W0 w g cap zs (by rw [hW0.1]; exact hown) hW0.2 hz).mono ?_
    rintro e w' ⟨rfl, ho, -, hg⟩
    exact ⟨_, rfl, by rw [hW0.1] at ho; exact ho, hg, rfl⟩
/-- The edges of one node. -/
def edgesRow (i : Nat) (l : List Int) : List S44 := l.map fun x => ⟨(i : Int), x⟩
/-- The edges of the first n nodes. -/
def edgesTo (X : List (List Int)) (n : Nat) : List S44 := (List.range n).flatMap fun i => edgesRow i (X.getD i [])
theorem edgesTo_succ (X : List (List Int)) (n : Nat) : edgesTo X (n + 1) = edgesTo X n ++ edgesRow n (X.getD n []) := by
  unfold edgesTo
  rw [List.range_succ, List.flatMap_append]
  simp
theorem edgesRow_len (i : Nat) (l : List Int) : (edgesRow i l).length = l.length := by simp [edgesRow]
theorem edgesTo_len (X : List (List Int)) (h : ∀ l, l ∈ X → l.length ≤ 65536) : ∀ n, (edgesTo X n).length ≤ n * 65536
  | 0 => by simp [edgesTo]
  | n + 1 => by
    rw [edgesTo_succ, List.length_append, edgesRow_len]
    have h1 := edgesTo_len X h n
    have h2 : (X.getD n []).length ≤ 65536 := by
      rcases Nat.lt_or_ge n X.length with hl | hl
      · rw [List.getD_eq_getElem?_getD, List.getElem?_eq_getElem hl]
        exact h _ (List.getElem_mem hl)
      · rw [List.getD_eq_getElem?_getD, List.getElem?_eq_none hl]
        simp
    omega
theorem take_succ_row (i : Nat) (l : List Int) (j : Nat) (h : j < l.length) : edgesRow i (l.take (j + 1)) = edgesRow i (l.take j) ++ [⟨(i : Int), l.getD j 0⟩] := by
  unfold edgesRow
  rw [List.take_add_one, List.getElem?_eq_getElem h, List.getD_eq_getElem?_getD, List.getElem?_eq_getElem h, List.map_append]
  rfl
set_option maxHeartbeats 4000000 in
set_option maxRecDepth 100000 in
theorem Edges_calls {w : World} {b : Nat} {X Y : List (List Int)} (hG : IsG w b X Y) :
    Calls Try.prog 22 #[.pointer (some ⟨b, 0, none⟩)] w fun e w' => ∃ v, e = .returned v ∧ k44.R 44 w' w.heap.size (fun _ => True) v (edgesTo X X.length) ∧ Below w.heap.size w w' := by
  have HG := Aside0.mk hG
  have HB0 := Aside0.mk (Below.refl w.heap.size w)
  obtain ⟨N, hN⟩ : ∃ N, N = X.length := ⟨_, rfl⟩
  have HN := Aside0.mk hN
  have HO0 := Aside0.mk (Kd.R_nil k44 44 w w.heap.size (fun _ => True))
  clear hG hN
  have hu := Try.underlying76
  rw [← HN.out]
  go_enter Try.func22, Try.ntmps22
  go_wp2_with (first | (go_at_call 20; refine (Nodes_calls (by first | exact HG.out | exact HG.out.drewN _)).mono ?_; rw [← HN.out]; rintro e w' ⟨rfl, ⟨m1, rfl⟩⟩))
  go_loopg [3, 9] N (fun kq v3 v9 w' => ∃ (i : Nat), v9 = .int .i64 i ∧ i + kq = N ∧ Aside0 (k44.R 44 w' w.heap.size (fun _ => True) v3 (edgesTo X i)) ∧ Aside0 (Below w.heap.size w w'))
  case atStart => exact ⟨0, rfl, by omega, ⟨by simpa [edgesTo] using Kd.R_nil k44 44 _ _ _⟩, ⟨by repeat (first | exact HB0.out | apply pw_below_drewN)⟩⟩
  case round =>
    clear HB0 HO0
    obtain ⟨i, rfl, hi, HO, HB⟩ := hrel
    cases gk with
    | zero =>
      obtain rfl : i = N := by omega
      go_wp2_with fail
      go_ret
      exact ⟨_, rfl, HO.out, HB.out⟩
    | succ k1 =>
      have hlt : i < N := by omega
      obtain ⟨g, h, cx, cy, hb, hX, hY, -, -⟩ := HG.out.ex
      have z0 : wr.cell? ⟨b, 0, none⟩ = some (.slice g X.length cx) := pw_cell_below HB.out ((blk_cell hb 0).trans rfl)
      have hlx : i < X.length := by have := HN.out; omega
      obtain ⟨ad, A0, c0, e0, hc, hlc, hC⟩ := at_L4 hX (i : Int) (by omega) (by omega)
      obtain ⟨l, hl⟩ : ∃ l, l = rd_L4 X (i : Int) := ⟨_, rfl⟩
      have Hl := Aside0.mk (show l = X.getD i [] from hl)
      have Hll := Aside0.mk (show l.length ≤ 65536 from by rw [Hl.out, List.getD_eq_getElem?_getD, List.getElem?_eq_getElem hlx]; exact HG.out.fewX _ (List.getElem_mem hlx))
      have HT := Aside0.mk (edgesTo_len X HG.out.fewX i)
      have HNf := Aside0.mk (show N ≤ 4096 by rw [HN.out]; exact HG.out.few)
      rw [← hl] at hc hlc hC
      rw [Int.toNat_natCast] at hc
      replace hc := pw_cell_below HB.out hc
      have HC := Aside0.mk hC
      have p := eq_true (show (0 : Int) ≤ i by omega)
      have q : ((i : Int) < (X.length : Int)) = True := eq_true (by omega)
      have q2 : ((i : Int) < (N : Int)) = True := eq_true (by omega)
      subst e0
      clear hl hlc hC hX hY hb hlx
      go_wp2_with fail
      go_loopg [3, 20] l.length (fun kq v3 v20 w' => ∃ (j : Nat), v20 = .int .i64 j ∧ j + kq = l.length ∧ Aside0 (k44.R 44 w' w.heap.size (fun _ => True) v3 (edgesTo X i ++ edgesRow i (l.take j))) ∧ Aside0 (Below w.heap.size w w'))
      case atStart => exact ⟨0, rfl, by omega, ⟨by simpa [edgesRow] using HO.out⟩, HB⟩
      case round =>
        clear HO HB
        obtain ⟨j, rfl, hj, HO, HB⟩ := hrel
        cases gk with
        | zero =>
          obtain rfl : j = l.length := by omega
          have hN4 := HNf.out
          go_wp2_with fail
          go_roundg k1
          case measure => omega
          case rel => exact ⟨i + 1, by go_num, by omega, ⟨by have := HO.out; rwa [List.take_length, Hl.out, ← edgesTo_succ] at this⟩, HB⟩
        | succ k2 =>
          have hjl : j < l.length := by omega
          obtain ⟨ad2, e2, hx2⟩ := Kd.at_int (Kd.C_below HC.out HB.out) (j : Int) (by omega) (by omega)
          rw [Int.toNat_natCast] at hx2
          subst e2
          have p2 := eq_true (show (0 : Int) ≤ j by omega)
          have q3 : ((j : Int) < (l.length : Int)) = True := eq_true (by omega)
          have Hrow := Aside0.mk (take_succ_row i l j hjl)
          have Hlen := Aside0.mk (show (edgesTo X i ++ edgesRow i (l.take j)).length ≤ 4096 * 65536 by rw [List.length_append, edgesRow_len, List.length_take]; have := HT.out; have := Hll.out; have := HNf.out; omega)
          obtain ⟨x, hx⟩ : ∃ x, x = rd l (j : Int) := ⟨_, rfl⟩
          have Hx := Aside0.mk (show x = l.getD j 0 from hx)
          rw [← hx] at hx2
          obtain ⟨es, hes⟩ : ∃ es, es = edgesTo X i ++ edgesRow i (l.take j) := ⟨_, rfl⟩
          have Hes := Aside0.mk hes
          rw [← hes] at HO Hlen
          clear hes hx hjl
          have hl4 := Hll.out
          go_wp2_with ((with_reducible refine gate_builtin (b := .append) (xs := #[.tmp 24, .tmp 28]) rfl ?_); at_builtin; refine Kd.R_append k44 (w0 := w) w.heap.size rfl (.tmp 24) (.tmp 28) 37 44 (.agg #[.int .i64 0, .int .i64 0]) 16 rfl Try.underlying37 info44 rfl (by decide) (by decide) u3 es (⟨(i : Int), x⟩ : S44) [.int .i64 i, .int .i64 x] (fun _ => True) (fun _ => False) rfl ?ax (k44_mkM _ _ _ _) (fun _ h => h.elim) (fun _ _ => trivial) ?aO ?aB ?aS ?aL ?_; (case ax => first | (go_simp; done) | (go_simp; rfl) | simp); (case aO => exact HO.out); (case aB => exact HB.out); (case aS => exact (below_size HB.out)); (case aL => have := Hlen.out; omega); intro v1 w7 ho hbb hg hatt; have n0_ := Aside0.mk ho; have n1_ := Aside0.mk hbb; clear HO HB ho hbb hg hatt; have HO := n0_; have HB := n1_; clear n0_ n1_)
          go_roundg k2
          case measure => omega
          case rel => exact ⟨j + 1, by go_num, by omega, ⟨by rw [Hrow.out, ← List.append_assoc, ← Hes.out, ← Hx.out]; exact HO.out⟩, HB⟩
end Go.Proofs.Ythkgfmjgilkdeaa

/- Two tables of rows that a call owns: a row is written, a header is stored, and the others stay. -/
namespace Go.Proofs.Ythkgfmjgilkdeaa
set_option linter.unusedVariables false
set_option linter.unusedSimpArgs false
open Go.RowKit Go.Shelf Go.Sort Go.Proofs.Ythkgfmjgilkdeaa.Q Go.Proofs.YthkgfmjgilkdeaaW.PrintWords Go.Proofs.YthkgfmjgilkdeaaW.PrintLast Go.Proofs.YthkgfmjgilkdeaaW.PrintMore
def upd {α : Type} (f : Bool → Nat → α) (t : Bool) (i : Nat) (x : α) : Bool → Nat → α := fun t' i' => if t' = t ∧ i' = i then x else f t' i'
theorem upd_same {α : Type} (f : Bool → Nat → α) (t : Bool) (i : Nat) (x : α) : upd f t i x t i = x := by simp [upd]
theorem upd_ne {α : Type} (f : Bool → Nat → α) (t : Bool) (i : Nat) (x : α) {t' : Bool} {i' : Nat} (h : ¬ (t' = t ∧ i' = i)) : upd f t i x t' i' = f t' i' := by simp only [upd, if_neg h]
/-- The two blocks of headers. -/
structure Hdr (w : World) (base N : Nat) (g : Bool → Nat) (val : Bool → Nat → Value) : Prop where
  hd : ∀ t, w.heap[g t]? = some (.cells ((List.range N).map (val t)).toArray 30 (0, 0))
  gb : ∀ t, base ≤ g t
  ne : g true ≠ g false
/-- The rows themselves. -/
structure Rws (w : World) (base N : Nat) (val : Bool → Nat → Value) (XX : Bool → Nat → List Int) : Prop where
  own : ∀ t i, i < N → w.ownsRow base 3 1 (val t i) (XX t i).length ((XX t i).map (Value.int .i64))
  apart : ∀ t i t' i', i < N → i' < N → ¬ (t' = t ∧ i' = i) → ∀ k, (val t i).ownBlock = some k → (val t' i').ownBlock ≠ some k
section
variable {w w1 : World} {base N : Nat} {g : Bool → Nat} {val : Bool → Nat → Value} {XX : Bool → Nat → List Int}
theorem Hdr.step (h : Hdr w base N g val) (hm : ∀ (k : Nat) cells, w.heap[k]? = some (.cells cells 30 (0, 0)) → w1.heap[k]? = w.heap[k]?) : Hdr w1 base N g val :=
  ⟨fun t => (hm _ _ (h.hd t)).trans (h.hd t), h.gb, h.ne⟩
theorem Rws.step (h : Rws w base N val XX) (hm : ∀ (k : Nat) cells, w.heap[k]? = some (.cells cells 3 (0, 0)) → w1.heap[k]? = w.heap[k]?) : Rws w1 base N val XX :=
  ⟨fun t i hi => own_move (h.own t i hi) fun k hk => by obtain ⟨cells, hc⟩ := own_typed (h.own t i hi) k hk; exact hm k cells hc, h.apart⟩
theorem Hdr.alloc (h : Hdr w base N g val) (o : Obj) : Hdr (w.alloc o) base N g val := h.step fun k cells hc => (blk_alloc hc o).trans hc.symm
theorem Rws.alloc (h : Rws w base N val XX) (o : Obj) : Rws (w.alloc o) base N val XX := h.step fun k cells hc => (blk_alloc hc o).trans hc.symm
theorem Hdr.drewN (h : Hdr w base N g val) (n : Nat) : Hdr (w.drewN n) base N g val := h.step fun _ _ _ => rfl
theorem Rws.drewN (h : Rws w base N val XX) (n : Nat) : Rws (w.drewN n) base N val XX := h.step fun _ _ _ => rfl
theorem Hdr.drew (h : Hdr w base N g val) : Hdr w.drew base N g val := h.step fun _ _ _ => rfl
theorem Rws.drew (h : Rws w base N val XX) : Rws w.drew base N val XX := h.step fun _ _ _ => rfl
theorem Hdr.below (h : Hdr w base N g val) (hb : Below w.heap.size w w1) : Hdr w1 base N g val := h.step fun k cells hc => (blk_below hc hb).trans hc.symm
theorem Rws.below (h : Rws w base N val XX) (hb : Below w.heap.size w w1) : Rws w1 base N val XX := h.step fun k cells hc => (blk_below hc hb).trans hc.symm
/-- A store into a block of another type. -/
theorem Rws.set (h : Rws w base N val XX) {b t : Nat} {cs : Array Value} (hb : w.heap[b]? = some (.cells cs t (0, 0))) (ht : t ≠ 3) (j : Nat) (v : Value) : Rws (w.setCell ⟨b, j, none⟩ v) base N val XX :=
  h.step fun k cells hc => Below.heap_setCell w ⟨b, j, none⟩ v k (fun e => by
    have e : k = b := e
    subst e; rw [hb] at hc; injection hc with hc; injection hc with _ hc; exact ht hc)
theorem Hdr.set (h : Hdr w base N g val) {b t : Nat} {cs : Array Value} (hb : w.heap[b]? = some (.cells cs t (0, 0))) (ht : t ≠ 30) (j : Nat) (v : Value) : Hdr (w.setCell ⟨b, j, none⟩ v) base N g val :=
  h.step fun k cells hc => Below.heap_setCell w ⟨b, j, none⟩ v k (fun e => by
    have e : k = b := e
    subst e; rw [hb] at hc; injection hc with hc; injection hc with _ hc; exact ht hc)
/-- A row has been written: the headers' blocks stay. -/
theorem Hdr.grown (h : Hdr w base N g val) {val' : Bool → Nat → Value} (hr : Rws w base N val' XX) {t : Bool} {i : Nat} (hi : i < N) (hg : w.grownBy w1 (val' t i).ownBlock) : Hdr w1 base N g val :=
  h.step fun k cells hc => hg.block k (blk_lt hc) fun e => by
    obtain ⟨cells', hc'⟩ := own_typed (hr.own t i hi) k e.symm
    rw [hc] at hc'; injection hc' with hc'; injection hc' with _ hc'; exact absurd hc' (by decide)
theorem Rws.put (h : Rws w base N val XX) {t : Bool} {i : Nat} (hi : i < N) (hg : w.grownBy w1 (val t i).ownBlock) {v1 : Value} {ys : List Int} (hown : w1.ownsRow base 3 1 v1 ys.length (ys.map (Value.int .i64)))
    (hat : v1.ownBlock = (val t i).ownBlock ∨ ∃ b, v1.ownBlock = some b ∧ w.heap.size ≤ b) : Rws w1 base N (upd val t i v1) (upd XX t i ys) := by
  have hlt : ∀ t' i', i' < N → ∀ k, (val t' i').ownBlock = some k → k < w.heap.size := fun t' i' hi' k hk => own_lt (h.own t' i' hi') k hk
  refine ⟨fun t' i' hi' => ?_, fun t' i' t'' i'' hi' hi'' hne k hk => ?_⟩
  · by_cases e : t' = t ∧ i' = i
    · obtain ⟨rfl, rfl⟩ := e
      rw [upd_same, upd_same]
      exact hown
    · rw [upd_ne _ _ _ _ e, upd_ne _ _ _ _ e]
      exact own_move (h.own t' i' hi') fun k hk => hg.block k (hlt t' i' hi' k hk) fun e' => h.apart t' i' t i hi' hi (fun z => e ⟨z.1.symm, z.2.symm⟩) k hk e'.symm
  · by_cases e : t' = t ∧ i' = i
    · obtain ⟨rfl, rfl⟩ := e
      rw [upd_same] at hk
      rw [upd_ne _ _ _ _ hne]
      intro hk'
      rcases hat with hat | ⟨b, hb, hle⟩
      · exact h.apart t' i' t'' i'' hi' hi'' hne k (hat ▸ hk) hk'
      · rw [hb] at hk; injection hk with hk
        have := hlt t'' i'' hi'' k hk'
        omega
    · rw [upd_ne _ _ _ _ e] at hk
      by_cases e2 : t'' = t ∧ i'' = i
      · obtain ⟨rfl, rfl⟩ := e2
        rw [upd_same]
        intro hk'
        rcases hat with hat | ⟨b, hb, hle⟩
        · exact h.apart t' i' t'' i'' hi' hi'' hne k hk (hat ▸ hk')
        · rw [hb] at hk'; injection hk' with hk'
          have := hlt t' i' hi' k hk
          omega
      · rw [upd_ne _ _ _ _ e2]
        exact h.apart t' i' t'' i'' hi' hi'' hne k hk
theorem range_set {α : Type} (f : Nat → α) (N i : Nat) (x : α) : ((List.range N).map f).toArray.setIfInBounds i x = ((List.range N).map fun j => if j = i then x else f j).toArray := by
  apply Array.ext
  · simp
  · intro j h1 h2
    rw [Array.getElem_setIfInBounds (by simpa using h1)]
    by_cases e : i = j
    · subst e; simp
    · rw [if_neg e]
      simp
      exact fun z => absurd z.symm e
/-- A header is stored. -/
theorem Hdr.store (h : Hdr w base N g val) (t : Bool) (i : Nat) (v : Value) : Hdr (w.setCell ⟨g t, i, none⟩ v) base N g (upd val t i v) := by
  refine ⟨fun t' => ?_, h.gb, h.ne⟩
  by_cases e : t' = t
  · subst e
    refine blk_put (h.hd t') i v ?_
    rw [range_set]
    congr 2
    funext j
    simp [upd]
  · have hne : g t' ≠ g t := by
      cases t <;> cases t' <;> first | exact absurd rfl e | exact h.ne | exact h.ne.symm
    refine (Below.heap_setCell w ⟨g t, i, none⟩ v (g t') hne).trans ((h.hd t').trans ?_)
    congr 2
    congr 1
    apply List.map_congr_left
    intro j _
    simp [upd, e]
theorem Rws.store {val' : Bool → Nat → Value} (h : Rws w base N val XX) (hh : Hdr w base N g val') (t : Bool) (i : Nat) (v : Value) : Rws (w.setCell ⟨g t, i, none⟩ v) base N val XX := h.set (hh.hd t) (by decide) i v
theorem Hdr.cell (h : Hdr w base N g val) (t : Bool) {i : Nat} (hi : i < N) : w.cell? ⟨g t, i, none⟩ = some (val t i) := by
  rw [blk_cell (h.hd t) i]
  simp [hi]
theorem Hdr.frozen (h : Hdr w base N g val) (t : Bool) (i : Nat) : w.frozen? ⟨g t, i, none⟩ = false := blk_frozen (h.hd t) i
/-- The rows of a table, read. -/
theorem reads_tab (h : Hdr w base N g val) (hr : Rws w base N val XX) (hN : N ≤ 4096) (t : Bool) : kL.C w (some ⟨g t, 0, none⟩) N ((List.range N).map (XX t)) := by
  refine ⟨by simp, by omega, fun _ => ⟨_, rfl, fun j p hj => ?_⟩⟩
  rw [List.getElem?_map] at hj
  have hjN : j < N := by
    rcases Nat.lt_or_ge j N with h1 | h1
    · exact h1
    · rw [List.getElem?_eq_none (by simpa using h1)] at hj; cases hj
  rw [List.getElem?_range hjN] at hj
  obtain rfl := Option.some.inj hj
  obtain ⟨A, c, e, hl, hc⟩ := Kd.R_reads (Kd.R_of_own (enc := Value.int .i64) (h1 := fun _ => rfl) (ok := fun _ => True) (hr.own t j hjN) fun _ _ => trivial)
  refine ⟨[val t j], rfl, ⟨A, c, by rw [e], hl, hc⟩, fun i u hu => ?_⟩
  cases i with
  | zero =>
    obtain rfl := Option.some.inj hu
    have := h.cell t hjN
    unfold Addr.add
    by_cases h0 : j = 0
    · subst h0; simpa using this
    · rw [if_neg (by simpa [Kd.slice] using h0)]
      simpa [Kd.slice] using this
  | succ i => simp at hu
end
theorem made_eq (N : Nat) : madeCells (Value.slice none 0 0).cells (N * 1) = ((List.range N).map fun _ => Value.slice none 0 0).toArray := by
  show (Array.range (N * 1)).map _ = _
  rw [Nat.mul_one]
  apply Array.ext
  · simp
  · intro j h1 h2
    simp [Value.cells, Nat.mod_one]
end Go.Proofs.Ythkgfmjgilkdeaa

/- slices.Repeat of one number. -/
namespace Go.Proofs.Ythkgfmjgilkdeaa
set_option linter.unusedVariables false
set_option linter.unusedSimpArgs false
open Go.RowKit Go.Shelf Go.Sort Go.Proofs.Ythkgfmjgilkdeaa.Q Go.Proofs.YthkgfmjgilkdeaaW.PrintWords Go.Proofs.YthkgfmjgilkdeaaW.PrintLast Go.Proofs.YthkgfmjgilkdeaaW.PrintMore
theorem wrap_u64' {n : Int} (h0 : 0 ≤ n) (h1 : n < 2 ^ 33) : IntKind.u64.wrap n = n := by rw [IntKind.wrap_u64]; omega
theorem and_low (n : Nat) (h : n ≤ 4096) : Go.bits .and .u64 (n : Int) 4294967295 = n := by
  have := (bits_nat .u64 33 (by decide) (fun _ h0 h1 => wrap_u64' h0 h1) n 4294967295 (by omega) (by omega)).1
  rw [show ((4294967295 : Nat) : Int) = 4294967295 from rfl] at this
  rw [this, show 4294967295 = 2 ^ 32 - 1 from rfl, Nat.and_two_pow_sub_one_eq_mod, Nat.mod_eq_of_lt (by omega)]
theorem mul_one_small (n : Nat) (h : n ≤ 4096) : bits_Mul.f 1 n = some (0, (n : Int)) := by
  have e1 := and_low 1 (by omega)
  have e2 := and_low n h
  have e0 := and_low 0 (by omega)
  have w0 : IntKind.u64.wrap 0 = 0 := by kernel_rfl
  have wn : IntKind.u64.wrap (n : Int) = n := wrap_u64' (by omega) (by omega)
  have d1 : (1 : Int) / 4294967296 = 0 := by decide
  have dn : (n : Int) / 4294967296 = 0 := by omega
  have d0 : (0 : Int) / 4294967296 = 0 := by decide
  rw [show ((1 : Nat) : Int) = 1 from rfl] at e1
  rw [show ((0 : Nat) : Int) = 0 from rfl] at e0
  unfold bits_Mul.f bits_Mul64.f
  simp only [e1, e2, e0, d1, dn, d0, w0, wn, Int.zero_mul, Int.mul_zero, Int.one_mul, Int.zero_add, Int.add_zero, Option.bind_some]
def zeros3 (n : Nat) : List Value := List.replicate n (.int .i64 0)
def negs (n : Nat) : List Value := List.replicate n (.int .i64 (-1))
theorem made3 (N : Nat) : madeCells (Value.int .i64 0).cells (N * 1) = (zeros3 N).toArray := by
  show (Array.range (N * 1)).map _ = _
  rw [Nat.mul_one]
  apply Array.ext
  · simp [zeros3]
  · intro j h1 h2
    simp [Value.cells, Nat.mod_one, zeros3]
theorem make30 (N : Nat) (h : N ≤ 65536) (W : World) : (Instr.makeSlice 30 (.int .i64 N) (.int .i64 N)).run Try.prog W = .ok (.slice (some ⟨W.heap.size, 0, none⟩) N N) (W.alloc (.cells (zeros3 N).toArray 3)) := by
  obtain ⟨i0, hi, hz0, hz1, hz2⟩ := info_parts info3
  have := run_make (P := Try.prog) W 30 3 i0 (.int .i64 0) Try.underlying30 hi hz0 .i64 .i64 (N : Int) (N : Int) (by omega) (by omega) (by rw [hz2]; omega) (by omega)
  rw [Int.toNat_natCast, hz1, made3] at this
  exact this
/-- The row when n places are filled. -/
def fill (N n : Nat) : List Value := negs n ++ zeros3 (N - n)
theorem fill_zero (N : Nat) : zeros3 N = fill N 0 := by simp [fill, negs]
theorem fill_step (N n : Nat) (h : n < N) : splice (fill N n) n (negs (min n (N - n))) = fill N (n + min n (N - n)) := by
  unfold splice fill negs zeros3
  rw [List.take_append_of_le_length (by simp), List.take_of_length_le (by simp), List.drop_append, List.length_replicate, List.length_replicate]
  rw [List.drop_of_length_le (by simp), List.nil_append, List.drop_replicate, ← List.append_assoc, List.replicate_append_replicate]
  congr 2
  omega
theorem fill_one (N : Nat) (h : 1 ≤ N) : splice (fill N 0) 0 [Value.int .i64 (-1)] = fill N 1 := by
  unfold splice fill negs zeros3
  simp only [List.replicate_zero, List.nil_append, List.take_zero, List.length_singleton, Nat.zero_add, List.drop_replicate, Nat.sub_zero]
  rfl
theorem fill_all (N : Nat) : fill N N = negs N := by simp [fill, zeros3]
theorem fill_len (N n : Nat) (h : n ≤ N) : (fill N n).length = N := by simp [fill, negs, zeros3]; omega
theorem fill_read {W : World} {G N n m j : Nat} {v : Value} (hg : W.heap[G]? = some (.cells (fill N n).toArray 3 (0, 0))) (hj : (negs (min n m))[j]? = some v) : W.cell? ((⟨G, 0, none⟩ : Addr).add j) = some v := by
  have hlt : j < min n m := by
    rcases Nat.lt_or_ge j (min n m) with h | h
    · exact h
    · rw [List.getElem?_eq_none (by simpa [negs] using h)] at hj; cases hj
  have hv : v = .int .i64 (-1) := by
    unfold negs at hj
    rw [List.getElem?_replicate, if_pos hlt] at hj
    exact (Option.some.inj hj).symm
  have hc := blk_cell hg j
  have hjn : j < n := by omega
  have he : (fill N n).toArray[j]? = some v := by
    rw [List.getElem?_toArray]
    unfold fill
    rw [List.getElem?_append_left (by simpa [negs] using hjn), hv]
    unfold negs
    rw [List.getElem?_replicate, if_pos hjn]
  unfold Addr.add
  by_cases h0 : j = 0
  · subst h0; rw [if_pos rfl]; exact hc.trans he
  · rw [if_neg h0, Nat.zero_add]; exact hc.trans he
theorem cell_alR {W : World} {a : Addr} {v : Value} (o : Obj) (h : W.cell? a = some v) : (W.alloc o).cell? a = some v := (World.grownBy_alloc W o none).cell h (by simp)
theorem neg_read {W : World} {ad : Addr} {j : Nat} {v : Value} (hj : [Value.int .i64 (-1)][j]? = some v) (h : W.cell? ad = some (.int .i64 (-1))) : W.cell? (ad.add j) = some v := by
  cases j with
  | zero => obtain rfl := Option.some.inj hj; unfold Addr.add; rw [if_pos rfl]; exact h
  | succ j => simp at hj
def RepR.T9 : Bool × List (List Nat × List Nat) := (true, [([], []), ([], []), ([], []), ([1, 2], [1, 2]), ([], []), ([], []), ([4, 5], [4, 5]), ([3, 6], [3, 6]), ([0, 7], [0, 7]), ([8, 7, 0, 1, 2, 3, 4, 5, 6, 7, 8], [0, 2, 5, 8])])
def RepR.B9 : List Nat := [0, 0, 0, 6, 0, 0, 48, 126, 255, 511]
theorem RepR.tab9 : rtab .any (opsOf Try.f43 9) = RepR.T9 := by kernel_rfl
theorem RepR.bits9 : waitsOk RepR.T9.2 RepR.B9 = true := by kernel_rfl
set_option maxHeartbeats 4000000 in
set_option maxRecDepth 100000 in
theorem Repeat_calls (N : Nat) (ad : Addr) (c : Nat) (w : World) (h1 : 1 ≤ N) (hN : N ≤ 4096) (hx : w.cell? ad = some (.int .i64 (-1))) :
    Calls Try.prog 43 #[.slice (some ad) 1 c, .int .i64 N] w fun e w' => ∃ G, e = .returned (.slice (some ⟨G, 0, none⟩) N N) ∧ w'.heap[G]? = some (.cells (negs N).toArray 3 (0, 0)) ∧ w.heap.size ≤ G ∧ Below w.heap.size w w' := by
  have HB0 := Aside0.mk (Below.refl w.heap.size w)
  have hmk := make30 N (by omega)
  have HX := Aside0.mk hx
  have c1 : ((N : Int) < 0) = False := eq_false (by omega)
  have w1 : IntKind.u64.wrap (N : Int) = N := by rw [IntKind.wrap_u64]; omega
  clear hx
  have sz3 : (Try.prog.info? 3).map (·.size) = some 1 := by kernel_rfl
  obtain ⟨neg, hneg⟩ : ∃ z, z = [Value.int .i64 (-1)] := ⟨_, rfl⟩
  have Hn := Aside0.mk hneg
  clear hneg
  go_enter Try.func43, Try.ntmps43
  go_wp2_with (first | (go_at_call 65; refine (bits_Mul.calls 1 N 0 N _ (mul_one_small N hN)).mono ?_; rintro e w' ⟨rfl, ⟨mm, rfl⟩⟩) | (refine wpList_copy_splice rfl (.tmp 31) (.tmp 32) 30 30 rfl 3 Try.underlying30 sz3 (some ⟨w.heap.size, 0, none⟩) (some ad) N N 1 c rfl rfl w.heap.size 0 (zeros3 N) 3 (heap_alloc_last (w.drewN mm) _) neg (by rw [Hn.out]; show 1 = min 1 N; omega) (fun _ => ⟨rfl, ad, rfl, fun j v hj => neg_read (Hn.out ▸ hj) (cell_alR _ HX.out)⟩) (by rw [Hn.out]; simp [zeros3]; omega) (by rw [Hn.out]; simp [Value.oneCell']) w.heap.size w (below_alloc (pw_below_drewN HB0.out _) _) (Nat.le_refl _) ?_; intro w1 hg1 hb1; have HG1 := Aside0.mk (show w1.heap[w.heap.size]? = _ from hg1); have HB1 := Aside0.mk hb1; clear hg1 hb1))
  have HG := Aside0.mk (show w1.heap[w.heap.size]? = some (.cells (fill N 1).toArray 3 (0, 0)) by rw [← fill_one N h1, ← Hn.out, ← fill_zero]; exact HG1.out)
  obtain ⟨G, hG⟩ : ∃ G, G = w.heap.size := ⟨_, rfl⟩
  have HGe := Aside0.mk (show w.heap.size ≤ G by omega)
  rw [← hG] at HG ⊢
  have HB := HB1
  clear HG1 HB1 HB0 hG hmk
  have hl1 : neg.length = 1 := by rw [Hn.out]; rfl
  go_loopg [8] (N - 1) (fun kq v8 w' => ∃ (n : Nat), v8 = .int .i64 n ∧ 1 ≤ n ∧ n + kq = N ∧ Aside0 (w'.heap[G]? = some (.cells (fill N n).toArray 3 (0, 0))) ∧ Aside0 (Below w.heap.size w w'))
  case atStart => exact ⟨1, by first | rfl | (rw [hl1]; rfl) | rw [hl1], by omega, by omega, HG, HB⟩
  case round =>
    clear HG HB
    obtain ⟨n, rfl, hn1, hn, HG, HB⟩ := hrel
    cases gk with
    | zero =>
      obtain rfl : n = N := by omega
      go_wp2_with fail
      go_ret
      exact ⟨G, rfl, by rw [← fill_all]; exact HG.out, HGe.out, HB.out⟩
    | succ k1 =>
      have hnN : n < N := by omega
      have b0 : (0 : Int) ≤ (n : Int) := by omega
      have b1 : (n : Int) ≤ (N : Int) := by omega
      have b2 : (n : Int) < (N : Int) := by omega
      have bn : (N = n) = False := eq_false (by omega)
      have hl : neg.length = 1 := hl1
      clear hl1
      go_upto_region 9 with fail
      refine start_ (n := 10) (S := fun w' => True) (ds := []) #[false, false, false, false, false, false, false, false, false, false] (by kernel_rfl) rfl rfl trivial (fun hHeld => ?_)
      refine with_tabW RepR.tab9 RepR.bits9 (fun HT_ HW_ => ?_)
      refine pure_ (i := 0) (N := some 38) (v := ?_) (a' := ?_) #[true, false, false, false, false, false, false, false, false, false] rfl rfl (any_of HT_.out (by kernel_rfl)) (fun _ _ _ h => h) (Or.inl ⟨by rfl, ?_⟩) ?_ ?_
      rotate_left
      · intro w'
        go_simp
        with_reducible rfl
      rotate_left
      · simp only [Act.put, List.setIfInBounds_toArray, List.set_cons_zero, List.set_cons_succ, i64_w, i32_w]
        rfl
      refine pure_ (i := 1) (N := some 39) (v := ?_) (a' := ?_) #[true, true, false, false, false, false, false, false, false, false] rfl rfl (any_of HT_.out (by kernel_rfl)) (fun _ _ _ h => h) (Or.inl ⟨by rfl, ?_⟩) ?_ ?_
      rotate_left
      · intro w'
        go_simp
        with_reducible rfl
      rotate_left
      · simp only [Act.put, List.setIfInBounds_toArray, List.set_cons_zero, List.set_cons_succ, i64_w, i32_w]
        rfl
      refine pure_ (i := 2) (N := some 40) (v := ?_) (a' := ?_) #[true, true, true, false, false, false, false, false, false, false] rfl rfl (any_of HT_.out (by kernel_rfl)) (fun _ _ _ h => h) (Or.inl ⟨by rfl, ?_⟩) ?_ ?_
      rotate_left
      · intro w'
        go_simp
        with_reducible rfl
      rotate_left
      · simp only [Act.put, List.setIfInBounds_toArray, List.set_cons_zero, List.set_cons_succ, i64_w, i32_w]
        rfl
      refine pure_ (i := 3) (N := some 41) (v := ?_) (a' := ?_) #[true, true, true, true, false, false, false, false, false, false] rfl rfl (any_of HT_.out (by kernel_rfl)) (fun _ _ _ h => h) (Or.inl ⟨by rfl, ?_⟩) ?_ ?_
      rotate_left
      · intro w'
        go_simp
        with_reducible rfl
      rotate_left
      · simp only [Act.put, List.setIfInBounds_toArray, List.set_cons_zero, List.set_cons_succ, i64_w, i32_w]
        rfl
      refine pure_ (i := 4) (N := some 42) (v := ?_) (a' := ?_) #[true, true, true, true, true, false, false, false, false, false] rfl rfl (any_of HT_.out (by kernel_rfl)) (fun _ _ _ h => h) (Or.inl ⟨by rfl, ?_⟩) ?_ ?_
      rotate_left
      · intro w'
        go_simp
        with_reducible rfl
      rotate_left
      · simp only [Act.put, List.setIfInBounds_toArray, List.set_cons_zero, List.set_cons_succ, i64_w, i32_w]
        rfl
      refine pure_ (i := 5) (N := some 43) (v := ?_) (a' := ?_) #[true, true, true, true, true, true, false, false, false, false] rfl rfl (any_of HT_.out (by kernel_rfl)) (fun _ _ _ h => h) (Or.inl ⟨by rfl, ?_⟩) ?_ ?_
      rotate_left
      · intro w'
        go_simp
        with_reducible rfl
      rotate_left
      · simp only [Act.put, List.setIfInBounds_toArray, List.set_cons_zero, List.set_cons_succ, i64_w, i32_w]
        rfl
      refine pure_ (i := 6) (N := some 44) (v := ?_) (a' := ?_) #[true, true, true, true, true, true, true, false, false, false] rfl rfl (any_of HT_.out (by kernel_rfl)) (fun _ _ _ h => h) (Or.inl ⟨by rfl, ?_⟩) ?_ ?_
      rotate_left
      · intro w'
        go_simp
        with_reducible rfl
      rotate_left
      · simp only [Act.put, List.setIfInBounds_toArray, List.set_cons_zero, List.set_cons_succ, i64_w, i32_w]
        rfl
      refine one_ (i := 7) (N := some 45) #[true, true, true, true, true, true, true, true, false, false] rfl rfl (one_of HT_.out (by kernel_rfl)) (by decide) (fun K hK => ?_)
      refine step_copy_splice (by rfl) (.tmp 41) (.tmp 44) 30 30 (by rfl) 3 Try.underlying30 sz3 (some ⟨G, n, none⟩) (some ⟨G, 0, none⟩) (N - n) (N - n) n N (by rfl) (by rfl) G n (fill N n) 3 HG.out (negs (min n (N - n))) (by simp only [negs, List.length_replicate]) (fun _ => ⟨rfl, _, rfl, fun j v hj => fill_read HG.out hj⟩) (by rw [fill_len N n (by omega)]; simp only [negs, List.length_replicate]; omega) (fun v hv => by rw [negs, List.mem_replicate] at hv; rw [hv.2]; rfl) w.heap.size w (by first | exact HB.out | exact below_drew1 HB.out) HGe.out ?_
      intro w2 hg2 hb2
      rw [fill_step N n hnN] at hg2
      have HG2 := Aside0.mk (show w2.heap[G]? = _ from hg2)
      have HB2 := Aside0.mk hb2
      clear hg2 hb2
      rw [show ((negs (min n (N - n))).length : Int) = ((min n (N - n) : Nat) : Int) by simp [negs]]
      refine hK.out _ _ trivial (fun hHeld => ?_)
      clear hK K
      refine norm_ (a' := ?_) ?_ ?_
      rotate_left
      · show Act.put _ (some 45) _ = _
        simp only [Act.put, List.setIfInBounds_toArray, List.set_cons_zero, List.set_cons_succ, i64_w, i32_w]
        rfl
      refine pure_ (i := 8) (N := some 46) (v := ?_) (a' := ?_) #[true, true, true, true, true, true, true, true, true, false] rfl rfl (any_of HT_.out (by kernel_rfl)) (fun _ _ _ h => h) (Or.inl ⟨by rfl, ?_⟩) ?_ ?_
      rotate_left
      · intro w'
        go_simp
        with_reducible rfl
      rotate_left
      · simp only [Act.put, List.setIfInBounds_toArray, List.set_cons_zero, List.set_cons_succ, i64_w, i32_w]
        rfl
      refine pure_ (i := 9) (N := some 8) (v := ?_) (a' := ?_) #[true, true, true, true, true, true, true, true, true, true] rfl rfl (any_of HT_.out (by kernel_rfl)) (fun _ _ _ h => h) (Or.inl ⟨by rfl, ?_⟩) ?_ ?_
      rotate_left
      · intro w'
        go_simp
        with_reducible rfl
      rotate_left
      · simp only [Act.put, List.setIfInBounds_toArray, List.set_cons_zero, List.set_cons_succ, i64_w, i32_w]
        rfl
      refine done_ (done_of HT_.out (by kernel_rfl)) ?_

      go_wp2_with fail
      go_roundg (N - (n + min n (N - n)))
      case measure => omega
      case rel => exact ⟨n + min n (N - n), congrArg (Value.int .i64) (by unfold wrap64; omega), by omega, by omega, HG2, HB2⟩
end Go.Proofs.Ythkgfmjgilkdeaa
