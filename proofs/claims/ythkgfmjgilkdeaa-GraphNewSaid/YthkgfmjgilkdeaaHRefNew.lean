/- The reference's New. -/
import Derived.Test.YthkgfmjgilkdeaaQx15
import Derived.Test.YthkgfmjgilkdeaaWTab
import Derived.Deep.CutRange
import Derived.Deep.WholeRow
namespace Go.Proofs.Ythkgfmjgilkdeaa
set_option linter.unusedVariables false
set_option linter.unusedSimpArgs false
open Go.RowKit Go.Proofs.Ythkgfmjgilkdeaa.Q Go.Proofs.YthkgfmjgilkdeaaW.PrintWords Go.Proofs.YthkgfmjgilkdeaaW.PrintLast Go.Proofs.YthkgfmjgilkdeaaW.PrintMore
/-- Does an edge precede another one? -/
def bef (a b : S43) : Bool := decide (a.f0 < b.f0) || (decide (a.f0 = b.f0) && decide (a.f1 < b.f1))
theorem before_eq (a b : S43) : replevinref08_before.f a.f0 a.f1 b.f0 b.f1 = some (bef a b) := by
  unfold replevinref08_before.f bef
  by_cases h1 : a.f0 < b.f0
  · rw [if_pos h1]; simp [h1]
  · rw [if_neg h1]
    by_cases h2 : a.f0 = b.f0
    · rw [if_pos h2]; simp [h2]
    · rw [if_neg h2]; simp [h1, h2]
/-- How many edges at the beginning of a list precede an edge. -/
def posE : List S43 → S43 → Nat
  | [], _ => 0
  | x :: xs, e => if bef x e then posE xs e + 1 else 0
theorem posE_le : ∀ (g : List S43) (e : S43), posE g e ≤ g.length
  | [], _ => Nat.le_refl _
  | x :: xs, e => by
    unfold posE
    have := posE_le xs e
    split <;> simp <;> omega
theorem posE_lt : ∀ (g : List S43) (e : S43) (j : Nat), j < posE g e → bef (g.getD j z43) e = true
  | [], _, j, h => absurd h (Nat.not_lt_zero _)
  | x :: xs, e, j, h => by
    unfold posE at h
    by_cases hx : bef x e = true
    · rw [if_pos hx] at h
      cases j with
      | zero => simpa using hx
      | succ j => simpa using posE_lt xs e j (by omega)
    · rw [if_neg hx] at h
      exact absurd h (Nat.not_lt_zero _)
theorem posE_at : ∀ (g : List S43) (e : S43), posE g e < g.length → bef (g.getD (posE g e) z43) e = false
  | [], _, h => absurd h (Nat.not_lt_zero _)
  | x :: xs, e, h => by
    by_cases hx : bef x e = true
    · have hp : posE (x :: xs) e = posE xs e + 1 := by rw [posE, if_pos hx]
      rw [hp] at h ⊢
      simpa using posE_at xs e (by simp at h; omega)
    · have hp : posE (x :: xs) e = 0 := by rw [posE, if_neg hx]
      rw [hp]
      simpa using hx
instance : DecidableEq S43 := fun a b => decidable_of_iff (a.f0 = b.f0 ∧ a.f1 = b.f1) ⟨fun ⟨h1, h2⟩ => by cases a; cases b; simp_all, fun h => by subst h; exact ⟨rfl, rfl⟩⟩
/-- An edge put into its place, unless it is there. -/
def insE (g : List S43) (e : S43) : List S43 := if posE g e < g.length ∧ g.getD (posE g e) z43 = e then g else g.take (posE g e) ++ [e] ++ g.drop (posE g e)
def okE (n : Int) (e : S43) : Bool := decide (0 ≤ e.f0) && decide (e.f0 < n) && decide (0 ≤ e.f1) && decide (e.f1 < n)
/-- All edges, one by one. -/
def insAll (n : Int) : List S43 → List S43 → Option (List S43)
  | [], g => some g
  | e :: es, g => if okE n e = true then insAll n es (insE g e) else none
def replevinref08_New.f (n : Int) (l : List S43) : Option (Int × List S43 × Int) :=
  if 0 ≤ n ∧ n ≤ 4096 then (if l.length ≤ 65536 then (match insAll n l [] with
    | some g => some (n, g, 0)
    | none => some (0, [], 8)) else some (0, [], 9)) else some (0, [], 2)
/-- The blocks of the reference's New: the result's box, the graph's box, the edges. -/
structure Es (w W : World) (gr gb : Nat) (n : Int) (A : Option Addr) (c : Nat) (g : List S43) : Prop where
  h4 : W.heap[gr]? = some (.cells #[.int .i64 0, .slice none 0 0] 26 (0, 0))
  h6 : W.heap[gb]? = some (.cells #[.int .i64 n, .slice A g.length c] 26 (0, 0))
  hr : k43.R 43 W w.heap.size (fun _ => True) (.slice A g.length c) g
  bel : Below w.heap.size w W
  g4 : w.heap.size ≤ gr
  g6 : w.heap.size ≤ gb
  ne : gr ≠ gb
theorem Es.below {w W W1 : World} {gr gb : Nat} {n : Int} {A : Option Addr} {c : Nat} {g : List S43} (h : Es w W gr gb n A c g) (hb : Below W.heap.size W W1) : Es w W1 gr gb n A c g :=
  ⟨blk_below h.h4 hb, blk_below h.h6 hb, Kd.R_below h.hr hb, below_step h.bel hb, h.g4, h.g6, h.ne⟩
/-- While an edge is put into its place: the new row beside the old one. -/
structure Is (w W : World) (gr gb : Nat) (n : Int) (A : Option Addr) (c : Nat) (g : List S43) (v : Value) (p : List S43) : Prop where
  h4 : W.heap[gr]? = some (.cells #[.int .i64 0, .slice none 0 0] 26 (0, 0))
  h6 : W.heap[gb]? = some (.cells #[.int .i64 n, .slice A g.length c] 26 (0, 0))
  hr : k43.R 43 W w.heap.size (fun k => True ∧ some k ≠ v.ownBlock) (.slice A g.length c) g
  hv : k43.R 43 W w.heap.size (fun _ => True) v p
  bel : Below w.heap.size w W
  g4 : w.heap.size ≤ gr
  g6 : w.heap.size ≤ gb
  ne : gr ≠ gb
section
variable {w W W1 : World} {gr gb : Nat} {n : Int} {A : Option Addr} {c : Nat} {g p p1 : List S43} {v v1 : Value}
theorem Is.start (h : Es w W gr gb n A c g) (ho : k43.R 43 W1 w.heap.size (fun _ => True) v1 []) (hb : Below w.heap.size w W1) (hg : W.grownBy W1 none) (hn : ∃ b, v1.ownBlock = some b ∧ W.heap.size ≤ b) : Is w W1 gr gb n A c g v1 [] :=
  ⟨blk_grown h.h4 hg (by simp), blk_grown h.h6 hg (by simp), Kd.R_after (v := .slice none 0 0) (ok := fun _ => True) (Kd.R_mono h.hr (fun k _ => ⟨trivial, by simp [Value.ownBlock]⟩)) hg (.inr hn), ho, hb, h.g4, h.g6, h.ne⟩
theorem Is.grown (h : Is w W gr gb n A c g v p) (ho : k43.R 43 W1 w.heap.size (fun _ => True) v1 p1) (hb : Below w.heap.size w W1) (hg : W.grownBy W1 v.ownBlock) (hat : v1.ownBlock = v.ownBlock ∨ ∃ b, v1.ownBlock = some b ∧ W.heap.size ≤ b) : Is w W1 gr gb n A c g v1 p1 :=
  ⟨blk_grown h.h4 hg (Kd.R_ne h.hv h.h4 (by decide)), blk_grown h.h6 hg (Kd.R_ne h.hv h.h6 (by decide)), Kd.R_after h.hr hg hat, ho, hb, h.g4, h.g6, h.ne⟩
theorem Is.done {A1 : Option Addr} {c1 : Nat} (h : Is w W gr gb n A c g (.slice A1 p.length c1) p) : Es w (W.setCell ⟨gb, 1, none⟩ (.slice A1 p.length c1)) gr gb n A1 c1 p :=
  ⟨(Below.heap_setCell W ⟨gb, 1, none⟩ _ gr h.ne).trans h.h4, blk_put h.h6 1 (.slice A1 p.length c1) (cs' := #[.int .i64 n, .slice A1 p.length c1]) rfl, Kd.R_set h.hv h.h6 (by decide) 1 _, below_set h.bel h.g6, h.g4, h.g6, h.ne⟩
end
theorem insE_len (g : List S43) (e : S43) : (insE g e).length ≤ g.length + 1 := by
  unfold insE
  split
  · omega
  · have := posE_le g e
    simp
    omega
def RefNewR.T12 : Bool × List (List Nat × List Nat) := (true, [([], []), ([], []), ([1], [1]), ([2], [2]), ([0, 3], [0, 3]), ([4], [4]), ([5], [5]), ([6, 5], [5, 6]), ([5], [5]), ([7, 8, 5], [5, 7, 8]), ([9, 5], [5, 9]), ([5], [5]), ([5], [5]), ([11, 12, 5], [5, 11, 12]), ([13, 5], [5, 13]), ([10, 14, 5, 5], [5, 10, 14]), ([5, 15], [5, 15])])
def RefNewR.B12 : List Nat := [0, 0, 2, 6, 15, 31, 63, 127, 63, 511, 1023, 63, 63, 6207, 14399, 32767, 65535]
theorem RefNewR.tab12 : rtab .any (opsOf Try.f35 12) = RefNewR.T12 := by kernel_rfl
theorem RefNewR.bits12 : waitsOk RefNewR.T12.2 RefNewR.B12 = true := by kernel_rfl
def RefNewR.T14 : Bool × List (List Nat × List Nat) := (true, [([], []), ([], []), ([1], [1]), ([2], [2]), ([0, 3], [0, 3]), ([4], [4]), ([5], [5]), ([6, 5], [5, 6]), ([5], [5]), ([7, 8, 5], [5, 7, 8]), ([9, 5], [5, 9]), ([5], [5]), ([5], [5]), ([11, 12, 5], [5, 11, 12]), ([13, 5], [5, 13]), ([10, 14, 5], [5, 10, 14]), ([5, 15], [5, 15])])
def RefNewR.B14 : List Nat := [0, 0, 2, 6, 15, 31, 63, 127, 63, 511, 1023, 63, 63, 6207, 14399, 32767, 65535]
theorem RefNewR.tab14 : rtab .any (opsOf Try.f35 14) = RefNewR.T14 := by kernel_rfl
theorem RefNewR.bits14 : waitsOk RefNewR.T14.2 RefNewR.B14 = true := by kernel_rfl
set_option maxHeartbeats 8000000 in
set_option maxRecDepth 100000 in
theorem replevinref08_New.calls (a0 : Int) (A : Option Addr) (c : Nat) (l : List S43) (r1 : Int) (r2 : List S43) (r3 : Int) (w : World) (hr : k43.C w A l.length l) (hc : l.length ≤ c) (h : replevinref08_New.f a0 l = some (r1, r2, r3)) :
    Calls Try.prog 35 #[.int .i64 a0, .slice A l.length c] w fun e w' => ∃ v : Value, e = .returned (.tuple #[.agg #[.int .i64 r1, v], .int .i64 r3]) ∧ k43.R 43 w' w.heap.size (fun _ => True) v r2 ∧ Below w.heap.size w w' := by
  have HB0 := Aside0.mk (Below.refl w.heap.size w)
  have HR := Aside0.mk hr
  have hu26 := Try.underlying26
  have hu43 := Try.underlying43
  unfold replevinref08_New.f at h
  by_cases hn : 0 ≤ a0 ∧ a0 ≤ 4096
  · rw [if_pos hn] at h
    have c1 : (a0 < 0) = False := eq_false (by omega)
    have c2 : (a0 > 4096) = False := eq_false (by omega)
    by_cases hl : l.length ≤ 65536
    · rw [if_pos hl] at h
      have c3 : ((l.length : Int) > 65536) = False := eq_false (by omega)
      have H := Aside0.mk h
      clear h hr
      go_enter Try.func35, Try.ntmps35
      go_wp2_with fail
      obtain ⟨T, hT⟩ : ∃ T, T = insAll a0 l [] := ⟨_, rfl⟩
      have HT := Aside0.mk (show insAll a0 (l.drop 0) [] = T by rw [hT]; rfl)
      rw [← hT] at H
      have HE0 := Aside0.mk (show Es w ((w.alloc (.cells #[.int .i64 0, .slice none 0 0] 26)).alloc (.cells #[.int .i64 a0, .slice none 0 0] 26)) w.heap.size (w.heap.size + 1) a0 none 0 [] from by
        have h6 := heap_alloc_last (w.alloc (.cells #[.int .i64 0, .slice none 0 0] 26)) (.cells #[.int .i64 a0, .slice none 0 0] 26)
        rw [World.size_alloc] at h6
        exact ⟨blk_alloc (heap_alloc_last w _) _, h6, Kd.R_nil _ _ _ _ _, below_alloc (below_alloc HB0.out _) _, Nat.le_refl _, by omega, by omega⟩)
      obtain ⟨gr, hgr⟩ : ∃ z, z = w.heap.size := ⟨_, rfl⟩
      obtain ⟨gb, hgb⟩ : ∃ z, z = w.heap.size + 1 := ⟨_, rfl⟩
      have HGE := Aside0.mk (And.intro hgr hgb)
      go_loopg [7] l.length (fun kq v7 w' => ∃ (i : Nat) (A2 : Option Addr) (c2 : Nat) (g : List S43), v7 = .int .i64 i ∧ i + kq = l.length ∧ Aside0 (insAll a0 (l.drop i) g = T) ∧ Aside0 (g.length ≤ i) ∧ Aside0 (Es w w' w.heap.size (w.heap.size + 1) a0 A2 c2 g))
      case atStart => exact ⟨0, none, 0, [], rfl, by omega, HT, ⟨Nat.le_refl _⟩, HE0⟩
      case round =>
        clear HT HE0 hT HB0
        obtain ⟨i, A2, c2, g, rfl, hi, HT, HLg, HE⟩ := hrel
        cases gk with
        | zero =>
          have ei : i = l.length := by omega
          have e := HT.out
          rw [ei, List.drop_length, insAll] at e
          have h := H.out
          rw [← e] at h
          obtain ⟨h1, h2⟩ := Prod.mk.inj (Option.some.inj h)
          obtain ⟨h2, h3⟩ := Prod.mk.inj h2
          have H123 := Aside0.mk (And.intro h1 (And.intro h2 h3))
          have s60 := (blk_cell HE.out.h6 0).trans rfl
          have s61 := (blk_cell HE.out.h6 1).trans rfl
          have s40 := (blk_cell HE.out.h4 0).trans rfl
          have s41 := (blk_cell HE.out.h4 1).trans rfl
          have f40 := blk_frozen HE.out.h4 0
          have f41 := blk_frozen HE.out.h4 1
          rw [ei]
          clear e h h1 h2 h3 ei hi HT
          have hg4 := blk_put (blk_put HE.out.h4 0 (.int .i64 a0) (cs' := #[.int .i64 a0, .slice none 0 0]) rfl) 1 (.slice A2 g.length c2) (cs' := #[.int .i64 a0, .slice A2 g.length c2]) rfl
          have Hg4 := Aside0.mk hg4
          have HB4 := Aside0.mk (show Below w.heap.size w ((wr.setCell ⟨w.heap.size, 0, none⟩ (.int .i64 a0)).setCell ⟨w.heap.size, 1, none⟩ (.slice A2 g.length c2)) from below_set (below_set HE.out.bel HE.out.g4) HE.out.g4)
          have HR4 := Aside0.mk (show k43.R 43 ((wr.setCell ⟨w.heap.size, 0, none⟩ (.int .i64 a0)).setCell ⟨w.heap.size, 1, none⟩ (.slice A2 g.length c2)) w.heap.size (fun _ => True) (.slice A2 g.length c2) g from Kd.R_set (Kd.R_set HE.out.hr HE.out.h4 (by decide) 0 (.int .i64 a0)) (blk_put HE.out.h4 0 (.int .i64 a0) (cs' := #[.int .i64 a0, .slice none 0 0]) rfl) (by decide) 1 _)
          clear hg4
          go_wp2_with fail
          refine bodyPost_ret (results_list (rs := [.cell 4 26, .tmp 5]) rfl (by simp) (.cell w.heap.size 26 #[.int .i64 a0, .slice A2 g.length c2] (0, 0) _ rfl Hg4.out Try.underlying26 rfl (by kernel_rfl) (.tmp .nil))) rfl ?_
          obtain ⟨e1, e2, e3⟩ := H123.out
          rw [← e1, ← e2, ← e3]
          exact ⟨_, rfl, HR4.out, HB4.out⟩
        | succ k1 =>
          have hil : i < l.length := by omega
          have e := HT.out
          rw [List.drop_eq_getElem_cons hil, insAll] at e
          obtain ⟨x, hx⟩ : ∃ x, x = l[i] := ⟨_, rfl⟩
          rw [← hx] at e
          obtain ⟨ad, e0, hx0, hx1⟩ := at_T43 (Kd.C_below HR.out HE.out.bel) (i : Int) (by omega) (by omega)
          have hxx : rd_T43 l (i : Int) = x := by rw [hx]; show l.getD i z43 = _; rw [List.getD_eq_getElem?_getD, List.getElem?_eq_getElem hil]; rfl
          rw [Int.toNat_natCast, hxx] at hx0 hx1
          subst e0
          have p0 := eq_true (show (0 : Int) ≤ (i : Int) by omega)
          have q0 : ((i : Int) < (l.length : Int)) = True := eq_true (by omega)
          have hlenI := Aside0.mk hl
          cases hok : okE a0 x with
          | false =>
            rw [hok, if_neg (by decide)] at e
            have h := H.out
            rw [← e] at h
            obtain ⟨h1, h2⟩ := Prod.mk.inj (Option.some.inj h)
            obtain ⟨h2, h3⟩ := Prod.mk.inj h2
            have H123 := Aside0.mk (And.intro h1 (And.intro h2 h3))
            have s40 := (blk_cell HE.out.h4 0).trans rfl
            have s41 := (blk_cell HE.out.h4 1).trans rfl
            have f40 := blk_frozen HE.out.h4 0
            have f41 := blk_frozen HE.out.h4 1
            have Hg4 := Aside0.mk (show ((wr.setCell ⟨w.heap.size, 0, none⟩ (.int .i64 0)).setCell ⟨w.heap.size, 1, none⟩ (.slice none 0 0)).heap[w.heap.size]? = some (.cells #[.int .i64 0, .slice none 0 0] 26 (0, 0)) from blk_put (blk_put HE.out.h4 0 (.int .i64 0) (cs' := #[.int .i64 0, .slice none 0 0]) rfl) 1 (.slice none 0 0) rfl)
            have HB4 := Aside0.mk (show Below w.heap.size w ((wr.setCell ⟨w.heap.size, 0, none⟩ (.int .i64 0)).setCell ⟨w.heap.size, 1, none⟩ (.slice none 0 0)) from below_set (below_set HE.out.bel HE.out.g4) HE.out.g4)
            obtain ⟨x0, x1⟩ := x
            have hcase : (decide (x0 < 0) = true) ∨ (decide (x0 < 0) = false ∧ decide (x0 ≥ a0) = true) ∨ (decide (x0 < 0) = false ∧ decide (x0 ≥ a0) = false ∧ decide (x1 < 0) = true) ∨ (decide (x0 < 0) = false ∧ decide (x0 ≥ a0) = false ∧ decide (x1 < 0) = false ∧ decide (x1 ≥ a0) = true) := by
              simp only [okE, Bool.and_eq_false_iff, decide_eq_false_iff_not] at hok
              simp only [decide_eq_true_eq, decide_eq_false_iff_not]
              omega
            clear h h1 h2 h3 e hx hxx hok HT
            rcases hcase with b1 | ⟨b1, b2⟩ | ⟨b1, b2, b3⟩ | ⟨b1, b2, b3, b4⟩
            all_goals
              go_wp2_with fail
              refine bodyPost_ret (results_list (rs := [.cell 4 26, .tmp 5]) rfl (by simp) (.cell w.heap.size 26 #[.int .i64 0, .slice none 0 0] (0, 0) _ rfl Hg4.out Try.underlying26 rfl (by kernel_rfl) (.tmp .nil))) rfl ?_
              obtain ⟨e1, e2, e3⟩ := H123.out
              rw [← e1, ← e2, ← e3]
              exact ⟨_, rfl, Kd.R_nil _ _ _ _ _, HB4.out⟩
          | true =>
            rw [hok, if_pos rfl] at e
            have HT2 := Aside0.mk e
            obtain ⟨x0, x1⟩ := x
            have hall : decide (x0 < 0) = false ∧ decide (x0 ≥ a0) = false ∧ decide (x1 < 0) = false ∧ decide (x1 ≥ a0) = false := by
              simp only [okE, Bool.and_eq_true, decide_eq_true_eq] at hok
              simp only [decide_eq_false_iff_not]
              omega
            obtain ⟨b1, b2, b3, b4⟩ := hall
            obtain ⟨P, hP⟩ : ∃ P, P = posE g ⟨x0, x1⟩ := ⟨_, rfl⟩
            have HP := Aside0.mk hP
            have HPl := Aside0.mk (show P ≤ g.length by rw [hP]; exact posE_le _ _)
            have hgl := HLg.out
            have Hxx := Aside0.mk hxx
            have LX := Aside0.mk (show ∀ W1, Below w.heap.size w W1 → W1.cell? (ad.add (i * 2)) = some (.int .i64 x0) ∧ W1.cell? ⟨(ad.add (i * 2)).block, (ad.add (i * 2)).off + 1, none⟩ = some (.int .i64 x1) from fun W1 hB => by
              obtain ⟨ad3, e3, h1, h2⟩ := at_T43 (Kd.C_below HR.out hB) (i : Int) (by omega) (by omega)
              obtain rfl : ad = ad3 := by injection e3
              rw [Int.toNat_natCast, show rd_T43 l (i : Int) = ⟨x0, x1⟩ from Hxx.out] at h1 h2
              exact ⟨h1, h2⟩)
            clear e hx hxx hok HT hP
            go_wp2_with fail
            go_loopg [8] (P + 1) (fun kq v8 w' => ∃ (at_ : Nat), v8 = .int .i64 at_ ∧ at_ + kq = P + 1 ∧ 0 < kq ∧ Aside0 (Es w w' w.heap.size (w.heap.size + 1) a0 A2 c2 g))
            case atStart => exact ⟨0, rfl, by omega, by omega, HE⟩
            case round =>
              clear HE
              obtain ⟨at_, rfl, hat, hkq, HE⟩ := hrel
              have hatP : at_ ≤ P := by omega
              have m0 : (0 : Int) ≤ (at_ : Int) := by omega
              by_cases hlen : at_ < g.length
              · obtain ⟨hgc, _, hC⟩ := Kd.R_reads' HE.out.hr
                obtain ⟨ad2, e0, hy0, hy1⟩ := at_T43 hC (at_ : Int) m0 (by omega)
                have hyy : rd_T43 g (at_ : Int) = g.getD at_ z43 := rfl
                rw [Int.toNat_natCast, hyy] at hy0 hy1
                subst e0
                obtain ⟨y, hy⟩ : ∃ y, y = g.getD at_ z43 := ⟨_, rfl⟩
                rw [← hy] at hy0 hy1
                obtain ⟨y0, y1⟩ := y
                have m1 : (at_ : Int) < (g.length : Int) := by omega
                have bl : decide ((at_ : Int) < (g.length : Int)) = true := decide_eq_true m1
                have z0 : wr.drew.cell? ⟨w.heap.size + 1, 1, none⟩ = some (.slice (some ad2) g.length c2) := (blk_cell HE.out.h6 1).trans rfl
                have z1 : wr.drew.cell? (ad2.add (at_ * 2)) = some (.int .i64 y0) := hy0
                have z2 : wr.drew.cell? ⟨(ad2.add (at_ * 2)).block, (ad2.add (at_ * 2)).off + 1, none⟩ = some (.int .i64 y1) := hy1
                have HEd := Aside0.mk (HE.out.below (below_drew1 (Below.refl _ _)))
                have Hy := Aside0.mk hy
                clear hy0 hy1 hC hyy hgc hy
                obtain ⟨ad3, e3, hz3, hz4⟩ := at_T43 (Kd.C_below HR.out HE.out.bel) (i : Int) (by omega) (by omega)
                obtain rfl : ad = ad3 := by injection e3
                rw [Int.toNat_natCast, show rd_T43 l (i : Int) = ⟨x0, x1⟩ from Hxx.out] at hz3 hz4
                have z3 : wr.drew.cell? (ad.add (i * 2)) = some (.int .i64 x0) := hz3
                have z4 : wr.drew.cell? ⟨(ad.add (i * 2)).block, (ad.add (i * 2)).off + 1, none⟩ = some (.int .i64 x1) := hz4
                clear hz3 hz4 e3
                by_cases hlt : at_ < P
                · have HBf := Aside0.mk (show replevinref08_before.f y0 y1 x0 x1 = some true from by
                    have := posE_lt g ⟨x0, x1⟩ at_ (by rw [← HP.out]; exact hlt)
                    rw [← Hy.out] at this
                    rw [← this]
                    exact before_eq ⟨y0, y1⟩ ⟨x0, x1⟩)
                  go_upto_region 12 with fail
                  refine start_ (n := 17) (S := fun w' => w'.cell? ⟨w.heap.size + 1, 1, none⟩ = some (.slice (some ad2) g.length c2) ∧ w'.cell? (ad2.add (at_ * 2)) = some (.int .i64 y0) ∧ w'.cell? ⟨(ad2.add (at_ * 2)).block, (ad2.add (at_ * 2)).off + 1, none⟩ = some (.int .i64 y1) ∧ w'.cell? (ad.add (i * 2)) = some (.int .i64 x0) ∧ w'.cell? ⟨(ad.add (i * 2)).block, (ad.add (i * 2)).off + 1, none⟩ = some (.int .i64 x1)) (ds := []) #[false, false, false, false, false, false, false, false, false, false, false, false, false, false, false, false, false] (by kernel_rfl) rfl rfl ⟨z0, z1, z2, z3, z4⟩ (fun hHeld => ?_)
                  refine with_tabW RefNewR.tab12 RefNewR.bits12 (fun HT_ HW_ => ?_)
                  generalize wr.drew = w5 at z0 z1 z2 z3 z4 HEd hHeld ⊢
                  refine pure_ (i := 0) (N := some 62) (v := ?_) (a' := ?_) #[true, false, false, false, false, false, false, false, false, false, false, false, false, false, false, false, false] rfl rfl (any_of HT_.out (by kernel_rfl)) (fun _ _ _ h => h) (Or.inl ⟨by rfl, ?_⟩) ?_ ?_
                  rotate_left
                  · intro w'
                    go_simp
                    with_reducible rfl
                  rotate_left
                  · simp only [Act.put, List.setIfInBounds_toArray, List.set_cons_zero, List.set_cons_succ, i64_w, i32_w]
                    rfl
                  refine pure_ (i := 1) (N := some 63) (v := ?_) (a' := ?_) #[true, true, false, false, false, false, false, false, false, false, false, false, false, false, false, false, false] rfl rfl (any_of HT_.out (by kernel_rfl)) (fun _ _ _ h => h) (Or.inl ⟨by rfl, ?_⟩) ?_ ?_
                  rotate_left
                  · intro w'
                    go_simp
                    with_reducible rfl
                  rotate_left
                  · simp only [Act.put, List.setIfInBounds_toArray, List.set_cons_zero, List.set_cons_succ, i64_w, i32_w]
                    rfl
                  refine take_ (i := 2) (N := some 64) (v := ?_) (a' := ?_) #[true, true, true, false, false, false, false, false, false, false, false, false, false, false, false, false, false] rfl rfl (take_ofW HT_.out HW_.out (by kernel_rfl)) (fun _ _ _ h => h) (Or.inl ⟨by rfl, ?_⟩) hHeld ?_ ?_
                  rotate_left
                  · rintro w' ⟨s0, s1, s2, s3, s4⟩
                    go_simp
                    with_reducible rfl
                  rotate_left
                  · simp only [Act.put, List.setIfInBounds_toArray, List.set_cons_zero, List.set_cons_succ, i64_w, i32_w]
                    rfl
                  refine pure_ (i := 3) (N := some 65) (v := ?_) (a' := ?_) #[true, true, true, true, false, false, false, false, false, false, false, false, false, false, false, false, false] rfl rfl (any_of HT_.out (by kernel_rfl)) (fun _ _ _ h => h) (Or.inl ⟨by rfl, ?_⟩) ?_ ?_
                  rotate_left
                  · intro w'
                    go_simp
                    with_reducible rfl
                  rotate_left
                  · simp only [Act.put, List.setIfInBounds_toArray, List.set_cons_zero, List.set_cons_succ, i64_w, i32_w]
                    rfl
                  refine pure_ (i := 4) (N := some 66) (v := ?_) (a' := ?_) #[true, true, true, true, true, false, false, false, false, false, false, false, false, false, false, false, false] rfl rfl (any_of HT_.out (by kernel_rfl)) (fun _ _ _ h => h) (Or.inl ⟨by rfl, ?_⟩) ?_ ?_
                  rotate_left
                  · intro w'
                    go_simp
                    with_reducible rfl
                  rotate_left
                  · simp only [Act.put, List.setIfInBounds_toArray, List.set_cons_zero, List.set_cons_succ, i64_w, i32_w]
                    rfl
                  refine pure_ (i := 5) (N := some 67) (v := ?_) (a' := ?_) #[true, true, true, true, true, true, false, false, false, false, false, false, false, false, false, false, false] rfl rfl (any_of HT_.out (by kernel_rfl)) (fun _ _ _ h => h) (Or.inl ⟨by rfl, ?_⟩) ?_ ?_
                  rotate_left
                  · intro w'
                    go_simp
                    with_reducible rfl
                  rotate_left
                  · simp only [Act.put, List.setIfInBounds_toArray, List.set_cons_zero, List.set_cons_succ, i64_w, i32_w]
                    rfl
                  refine pure_ (i := 6) (N := some 68) (v := ?_) (a' := ?_) #[true, true, true, true, true, true, true, false, false, false, false, false, false, false, false, false, false] rfl rfl (any_of HT_.out (by kernel_rfl)) (fun _ _ _ h => h) (Or.inl ⟨by rfl, ?_⟩) ?_ ?_
                  rotate_left
                  · intro w'
                    go_simp
                    with_reducible rfl
                  rotate_left
                  · simp only [Act.put, List.setIfInBounds_toArray, List.set_cons_zero, List.set_cons_succ, i64_w, i32_w]
                    rfl
                  refine pure_ (i := 8) (N := some 70) (v := ?_) (a' := ?_) #[true, true, true, true, true, true, true, false, true, false, false, false, false, false, false, false, false] rfl rfl (any_of HT_.out (by kernel_rfl)) (fun _ _ _ h => h) (Or.inl ⟨by rfl, ?_⟩) ?_ ?_
                  rotate_left
                  · intro w'
                    go_simp
                    with_reducible rfl
                  rotate_left
                  · simp only [Act.put, List.setIfInBounds_toArray, List.set_cons_zero, List.set_cons_succ, i64_w, i32_w]
                    rfl
                  refine pure_ (i := 11) (N := some 73) (v := ?_) (a' := ?_) #[true, true, true, true, true, true, true, false, true, false, false, true, false, false, false, false, false] rfl rfl (any_of HT_.out (by kernel_rfl)) (fun _ _ _ h => h) (Or.inl ⟨by rfl, ?_⟩) ?_ ?_
                  rotate_left
                  · intro w'
                    go_simp
                    with_reducible rfl
                  rotate_left
                  · simp only [Act.put, List.setIfInBounds_toArray, List.set_cons_zero, List.set_cons_succ, i64_w, i32_w]
                    rfl
                  refine pure_ (i := 12) (N := some 74) (v := ?_) (a' := ?_) #[true, true, true, true, true, true, true, false, true, false, false, true, true, false, false, false, false] rfl rfl (any_of HT_.out (by kernel_rfl)) (fun _ _ _ h => h) (Or.inl ⟨by rfl, ?_⟩) ?_ ?_
                  rotate_left
                  · intro w'
                    go_simp
                    with_reducible rfl
                  rotate_left
                  · simp only [Act.put, List.setIfInBounds_toArray, List.set_cons_zero, List.set_cons_succ, i64_w, i32_w]
                    rfl
                  refine pure_ (i := 13) (N := some 75) (v := ?_) (a' := ?_) #[true, true, true, true, true, true, true, false, true, false, false, true, true, true, false, false, false] rfl rfl (any_of HT_.out (by kernel_rfl)) (fun _ _ _ h => h) (Or.inl ⟨by rfl, ?_⟩) ?_ ?_
                  rotate_left
                  · intro w'
                    go_simp
                    with_reducible rfl
                  rotate_left
                  · simp only [Act.put, List.setIfInBounds_toArray, List.set_cons_zero, List.set_cons_succ, i64_w, i32_w]
                    rfl
                  refine take_ (i := 7) (N := some 69) (v := ?_) (a' := ?_) #[true, true, true, true, true, true, true, true, true, false, false, true, true, true, false, false, false] rfl rfl (take_ofW HT_.out HW_.out (by kernel_rfl)) (fun _ _ _ h => h) (Or.inl ⟨by rfl, ?_⟩) hHeld ?_ ?_
                  rotate_left
                  · rintro w' ⟨s0, s1, s2, s3, s4⟩
                    go_simp
                    with_reducible rfl
                  rotate_left
                  · simp only [Act.put, List.setIfInBounds_toArray, List.set_cons_zero, List.set_cons_succ, i64_w, i32_w]
                    rfl
                  refine pure_ (i := 9) (N := some 71) (v := ?_) (a' := ?_) #[true, true, true, true, true, true, true, true, true, true, false, true, true, true, false, false, false] rfl rfl (any_of HT_.out (by kernel_rfl)) (fun _ _ _ h => h) (Or.inl ⟨by rfl, ?_⟩) ?_ ?_
                  rotate_left
                  · intro w'
                    go_simp
                    with_reducible rfl
                  rotate_left
                  · simp only [Act.put, List.setIfInBounds_toArray, List.set_cons_zero, List.set_cons_succ, i64_w, i32_w]
                    rfl
                  refine take_ (i := 10) (N := some 72) (v := ?_) (a' := ?_) #[true, true, true, true, true, true, true, true, true, true, true, true, true, true, false, false, false] rfl rfl (take_ofW HT_.out HW_.out (by kernel_rfl)) (fun _ _ _ h => h) (Or.inl ⟨by rfl, ?_⟩) hHeld ?_ ?_
                  rotate_left
                  · rintro w' ⟨s0, s1, s2, s3, s4⟩
                    go_simp
                    with_reducible rfl
                  rotate_left
                  · simp only [Act.put, List.setIfInBounds_toArray, List.set_cons_zero, List.set_cons_succ, i64_w, i32_w]
                    rfl
                  refine take_ (i := 14) (N := some 76) (v := ?_) (a' := ?_) #[true, true, true, true, true, true, true, true, true, true, true, true, true, true, true, false, false] rfl rfl (take_ofW HT_.out HW_.out (by kernel_rfl)) (fun _ _ _ h => h) (Or.inl ⟨by rfl, ?_⟩) hHeld ?_ ?_
                  rotate_left
                  · rintro w' ⟨s0, s1, s2, s3, s4⟩
                    go_simp
                    with_reducible rfl
                  rotate_left
                  · simp only [Act.put, List.setIfInBounds_toArray, List.set_cons_zero, List.set_cons_succ, i64_w, i32_w]
                    rfl
                  refine one_ (i := 15) (N := some 77) #[true, true, true, true, true, true, true, true, true, true, true, true, true, true, true, true, false] rfl rfl (one_of HT_.out (by kernel_rfl)) (by decide) (fun K hK => ?_)
                  refine goes_ Try.func62 (by kernel_rfl) rfl #[.agg #[.int .i64 y0, .int .i64 y1], .agg #[.int .i64 x0, .int .i64 x1]] (by rfl) rfl rfl (by simp only [List.map_toArray, List.map_cons, List.map_nil]; rfl) ?_
                  with_reducible refine (replevinref08_before.calls y0 y1 x0 x1 true _ HBf.out).mono ?_
                  rintro e w6 ⟨rfl, hb6⟩
                  refine ⟨_, rfl, ?_⟩
                  have HE6 := Aside0.mk (HEd.out.below hb6)
                  have y0_ : w6.cell? ⟨w.heap.size + 1, 1, none⟩ = some (.slice (some ad2) g.length c2) := pw_cell_below hb6 z0
                  have y1_ : w6.cell? (ad2.add (at_ * 2)) = some (.int .i64 y0) := pw_cell_below hb6 z1
                  have y2_ : w6.cell? ⟨(ad2.add (at_ * 2)).block, (ad2.add (at_ * 2)).off + 1, none⟩ = some (.int .i64 y1) := pw_cell_below hb6 z2
                  have y3_ : w6.cell? (ad.add (i * 2)) = some (.int .i64 x0) := pw_cell_below hb6 z3
                  have y4_ : w6.cell? ⟨(ad.add (i * 2)).block, (ad.add (i * 2)).off + 1, none⟩ = some (.int .i64 x1) := pw_cell_below hb6 z4
                  clear hb6
                  refine hK.out _ _ ⟨y0_, y1_, y2_, y3_, y4_⟩ (fun hHeld => ?_)
                  clear hK K
                  refine norm_ (a' := ?_) ?_ ?_
                  rotate_left
                  · show Act.put _ (some 77) _ = _
                    simp only [Act.put, List.setIfInBounds_toArray, List.set_cons_zero, List.set_cons_succ, i64_w, i32_w]
                    rfl
                  refine pure_ (i := 16) (N := some 78) (v := ?_) (a' := ?_) #[true, true, true, true, true, true, true, true, true, true, true, true, true, true, true, true, true] rfl rfl (any_of HT_.out (by kernel_rfl)) (fun _ _ _ h => h) (Or.inl ⟨by rfl, ?_⟩) ?_ ?_
                  rotate_left
                  · intro w'
                    go_simp
                    with_reducible rfl
                  rotate_left
                  · simp only [Act.put, List.setIfInBounds_toArray, List.set_cons_zero, List.set_cons_succ, i64_w, i32_w]
                    rfl
                  refine done_ (done_of HT_.out (by kernel_rfl)) ?_

                  go_wp2_with fail
                  go_roundg (P - at_)
                  case measure => omega
                  case rel => exact ⟨at_ + 1, by go_num, by omega, by omega, HE6⟩
                · have HBf := Aside0.mk (show replevinref08_before.f y0 y1 x0 x1 = some false from by
                    have hP2 : at_ = posE g ⟨x0, x1⟩ := by rw [← HP.out]; omega
                    have := posE_at g ⟨x0, x1⟩ (by rw [← hP2]; exact hlen)
                    rw [← hP2, ← Hy.out] at this
                    rw [← this]
                    exact before_eq ⟨y0, y1⟩ ⟨x0, x1⟩)
                  go_upto_region 12 with fail
                  refine start_ (n := 17) (S := fun w' => w'.cell? ⟨w.heap.size + 1, 1, none⟩ = some (.slice (some ad2) g.length c2) ∧ w'.cell? (ad2.add (at_ * 2)) = some (.int .i64 y0) ∧ w'.cell? ⟨(ad2.add (at_ * 2)).block, (ad2.add (at_ * 2)).off + 1, none⟩ = some (.int .i64 y1) ∧ w'.cell? (ad.add (i * 2)) = some (.int .i64 x0) ∧ w'.cell? ⟨(ad.add (i * 2)).block, (ad.add (i * 2)).off + 1, none⟩ = some (.int .i64 x1)) (ds := []) #[false, false, false, false, false, false, false, false, false, false, false, false, false, false, false, false, false] (by kernel_rfl) rfl rfl ⟨z0, z1, z2, z3, z4⟩ (fun hHeld => ?_)
                  refine with_tabW RefNewR.tab12 RefNewR.bits12 (fun HT_ HW_ => ?_)
                  generalize wr.drew = w5 at z0 z1 z2 z3 z4 HEd hHeld ⊢
                  refine pure_ (i := 0) (N := some 62) (v := ?_) (a' := ?_) #[true, false, false, false, false, false, false, false, false, false, false, false, false, false, false, false, false] rfl rfl (any_of HT_.out (by kernel_rfl)) (fun _ _ _ h => h) (Or.inl ⟨by rfl, ?_⟩) ?_ ?_
                  rotate_left
                  · intro w'
                    go_simp
                    with_reducible rfl
                  rotate_left
                  · simp only [Act.put, List.setIfInBounds_toArray, List.set_cons_zero, List.set_cons_succ, i64_w, i32_w]
                    rfl
                  refine pure_ (i := 1) (N := some 63) (v := ?_) (a' := ?_) #[true, true, false, false, false, false, false, false, false, false, false, false, false, false, false, false, false] rfl rfl (any_of HT_.out (by kernel_rfl)) (fun _ _ _ h => h) (Or.inl ⟨by rfl, ?_⟩) ?_ ?_
                  rotate_left
                  · intro w'
                    go_simp
                    with_reducible rfl
                  rotate_left
                  · simp only [Act.put, List.setIfInBounds_toArray, List.set_cons_zero, List.set_cons_succ, i64_w, i32_w]
                    rfl
                  refine take_ (i := 2) (N := some 64) (v := ?_) (a' := ?_) #[true, true, true, false, false, false, false, false, false, false, false, false, false, false, false, false, false] rfl rfl (take_ofW HT_.out HW_.out (by kernel_rfl)) (fun _ _ _ h => h) (Or.inl ⟨by rfl, ?_⟩) hHeld ?_ ?_
                  rotate_left
                  · rintro w' ⟨s0, s1, s2, s3, s4⟩
                    go_simp
                    with_reducible rfl
                  rotate_left
                  · simp only [Act.put, List.setIfInBounds_toArray, List.set_cons_zero, List.set_cons_succ, i64_w, i32_w]
                    rfl
                  refine pure_ (i := 3) (N := some 65) (v := ?_) (a' := ?_) #[true, true, true, true, false, false, false, false, false, false, false, false, false, false, false, false, false] rfl rfl (any_of HT_.out (by kernel_rfl)) (fun _ _ _ h => h) (Or.inl ⟨by rfl, ?_⟩) ?_ ?_
                  rotate_left
                  · intro w'
                    go_simp
                    with_reducible rfl
                  rotate_left
                  · simp only [Act.put, List.setIfInBounds_toArray, List.set_cons_zero, List.set_cons_succ, i64_w, i32_w]
                    rfl
                  refine pure_ (i := 4) (N := some 66) (v := ?_) (a' := ?_) #[true, true, true, true, true, false, false, false, false, false, false, false, false, false, false, false, false] rfl rfl (any_of HT_.out (by kernel_rfl)) (fun _ _ _ h => h) (Or.inl ⟨by rfl, ?_⟩) ?_ ?_
                  rotate_left
                  · intro w'
                    go_simp
                    with_reducible rfl
                  rotate_left
                  · simp only [Act.put, List.setIfInBounds_toArray, List.set_cons_zero, List.set_cons_succ, i64_w, i32_w]
                    rfl
                  refine pure_ (i := 5) (N := some 67) (v := ?_) (a' := ?_) #[true, true, true, true, true, true, false, false, false, false, false, false, false, false, false, false, false] rfl rfl (any_of HT_.out (by kernel_rfl)) (fun _ _ _ h => h) (Or.inl ⟨by rfl, ?_⟩) ?_ ?_
                  rotate_left
                  · intro w'
                    go_simp
                    with_reducible rfl
                  rotate_left
                  · simp only [Act.put, List.setIfInBounds_toArray, List.set_cons_zero, List.set_cons_succ, i64_w, i32_w]
                    rfl
                  refine pure_ (i := 6) (N := some 68) (v := ?_) (a' := ?_) #[true, true, true, true, true, true, true, false, false, false, false, false, false, false, false, false, false] rfl rfl (any_of HT_.out (by kernel_rfl)) (fun _ _ _ h => h) (Or.inl ⟨by rfl, ?_⟩) ?_ ?_
                  rotate_left
                  · intro w'
                    go_simp
                    with_reducible rfl
                  rotate_left
                  · simp only [Act.put, List.setIfInBounds_toArray, List.set_cons_zero, List.set_cons_succ, i64_w, i32_w]
                    rfl
                  refine pure_ (i := 8) (N := some 70) (v := ?_) (a' := ?_) #[true, true, true, true, true, true, true, false, true, false, false, false, false, false, false, false, false] rfl rfl (any_of HT_.out (by kernel_rfl)) (fun _ _ _ h => h) (Or.inl ⟨by rfl, ?_⟩) ?_ ?_
                  rotate_left
                  · intro w'
                    go_simp
                    with_reducible rfl
                  rotate_left
                  · simp only [Act.put, List.setIfInBounds_toArray, List.set_cons_zero, List.set_cons_succ, i64_w, i32_w]
                    rfl
                  refine pure_ (i := 11) (N := some 73) (v := ?_) (a' := ?_) #[true, true, true, true, true, true, true, false, true, false, false, true, false, false, false, false, false] rfl rfl (any_of HT_.out (by kernel_rfl)) (fun _ _ _ h => h) (Or.inl ⟨by rfl, ?_⟩) ?_ ?_
                  rotate_left
                  · intro w'
                    go_simp
                    with_reducible rfl
                  rotate_left
                  · simp only [Act.put, List.setIfInBounds_toArray, List.set_cons_zero, List.set_cons_succ, i64_w, i32_w]
                    rfl
                  refine pure_ (i := 12) (N := some 74) (v := ?_) (a' := ?_) #[true, true, true, true, true, true, true, false, true, false, false, true, true, false, false, false, false] rfl rfl (any_of HT_.out (by kernel_rfl)) (fun _ _ _ h => h) (Or.inl ⟨by rfl, ?_⟩) ?_ ?_
                  rotate_left
                  · intro w'
                    go_simp
                    with_reducible rfl
                  rotate_left
                  · simp only [Act.put, List.setIfInBounds_toArray, List.set_cons_zero, List.set_cons_succ, i64_w, i32_w]
                    rfl
                  refine pure_ (i := 13) (N := some 75) (v := ?_) (a' := ?_) #[true, true, true, true, true, true, true, false, true, false, false, true, true, true, false, false, false] rfl rfl (any_of HT_.out (by kernel_rfl)) (fun _ _ _ h => h) (Or.inl ⟨by rfl, ?_⟩) ?_ ?_
                  rotate_left
                  · intro w'
                    go_simp
                    with_reducible rfl
                  rotate_left
                  · simp only [Act.put, List.setIfInBounds_toArray, List.set_cons_zero, List.set_cons_succ, i64_w, i32_w]
                    rfl
                  refine take_ (i := 7) (N := some 69) (v := ?_) (a' := ?_) #[true, true, true, true, true, true, true, true, true, false, false, true, true, true, false, false, false] rfl rfl (take_ofW HT_.out HW_.out (by kernel_rfl)) (fun _ _ _ h => h) (Or.inl ⟨by rfl, ?_⟩) hHeld ?_ ?_
                  rotate_left
                  · rintro w' ⟨s0, s1, s2, s3, s4⟩
                    go_simp
                    with_reducible rfl
                  rotate_left
                  · simp only [Act.put, List.setIfInBounds_toArray, List.set_cons_zero, List.set_cons_succ, i64_w, i32_w]
                    rfl
                  refine pure_ (i := 9) (N := some 71) (v := ?_) (a' := ?_) #[true, true, true, true, true, true, true, true, true, true, false, true, true, true, false, false, false] rfl rfl (any_of HT_.out (by kernel_rfl)) (fun _ _ _ h => h) (Or.inl ⟨by rfl, ?_⟩) ?_ ?_
                  rotate_left
                  · intro w'
                    go_simp
                    with_reducible rfl
                  rotate_left
                  · simp only [Act.put, List.setIfInBounds_toArray, List.set_cons_zero, List.set_cons_succ, i64_w, i32_w]
                    rfl
                  refine take_ (i := 10) (N := some 72) (v := ?_) (a' := ?_) #[true, true, true, true, true, true, true, true, true, true, true, true, true, true, false, false, false] rfl rfl (take_ofW HT_.out HW_.out (by kernel_rfl)) (fun _ _ _ h => h) (Or.inl ⟨by rfl, ?_⟩) hHeld ?_ ?_
                  rotate_left
                  · rintro w' ⟨s0, s1, s2, s3, s4⟩
                    go_simp
                    with_reducible rfl
                  rotate_left
                  · simp only [Act.put, List.setIfInBounds_toArray, List.set_cons_zero, List.set_cons_succ, i64_w, i32_w]
                    rfl
                  refine take_ (i := 14) (N := some 76) (v := ?_) (a' := ?_) #[true, true, true, true, true, true, true, true, true, true, true, true, true, true, true, false, false] rfl rfl (take_ofW HT_.out HW_.out (by kernel_rfl)) (fun _ _ _ h => h) (Or.inl ⟨by rfl, ?_⟩) hHeld ?_ ?_
                  rotate_left
                  · rintro w' ⟨s0, s1, s2, s3, s4⟩
                    go_simp
                    with_reducible rfl
                  rotate_left
                  · simp only [Act.put, List.setIfInBounds_toArray, List.set_cons_zero, List.set_cons_succ, i64_w, i32_w]
                    rfl
                  refine one_ (i := 15) (N := some 77) #[true, true, true, true, true, true, true, true, true, true, true, true, true, true, true, true, false] rfl rfl (one_of HT_.out (by kernel_rfl)) (by decide) (fun K hK => ?_)
                  refine goes_ Try.func62 (by kernel_rfl) rfl #[.agg #[.int .i64 y0, .int .i64 y1], .agg #[.int .i64 x0, .int .i64 x1]] (by rfl) rfl rfl (by simp only [List.map_toArray, List.map_cons, List.map_nil]; rfl) ?_
                  with_reducible refine (replevinref08_before.calls y0 y1 x0 x1 false _ HBf.out).mono ?_
                  rintro e w6 ⟨rfl, hb6⟩
                  refine ⟨_, rfl, ?_⟩
                  have HE6 := Aside0.mk (HEd.out.below hb6)
                  have y0_ : w6.cell? ⟨w.heap.size + 1, 1, none⟩ = some (.slice (some ad2) g.length c2) := pw_cell_below hb6 z0
                  have y1_ : w6.cell? (ad2.add (at_ * 2)) = some (.int .i64 y0) := pw_cell_below hb6 z1
                  have y2_ : w6.cell? ⟨(ad2.add (at_ * 2)).block, (ad2.add (at_ * 2)).off + 1, none⟩ = some (.int .i64 y1) := pw_cell_below hb6 z2
                  have y3_ : w6.cell? (ad.add (i * 2)) = some (.int .i64 x0) := pw_cell_below hb6 z3
                  have y4_ : w6.cell? ⟨(ad.add (i * 2)).block, (ad.add (i * 2)).off + 1, none⟩ = some (.int .i64 x1) := pw_cell_below hb6 z4
                  clear hb6
                  refine hK.out _ _ ⟨y0_, y1_, y2_, y3_, y4_⟩ (fun hHeld => ?_)
                  clear hK K
                  refine norm_ (a' := ?_) ?_ ?_
                  rotate_left
                  · show Act.put _ (some 77) _ = _
                    simp only [Act.put, List.setIfInBounds_toArray, List.set_cons_zero, List.set_cons_succ, i64_w, i32_w]
                    rfl
                  refine pure_ (i := 16) (N := some 78) (v := ?_) (a' := ?_) #[true, true, true, true, true, true, true, true, true, true, true, true, true, true, true, true, true] rfl rfl (any_of HT_.out (by kernel_rfl)) (fun _ _ _ h => h) (Or.inl ⟨by rfl, ?_⟩) ?_ ?_
                  rotate_left
                  · intro w'
                    go_simp
                    with_reducible rfl
                  rotate_left
                  · simp only [Act.put, List.setIfInBounds_toArray, List.set_cons_zero, List.set_cons_succ, i64_w, i32_w]
                    rfl
                  refine done_ (done_of HT_.out (by kernel_rfl)) ?_

                  go_wp2_with fail
                  by_cases hxy : y0 = x0 ∧ y1 = x1
                  · obtain ⟨rfl, rfl⟩ := hxy
                    have z0 : w6.drew.cell? ⟨w.heap.size + 1, 1, none⟩ = some (.slice (some ad2) g.length c2) := y0_
                    have z1 : w6.drew.cell? (ad2.add (at_ * 2)) = some (.int .i64 y0) := y1_
                    have z2 : w6.drew.cell? ⟨(ad2.add (at_ * 2)).block, (ad2.add (at_ * 2)).off + 1, none⟩ = some (.int .i64 y1) := y2_
                    have z3 : w6.drew.cell? (ad.add (i * 2)) = some (.int .i64 y0) := y3_
                    have z4 : w6.drew.cell? ⟨(ad.add (i * 2)).block, (ad.add (i * 2)).off + 1, none⟩ = some (.int .i64 y1) := y4_
                    have HEe := Aside0.mk (HE6.out.below (below_drew1 (Below.refl _ _)))
                    clear y0_ y1_ y2_ y3_ y4_ HE6
                    refine start_ (n := 17) (S := fun w' => w'.cell? ⟨w.heap.size + 1, 1, none⟩ = some (.slice (some ad2) g.length c2) ∧ w'.cell? (ad2.add (at_ * 2)) = some (.int .i64 y0) ∧ w'.cell? ⟨(ad2.add (at_ * 2)).block, (ad2.add (at_ * 2)).off + 1, none⟩ = some (.int .i64 y1) ∧ w'.cell? (ad.add (i * 2)) = some (.int .i64 y0) ∧ w'.cell? ⟨(ad.add (i * 2)).block, (ad.add (i * 2)).off + 1, none⟩ = some (.int .i64 y1)) (ds := []) #[false, false, false, false, false, false, false, false, false, false, false, false, false, false, false, false, false] (by kernel_rfl) rfl rfl ⟨z0, z1, z2, z3, z4⟩ (fun hHeld => ?_)
                    refine with_tabW RefNewR.tab14 RefNewR.bits14 (fun HT_ HW_ => ?_)
                    generalize w6.drew = w7 at z0 z1 z2 z3 z4 HEe hHeld ⊢
                    refine pure_ (i := 0) (N := some 81) (v := ?_) (a' := ?_) #[true, false, false, false, false, false, false, false, false, false, false, false, false, false, false, false, false] rfl rfl (any_of HT_.out (by kernel_rfl)) (fun _ _ _ h => h) (Or.inl ⟨by rfl, ?_⟩) ?_ ?_
                    rotate_left
                    · intro w'
                      go_simp
                      with_reducible rfl
                    rotate_left
                    · simp only [Act.put, List.setIfInBounds_toArray, List.set_cons_zero, List.set_cons_succ, i64_w, i32_w]
                      rfl
                    refine pure_ (i := 1) (N := some 82) (v := ?_) (a' := ?_) #[true, true, false, false, false, false, false, false, false, false, false, false, false, false, false, false, false] rfl rfl (any_of HT_.out (by kernel_rfl)) (fun _ _ _ h => h) (Or.inl ⟨by rfl, ?_⟩) ?_ ?_
                    rotate_left
                    · intro w'
                      go_simp
                      with_reducible rfl
                    rotate_left
                    · simp only [Act.put, List.setIfInBounds_toArray, List.set_cons_zero, List.set_cons_succ, i64_w, i32_w]
                      rfl
                    refine take_ (i := 2) (N := some 83) (v := ?_) (a' := ?_) #[true, true, true, false, false, false, false, false, false, false, false, false, false, false, false, false, false] rfl rfl (take_ofW HT_.out HW_.out (by kernel_rfl)) (fun _ _ _ h => h) (Or.inl ⟨by rfl, ?_⟩) hHeld ?_ ?_
                    rotate_left
                    · rintro w' ⟨s0, s1, s2, s3, s4⟩
                      go_simp
                      with_reducible rfl
                    rotate_left
                    · simp only [Act.put, List.setIfInBounds_toArray, List.set_cons_zero, List.set_cons_succ, i64_w, i32_w]
                      rfl
                    refine pure_ (i := 3) (N := some 84) (v := ?_) (a' := ?_) #[true, true, true, true, false, false, false, false, false, false, false, false, false, false, false, false, false] rfl rfl (any_of HT_.out (by kernel_rfl)) (fun _ _ _ h => h) (Or.inl ⟨by rfl, ?_⟩) ?_ ?_
                    rotate_left
                    · intro w'
                      go_simp
                      with_reducible rfl
                    rotate_left
                    · simp only [Act.put, List.setIfInBounds_toArray, List.set_cons_zero, List.set_cons_succ, i64_w, i32_w]
                      rfl
                    refine pure_ (i := 4) (N := some 85) (v := ?_) (a' := ?_) #[true, true, true, true, true, false, false, false, false, false, false, false, false, false, false, false, false] rfl rfl (any_of HT_.out (by kernel_rfl)) (fun _ _ _ h => h) (Or.inl ⟨by rfl, ?_⟩) ?_ ?_
                    rotate_left
                    · intro w'
                      go_simp
                      with_reducible rfl
                    rotate_left
                    · simp only [Act.put, List.setIfInBounds_toArray, List.set_cons_zero, List.set_cons_succ, i64_w, i32_w]
                      rfl
                    refine pure_ (i := 5) (N := some 86) (v := ?_) (a' := ?_) #[true, true, true, true, true, true, false, false, false, false, false, false, false, false, false, false, false] rfl rfl (any_of HT_.out (by kernel_rfl)) (fun _ _ _ h => h) (Or.inl ⟨by rfl, ?_⟩) ?_ ?_
                    rotate_left
                    · intro w'
                      go_simp
                      with_reducible rfl
                    rotate_left
                    · simp only [Act.put, List.setIfInBounds_toArray, List.set_cons_zero, List.set_cons_succ, i64_w, i32_w]
                      rfl
                    refine pure_ (i := 6) (N := some 87) (v := ?_) (a' := ?_) #[true, true, true, true, true, true, true, false, false, false, false, false, false, false, false, false, false] rfl rfl (any_of HT_.out (by kernel_rfl)) (fun _ _ _ h => h) (Or.inl ⟨by rfl, ?_⟩) ?_ ?_
                    rotate_left
                    · intro w'
                      go_simp
                      with_reducible rfl
                    rotate_left
                    · simp only [Act.put, List.setIfInBounds_toArray, List.set_cons_zero, List.set_cons_succ, i64_w, i32_w]
                      rfl
                    refine pure_ (i := 8) (N := some 89) (v := ?_) (a' := ?_) #[true, true, true, true, true, true, true, false, true, false, false, false, false, false, false, false, false] rfl rfl (any_of HT_.out (by kernel_rfl)) (fun _ _ _ h => h) (Or.inl ⟨by rfl, ?_⟩) ?_ ?_
                    rotate_left
                    · intro w'
                      go_simp
                      with_reducible rfl
                    rotate_left
                    · simp only [Act.put, List.setIfInBounds_toArray, List.set_cons_zero, List.set_cons_succ, i64_w, i32_w]
                      rfl
                    refine pure_ (i := 11) (N := some 92) (v := ?_) (a' := ?_) #[true, true, true, true, true, true, true, false, true, false, false, true, false, false, false, false, false] rfl rfl (any_of HT_.out (by kernel_rfl)) (fun _ _ _ h => h) (Or.inl ⟨by rfl, ?_⟩) ?_ ?_
                    rotate_left
                    · intro w'
                      go_simp
                      with_reducible rfl
                    rotate_left
                    · simp only [Act.put, List.setIfInBounds_toArray, List.set_cons_zero, List.set_cons_succ, i64_w, i32_w]
                      rfl
                    refine pure_ (i := 12) (N := some 93) (v := ?_) (a' := ?_) #[true, true, true, true, true, true, true, false, true, false, false, true, true, false, false, false, false] rfl rfl (any_of HT_.out (by kernel_rfl)) (fun _ _ _ h => h) (Or.inl ⟨by rfl, ?_⟩) ?_ ?_
                    rotate_left
                    · intro w'
                      go_simp
                      with_reducible rfl
                    rotate_left
                    · simp only [Act.put, List.setIfInBounds_toArray, List.set_cons_zero, List.set_cons_succ, i64_w, i32_w]
                      rfl
                    refine pure_ (i := 13) (N := some 94) (v := ?_) (a' := ?_) #[true, true, true, true, true, true, true, false, true, false, false, true, true, true, false, false, false] rfl rfl (any_of HT_.out (by kernel_rfl)) (fun _ _ _ h => h) (Or.inl ⟨by rfl, ?_⟩) ?_ ?_
                    rotate_left
                    · intro w'
                      go_simp
                      with_reducible rfl
                    rotate_left
                    · simp only [Act.put, List.setIfInBounds_toArray, List.set_cons_zero, List.set_cons_succ, i64_w, i32_w]
                      rfl
                    refine take_ (i := 7) (N := some 88) (v := ?_) (a' := ?_) #[true, true, true, true, true, true, true, true, true, false, false, true, true, true, false, false, false] rfl rfl (take_ofW HT_.out HW_.out (by kernel_rfl)) (fun _ _ _ h => h) (Or.inl ⟨by rfl, ?_⟩) hHeld ?_ ?_
                    rotate_left
                    · rintro w' ⟨s0, s1, s2, s3, s4⟩
                      go_simp
                      with_reducible rfl
                    rotate_left
                    · simp only [Act.put, List.setIfInBounds_toArray, List.set_cons_zero, List.set_cons_succ, i64_w, i32_w]
                      rfl
                    refine pure_ (i := 9) (N := some 90) (v := ?_) (a' := ?_) #[true, true, true, true, true, true, true, true, true, true, false, true, true, true, false, false, false] rfl rfl (any_of HT_.out (by kernel_rfl)) (fun _ _ _ h => h) (Or.inl ⟨by rfl, ?_⟩) ?_ ?_
                    rotate_left
                    · intro w'
                      go_simp
                      with_reducible rfl
                    rotate_left
                    · simp only [Act.put, List.setIfInBounds_toArray, List.set_cons_zero, List.set_cons_succ, i64_w, i32_w]
                      rfl
                    refine take_ (i := 10) (N := some 91) (v := ?_) (a' := ?_) #[true, true, true, true, true, true, true, true, true, true, true, true, true, true, false, false, false] rfl rfl (take_ofW HT_.out HW_.out (by kernel_rfl)) (fun _ _ _ h => h) (Or.inl ⟨by rfl, ?_⟩) hHeld ?_ ?_
                    rotate_left
                    · rintro w' ⟨s0, s1, s2, s3, s4⟩
                      go_simp
                      with_reducible rfl
                    rotate_left
                    · simp only [Act.put, List.setIfInBounds_toArray, List.set_cons_zero, List.set_cons_succ, i64_w, i32_w]
                      rfl
                    refine take_ (i := 14) (N := some 95) (v := ?_) (a' := ?_) #[true, true, true, true, true, true, true, true, true, true, true, true, true, true, true, false, false] rfl rfl (take_ofW HT_.out HW_.out (by kernel_rfl)) (fun _ _ _ h => h) (Or.inl ⟨by rfl, ?_⟩) hHeld ?_ ?_
                    rotate_left
                    · rintro w' ⟨s0, s1, s2, s3, s4⟩
                      go_simp
                      with_reducible rfl
                    rotate_left
                    · simp only [Act.put, List.setIfInBounds_toArray, List.set_cons_zero, List.set_cons_succ, i64_w, i32_w]
                      rfl
                    refine pure_ (i := 15) (N := some 96) (v := ?_) (a' := ?_) #[true, true, true, true, true, true, true, true, true, true, true, true, true, true, true, true, false] rfl rfl (any_of HT_.out (by kernel_rfl)) (fun _ _ _ h => h) (Or.inl ⟨by rfl, ?_⟩) ?_ ?_
                    rotate_left
                    · intro w'
                      go_simp
                      with_reducible rfl
                    rotate_left
                    · simp only [Act.put, List.setIfInBounds_toArray, List.set_cons_zero, List.set_cons_succ, i64_w, i32_w]
                      rfl
                    refine pure_ (i := 16) (N := some 97) (v := ?_) (a' := ?_) #[true, true, true, true, true, true, true, true, true, true, true, true, true, true, true, true, true] rfl rfl (any_of HT_.out (by kernel_rfl)) (fun _ _ _ h => h) (Or.inl ⟨by rfl, ?_⟩) ?_ ?_
                    rotate_left
                    · intro w'
                      go_simp
                      with_reducible rfl
                    rotate_left
                    · simp only [Act.put, List.setIfInBounds_toArray, List.set_cons_zero, List.set_cons_succ, i64_w, i32_w]
                      rfl
                    refine done_ (done_of HT_.out (by kernel_rfl)) ?_

                    have hins : insE g ⟨y0, y1⟩ = g := by
                      have hP2 : at_ = posE g ⟨y0, y1⟩ := by rw [← HP.out]; omega
                      unfold insE
                      rw [← hP2, if_pos ⟨hlen, Hy.out.symm⟩]
                    rw [hins] at HT2
                    go_wp2_with fail
                    go_roundg k1
                    case measure => omega
                    case rel => exact ⟨i + 1, some ad2, c2, g, by go_num, by omega, HT2, ⟨by have := HLg.out; omega⟩, HEe⟩
                  · have HEe := Aside0.mk (HE6.out.below (below_drew1 (Below.refl _ _)))
                    have hins : insE g ⟨x0, x1⟩ = g.take at_ ++ [⟨x0, x1⟩] ++ g.drop at_ := by
                      have hP2 : at_ = posE g ⟨x0, x1⟩ := by rw [← HP.out]; omega
                      unfold insE
                      rw [← hP2, if_neg (fun e => hxy (by have := Hy.out.trans e.2; injection this with e1 e2; exact ⟨e1, e2⟩))]
                    rw [hins] at HT2
                    have hag : at_ ≤ g.length := by omega
                    have z0 : w6.drew.cell? ⟨w.heap.size + 1, 1, none⟩ = some (.slice (some ad2) g.length c2) := y0_
                    have z1 : w6.drew.cell? (ad2.add (at_ * 2)) = some (.int .i64 y0) := y1_
                    have z2 : w6.drew.cell? ⟨(ad2.add (at_ * 2)).block, (ad2.add (at_ * 2)).off + 1, none⟩ = some (.int .i64 y1) := y2_
                    have z3 : w6.drew.cell? (ad.add (i * 2)) = some (.int .i64 x0) := y3_
                    have z4 : w6.drew.cell? ⟨(ad.add (i * 2)).block, (ad.add (i * 2)).off + 1, none⟩ = some (.int .i64 x1) := y4_
                    clear y0_ y1_ y2_ y3_ y4_ HE6 hins
                    by_cases hx0 : y0 = x0
                    · subst hx0
                      have b9 : (y1 = x1) = False := eq_false (fun e => hxy ⟨rfl, e⟩)
                      clear hxy
                      refine start_ (n := 17) (S := fun w' => w'.cell? ⟨w.heap.size + 1, 1, none⟩ = some (.slice (some ad2) g.length c2) ∧ w'.cell? (ad2.add (at_ * 2)) = some (.int .i64 y0) ∧ w'.cell? ⟨(ad2.add (at_ * 2)).block, (ad2.add (at_ * 2)).off + 1, none⟩ = some (.int .i64 y1) ∧ w'.cell? (ad.add (i * 2)) = some (.int .i64 y0) ∧ w'.cell? ⟨(ad.add (i * 2)).block, (ad.add (i * 2)).off + 1, none⟩ = some (.int .i64 x1)) (ds := []) #[false, false, false, false, false, false, false, false, false, false, false, false, false, false, false, false, false] (by kernel_rfl) rfl rfl ⟨z0, z1, z2, z3, z4⟩ (fun hHeld => ?_)
                      refine with_tabW RefNewR.tab14 RefNewR.bits14 (fun HT_ HW_ => ?_)
                      generalize w6.drew = w7 at z0 z1 z2 z3 z4 HEe hHeld ⊢
                      refine pure_ (i := 0) (N := some 81) (v := ?_) (a' := ?_) #[true, false, false, false, false, false, false, false, false, false, false, false, false, false, false, false, false] rfl rfl (any_of HT_.out (by kernel_rfl)) (fun _ _ _ h => h) (Or.inl ⟨by rfl, ?_⟩) ?_ ?_
                      rotate_left
                      · intro w'
                        go_simp
                        with_reducible rfl
                      rotate_left
                      · simp only [Act.put, List.setIfInBounds_toArray, List.set_cons_zero, List.set_cons_succ, i64_w, i32_w]
                        rfl
                      refine pure_ (i := 1) (N := some 82) (v := ?_) (a' := ?_) #[true, true, false, false, false, false, false, false, false, false, false, false, false, false, false, false, false] rfl rfl (any_of HT_.out (by kernel_rfl)) (fun _ _ _ h => h) (Or.inl ⟨by rfl, ?_⟩) ?_ ?_
                      rotate_left
                      · intro w'
                        go_simp
                        with_reducible rfl
                      rotate_left
                      · simp only [Act.put, List.setIfInBounds_toArray, List.set_cons_zero, List.set_cons_succ, i64_w, i32_w]
                        rfl
                      refine take_ (i := 2) (N := some 83) (v := ?_) (a' := ?_) #[true, true, true, false, false, false, false, false, false, false, false, false, false, false, false, false, false] rfl rfl (take_ofW HT_.out HW_.out (by kernel_rfl)) (fun _ _ _ h => h) (Or.inl ⟨by rfl, ?_⟩) hHeld ?_ ?_
                      rotate_left
                      · rintro w' ⟨s0, s1, s2, s3, s4⟩
                        go_simp
                        with_reducible rfl
                      rotate_left
                      · simp only [Act.put, List.setIfInBounds_toArray, List.set_cons_zero, List.set_cons_succ, i64_w, i32_w]
                        rfl
                      refine pure_ (i := 3) (N := some 84) (v := ?_) (a' := ?_) #[true, true, true, true, false, false, false, false, false, false, false, false, false, false, false, false, false] rfl rfl (any_of HT_.out (by kernel_rfl)) (fun _ _ _ h => h) (Or.inl ⟨by rfl, ?_⟩) ?_ ?_
                      rotate_left
                      · intro w'
                        go_simp
                        with_reducible rfl
                      rotate_left
                      · simp only [Act.put, List.setIfInBounds_toArray, List.set_cons_zero, List.set_cons_succ, i64_w, i32_w]
                        rfl
                      refine pure_ (i := 4) (N := some 85) (v := ?_) (a' := ?_) #[true, true, true, true, true, false, false, false, false, false, false, false, false, false, false, false, false] rfl rfl (any_of HT_.out (by kernel_rfl)) (fun _ _ _ h => h) (Or.inl ⟨by rfl, ?_⟩) ?_ ?_
                      rotate_left
                      · intro w'
                        go_simp
                        with_reducible rfl
                      rotate_left
                      · simp only [Act.put, List.setIfInBounds_toArray, List.set_cons_zero, List.set_cons_succ, i64_w, i32_w]
                        rfl
                      refine pure_ (i := 5) (N := some 86) (v := ?_) (a' := ?_) #[true, true, true, true, true, true, false, false, false, false, false, false, false, false, false, false, false] rfl rfl (any_of HT_.out (by kernel_rfl)) (fun _ _ _ h => h) (Or.inl ⟨by rfl, ?_⟩) ?_ ?_
                      rotate_left
                      · intro w'
                        go_simp
                        with_reducible rfl
                      rotate_left
                      · simp only [Act.put, List.setIfInBounds_toArray, List.set_cons_zero, List.set_cons_succ, i64_w, i32_w]
                        rfl
                      refine pure_ (i := 6) (N := some 87) (v := ?_) (a' := ?_) #[true, true, true, true, true, true, true, false, false, false, false, false, false, false, false, false, false] rfl rfl (any_of HT_.out (by kernel_rfl)) (fun _ _ _ h => h) (Or.inl ⟨by rfl, ?_⟩) ?_ ?_
                      rotate_left
                      · intro w'
                        go_simp
                        with_reducible rfl
                      rotate_left
                      · simp only [Act.put, List.setIfInBounds_toArray, List.set_cons_zero, List.set_cons_succ, i64_w, i32_w]
                        rfl
                      refine pure_ (i := 8) (N := some 89) (v := ?_) (a' := ?_) #[true, true, true, true, true, true, true, false, true, false, false, false, false, false, false, false, false] rfl rfl (any_of HT_.out (by kernel_rfl)) (fun _ _ _ h => h) (Or.inl ⟨by rfl, ?_⟩) ?_ ?_
                      rotate_left
                      · intro w'
                        go_simp
                        with_reducible rfl
                      rotate_left
                      · simp only [Act.put, List.setIfInBounds_toArray, List.set_cons_zero, List.set_cons_succ, i64_w, i32_w]
                        rfl
                      refine pure_ (i := 11) (N := some 92) (v := ?_) (a' := ?_) #[true, true, true, true, true, true, true, false, true, false, false, true, false, false, false, false, false] rfl rfl (any_of HT_.out (by kernel_rfl)) (fun _ _ _ h => h) (Or.inl ⟨by rfl, ?_⟩) ?_ ?_
                      rotate_left
                      · intro w'
                        go_simp
                        with_reducible rfl
                      rotate_left
                      · simp only [Act.put, List.setIfInBounds_toArray, List.set_cons_zero, List.set_cons_succ, i64_w, i32_w]
                        rfl
                      refine pure_ (i := 12) (N := some 93) (v := ?_) (a' := ?_) #[true, true, true, true, true, true, true, false, true, false, false, true, true, false, false, false, false] rfl rfl (any_of HT_.out (by kernel_rfl)) (fun _ _ _ h => h) (Or.inl ⟨by rfl, ?_⟩) ?_ ?_
                      rotate_left
                      · intro w'
                        go_simp
                        with_reducible rfl
                      rotate_left
                      · simp only [Act.put, List.setIfInBounds_toArray, List.set_cons_zero, List.set_cons_succ, i64_w, i32_w]
                        rfl
                      refine pure_ (i := 13) (N := some 94) (v := ?_) (a' := ?_) #[true, true, true, true, true, true, true, false, true, false, false, true, true, true, false, false, false] rfl rfl (any_of HT_.out (by kernel_rfl)) (fun _ _ _ h => h) (Or.inl ⟨by rfl, ?_⟩) ?_ ?_
                      rotate_left
                      · intro w'
                        go_simp
                        with_reducible rfl
                      rotate_left
                      · simp only [Act.put, List.setIfInBounds_toArray, List.set_cons_zero, List.set_cons_succ, i64_w, i32_w]
                        rfl
                      refine take_ (i := 7) (N := some 88) (v := ?_) (a' := ?_) #[true, true, true, true, true, true, true, true, true, false, false, true, true, true, false, false, false] rfl rfl (take_ofW HT_.out HW_.out (by kernel_rfl)) (fun _ _ _ h => h) (Or.inl ⟨by rfl, ?_⟩) hHeld ?_ ?_
                      rotate_left
                      · rintro w' ⟨s0, s1, s2, s3, s4⟩
                        go_simp
                        with_reducible rfl
                      rotate_left
                      · simp only [Act.put, List.setIfInBounds_toArray, List.set_cons_zero, List.set_cons_succ, i64_w, i32_w]
                        rfl
                      refine pure_ (i := 9) (N := some 90) (v := ?_) (a' := ?_) #[true, true, true, true, true, true, true, true, true, true, false, true, true, true, false, false, false] rfl rfl (any_of HT_.out (by kernel_rfl)) (fun _ _ _ h => h) (Or.inl ⟨by rfl, ?_⟩) ?_ ?_
                      rotate_left
                      · intro w'
                        go_simp
                        with_reducible rfl
                      rotate_left
                      · simp only [Act.put, List.setIfInBounds_toArray, List.set_cons_zero, List.set_cons_succ, i64_w, i32_w]
                        rfl
                      refine take_ (i := 10) (N := some 91) (v := ?_) (a' := ?_) #[true, true, true, true, true, true, true, true, true, true, true, true, true, true, false, false, false] rfl rfl (take_ofW HT_.out HW_.out (by kernel_rfl)) (fun _ _ _ h => h) (Or.inl ⟨by rfl, ?_⟩) hHeld ?_ ?_
                      rotate_left
                      · rintro w' ⟨s0, s1, s2, s3, s4⟩
                        go_simp
                        with_reducible rfl
                      rotate_left
                      · simp only [Act.put, List.setIfInBounds_toArray, List.set_cons_zero, List.set_cons_succ, i64_w, i32_w]
                        rfl
                      refine take_ (i := 14) (N := some 95) (v := ?_) (a' := ?_) #[true, true, true, true, true, true, true, true, true, true, true, true, true, true, true, false, false] rfl rfl (take_ofW HT_.out HW_.out (by kernel_rfl)) (fun _ _ _ h => h) (Or.inl ⟨by rfl, ?_⟩) hHeld ?_ ?_
                      rotate_left
                      · rintro w' ⟨s0, s1, s2, s3, s4⟩
                        go_simp
                        with_reducible rfl
                      rotate_left
                      · simp only [Act.put, List.setIfInBounds_toArray, List.set_cons_zero, List.set_cons_succ, i64_w, i32_w]
                        rfl
                      refine pure_ (i := 15) (N := some 96) (v := ?_) (a' := ?_) #[true, true, true, true, true, true, true, true, true, true, true, true, true, true, true, true, false] rfl rfl (any_of HT_.out (by kernel_rfl)) (fun _ _ _ h => h) (Or.inl ⟨by rfl, ?_⟩) ?_ ?_
                      rotate_left
                      · intro w'
                        go_simp
                        with_reducible rfl
                      rotate_left
                      · simp only [Act.put, List.setIfInBounds_toArray, List.set_cons_zero, List.set_cons_succ, i64_w, i32_w]
                        rfl
                      refine pure_ (i := 16) (N := some 97) (v := ?_) (a' := ?_) #[true, true, true, true, true, true, true, true, true, true, true, true, true, true, true, true, true] rfl rfl (any_of HT_.out (by kernel_rfl)) (fun _ _ _ h => h) (Or.inl ⟨by rfl, ?_⟩) ?_ ?_
                      rotate_left
                      · intro w'
                        go_simp
                        with_reducible rfl
                      rotate_left
                      · simp only [Act.put, List.setIfInBounds_toArray, List.set_cons_zero, List.set_cons_succ, i64_w, i32_w]
                        rfl
                      refine done_ (done_of HT_.out (by kernel_rfl)) ?_

                      obtain ⟨G, hG⟩ : ∃ G, G = g.take at_ ++ [(⟨y0, x1⟩ : S43)] ++ g.drop at_ := ⟨_, rfl⟩
                      rw [← hG] at HT2
                      have HG := Aside0.mk hG
                      have HGl := Aside0.mk (show G.length ≤ i + 1 by rw [hG]; have := HLg.out; simp; omega)
                      clear hG
                      have HTk := Aside0.mk (show (g.take at_).length = at_ by rw [List.length_take]; omega)
                      have hgc2 := (Kd.R_reads' HEe.out.hr).2.1
                      have CT := Aside0.mk (show ∀ W1 (v1 : Value), k43.R 43 W1 w.heap.size (fun k => True ∧ some k ≠ v1.ownBlock) (.slice (some ad2) g.length c2) g → k43.C W1 (some ad2) at_ (g.take at_) from fun W1 v1 h => by have := Kd.C_take (Kd.R_reads' h).2.2 hag; rwa [show (g.take at_).length = at_ by rw [List.length_take]; omega] at this)
                      have CD := Aside0.mk (show ∀ W1 (v1 : Value), k43.R 43 W1 w.heap.size (fun k => True ∧ some k ≠ v1.ownBlock) (.slice (some ad2) g.length c2) g → k43.C W1 (if c2 = at_ then (some ad2) else (some ad2).map (·.add (at_ * 2))) (g.length - at_) (g.drop at_) from fun W1 v1 h => by have := Kd.C_drop (Kd.R_reads' h).2.2 hag hgc2; rwa [show (g.drop at_).length = g.length - at_ from List.length_drop] at this)
                      go_wp2_with (first | ((with_reducible refine gate_dst (N := 98) rfl ?_); refine Kd.R_lit k43 (w0 := w) w.heap.size 43 ?hg (N := 98) ?hd (xs := ([] : List S43)) (inner := []) (ok := fun _ => True) (okp := fun _ => False) ?hr (Reps.none _ _) (fun _ hk => hk.elim) trivial HEe.out.bel (below_size HEe.out.bel) (by simp) ?_; (case hd => rfl); (case hg => rfl); (case hr => first | (go_simp; done) | (go_simp; rfl)); intro v1 wa ho hbb hg hnew; have HI := Aside0.mk (Is.start HEe.out ho hbb hg hnew); have s61 := (blk_cell HI.out.h6 1).trans rfl; clear ho hbb hg hnew) | ((with_reducible refine gate_builtin (b := .append) (xs := #[.tmp 98, .tmp 102]) rfl ?_); at_builtin; refine Kd.R_append_rows k43 (w0 := w) w.heap.size rfl (.tmp 98) (.tmp 102) 22 43 (.agg #[.int .i64 0, .int .i64 0]) 16 rfl Try.underlying22 info43 rfl (by decide) (by omega) v1 [] (g.take at_) (some ad2) at_ c2 (fun _ => True) (fun _ => False) rfl rfl HI.out.hv (CT.out wa v1 HI.out.hr) (fun x cs h => by obtain rfl := k43_open h; exact k43_mkM _ _ _ _) (fun _ h => h.elim) (fun _ _ => trivial) HI.out.bel (below_size HI.out.bel) (by have := HLg.out; simp only [List.length_nil]; omega) ?_; intro v2 wb ho hbb hg hat2; rw [List.nil_append] at ho; have HJ := Aside0.mk (HI.out.grown ho hbb hg hat2); obtain ⟨q0, q1⟩ := LX.out wb hbb; clear s61 HI ho hbb hg hat2) | ((with_reducible refine gate_builtin (b := .append) (xs := #[.tmp 104, .tmp 109]) rfl ?_); at_builtin; refine Kd.R_append k43 (w0 := w) w.heap.size rfl (.tmp 104) (.tmp 109) 22 43 (.agg #[.int .i64 0, .int .i64 0]) 16 rfl Try.underlying22 info43 rfl (by decide) (by decide) v2 (g.take at_) (⟨y0, x1⟩ : S43) [.int .i64 y0, .int .i64 x1] (fun _ => True) (fun _ => False) rfl ?ax (k43_mkM _ _ _ _) (fun _ h => h.elim) (fun _ _ => trivial) HJ.out.hv HJ.out.bel (below_size HJ.out.bel) (by have := HLg.out; have := HTk.out; omega) ?_; (case ax => first | (go_simp; done) | (go_simp; rfl) | simp); intro v3 wc ho hbb hg hat2; have HL := Aside0.mk (HJ.out.grown ho hbb hg hat2); have s61 := (blk_cell HL.out.h6 1).trans rfl; clear q0 q1 HJ ho hbb hg hat2) | ((with_reducible refine gate_builtin (b := .append) (xs := #[.tmp 111, .tmp 115]) rfl ?_); at_builtin; refine Aside0.out ?_))
                      all_goals
                        refine ⟨?_⟩
                        refine Kd.R_append_rows k43 (Rr := k43.K wc) (w0 := w) w.heap.size rfl (.tmp 111) (.tmp 115) 22 43 (.agg #[.int .i64 0, .int .i64 0]) 16 rfl Try.underlying22 info43 rfl (by decide) (by omega) v3 (g.take at_ ++ [⟨y0, x1⟩]) (g.drop at_) _ (g.length - at_) _ (fun _ => True) (fun _ => False) rfl rfl HL.out.hv ?aR (fun x cs h => by obtain rfl := k43_open h; exact k43_mkM _ _ _ _) (fun _ h => h.elim) (fun _ _ => trivial) HL.out.bel (below_size HL.out.bel) (by have := HLg.out; have := HTk.out; rw [List.length_append]; simp only [List.length_cons, List.length_nil]; omega) ?_; (case aR => have h0 := CD.out wc v3 HL.out.hr; first | (rw [if_pos (by omega)] at h0; exact h0) | (rw [if_neg (by omega)] at h0; exact h0)); intro v4 wd ho hbb hg hat2; rw [← HG.out] at ho; obtain ⟨A4, c4, e4⟩ := Kd.R_slice ho; subst e4; have HM := Aside0.mk (HL.out.grown ho hbb hg hat2); have f61 := blk_frozen HM.out.h6 1; have s61' := (blk_cell HM.out.h6 1).trans rfl; clear s61 HL ho hbb hg hat2
                        go_wp2_with fail
                        go_roundg k1
                        case measure => omega
                        case rel => exact ⟨i + 1, A4, c4, _, by go_num, by omega, HT2, HGl, ⟨HM.out.done⟩⟩
                    · have b9 : (y0 = x0) = False := eq_false hx0
                      clear hxy hx0
                      refine start_ (n := 17) (S := fun w' => w'.cell? ⟨w.heap.size + 1, 1, none⟩ = some (.slice (some ad2) g.length c2) ∧ w'.cell? (ad2.add (at_ * 2)) = some (.int .i64 y0) ∧ w'.cell? ⟨(ad2.add (at_ * 2)).block, (ad2.add (at_ * 2)).off + 1, none⟩ = some (.int .i64 y1) ∧ w'.cell? (ad.add (i * 2)) = some (.int .i64 x0) ∧ w'.cell? ⟨(ad.add (i * 2)).block, (ad.add (i * 2)).off + 1, none⟩ = some (.int .i64 x1)) (ds := []) #[false, false, false, false, false, false, false, false, false, false, false, false, false, false, false, false, false] (by kernel_rfl) rfl rfl ⟨z0, z1, z2, z3, z4⟩ (fun hHeld => ?_)
                      refine with_tabW RefNewR.tab14 RefNewR.bits14 (fun HT_ HW_ => ?_)
                      generalize w6.drew = w7 at z0 z1 z2 z3 z4 HEe hHeld ⊢
                      refine pure_ (i := 0) (N := some 81) (v := ?_) (a' := ?_) #[true, false, false, false, false, false, false, false, false, false, false, false, false, false, false, false, false] rfl rfl (any_of HT_.out (by kernel_rfl)) (fun _ _ _ h => h) (Or.inl ⟨by rfl, ?_⟩) ?_ ?_
                      rotate_left
                      · intro w'
                        go_simp
                        with_reducible rfl
                      rotate_left
                      · simp only [Act.put, List.setIfInBounds_toArray, List.set_cons_zero, List.set_cons_succ, i64_w, i32_w]
                        rfl
                      refine pure_ (i := 1) (N := some 82) (v := ?_) (a' := ?_) #[true, true, false, false, false, false, false, false, false, false, false, false, false, false, false, false, false] rfl rfl (any_of HT_.out (by kernel_rfl)) (fun _ _ _ h => h) (Or.inl ⟨by rfl, ?_⟩) ?_ ?_
                      rotate_left
                      · intro w'
                        go_simp
                        with_reducible rfl
                      rotate_left
                      · simp only [Act.put, List.setIfInBounds_toArray, List.set_cons_zero, List.set_cons_succ, i64_w, i32_w]
                        rfl
                      refine take_ (i := 2) (N := some 83) (v := ?_) (a' := ?_) #[true, true, true, false, false, false, false, false, false, false, false, false, false, false, false, false, false] rfl rfl (take_ofW HT_.out HW_.out (by kernel_rfl)) (fun _ _ _ h => h) (Or.inl ⟨by rfl, ?_⟩) hHeld ?_ ?_
                      rotate_left
                      · rintro w' ⟨s0, s1, s2, s3, s4⟩
                        go_simp
                        with_reducible rfl
                      rotate_left
                      · simp only [Act.put, List.setIfInBounds_toArray, List.set_cons_zero, List.set_cons_succ, i64_w, i32_w]
                        rfl
                      refine pure_ (i := 3) (N := some 84) (v := ?_) (a' := ?_) #[true, true, true, true, false, false, false, false, false, false, false, false, false, false, false, false, false] rfl rfl (any_of HT_.out (by kernel_rfl)) (fun _ _ _ h => h) (Or.inl ⟨by rfl, ?_⟩) ?_ ?_
                      rotate_left
                      · intro w'
                        go_simp
                        with_reducible rfl
                      rotate_left
                      · simp only [Act.put, List.setIfInBounds_toArray, List.set_cons_zero, List.set_cons_succ, i64_w, i32_w]
                        rfl
                      refine pure_ (i := 4) (N := some 85) (v := ?_) (a' := ?_) #[true, true, true, true, true, false, false, false, false, false, false, false, false, false, false, false, false] rfl rfl (any_of HT_.out (by kernel_rfl)) (fun _ _ _ h => h) (Or.inl ⟨by rfl, ?_⟩) ?_ ?_
                      rotate_left
                      · intro w'
                        go_simp
                        with_reducible rfl
                      rotate_left
                      · simp only [Act.put, List.setIfInBounds_toArray, List.set_cons_zero, List.set_cons_succ, i64_w, i32_w]
                        rfl
                      refine pure_ (i := 5) (N := some 86) (v := ?_) (a' := ?_) #[true, true, true, true, true, true, false, false, false, false, false, false, false, false, false, false, false] rfl rfl (any_of HT_.out (by kernel_rfl)) (fun _ _ _ h => h) (Or.inl ⟨by rfl, ?_⟩) ?_ ?_
                      rotate_left
                      · intro w'
                        go_simp
                        with_reducible rfl
                      rotate_left
                      · simp only [Act.put, List.setIfInBounds_toArray, List.set_cons_zero, List.set_cons_succ, i64_w, i32_w]
                        rfl
                      refine pure_ (i := 6) (N := some 87) (v := ?_) (a' := ?_) #[true, true, true, true, true, true, true, false, false, false, false, false, false, false, false, false, false] rfl rfl (any_of HT_.out (by kernel_rfl)) (fun _ _ _ h => h) (Or.inl ⟨by rfl, ?_⟩) ?_ ?_
                      rotate_left
                      · intro w'
                        go_simp
                        with_reducible rfl
                      rotate_left
                      · simp only [Act.put, List.setIfInBounds_toArray, List.set_cons_zero, List.set_cons_succ, i64_w, i32_w]
                        rfl
                      refine pure_ (i := 8) (N := some 89) (v := ?_) (a' := ?_) #[true, true, true, true, true, true, true, false, true, false, false, false, false, false, false, false, false] rfl rfl (any_of HT_.out (by kernel_rfl)) (fun _ _ _ h => h) (Or.inl ⟨by rfl, ?_⟩) ?_ ?_
                      rotate_left
                      · intro w'
                        go_simp
                        with_reducible rfl
                      rotate_left
                      · simp only [Act.put, List.setIfInBounds_toArray, List.set_cons_zero, List.set_cons_succ, i64_w, i32_w]
                        rfl
                      refine pure_ (i := 11) (N := some 92) (v := ?_) (a' := ?_) #[true, true, true, true, true, true, true, false, true, false, false, true, false, false, false, false, false] rfl rfl (any_of HT_.out (by kernel_rfl)) (fun _ _ _ h => h) (Or.inl ⟨by rfl, ?_⟩) ?_ ?_
                      rotate_left
                      · intro w'
                        go_simp
                        with_reducible rfl
                      rotate_left
                      · simp only [Act.put, List.setIfInBounds_toArray, List.set_cons_zero, List.set_cons_succ, i64_w, i32_w]
                        rfl
                      refine pure_ (i := 12) (N := some 93) (v := ?_) (a' := ?_) #[true, true, true, true, true, true, true, false, true, false, false, true, true, false, false, false, false] rfl rfl (any_of HT_.out (by kernel_rfl)) (fun _ _ _ h => h) (Or.inl ⟨by rfl, ?_⟩) ?_ ?_
                      rotate_left
                      · intro w'
                        go_simp
                        with_reducible rfl
                      rotate_left
                      · simp only [Act.put, List.setIfInBounds_toArray, List.set_cons_zero, List.set_cons_succ, i64_w, i32_w]
                        rfl
                      refine pure_ (i := 13) (N := some 94) (v := ?_) (a' := ?_) #[true, true, true, true, true, true, true, false, true, false, false, true, true, true, false, false, false] rfl rfl (any_of HT_.out (by kernel_rfl)) (fun _ _ _ h => h) (Or.inl ⟨by rfl, ?_⟩) ?_ ?_
                      rotate_left
                      · intro w'
                        go_simp
                        with_reducible rfl
                      rotate_left
                      · simp only [Act.put, List.setIfInBounds_toArray, List.set_cons_zero, List.set_cons_succ, i64_w, i32_w]
                        rfl
                      refine take_ (i := 7) (N := some 88) (v := ?_) (a' := ?_) #[true, true, true, true, true, true, true, true, true, false, false, true, true, true, false, false, false] rfl rfl (take_ofW HT_.out HW_.out (by kernel_rfl)) (fun _ _ _ h => h) (Or.inl ⟨by rfl, ?_⟩) hHeld ?_ ?_
                      rotate_left
                      · rintro w' ⟨s0, s1, s2, s3, s4⟩
                        go_simp
                        with_reducible rfl
                      rotate_left
                      · simp only [Act.put, List.setIfInBounds_toArray, List.set_cons_zero, List.set_cons_succ, i64_w, i32_w]
                        rfl
                      refine pure_ (i := 9) (N := some 90) (v := ?_) (a' := ?_) #[true, true, true, true, true, true, true, true, true, true, false, true, true, true, false, false, false] rfl rfl (any_of HT_.out (by kernel_rfl)) (fun _ _ _ h => h) (Or.inl ⟨by rfl, ?_⟩) ?_ ?_
                      rotate_left
                      · intro w'
                        go_simp
                        with_reducible rfl
                      rotate_left
                      · simp only [Act.put, List.setIfInBounds_toArray, List.set_cons_zero, List.set_cons_succ, i64_w, i32_w]
                        rfl
                      refine take_ (i := 10) (N := some 91) (v := ?_) (a' := ?_) #[true, true, true, true, true, true, true, true, true, true, true, true, true, true, false, false, false] rfl rfl (take_ofW HT_.out HW_.out (by kernel_rfl)) (fun _ _ _ h => h) (Or.inl ⟨by rfl, ?_⟩) hHeld ?_ ?_
                      rotate_left
                      · rintro w' ⟨s0, s1, s2, s3, s4⟩
                        go_simp
                        with_reducible rfl
                      rotate_left
                      · simp only [Act.put, List.setIfInBounds_toArray, List.set_cons_zero, List.set_cons_succ, i64_w, i32_w]
                        rfl
                      refine take_ (i := 14) (N := some 95) (v := ?_) (a' := ?_) #[true, true, true, true, true, true, true, true, true, true, true, true, true, true, true, false, false] rfl rfl (take_ofW HT_.out HW_.out (by kernel_rfl)) (fun _ _ _ h => h) (Or.inl ⟨by rfl, ?_⟩) hHeld ?_ ?_
                      rotate_left
                      · rintro w' ⟨s0, s1, s2, s3, s4⟩
                        go_simp
                        with_reducible rfl
                      rotate_left
                      · simp only [Act.put, List.setIfInBounds_toArray, List.set_cons_zero, List.set_cons_succ, i64_w, i32_w]
                        rfl
                      refine pure_ (i := 15) (N := some 96) (v := ?_) (a' := ?_) #[true, true, true, true, true, true, true, true, true, true, true, true, true, true, true, true, false] rfl rfl (any_of HT_.out (by kernel_rfl)) (fun _ _ _ h => h) (Or.inl ⟨by rfl, ?_⟩) ?_ ?_
                      rotate_left
                      · intro w'
                        go_simp
                        with_reducible rfl
                      rotate_left
                      · simp only [Act.put, List.setIfInBounds_toArray, List.set_cons_zero, List.set_cons_succ, i64_w, i32_w]
                        rfl
                      refine pure_ (i := 16) (N := some 97) (v := ?_) (a' := ?_) #[true, true, true, true, true, true, true, true, true, true, true, true, true, true, true, true, true] rfl rfl (any_of HT_.out (by kernel_rfl)) (fun _ _ _ h => h) (Or.inl ⟨by rfl, ?_⟩) ?_ ?_
                      rotate_left
                      · intro w'
                        go_simp
                        with_reducible rfl
                      rotate_left
                      · simp only [Act.put, List.setIfInBounds_toArray, List.set_cons_zero, List.set_cons_succ, i64_w, i32_w]
                        rfl
                      refine done_ (done_of HT_.out (by kernel_rfl)) ?_

                      obtain ⟨G, hG⟩ : ∃ G, G = g.take at_ ++ [(⟨x0, x1⟩ : S43)] ++ g.drop at_ := ⟨_, rfl⟩
                      rw [← hG] at HT2
                      have HG := Aside0.mk hG
                      have HGl := Aside0.mk (show G.length ≤ i + 1 by rw [hG]; have := HLg.out; simp; omega)
                      clear hG
                      have HTk := Aside0.mk (show (g.take at_).length = at_ by rw [List.length_take]; omega)
                      have hgc2 := (Kd.R_reads' HEe.out.hr).2.1
                      have CT := Aside0.mk (show ∀ W1 (v1 : Value), k43.R 43 W1 w.heap.size (fun k => True ∧ some k ≠ v1.ownBlock) (.slice (some ad2) g.length c2) g → k43.C W1 (some ad2) at_ (g.take at_) from fun W1 v1 h => by have := Kd.C_take (Kd.R_reads' h).2.2 hag; rwa [show (g.take at_).length = at_ by rw [List.length_take]; omega] at this)
                      have CD := Aside0.mk (show ∀ W1 (v1 : Value), k43.R 43 W1 w.heap.size (fun k => True ∧ some k ≠ v1.ownBlock) (.slice (some ad2) g.length c2) g → k43.C W1 (if c2 = at_ then (some ad2) else (some ad2).map (·.add (at_ * 2))) (g.length - at_) (g.drop at_) from fun W1 v1 h => by have := Kd.C_drop (Kd.R_reads' h).2.2 hag hgc2; rwa [show (g.drop at_).length = g.length - at_ from List.length_drop] at this)
                      go_wp2_with (first | ((with_reducible refine gate_dst (N := 98) rfl ?_); refine Kd.R_lit k43 (w0 := w) w.heap.size 43 ?hg (N := 98) ?hd (xs := ([] : List S43)) (inner := []) (ok := fun _ => True) (okp := fun _ => False) ?hr (Reps.none _ _) (fun _ hk => hk.elim) trivial HEe.out.bel (below_size HEe.out.bel) (by simp) ?_; (case hd => rfl); (case hg => rfl); (case hr => first | (go_simp; done) | (go_simp; rfl)); intro v1 wa ho hbb hg hnew; have HI := Aside0.mk (Is.start HEe.out ho hbb hg hnew); have s61 := (blk_cell HI.out.h6 1).trans rfl; clear ho hbb hg hnew) | ((with_reducible refine gate_builtin (b := .append) (xs := #[.tmp 98, .tmp 102]) rfl ?_); at_builtin; refine Kd.R_append_rows k43 (w0 := w) w.heap.size rfl (.tmp 98) (.tmp 102) 22 43 (.agg #[.int .i64 0, .int .i64 0]) 16 rfl Try.underlying22 info43 rfl (by decide) (by omega) v1 [] (g.take at_) (some ad2) at_ c2 (fun _ => True) (fun _ => False) rfl rfl HI.out.hv (CT.out wa v1 HI.out.hr) (fun x cs h => by obtain rfl := k43_open h; exact k43_mkM _ _ _ _) (fun _ h => h.elim) (fun _ _ => trivial) HI.out.bel (below_size HI.out.bel) (by have := HLg.out; simp only [List.length_nil]; omega) ?_; intro v2 wb ho hbb hg hat2; rw [List.nil_append] at ho; have HJ := Aside0.mk (HI.out.grown ho hbb hg hat2); obtain ⟨q0, q1⟩ := LX.out wb hbb; clear s61 HI ho hbb hg hat2) | ((with_reducible refine gate_builtin (b := .append) (xs := #[.tmp 104, .tmp 109]) rfl ?_); at_builtin; refine Kd.R_append k43 (w0 := w) w.heap.size rfl (.tmp 104) (.tmp 109) 22 43 (.agg #[.int .i64 0, .int .i64 0]) 16 rfl Try.underlying22 info43 rfl (by decide) (by decide) v2 (g.take at_) (⟨x0, x1⟩ : S43) [.int .i64 x0, .int .i64 x1] (fun _ => True) (fun _ => False) rfl ?ax (k43_mkM _ _ _ _) (fun _ h => h.elim) (fun _ _ => trivial) HJ.out.hv HJ.out.bel (below_size HJ.out.bel) (by have := HLg.out; have := HTk.out; omega) ?_; (case ax => first | (go_simp; done) | (go_simp; rfl) | simp); intro v3 wc ho hbb hg hat2; have HL := Aside0.mk (HJ.out.grown ho hbb hg hat2); have s61 := (blk_cell HL.out.h6 1).trans rfl; clear q0 q1 HJ ho hbb hg hat2) | ((with_reducible refine gate_builtin (b := .append) (xs := #[.tmp 111, .tmp 115]) rfl ?_); at_builtin; refine Aside0.out ?_))
                      all_goals
                        refine ⟨?_⟩
                        refine Kd.R_append_rows k43 (Rr := k43.K wc) (w0 := w) w.heap.size rfl (.tmp 111) (.tmp 115) 22 43 (.agg #[.int .i64 0, .int .i64 0]) 16 rfl Try.underlying22 info43 rfl (by decide) (by omega) v3 (g.take at_ ++ [⟨x0, x1⟩]) (g.drop at_) _ (g.length - at_) _ (fun _ => True) (fun _ => False) rfl rfl HL.out.hv ?aR (fun x cs h => by obtain rfl := k43_open h; exact k43_mkM _ _ _ _) (fun _ h => h.elim) (fun _ _ => trivial) HL.out.bel (below_size HL.out.bel) (by have := HLg.out; have := HTk.out; rw [List.length_append]; simp only [List.length_cons, List.length_nil]; omega) ?_; (case aR => have h0 := CD.out wc v3 HL.out.hr; first | (rw [if_pos (by omega)] at h0; exact h0) | (rw [if_neg (by omega)] at h0; exact h0)); intro v4 wd ho hbb hg hat2; rw [← HG.out] at ho; obtain ⟨A4, c4, e4⟩ := Kd.R_slice ho; subst e4; have HM := Aside0.mk (HL.out.grown ho hbb hg hat2); have f61 := blk_frozen HM.out.h6 1; have s61' := (blk_cell HM.out.h6 1).trans rfl; clear s61 HL ho hbb hg hat2
                        go_wp2_with fail
                        go_roundg k1
                        case measure => omega
                        case rel => exact ⟨i + 1, A4, c4, _, by go_num, by omega, HT2, HGl, ⟨HM.out.done⟩⟩
              · have bl : decide ((at_ : Int) < (g.length : Int)) = false := decide_eq_false (by omega)
                have z0 : wr.drew.cell? ⟨w.heap.size + 1, 1, none⟩ = some (.slice A2 g.length c2) := (blk_cell HE.out.h6 1).trans rfl
                have HEd := Aside0.mk (HE.out.below (below_drew1 (Below.refl _ _)))
                go_upto_region 12 with fail
                refine start_ (n := 17) (S := fun w' => w'.cell? ⟨w.heap.size + 1, 1, none⟩ = some (.slice A2 g.length c2)) (ds := []) #[false, false, false, false, false, false, false, false, false, false, false, false, false, false, false, false, false] (by kernel_rfl) rfl rfl (z0) (fun hHeld => ?_)
                refine with_tabW RefNewR.tab12 RefNewR.bits12 (fun HT_ HW_ => ?_)
                generalize wr.drew = w5 at z0 HEd hHeld ⊢
                refine pure_ (i := 0) (N := some 62) (v := ?_) (a' := ?_) #[true, false, false, false, false, false, false, false, false, false, false, false, false, false, false, false, false] rfl rfl (any_of HT_.out (by kernel_rfl)) (fun _ _ _ h => h) (Or.inl ⟨by rfl, ?_⟩) ?_ ?_
                rotate_left
                · intro w'
                  go_simp
                  with_reducible rfl
                rotate_left
                · simp only [Act.put, List.setIfInBounds_toArray, List.set_cons_zero, List.set_cons_succ, i64_w, i32_w]
                  rfl
                refine pure_ (i := 1) (N := some 63) (v := ?_) (a' := ?_) #[true, true, false, false, false, false, false, false, false, false, false, false, false, false, false, false, false] rfl rfl (any_of HT_.out (by kernel_rfl)) (fun _ _ _ h => h) (Or.inl ⟨by rfl, ?_⟩) ?_ ?_
                rotate_left
                · intro w'
                  go_simp
                  with_reducible rfl
                rotate_left
                · simp only [Act.put, List.setIfInBounds_toArray, List.set_cons_zero, List.set_cons_succ, i64_w, i32_w]
                  rfl
                refine take_ (i := 2) (N := some 64) (v := ?_) (a' := ?_) #[true, true, true, false, false, false, false, false, false, false, false, false, false, false, false, false, false] rfl rfl (take_ofW HT_.out HW_.out (by kernel_rfl)) (fun _ _ _ h => h) (Or.inl ⟨by rfl, ?_⟩) hHeld ?_ ?_
                rotate_left
                · intro w' s0
                  go_simp
                  with_reducible rfl
                rotate_left
                · simp only [Act.put, List.setIfInBounds_toArray, List.set_cons_zero, List.set_cons_succ, i64_w, i32_w]
                  rfl
                refine pure_ (i := 3) (N := some 65) (v := ?_) (a' := ?_) #[true, true, true, true, false, false, false, false, false, false, false, false, false, false, false, false, false] rfl rfl (any_of HT_.out (by kernel_rfl)) (fun _ _ _ h => h) (Or.inl ⟨by rfl, ?_⟩) ?_ ?_
                rotate_left
                · intro w'
                  go_simp
                  with_reducible rfl
                rotate_left
                · simp only [Act.put, List.setIfInBounds_toArray, List.set_cons_zero, List.set_cons_succ, i64_w, i32_w]
                  rfl
                refine pure_ (i := 4) (N := some 66) (v := ?_) (a' := ?_) #[true, true, true, true, true, false, false, false, false, false, false, false, false, false, false, false, false] rfl rfl (any_of HT_.out (by kernel_rfl)) (fun _ _ _ h => h) (Or.inl ⟨by rfl, ?_⟩) ?_ ?_
                rotate_left
                · intro w'
                  go_simp
                  with_reducible rfl
                rotate_left
                · simp only [Act.put, List.setIfInBounds_toArray, List.set_cons_zero, List.set_cons_succ, i64_w, i32_w]
                  rfl
                refine pure_ (i := 5) (N := some 67) (v := ?_) (a' := ?_) #[true, true, true, true, true, true, false, false, false, false, false, false, false, false, false, false, false] rfl rfl (any_of HT_.out (by kernel_rfl)) (fun _ _ _ h => h) (Or.inl ⟨by rfl, ?_⟩) ?_ ?_
                rotate_left
                · intro w'
                  go_simp
                  with_reducible rfl
                rotate_left
                · simp only [Act.put, List.setIfInBounds_toArray, List.set_cons_zero, List.set_cons_succ, i64_w, i32_w]
                  rfl
                refine pure_ (i := 6) (N := some 68) (v := undef) (a' := ?_) #[true, true, true, true, true, true, true, false, false, false, false, false, false, false, false, false, false] rfl rfl (any_of HT_.out (by kernel_rfl)) (fun _ _ _ h => h) (Or.inr ⟨by rfl, rfl⟩) ?_ ?_
                rotate_left
                · simp only [Act.put, List.setIfInBounds_toArray, List.set_cons_zero, List.set_cons_succ, i64_w, i32_w]
                  rfl
                refine pure_ (i := 7) (N := some 69) (v := undef) (a' := ?_) #[true, true, true, true, true, true, true, true, false, false, false, false, false, false, false, false, false] rfl rfl (any_of HT_.out (by kernel_rfl)) (fun _ _ _ h => h) (Or.inr ⟨by rfl, rfl⟩) ?_ ?_
                rotate_left
                · simp only [Act.put, List.setIfInBounds_toArray, List.set_cons_zero, List.set_cons_succ, i64_w, i32_w]
                  rfl
                refine pure_ (i := 8) (N := some 70) (v := undef) (a' := ?_) #[true, true, true, true, true, true, true, true, true, false, false, false, false, false, false, false, false] rfl rfl (any_of HT_.out (by kernel_rfl)) (fun _ _ _ h => h) (Or.inr ⟨by rfl, rfl⟩) ?_ ?_
                rotate_left
                · simp only [Act.put, List.setIfInBounds_toArray, List.set_cons_zero, List.set_cons_succ, i64_w, i32_w]
                  rfl
                refine pure_ (i := 9) (N := some 71) (v := undef) (a' := ?_) #[true, true, true, true, true, true, true, true, true, true, false, false, false, false, false, false, false] rfl rfl (any_of HT_.out (by kernel_rfl)) (fun _ _ _ h => h) (Or.inr ⟨by rfl, rfl⟩) ?_ ?_
                rotate_left
                · simp only [Act.put, List.setIfInBounds_toArray, List.set_cons_zero, List.set_cons_succ, i64_w, i32_w]
                  rfl
                refine pure_ (i := 10) (N := some 72) (v := undef) (a' := ?_) #[true, true, true, true, true, true, true, true, true, true, true, false, false, false, false, false, false] rfl rfl (any_of HT_.out (by kernel_rfl)) (fun _ _ _ h => h) (Or.inr ⟨by rfl, rfl⟩) ?_ ?_
                rotate_left
                · simp only [Act.put, List.setIfInBounds_toArray, List.set_cons_zero, List.set_cons_succ, i64_w, i32_w]
                  rfl
                refine pure_ (i := 11) (N := some 73) (v := undef) (a' := ?_) #[true, true, true, true, true, true, true, true, true, true, true, true, false, false, false, false, false] rfl rfl (any_of HT_.out (by kernel_rfl)) (fun _ _ _ h => h) (Or.inr ⟨by rfl, rfl⟩) ?_ ?_
                rotate_left
                · simp only [Act.put, List.setIfInBounds_toArray, List.set_cons_zero, List.set_cons_succ, i64_w, i32_w]
                  rfl
                refine pure_ (i := 12) (N := some 74) (v := undef) (a' := ?_) #[true, true, true, true, true, true, true, true, true, true, true, true, true, false, false, false, false] rfl rfl (any_of HT_.out (by kernel_rfl)) (fun _ _ _ h => h) (Or.inr ⟨by rfl, rfl⟩) ?_ ?_
                rotate_left
                · simp only [Act.put, List.setIfInBounds_toArray, List.set_cons_zero, List.set_cons_succ, i64_w, i32_w]
                  rfl
                refine pure_ (i := 13) (N := some 75) (v := undef) (a' := ?_) #[true, true, true, true, true, true, true, true, true, true, true, true, true, true, false, false, false] rfl rfl (any_of HT_.out (by kernel_rfl)) (fun _ _ _ h => h) (Or.inr ⟨by rfl, rfl⟩) ?_ ?_
                rotate_left
                · simp only [Act.put, List.setIfInBounds_toArray, List.set_cons_zero, List.set_cons_succ, i64_w, i32_w]
                  rfl
                refine pure_ (i := 14) (N := some 76) (v := undef) (a' := ?_) #[true, true, true, true, true, true, true, true, true, true, true, true, true, true, true, false, false] rfl rfl (any_of HT_.out (by kernel_rfl)) (fun _ _ _ h => h) (Or.inr ⟨by rfl, rfl⟩) ?_ ?_
                rotate_left
                · simp only [Act.put, List.setIfInBounds_toArray, List.set_cons_zero, List.set_cons_succ, i64_w, i32_w]
                  rfl
                refine pure_ (i := 15) (N := some 77) (v := undef) (a' := ?_) #[true, true, true, true, true, true, true, true, true, true, true, true, true, true, true, true, false] rfl rfl (any_of HT_.out (by kernel_rfl)) (fun _ _ _ h => h) (Or.inr ⟨by rfl, rfl⟩) ?_ ?_
                rotate_left
                · simp only [Act.put, List.setIfInBounds_toArray, List.set_cons_zero, List.set_cons_succ, i64_w, i32_w]
                  rfl
                refine pure_ (i := 16) (N := some 78) (v := ?_) (a' := ?_) #[true, true, true, true, true, true, true, true, true, true, true, true, true, true, true, true, true] rfl rfl (any_of HT_.out (by kernel_rfl)) (fun _ _ _ h => h) (Or.inl ⟨by rfl, ?_⟩) ?_ ?_
                rotate_left
                · intro w'
                  go_simp
                  with_reducible rfl
                rotate_left
                · simp only [Act.put, List.setIfInBounds_toArray, List.set_cons_zero, List.set_cons_succ, i64_w, i32_w]
                  rfl
                refine done_ (done_of HT_.out (by kernel_rfl)) ?_

                go_wp2_with fail
                have z0' : w5.drew.cell? ⟨w.heap.size + 1, 1, none⟩ = some (.slice A2 g.length c2) := z0
                have HEe := Aside0.mk (HEd.out.below (below_drew1 (Below.refl _ _)))
                have hge : at_ = g.length := by have := HPl.out; omega
                have hatP2 : at_ = P := by have := HPl.out; omega
                have hins : insE g ⟨x0, x1⟩ = g.take at_ ++ [⟨x0, x1⟩] ++ g.drop at_ := by
                  have hP2 : at_ = posE g ⟨x0, x1⟩ := by rw [← HP.out]; exact hatP2
                  unfold insE
                  rw [← hP2, if_neg (fun e => by omega)]
                rw [hins] at HT2
                have hag : at_ ≤ g.length := by omega
                clear z0 HEd HE hins hge hatP2
                have z0 := z0'
                clear z0'
                refine start_ (n := 17) (S := fun w' => w'.cell? ⟨w.heap.size + 1, 1, none⟩ = some (.slice A2 g.length c2)) (ds := []) #[false, false, false, false, false, false, false, false, false, false, false, false, false, false, false, false, false] (by kernel_rfl) rfl rfl (z0) (fun hHeld => ?_)
                refine with_tabW RefNewR.tab14 RefNewR.bits14 (fun HT_ HW_ => ?_)
                generalize w5.drew = w7 at z0 HEe hHeld ⊢
                refine pure_ (i := 0) (N := some 81) (v := ?_) (a' := ?_) #[true, false, false, false, false, false, false, false, false, false, false, false, false, false, false, false, false] rfl rfl (any_of HT_.out (by kernel_rfl)) (fun _ _ _ h => h) (Or.inl ⟨by rfl, ?_⟩) ?_ ?_
                rotate_left
                · intro w'
                  go_simp
                  with_reducible rfl
                rotate_left
                · simp only [Act.put, List.setIfInBounds_toArray, List.set_cons_zero, List.set_cons_succ, i64_w, i32_w]
                  rfl
                refine pure_ (i := 1) (N := some 82) (v := ?_) (a' := ?_) #[true, true, false, false, false, false, false, false, false, false, false, false, false, false, false, false, false] rfl rfl (any_of HT_.out (by kernel_rfl)) (fun _ _ _ h => h) (Or.inl ⟨by rfl, ?_⟩) ?_ ?_
                rotate_left
                · intro w'
                  go_simp
                  with_reducible rfl
                rotate_left
                · simp only [Act.put, List.setIfInBounds_toArray, List.set_cons_zero, List.set_cons_succ, i64_w, i32_w]
                  rfl
                refine take_ (i := 2) (N := some 83) (v := ?_) (a' := ?_) #[true, true, true, false, false, false, false, false, false, false, false, false, false, false, false, false, false] rfl rfl (take_ofW HT_.out HW_.out (by kernel_rfl)) (fun _ _ _ h => h) (Or.inl ⟨by rfl, ?_⟩) hHeld ?_ ?_
                rotate_left
                · intro w' s0
                  go_simp
                  with_reducible rfl
                rotate_left
                · simp only [Act.put, List.setIfInBounds_toArray, List.set_cons_zero, List.set_cons_succ, i64_w, i32_w]
                  rfl
                refine pure_ (i := 3) (N := some 84) (v := ?_) (a' := ?_) #[true, true, true, true, false, false, false, false, false, false, false, false, false, false, false, false, false] rfl rfl (any_of HT_.out (by kernel_rfl)) (fun _ _ _ h => h) (Or.inl ⟨by rfl, ?_⟩) ?_ ?_
                rotate_left
                · intro w'
                  go_simp
                  with_reducible rfl
                rotate_left
                · simp only [Act.put, List.setIfInBounds_toArray, List.set_cons_zero, List.set_cons_succ, i64_w, i32_w]
                  rfl
                refine pure_ (i := 4) (N := some 85) (v := ?_) (a' := ?_) #[true, true, true, true, true, false, false, false, false, false, false, false, false, false, false, false, false] rfl rfl (any_of HT_.out (by kernel_rfl)) (fun _ _ _ h => h) (Or.inl ⟨by rfl, ?_⟩) ?_ ?_
                rotate_left
                · intro w'
                  go_simp
                  with_reducible rfl
                rotate_left
                · simp only [Act.put, List.setIfInBounds_toArray, List.set_cons_zero, List.set_cons_succ, i64_w, i32_w]
                  rfl
                refine pure_ (i := 5) (N := some 86) (v := ?_) (a' := ?_) #[true, true, true, true, true, true, false, false, false, false, false, false, false, false, false, false, false] rfl rfl (any_of HT_.out (by kernel_rfl)) (fun _ _ _ h => h) (Or.inl ⟨by rfl, ?_⟩) ?_ ?_
                rotate_left
                · intro w'
                  go_simp
                  with_reducible rfl
                rotate_left
                · simp only [Act.put, List.setIfInBounds_toArray, List.set_cons_zero, List.set_cons_succ, i64_w, i32_w]
                  rfl
                refine pure_ (i := 6) (N := some 87) (v := undef) (a' := ?_) #[true, true, true, true, true, true, true, false, false, false, false, false, false, false, false, false, false] rfl rfl (any_of HT_.out (by kernel_rfl)) (fun _ _ _ h => h) (Or.inr ⟨by rfl, rfl⟩) ?_ ?_
                rotate_left
                · simp only [Act.put, List.setIfInBounds_toArray, List.set_cons_zero, List.set_cons_succ, i64_w, i32_w]
                  rfl
                refine pure_ (i := 7) (N := some 88) (v := undef) (a' := ?_) #[true, true, true, true, true, true, true, true, false, false, false, false, false, false, false, false, false] rfl rfl (any_of HT_.out (by kernel_rfl)) (fun _ _ _ h => h) (Or.inr ⟨by rfl, rfl⟩) ?_ ?_
                rotate_left
                · simp only [Act.put, List.setIfInBounds_toArray, List.set_cons_zero, List.set_cons_succ, i64_w, i32_w]
                  rfl
                refine pure_ (i := 8) (N := some 89) (v := undef) (a' := ?_) #[true, true, true, true, true, true, true, true, true, false, false, false, false, false, false, false, false] rfl rfl (any_of HT_.out (by kernel_rfl)) (fun _ _ _ h => h) (Or.inr ⟨by rfl, rfl⟩) ?_ ?_
                rotate_left
                · simp only [Act.put, List.setIfInBounds_toArray, List.set_cons_zero, List.set_cons_succ, i64_w, i32_w]
                  rfl
                refine pure_ (i := 9) (N := some 90) (v := undef) (a' := ?_) #[true, true, true, true, true, true, true, true, true, true, false, false, false, false, false, false, false] rfl rfl (any_of HT_.out (by kernel_rfl)) (fun _ _ _ h => h) (Or.inr ⟨by rfl, rfl⟩) ?_ ?_
                rotate_left
                · simp only [Act.put, List.setIfInBounds_toArray, List.set_cons_zero, List.set_cons_succ, i64_w, i32_w]
                  rfl
                refine pure_ (i := 10) (N := some 91) (v := undef) (a' := ?_) #[true, true, true, true, true, true, true, true, true, true, true, false, false, false, false, false, false] rfl rfl (any_of HT_.out (by kernel_rfl)) (fun _ _ _ h => h) (Or.inr ⟨by rfl, rfl⟩) ?_ ?_
                rotate_left
                · simp only [Act.put, List.setIfInBounds_toArray, List.set_cons_zero, List.set_cons_succ, i64_w, i32_w]
                  rfl
                refine pure_ (i := 11) (N := some 92) (v := undef) (a' := ?_) #[true, true, true, true, true, true, true, true, true, true, true, true, false, false, false, false, false] rfl rfl (any_of HT_.out (by kernel_rfl)) (fun _ _ _ h => h) (Or.inr ⟨by rfl, rfl⟩) ?_ ?_
                rotate_left
                · simp only [Act.put, List.setIfInBounds_toArray, List.set_cons_zero, List.set_cons_succ, i64_w, i32_w]
                  rfl
                refine pure_ (i := 12) (N := some 93) (v := undef) (a' := ?_) #[true, true, true, true, true, true, true, true, true, true, true, true, true, false, false, false, false] rfl rfl (any_of HT_.out (by kernel_rfl)) (fun _ _ _ h => h) (Or.inr ⟨by rfl, rfl⟩) ?_ ?_
                rotate_left
                · simp only [Act.put, List.setIfInBounds_toArray, List.set_cons_zero, List.set_cons_succ, i64_w, i32_w]
                  rfl
                refine pure_ (i := 13) (N := some 94) (v := undef) (a' := ?_) #[true, true, true, true, true, true, true, true, true, true, true, true, true, true, false, false, false] rfl rfl (any_of HT_.out (by kernel_rfl)) (fun _ _ _ h => h) (Or.inr ⟨by rfl, rfl⟩) ?_ ?_
                rotate_left
                · simp only [Act.put, List.setIfInBounds_toArray, List.set_cons_zero, List.set_cons_succ, i64_w, i32_w]
                  rfl
                refine pure_ (i := 14) (N := some 95) (v := undef) (a' := ?_) #[true, true, true, true, true, true, true, true, true, true, true, true, true, true, true, false, false] rfl rfl (any_of HT_.out (by kernel_rfl)) (fun _ _ _ h => h) (Or.inr ⟨by rfl, rfl⟩) ?_ ?_
                rotate_left
                · simp only [Act.put, List.setIfInBounds_toArray, List.set_cons_zero, List.set_cons_succ, i64_w, i32_w]
                  rfl
                refine pure_ (i := 15) (N := some 96) (v := undef) (a' := ?_) #[true, true, true, true, true, true, true, true, true, true, true, true, true, true, true, true, false] rfl rfl (any_of HT_.out (by kernel_rfl)) (fun _ _ _ h => h) (Or.inr ⟨by rfl, rfl⟩) ?_ ?_
                rotate_left
                · simp only [Act.put, List.setIfInBounds_toArray, List.set_cons_zero, List.set_cons_succ, i64_w, i32_w]
                  rfl
                refine pure_ (i := 16) (N := some 97) (v := ?_) (a' := ?_) #[true, true, true, true, true, true, true, true, true, true, true, true, true, true, true, true, true] rfl rfl (any_of HT_.out (by kernel_rfl)) (fun _ _ _ h => h) (Or.inl ⟨by rfl, ?_⟩) ?_ ?_
                rotate_left
                · intro w'
                  go_simp
                  with_reducible rfl
                rotate_left
                · simp only [Act.put, List.setIfInBounds_toArray, List.set_cons_zero, List.set_cons_succ, i64_w, i32_w]
                  rfl
                refine done_ (done_of HT_.out (by kernel_rfl)) ?_

                obtain ⟨G, hG⟩ : ∃ G, G = g.take at_ ++ [(⟨x0, x1⟩ : S43)] ++ g.drop at_ := ⟨_, rfl⟩
                rw [← hG] at HT2
                have HG := Aside0.mk hG
                have HGl := Aside0.mk (show G.length ≤ i + 1 by rw [hG]; have := HLg.out; simp; omega)
                clear hG
                have HTk := Aside0.mk (show (g.take at_).length = at_ by rw [List.length_take]; omega)
                have hgc2 := (Kd.R_reads' HEe.out.hr).2.1
                have CT := Aside0.mk (show ∀ W1 (v1 : Value), k43.R 43 W1 w.heap.size (fun k => True ∧ some k ≠ v1.ownBlock) (.slice A2 g.length c2) g → k43.C W1 A2 at_ (g.take at_) from fun W1 v1 h => by have := Kd.C_take (Kd.R_reads' h).2.2 hag; rwa [show (g.take at_).length = at_ by rw [List.length_take]; omega] at this)
                have CD := Aside0.mk (show ∀ W1 (v1 : Value), k43.R 43 W1 w.heap.size (fun k => True ∧ some k ≠ v1.ownBlock) (.slice A2 g.length c2) g → k43.C W1 (if c2 = at_ then A2 else A2.map (·.add (at_ * 2))) (g.length - at_) (g.drop at_) from fun W1 v1 h => by have := Kd.C_drop (Kd.R_reads' h).2.2 hag hgc2; rwa [show (g.drop at_).length = g.length - at_ from List.length_drop] at this)
                go_wp2_with (first | ((with_reducible refine gate_dst (N := 98) rfl ?_); refine Kd.R_lit k43 (w0 := w) w.heap.size 43 ?hg (N := 98) ?hd (xs := ([] : List S43)) (inner := []) (ok := fun _ => True) (okp := fun _ => False) ?hr (Reps.none _ _) (fun _ hk => hk.elim) trivial HEe.out.bel (below_size HEe.out.bel) (by simp) ?_; (case hd => rfl); (case hg => rfl); (case hr => first | (go_simp; done) | (go_simp; rfl)); intro v1 wa ho hbb hg hnew; have HI := Aside0.mk (Is.start HEe.out ho hbb hg hnew); have s61 := (blk_cell HI.out.h6 1).trans rfl; clear ho hbb hg hnew) | ((with_reducible refine gate_builtin (b := .append) (xs := #[.tmp 98, .tmp 102]) rfl ?_); at_builtin; refine Kd.R_append_rows k43 (w0 := w) w.heap.size rfl (.tmp 98) (.tmp 102) 22 43 (.agg #[.int .i64 0, .int .i64 0]) 16 rfl Try.underlying22 info43 rfl (by decide) (by omega) v1 [] (g.take at_) A2 at_ c2 (fun _ => True) (fun _ => False) rfl rfl HI.out.hv (CT.out wa v1 HI.out.hr) (fun x cs h => by obtain rfl := k43_open h; exact k43_mkM _ _ _ _) (fun _ h => h.elim) (fun _ _ => trivial) HI.out.bel (below_size HI.out.bel) (by have := HLg.out; simp only [List.length_nil]; omega) ?_; intro v2 wb ho hbb hg hat2; rw [List.nil_append] at ho; have HJ := Aside0.mk (HI.out.grown ho hbb hg hat2); obtain ⟨q0, q1⟩ := LX.out wb hbb; clear s61 HI ho hbb hg hat2) | ((with_reducible refine gate_builtin (b := .append) (xs := #[.tmp 104, .tmp 109]) rfl ?_); at_builtin; refine Kd.R_append k43 (w0 := w) w.heap.size rfl (.tmp 104) (.tmp 109) 22 43 (.agg #[.int .i64 0, .int .i64 0]) 16 rfl Try.underlying22 info43 rfl (by decide) (by decide) v2 (g.take at_) (⟨x0, x1⟩ : S43) [.int .i64 x0, .int .i64 x1] (fun _ => True) (fun _ => False) rfl ?ax (k43_mkM _ _ _ _) (fun _ h => h.elim) (fun _ _ => trivial) HJ.out.hv HJ.out.bel (below_size HJ.out.bel) (by have := HLg.out; have := HTk.out; omega) ?_; (case ax => first | (go_simp; done) | (go_simp; rfl) | simp); intro v3 wc ho hbb hg hat2; have HL := Aside0.mk (HJ.out.grown ho hbb hg hat2); have s61 := (blk_cell HL.out.h6 1).trans rfl; clear q0 q1 HJ ho hbb hg hat2) | ((with_reducible refine gate_builtin (b := .append) (xs := #[.tmp 111, .tmp 115]) rfl ?_); at_builtin; refine Aside0.out ?_))
                all_goals
                  refine ⟨?_⟩
                  refine Kd.R_append_rows k43 (Rr := k43.K wc) (w0 := w) w.heap.size rfl (.tmp 111) (.tmp 115) 22 43 (.agg #[.int .i64 0, .int .i64 0]) 16 rfl Try.underlying22 info43 rfl (by decide) (by omega) v3 (g.take at_ ++ [⟨x0, x1⟩]) (g.drop at_) _ (g.length - at_) _ (fun _ => True) (fun _ => False) rfl rfl HL.out.hv ?aR (fun x cs h => by obtain rfl := k43_open h; exact k43_mkM _ _ _ _) (fun _ h => h.elim) (fun _ _ => trivial) HL.out.bel (below_size HL.out.bel) (by have := HLg.out; have := HTk.out; rw [List.length_append]; simp only [List.length_cons, List.length_nil]; omega) ?_; (case aR => have h0 := CD.out wc v3 HL.out.hr; first | (rw [if_pos (by omega)] at h0; exact h0) | (rw [if_neg (by omega)] at h0; exact h0)); intro v4 wd ho hbb hg hat2; rw [← HG.out] at ho; obtain ⟨A4, c4, e4⟩ := Kd.R_slice ho; subst e4; have HM := Aside0.mk (HL.out.grown ho hbb hg hat2); have f61 := blk_frozen HM.out.h6 1; have s61' := (blk_cell HM.out.h6 1).trans rfl; clear s61 HL ho hbb hg hat2
                  go_wp2_with fail
                  go_roundg k1
                  case measure => omega
                  case rel => exact ⟨i + 1, A4, c4, _, by go_num, by omega, HT2, HGl, ⟨HM.out.done⟩⟩
    · rw [if_neg hl] at h
      have c3 : ((l.length : Int) > 65536) = True := eq_true (by omega)
      obtain ⟨h1, h2⟩ := Prod.mk.inj (Option.some.inj h)
      obtain ⟨h2, h3⟩ := Prod.mk.inj h2
      have H123 := Aside0.mk (And.intro h1 (And.intro h2 h3))
      clear h h1 h2 h3 hr
      have Hg4 := Aside0.mk (heap_alloc_last w (.cells #[.int .i64 0, .slice none 0 0] 26))
      have HB4 := Aside0.mk (below_alloc HB0.out (.cells #[.int .i64 0, .slice none 0 0] 26))
      go_enter Try.func35, Try.ntmps35
      go_wp2_with fail
      refine bodyPost_ret (results_list (rs := [.cell 4 26, .tmp 5]) rfl (by simp) (.cell w.heap.size 26 #[.int .i64 0, .slice none 0 0] (0, 0) _ rfl Hg4.out Try.underlying26 rfl (by kernel_rfl) (.tmp .nil))) rfl ?_
      obtain ⟨e1, e2, e3⟩ := H123.out
      rw [← e1, ← e2, ← e3]
      exact ⟨_, rfl, Kd.R_nil _ _ _ _ _, HB4.out⟩
  · rw [if_neg hn] at h
    obtain ⟨h1, h2⟩ := Prod.mk.inj (Option.some.inj h)
    obtain ⟨h2, h3⟩ := Prod.mk.inj h2
    have H123 := Aside0.mk (And.intro h1 (And.intro h2 h3))
    clear h h1 h2 h3 hr
    by_cases hc : a0 < 0
    · have c1 : (a0 < 0) = True := eq_true hc
      have Hg4 := Aside0.mk (heap_alloc_last w (.cells #[.int .i64 0, .slice none 0 0] 26))
      have HB4 := Aside0.mk (below_alloc HB0.out (.cells #[.int .i64 0, .slice none 0 0] 26))
      go_enter Try.func35, Try.ntmps35
      go_wp2_with fail
      refine bodyPost_ret (results_list (rs := [.cell 4 26, .tmp 5]) rfl (by simp) (.cell w.heap.size 26 #[.int .i64 0, .slice none 0 0] (0, 0) _ rfl Hg4.out Try.underlying26 rfl (by kernel_rfl) (.tmp .nil))) rfl ?_
      obtain ⟨e1, e2, e3⟩ := H123.out
      rw [← e1, ← e2, ← e3]
      exact ⟨_, rfl, Kd.R_nil _ _ _ _ _, HB4.out⟩
    · have c1 : (a0 < 0) = False := eq_false hc
      have c2 : (a0 > 4096) = True := eq_true (by omega)
      have Hg4 := Aside0.mk (heap_alloc_last w (.cells #[.int .i64 0, .slice none 0 0] 26))
      have HB4 := Aside0.mk (below_alloc HB0.out (.cells #[.int .i64 0, .slice none 0 0] 26))
      go_enter Try.func35, Try.ntmps35
      go_wp2_with fail
      refine bodyPost_ret (results_list (rs := [.cell 4 26, .tmp 5]) rfl (by simp) (.cell w.heap.size 26 #[.int .i64 0, .slice none 0 0] (0, 0) _ rfl Hg4.out Try.underlying26 rfl (by kernel_rfl) (.tmp .nil))) rfl ?_
      obtain ⟨e1, e2, e3⟩ := H123.out
      rw [← e1, ← e2, ← e3]
      exact ⟨_, rfl, Kd.R_nil _ _ _ _ _, HB4.out⟩
end Go.Proofs.Ythkgfmjgilkdeaa
