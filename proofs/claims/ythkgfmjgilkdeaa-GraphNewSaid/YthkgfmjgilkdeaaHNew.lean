/- graph.New. -/
import Derived.Test.YthkgfmjgilkdeaaMA
import Derived.BigRegion
import Derived.Deep.RegionHeld3
import Derived.Test.YthkgfmjgilkdeaaWTab
import Derived.Deep.RegionLaw
import Derived.Deep.AppendLies
import Derived.Deep.CutRange
namespace Go.Proofs.Ythkgfmjgilkdeaa
set_option linter.unusedVariables false
set_option linter.unusedSimpArgs false
open Go.RowKit Go.Shelf Go.Sort Go.Proofs.Ythkgfmjgilkdeaa.Q Go.Proofs.YthkgfmjgilkdeaaW.PrintWords Go.Proofs.YthkgfmjgilkdeaaW.PrintLast Go.Proofs.YthkgfmjgilkdeaaW.PrintMore
def hdr0 (N : Nat) : Array Value := ((List.range N).map fun _ => Value.slice none 0 0).toArray
theorem make50 (N : Nat) (h : N ≤ 4096) (W : World) : (Instr.makeSlice 50 (.int .i64 N) (.int .i64 N)).run Try.prog W = .ok (.slice (some ⟨W.heap.size, 0, none⟩) N N) (W.alloc (.cells (hdr0 N) 30)) := by
  have hinfo : (Try.prog.info? 30).map (fun i => (i.zero, i.size, i.bytes)) = some (some (.slice none 0 0), 1, 24) := by kernel_rfl
  obtain ⟨i0, hi, hzz⟩ := Option.map_eq_some_iff.1 hinfo
  simp only [Prod.mk.injEq] at hzz
  obtain ⟨hz0, hz1, hz2⟩ := hzz
  have := run_make (P := Try.prog) W 50 30 i0 (.slice none 0 0) Try.underlying50 hi hz0 .i64 .i64 (N : Int) (N : Int) (by omega) (by omega) (by rw [hz2]; omega) (by omega)
  rw [Int.toNat_natCast, hz1, made_eq] at this
  exact this
/-- The other ends of the edges that begin (t) or end at node i. -/
def ends (es : List S44) (t : Bool) (i : Nat) : List Int := (es.filter fun e => (if t then e.f0 else e.f1) == (i : Int)).map fun e => if t then e.f1 else e.f0
def okEdge (N : Nat) (e : S44) : Prop := (0 ≤ e.f0 ∧ e.f0 < N) ∧ (0 ≤ e.f1 ∧ e.f1 < N)
/-- The rows that New makes. -/
def rowsOf (N : Nat) (es : List S44) (t : Bool) : List (List Int) := (List.range N).map fun i => regs (ends es t i)
theorem hdr0_start {w : World} {base N : Nat} {g : Bool → Nat} (h : ∀ t, w.heap[g t]? = some (.cells (hdr0 N) 30 (0, 0))) (hb : ∀ t, base ≤ g t) (hne : g true ≠ g false) : Hdr w base N g (fun _ _ => .slice none 0 0) := ⟨h, hb, hne⟩
theorem rws0_start (w : World) (base N : Nat) : Rws w base N (fun _ _ => .slice none 0 0) (fun _ _ => []) :=
  ⟨fun _ _ _ => ⟨by simp, .inl ⟨rfl, rfl⟩⟩, fun _ _ _ _ _ _ _ k hk => by simp [Value.ownBlock] at hk⟩
/-- Between two edges: what the graph's blocks hold when i edges are in. -/
structure St (w w' : World) (gb N : Nat) (es : List S44) (i : Nat) : Prop where
  ex : ∃ (g : Bool → Nat) (val : Bool → Nat → Value), w'.heap[gb]? = some (.cells #[.slice (some ⟨g true, 0, none⟩) N N, .slice (some ⟨g false, 0, none⟩) N N] 76 (0, 0)) ∧ Hdr w' w.heap.size N g val ∧ Rws w' w.heap.size N val (ends (es.take i))
  bel : Below w.heap.size w w'
theorem ends_nil (t : Bool) (i : Nat) : ends [] t i = [] := rfl
theorem ends_take (es : List S44) (j : Nat) (hj : j < es.length) (e : S44) (he : es[j]? = some e) (t : Bool) (i : Nat) :
    ends (es.take (j + 1)) t i = if (if t then e.f0 else e.f1) = (i : Int) then ends (es.take j) t i ++ [if t then e.f1 else e.f0] else ends (es.take j) t i := by
  unfold ends
  rw [List.take_add_one, he]
  simp only [Option.toList_some, List.filter_append, List.map_append]
  by_cases h : (if t then e.f0 else e.f1) = (i : Int)
  · rw [if_pos h]
    simp [h]
  · rw [if_neg h]
    simp [h]
theorem ends_len (es : List S44) (t : Bool) (i : Nat) : (ends es t i).length ≤ es.length := by
  unfold ends
  rw [List.length_map]
  exact List.length_filter_le _ _
theorem st_start {w : World} {N : Nat} {es : List S44} (ga gc : Nat) {W : World} (h1 : W.heap[ga]? = some (.cells (hdr0 N) 30 (0, 0))) (h2 : W.heap[gc]? = some (.cells (hdr0 N) 30 (0, 0))) (hne : ga ≠ gc) (b1 : w.heap.size ≤ ga) (b2 : w.heap.size ≤ gc) {gb : Nat}
    (h3 : W.heap[gb]? = some (.cells #[.slice (some ⟨ga, 0, none⟩) N N, .slice (some ⟨gc, 0, none⟩) N N] 76 (0, 0))) (hb : Below w.heap.size w W) : St w W gb N es 0 :=
  ⟨⟨fun t => if t then ga else gc, _, h3, hdr0_start (fun t => by cases t <;> simp [h1, h2]) (fun t => by cases t <;> simp [b1, b2]) (by simpa using hne), rws0_start _ _ _⟩, hb⟩
theorem cell_al {W : World} {a : Addr} {v : Value} (o : Obj) (h : W.cell? a = some v) : (W.alloc o).cell? a = some v := (World.grownBy_alloc W o none).cell h (by simp)
theorem blk_far {W : World} {b h ty ty' : Nat} {cs cs' : Array Value} (hb : W.heap[b]? = some (.cells cs ty (0, 0))) (hh : W.heap[h]? = some (.cells cs' ty' (0, 0))) (hne : ty ≠ ty') (j : Nat) (v : Value) : (W.setCell ⟨h, j, none⟩ v).heap[b]? = some (.cells cs ty (0, 0)) :=
  (Below.heap_setCell W ⟨h, j, none⟩ v b (fun e => blk_ne hb hh hne e)).trans hb
theorem row_form {w : World} {base n : Nat} {v : Value} {xs : List Value} (h : w.ownsRow base 3 1 v n xs) : ∃ A c, v = .slice A n c := by
  rcases h.2 with ⟨rfl, rfl⟩ | ⟨g, cap, cur, rfl, -⟩
  · exact ⟨none, 0, rfl⟩
  · exact ⟨_, _, rfl⟩
theorem Rws.far {w : World} {base N : Nat} {val : Bool → Nat → Value} {XX : Bool → Nat → List Int} (h : Rws w base N val XX) {t : Bool} {i : Nat} (hi : i < N) {b ty : Nat} {cs : Array Value} (hb : w.heap[b]? = some (.cells cs ty (0, 0))) (hty : ty ≠ 3) : some b ≠ (val t i).ownBlock := fun e => by
  obtain ⟨cells, hc⟩ := own_typed (h.own t i hi) b e.symm
  rw [hb] at hc; injection hc with hc; injection hc with _ hc; exact hty hc
theorem ends_upd (es : List S44) (j n0 n1 : Nat) (he : es[j]? = some ⟨(n0 : Int), (n1 : Int)⟩) :
    upd (upd (ends (es.take j)) true n0 (ends (es.take j) true n0 ++ [(n1 : Int)])) false n1 (upd (ends (es.take j)) true n0 (ends (es.take j) true n0 ++ [(n1 : Int)]) false n1 ++ [(n0 : Int)]) = ends (es.take (j + 1)) := by
  have hj : j < es.length := by
    rcases Nat.lt_or_ge j es.length with h | h
    · exact h
    · rw [List.getElem?_eq_none h] at he; cases he
  funext t i
  rw [ends_take es j hj _ he]
  cases t with
  | true =>
    rw [upd_ne _ _ _ _ (by simp)]
    by_cases e : i = n0
    · subst e; rw [upd_same]; simp
    · rw [upd_ne _ _ _ _ (by simp [e])]
      simp only [if_true]
      rw [if_neg (by omega)]
  | false =>
    by_cases e : i = n1
    · subst e; rw [upd_same, upd_ne _ _ _ _ (by simp)]; simp
    · rw [upd_ne _ _ _ _ (by simp [e]), upd_ne _ _ _ _ (by simp)]
      simp only [Bool.false_eq_true, if_false]
      rw [if_neg (by omega)]
/-- In the midst of a round: the graph's block, the tables, the box of the edge. -/
structure Mid (w w' : World) (gb gx N : Nat) (g : Bool → Nat) (x : S44) (val : Bool → Nat → Value) (XX : Bool → Nat → List Int) : Prop where
  hb : w'.heap[gb]? = some (.cells #[.slice (some ⟨g true, 0, none⟩) N N, .slice (some ⟨g false, 0, none⟩) N N] 76 (0, 0))
  hh : Hdr w' w.heap.size N g val
  hr : Rws w' w.heap.size N val XX
  bx : w'.heap[gx]? = some (.cells #[.int .i64 x.f0, .int .i64 x.f1] 44 (0, 0))
  bel : Below w.heap.size w w'
/-- An append to a row. -/
theorem Mid.append {w W V : World} {gb gx N : Nat} {g : Bool → Nat} {x : S44} {val : Bool → Nat → Value} {XX : Bool → Nat → List Int} (h : Mid w W gb gx N g x val XX) {t : Bool} {i : Nat} (hi : i < N) {A : Option Addr} {M c gg cap : Nat} {y : Int}
    (ev : val t i = .slice A M c) (hM : M = (XX t i).length) (hown : V.ownsRow w.heap.size 3 1 (.slice (some ⟨gg, 0, none⟩) (M + 1) cap) (M + 1) ((XX t i).map (Value.int .i64) ++ [.int .i64 y])) (hgrow : W.grownBy V (Value.slice A M c).ownBlock)
    (hat : (Value.slice A M c).ownBlock = some gg ∨ gg = W.heap.size) :
    ∃ v, v = .slice (some ⟨gg, 0, none⟩) (M + 1) cap ∧ V.heap[gb]? = some (.cells #[.slice (some ⟨g true, 0, none⟩) N N, .slice (some ⟨g false, 0, none⟩) N N] 76 (0, 0)) ∧ Hdr V w.heap.size N g val ∧ V.heap[gx]? = some (.cells #[.int .i64 x.f0, .int .i64 x.f1] 44 (0, 0)) ∧ Mid w (V.setCell ⟨g t, i, none⟩ v) gb gx N g x (upd val t i v) (upd XX t i (XX t i ++ [y])) := by
  rw [← ev] at hgrow hat
  have hH : Hdr V w.heap.size N g val := h.hh.grown h.hr hi hgrow
  have hown' : V.ownsRow w.heap.size 3 1 (.slice (some ⟨gg, 0, none⟩) (M + 1) cap) (XX t i ++ [y]).length ((XX t i ++ [y]).map (Value.int .i64)) := by
    rw [List.map_append, List.length_append, ← hM]; exact hown
  have hR := h.hr.put hi hgrow hown' (hat.elim (fun e => .inl e.symm) (fun e => .inr ⟨_, rfl, by rw [e]; exact Nat.le_refl _⟩))
  have hb := blk_grown h.hb hgrow (h.hr.far hi h.hb (by decide))
  have hx := blk_grown h.bx hgrow (h.hr.far hi h.bx (by decide))
  have hB := h.bel.grown hgrow h.bel.size fun j hj => own_base (h.hr.own t i hi) j hj
  exact ⟨_, rfl, hb, hH, hx, blk_far hb (hH.hd t) (by decide) i _, hH.store t i _, hR.store hH t i _, blk_far hx (hH.hd t) (by decide) i _, below_set hB (h.hh.gb t)⟩
theorem Mid.alloc {w W : World} {gb gx N : Nat} {g : Bool → Nat} {x : S44} {val : Bool → Nat → Value} {XX : Bool → Nat → List Int} (h : Mid w W gb gx N g x val XX) (o : Obj) : Mid w (W.alloc o) gb gx N g x val XX :=
  ⟨blk_alloc h.hb o, h.hh.alloc o, h.hr.alloc o, blk_alloc h.bx o, below_alloc h.bel o⟩
theorem Mid.drew {w W : World} {gb gx N : Nat} {g : Bool → Nat} {x : S44} {val : Bool → Nat → Value} {XX : Bool → Nat → List Int} (h : Mid w W gb gx N g x val XX) : Mid w W.drew gb gx N g x val XX :=
  ⟨blk_drew h.hb, h.hh.drew, h.hr.drew, blk_drew h.bx, below_drew1 h.bel⟩
/-- The graph's block, the headers (hv), the rows (val). -/
structure Tb (w w' : World) (gb N : Nat) (g : Bool → Nat) (hv val : Bool → Nat → Value) (XX : Bool → Nat → List Int) : Prop where
  hb : w'.heap[gb]? = some (.cells #[.slice (some ⟨g true, 0, none⟩) N N, .slice (some ⟨g false, 0, none⟩) N N] 76 (0, 0))
  hh : Hdr w' w.heap.size N g hv
  hr : Rws w' w.heap.size N val XX
  bel : Below w.heap.size w w'
section
variable {w W : World} {gb N : Nat} {g : Bool → Nat} {hv val : Bool → Nat → Value} {XX : Bool → Nat → List Int}
theorem Tb.drew (h : Tb w W gb N g hv val XX) : Tb w W.drew gb N g hv val XX := ⟨blk_drew h.hb, h.hh.drew, h.hr.drew, below_drew1 h.bel⟩
theorem Tb.set (h : Tb w W gb N g hv val XX) {t : Bool} {i : Nat} (hi : i < N) {A : Option Addr} {m c : Nat} (ev : val t i = .slice A m c) (hl : (XX t i).length ≤ 65536) :
    Calls Try.prog 61 #[.slice A m c] W fun e W2 => ∃ A' n' c', e = .returned (.slice A' n' c') ∧ Tb w W2 gb N g hv (upd val t i (.slice A' n' c')) (upd XX t i (regs (XX t i))) := by
  rw [← ev]
  refine (set_row (h.hr.own t i hi) hl).mono ?_
  rintro e W2 ⟨v', rfl, hown, hg, hob⟩
  obtain ⟨A', c', rfl⟩ := row_form hown
  exact ⟨_, _, _, rfl, blk_grown h.hb hg (h.hr.far hi h.hb (by decide)), h.hh.grown h.hr hi hg, h.hr.put hi hg hown (.inl hob), h.bel.grown hg h.bel.size fun j hj => own_base (h.hr.own t i hi) j hj⟩
theorem Tb.store (h : Tb w W gb N g hv val XX) (t : Bool) (i : Nat) (v : Value) : Tb w (W.setCell ⟨g t, i, none⟩ v) gb N g (upd hv t i v) val XX :=
  ⟨blk_far h.hb (h.hh.hd t) (by decide) i _, h.hh.store t i _, h.hr.store h.hh t i _, below_set h.bel (h.hh.gb t)⟩
end
/-- When the rows of the first j nodes are sorted. -/
def half (es : List S44) (j : Nat) : Bool → Nat → List Int := fun t k => if k < j then regs (ends es t k) else ends es t k
theorem half_zero (es : List S44) : half es 0 = ends es := by funext t k; simp [half]
theorem half_len (es : List S44) (j : Nat) (t : Bool) (k : Nat) : (half es j t k).length ≤ es.length := by
  unfold half
  split
  · refine Nat.le_trans ?_ (ends_len es t k)
    have := Lib.compact_length_le ((ends es t k).mergeSort fun x y => decide (x ≤ y))
    have h2 := List.length_mergeSort (le := fun x y : Int => decide (x ≤ y)) (ends es t k)
    unfold regs
    omega
  · exact ends_len es t k
theorem half_succ (es : List S44) (j : Nat) : upd (upd (half es j) true j (regs (half es j true j))) false j (regs (upd (half es j) true j (regs (half es j true j)) false j)) = half es (j + 1) := by
  have hj : ∀ t, half es j t j = ends es t j := fun t => by simp [half]
  funext t k
  by_cases e : k = j
  · subst e
    have h1 : half es (k + 1) t k = regs (ends es t k) := by simp [half]
    rw [h1]
    cases t with
    | true => rw [upd_ne _ _ _ _ (by simp), upd_same, hj]
    | false => rw [upd_same, upd_ne _ _ _ _ (by simp), hj]
  · rw [upd_ne _ _ _ _ (by simp [e]), upd_ne _ _ _ _ (by simp [e])]
    unfold half
    by_cases h : k < j
    · rw [if_pos h, if_pos (by omega)]
    · rw [if_neg h, if_neg (by omega)]
/-- The graph of block b, in every world that keeps the blocks of its kinds. -/
def Keeps (W : World) (b : Nat) (X Y : List (List Int)) : Prop := ∀ W' : World, (∀ {k t : Nat} {cs : Array Value}, W.heap[k]? = some (.cells cs t (0, 0)) → (t = 76 ∨ t = 30 ∨ t = 3) → W'.heap[k]? = some (.cells cs t (0, 0))) → IsG W' b X Y
theorem Keeps.here {W : World} {b : Nat} {X Y : List (List Int)} (h : Keeps W b X Y) : IsG W b X Y := h W fun hk _ => hk
theorem Keeps.below {W W1 : World} {b : Nat} {X Y : List (List Int)} (h : Keeps W b X Y) (hb : Below W.heap.size W W1) : Keeps W1 b X Y := fun W' hw => h W' fun hk ht => hw (blk_below hk hb) ht
theorem Keeps.set {W : World} {b : Nat} {X Y : List (List Int)} (h : Keeps W b X Y) {g t : Nat} {cs : Array Value} (hg : W.heap[g]? = some (.cells cs t (0, 0))) (h1 : t ≠ 76) (h2 : t ≠ 30) (h3 : t ≠ 3) (j : Nat) (v : Value) : Keeps (W.setCell ⟨g, j, none⟩ v) b X Y := fun W' hw => h W' fun {k t' cs'} hk ht => hw ((Below.heap_setCell W ⟨g, j, none⟩ v k (fun e => blk_ne hk hg (by rcases ht with rfl | rfl | rfl; exact h1.symm; exact h2.symm; exact h3.symm) e)).trans hk) ht
theorem new_done {w W : World} {gb N : Nat} {g : Bool → Nat} {val : Bool → Nat → Value} {es : List S44} (h : Tb w W gb N g val val (half es N)) (hN : N ≤ 4096) (hE : es.length ≤ 65536) : Keeps W gb (rowsOf N es true) (rowsOf N es false) := fun W' hw => by
  have hb := hw h.hb (.inl rfl)
  have hh := h.hh.step (w1 := W') (fun k cells hc => (hw hc (.inr (.inl rfl))).trans hc.symm)
  have hr := h.hr.step (w1 := W') (fun k cells hc => (hw hc (.inr (.inr rfl))).trans hc.symm)
  have hm : ∀ t, (List.range N).map (half es N t) = rowsOf N es t := fun t => by
    unfold rowsOf
    apply List.map_congr_left
    intro k hk
    simp [half, List.mem_range.mp hk]
  have hl : ∀ t, (rowsOf N es t).length = N := fun t => by simp [rowsOf]
  have hf : ∀ t l, l ∈ rowsOf N es t → l.length ≤ 65536 := fun t l hl => by
    rw [← hm, List.mem_map] at hl
    obtain ⟨k, _, rfl⟩ := hl
    exact Nat.le_trans (half_len es N t k) hE
  refine ⟨⟨_, _, N, N, by rw [hl, hl]; exact hb, ?_, ?_, by rw [hl]; exact Nat.le_refl _, by rw [hl]; exact Nat.le_refl _⟩, by rw [hl, hl], by rw [hl]; exact hN, hf true, hf false⟩
  · rw [hl, ← hm]; exact reads_tab hh hr hN true
  · rw [hl, ← hm]; exact reads_tab hh hr hN false
def NewR.T11 : Bool × List (List Nat × List Nat) := (true, [([], []), ([0], [0]), ([1], [1]), ([2], [2]), ([], []), ([4], [4]), ([], []), ([6], [6]), ([7], [7]), ([8], [8]), ([], []), ([10], [10]), ([9, 11], [9, 11]), ([12], [12]), ([], []), ([14], [14]), ([15], [15]), ([13, 16], [13, 16]), ([3, 5, 0, 1, 2, 3, 4, 5, 6, 7, 8, 9, 10, 11, 12, 13, 14, 15, 16, 17], [3, 5]), ([18, 17, 17, 0, 1, 2, 3, 4, 5, 6, 7, 8, 9, 10, 11, 12, 13, 14, 15, 16, 17], [17, 18])])
def NewR.B11 : List Nat := [0, 1, 3, 7, 0, 16, 0, 64, 192, 448, 0, 1024, 4032, 8128, 0, 16384, 49152, 131008, 262143, 524287]
theorem NewR.tab11 : rtab .any (opsOf Try.f33 11) = NewR.T11 := by kernel_rfl
theorem NewR.bits11 : waitsOk NewR.T11.2 NewR.B11 = true := by kernel_rfl
def NewR.T12 : Bool × List (List Nat × List Nat) := (true, [([], []), ([0], [0]), ([1], [1]), ([2], [2]), ([], []), ([4], [4]), ([], []), ([6], [6]), ([7], [7]), ([8], [8]), ([], []), ([10], [10]), ([9, 11], [9, 11]), ([12], [12]), ([], []), ([14], [14]), ([15], [15]), ([13, 16], [13, 16]), ([3, 5, 0, 1, 2, 3, 4, 5, 6, 7, 8, 9, 10, 11, 12, 13, 14, 15, 16, 17], [3, 5]), ([18, 17, 17, 0, 1, 2, 3, 4, 5, 6, 7, 8, 9, 10, 11, 12, 13, 14, 15, 16, 17], [17, 18])])
def NewR.B12 : List Nat := [0, 1, 3, 7, 0, 16, 0, 64, 192, 448, 0, 1024, 4032, 8128, 0, 16384, 49152, 131008, 262143, 524287]
theorem NewR.tab12 : rtab .any (opsOf Try.f33 12) = NewR.T12 := by kernel_rfl
theorem NewR.bits12 : waitsOk NewR.T12.2 NewR.B12 = true := by kernel_rfl
def NewR.T17 : Bool × List (List Nat × List Nat) := (true, [([], []), ([0], [0]), ([1], [1]), ([2], [2]), ([], []), ([], []), ([5], [5]), ([6], [6]), ([7], [7]), ([], []), ([], []), ([10], [10]), ([11], [11]), ([12], [12]), ([], []), ([13, 14], [13, 14]), ([15], [15]), ([16], [16]), ([], []), ([18], [18]), ([19], [19]), ([20], [20]), ([], []), ([21, 22], [21, 22]), ([23], [23]), ([24, 17], [24]), ([3, 4, 0, 1, 2, 3, 4, 8, 10, 11, 12, 13, 14, 15, 16, 17, 21, 24, 25], [3, 4]), ([26, 17, 25, 0, 1, 2, 3, 4, 8, 10, 11, 12, 13, 14, 15, 16, 17, 21, 24, 25], [17, 26]), ([8, 9, 0, 1, 2, 3, 4, 5, 6, 7, 8, 9, 10, 11, 12, 13, 14, 15, 16, 17, 18, 19, 20, 21, 22, 23, 24, 25, 26, 27], [8, 9]), ([28, 25, 27, 0, 1, 2, 3, 4, 5, 6, 7, 8, 9, 10, 11, 12, 13, 14, 15, 16, 17, 18, 19, 20, 21, 22, 23, 24, 25, 26, 27], [25, 28])])
def NewR.B17 : List Nat := [0, 1, 3, 7, 0, 0, 32, 96, 224, 0, 0, 1024, 3072, 7168, 0, 31744, 64512, 130048, 0, 262144, 786432, 1835008, 0, 8126464, 16515072, 33553408, 67108351, 134217215, 268435455, 536870911]
theorem NewR.tab17 : rtab .any (opsOf Try.f33 17) = NewR.T17 := by kernel_rfl
theorem NewR.bits17 : waitsOk NewR.T17.2 NewR.B17 = true := by kernel_rfl
set_option maxHeartbeats 4000000 in
set_option maxRecDepth 100000 in
theorem New_keeps (N : Nat) (A : Option Addr) (c : Nat) (es : List S44) (w : World) (hN : N ≤ 4096) (hE : es.length ≤ 65536) (hok : ∀ e, e ∈ es → okEdge N e) (hr : k44.C w A es.length es) :
    Calls Try.prog 33 #[.int .i64 N, .slice A es.length c] w fun e w' => ∃ b, e = .returned (.tuple #[.pointer (some ⟨b, 0, none⟩), .int .i64 0]) ∧ Keeps w' b (rowsOf N es true) (rowsOf N es false) ∧ Below w.heap.size w w' := by
  have HB0 := Aside0.mk (Below.refl w.heap.size w)
  have HR := Aside0.mk hr
  have HOK := Aside0.mk hok
  have hmk := make50 N hN
  have hu76 := Try.underlying76
  have hu44 := Try.underlying44
  have c1 : ((N : Int) < 0) = False := eq_false (by omega)
  have c2 : ((N : Int) > 4096) = False := eq_false (by omega)
  have c3 : ((es.length : Int) > 65536) = False := eq_false (by omega)
  clear hr hok
  go_enter Try.func33, Try.ntmps33
  go_upto_region 5 with fail
  go_cut [6] from 21 to 26 (fun v6 w' => ∃ gb, v6 = .pointer (some ⟨gb, 0, none⟩) ∧ Aside0 (St w w' gb N es 0))
  case first =>
    go_region
    all_goals
      go_wp2_with fail
      go_meet
      case rel =>
        refine ⟨_, rfl, ⟨?_⟩⟩
        first
          | (refine st_start (w.heap.size + 1) w.heap.size ?_ ?_ (by omega) (by omega) (by omega) ?_ ?_
             · exact blk_drew (blk_alloc (by have := heap_alloc_last (w.alloc (.cells (hdr0 N) 30)) (.cells (hdr0 N) 30); rwa [World.size_alloc] at this) _)
             · exact blk_drew (blk_alloc (blk_alloc (heap_alloc_last w _) _) _)
             · refine blk_drew ?_
               have := heap_alloc_last ((w.alloc (.cells (hdr0 N) 30)).alloc (.cells (hdr0 N) 30)) (.cells #[.slice (some ⟨w.heap.size + 1, 0, none⟩) N N, .slice (some ⟨w.heap.size, 0, none⟩) N N] 76)
               rwa [World.size_alloc, World.size_alloc] at this
             · repeat (first | exact HB0.out | apply below_alloc | apply pw_below_drewN | apply below_drew1))
          | (refine st_start w.heap.size (w.heap.size + 1) ?_ ?_ (by omega) (by omega) (by omega) ?_ ?_
             · exact blk_drew (blk_alloc (blk_alloc (heap_alloc_last w _) _) _)
             · exact blk_drew (blk_alloc (by have := heap_alloc_last (w.alloc (.cells (hdr0 N) 30)) (.cells (hdr0 N) 30); rwa [World.size_alloc] at this) _)
             · refine blk_drew ?_
               have := heap_alloc_last ((w.alloc (.cells (hdr0 N) 30)).alloc (.cells (hdr0 N) 30)) (.cells #[.slice (some ⟨w.heap.size, 0, none⟩) N N, .slice (some ⟨w.heap.size + 1, 0, none⟩) N N] 76)
               rwa [World.size_alloc, World.size_alloc] at this
             · repeat (first | exact HB0.out | apply below_alloc | apply pw_below_drewN | apply below_drew1))
  case rest =>
    clear HB0
    obtain ⟨gb, rfl, HS0⟩ := hcut
    obtain ⟨i3, hi3, hi3z, hi3s, hi3b⟩ := info_parts info3
    have I3 := Aside0.mk (And.intro hi3 (And.intro hi3z (And.intro hi3s hi3b)))
    clear hi3 hi3z hi3s hi3b
    go_wp2_with fail
    go_loopg [29] es.length (fun kq v29 w' => ∃ (i : Nat), v29 = .int .i64 i ∧ i + kq = es.length ∧ Aside0 (St w w' gb N es i))
    case atStart => exact ⟨0, rfl, by omega, HS0⟩
    case round =>
      clear HS0
      obtain ⟨i, rfl, hi, HS⟩ := hrel
      cases gk with
      | zero =>
        obtain rfl : i = es.length := by omega
        obtain ⟨g, val, hb, hH, hRw⟩ := HS.out.ex
        rw [List.take_length, ← half_zero] at hRw
        have HT := Aside0.mk (show ∃ g val, Tb w wr gb N g val val (half es 0) from ⟨g, val, hb, hH, hRw, HS.out.bel⟩)
        clear hb hH hRw HS g val HOK HR I3
        go_wp2_with fail
        go_loopg [85] N (fun kq v85 w' => ∃ (j : Nat), v85 = .int .i64 j ∧ j + kq = N ∧ Aside0 (∃ g val, Tb w w' gb N g val val (half es j)))
        case atStart => exact ⟨0, rfl, by omega, HT⟩
        case round =>
          clear HT
          obtain ⟨j, rfl, hj, HT⟩ := hrel
          cases gk with
          | zero =>
            obtain rfl : j = N := by omega
            go_wp2_with fail
            go_ret2
            obtain ⟨g, val, h⟩ := HT.out
            exact ⟨_, rfl, new_done h hN hE, h.bel⟩
          | succ k2 =>
            obtain ⟨g, val, h⟩ := HT.out
            have hjN : j < N := by omega
            have m0 : (0 : Int) ≤ (j : Int) := by omega
            have m2 : (j : Int) < (N : Int) := by omega
            obtain ⟨A1, c1, ev1⟩ := row_form (h.hr.own true j hjN)
            obtain ⟨A2, c2, ev2⟩ := row_form (h.hr.own false j hjN)
            obtain ⟨X1, hX1⟩ : ∃ z, z = (half es j true j).length := ⟨_, rfl⟩
            obtain ⟨X2, hX2⟩ : ∃ z, z = (half es j false j).length := ⟨_, rfl⟩
            rw [← hX1] at ev1
            rw [← hX2] at ev2
            have z0 : wr.cell? ⟨gb, 0, none⟩ = some (.slice (some ⟨g true, 0, none⟩) N N) := (blk_cell h.hb 0).trans rfl
            have z1 : wr.cell? ⟨gb, 1, none⟩ = some (.slice (some ⟨g false, 0, none⟩) N N) := (blk_cell h.hb 1).trans rfl
            have z2 : wr.cell? ⟨g true, j, none⟩ = some (.slice A1 X1 c1) := (h.hh.cell true hjN).trans (congrArg some ev1)
            have z3 : wr.cell? ⟨g false, j, none⟩ = some (.slice A2 X2 c2) := (h.hh.cell false hjN).trans (congrArg some ev2)
            have L1 := Aside0.mk (Nat.le_trans (half_len es j true j) hE)
            have L2 := Aside0.mk (show (upd (half es j) true j (regs (half es j true j)) false j).length ≤ 65536 by rw [upd_ne _ _ _ _ (by simp)]; exact Nat.le_trans (half_len es j false j) hE)
            have E1 := Aside0.mk ev1
            have E2 := Aside0.mk (fun v => (upd_ne val true j v (t' := false) (i' := j) (by simp)).trans ev2)
            have HH := Aside0.mk h
            clear ev1 ev2 hX1 hX2 h HT hjN
            go_upto_region 17 with fail
            have HD := Aside0.mk HH.out.drew
            have jN : j < N := by omega
            replace z0 : wr.drew.cell? ⟨gb, 0, none⟩ = some (.slice (some ⟨g true, 0, none⟩) N N) := z0
            replace z1 : wr.drew.cell? ⟨gb, 1, none⟩ = some (.slice (some ⟨g false, 0, none⟩) N N) := z1
            replace z2 : wr.drew.cell? ⟨g true, j, none⟩ = some (.slice A1 X1 c1) := z2
            replace z3 : wr.drew.cell? ⟨g false, j, none⟩ = some (.slice A2 X2 c2) := z3
            clear HH
            refine start_ (n := 30) (S := fun w' => w'.cell? ⟨gb, 0, none⟩ = some (.slice (some ⟨g true, 0, none⟩) N N) ∧ w'.cell? ⟨gb, 1, none⟩ = some (.slice (some ⟨g false, 0, none⟩) N N) ∧ w'.cell? ⟨g true, j, none⟩ = some (.slice A1 X1 c1) ∧ w'.cell? ⟨g false, j, none⟩ = some (.slice A2 X2 c2)) (ds := [27, 29]) #[false, false, false, false, false, false, false, false, false, false, false, false, false, false, false, false, false, false, false, false, false, false, false, false, false, false, false, false, false, false] (by kernel_rfl) rfl rfl ⟨z0, z1, z2, z3⟩ (fun hHeld => ?_)
            refine with_tabW NewR.tab17 NewR.bits17 (fun HT_ HW_ => ?_)
            generalize wr.drew = w5 at z0 z1 z2 z3 HD hHeld ⊢
            refine pure_ (i := 0) (N := some 88) (v := ?_) (a' := ?_) #[true, false, false, false, false, false, false, false, false, false, false, false, false, false, false, false, false, false, false, false, false, false, false, false, false, false, false, false, false, false] rfl rfl (any_of HT_.out (by kernel_rfl)) (fun _ _ _ h => h) (Or.inl ⟨by rfl, ?_⟩) ?_ ?_
            rotate_left
            · intro w'
              go_simp
              with_reducible rfl
            rotate_left
            · simp only [Act.put, List.setIfInBounds_toArray, List.set_cons_zero, List.set_cons_succ, i64_w, i32_w]
              rfl
            refine pure_ (i := 1) (N := some 89) (v := ?_) (a' := ?_) #[true, true, false, false, false, false, false, false, false, false, false, false, false, false, false, false, false, false, false, false, false, false, false, false, false, false, false, false, false, false] rfl rfl (any_of HT_.out (by kernel_rfl)) (fun _ _ _ h => h) (Or.inl ⟨by rfl, ?_⟩) ?_ ?_
            rotate_left
            · intro w'
              go_simp
              with_reducible rfl
            rotate_left
            · simp only [Act.put, List.setIfInBounds_toArray, List.set_cons_zero, List.set_cons_succ, i64_w, i32_w]
              rfl
            refine pure_ (i := 2) (N := some 90) (v := ?_) (a' := ?_) #[true, true, true, false, false, false, false, false, false, false, false, false, false, false, false, false, false, false, false, false, false, false, false, false, false, false, false, false, false, false] rfl rfl (any_of HT_.out (by kernel_rfl)) (fun _ _ _ h => h) (Or.inl ⟨by rfl, ?_⟩) ?_ ?_
            rotate_left
            · intro w'
              go_simp
              with_reducible rfl
            rotate_left
            · simp only [Act.put, List.setIfInBounds_toArray, List.set_cons_zero, List.set_cons_succ, i64_w, i32_w]
              rfl
            refine pure_ (i := 4) (N := some 92) (v := ?_) (a' := ?_) #[true, true, true, false, true, false, false, false, false, false, false, false, false, false, false, false, false, false, false, false, false, false, false, false, false, false, false, false, false, false] rfl rfl (any_of HT_.out (by kernel_rfl)) (fun _ _ _ h => h) (Or.inl ⟨by rfl, ?_⟩) ?_ ?_
            rotate_left
            · intro w'
              go_simp
              with_reducible rfl
            rotate_left
            · simp only [Act.put, List.setIfInBounds_toArray, List.set_cons_zero, List.set_cons_succ, i64_w, i32_w]
              rfl
            refine pure_ (i := 5) (N := some 93) (v := ?_) (a' := ?_) #[true, true, true, false, true, true, false, false, false, false, false, false, false, false, false, false, false, false, false, false, false, false, false, false, false, false, false, false, false, false] rfl rfl (any_of HT_.out (by kernel_rfl)) (fun _ _ _ h => h) (Or.inl ⟨by rfl, ?_⟩) ?_ ?_
            rotate_left
            · intro w'
              go_simp
              with_reducible rfl
            rotate_left
            · simp only [Act.put, List.setIfInBounds_toArray, List.set_cons_zero, List.set_cons_succ, i64_w, i32_w]
              rfl
            refine pure_ (i := 6) (N := some 94) (v := ?_) (a' := ?_) #[true, true, true, false, true, true, true, false, false, false, false, false, false, false, false, false, false, false, false, false, false, false, false, false, false, false, false, false, false, false] rfl rfl (any_of HT_.out (by kernel_rfl)) (fun _ _ _ h => h) (Or.inl ⟨by rfl, ?_⟩) ?_ ?_
            rotate_left
            · intro w'
              go_simp
              with_reducible rfl
            rotate_left
            · simp only [Act.put, List.setIfInBounds_toArray, List.set_cons_zero, List.set_cons_succ, i64_w, i32_w]
              rfl
            refine pure_ (i := 7) (N := some 95) (v := ?_) (a' := ?_) #[true, true, true, false, true, true, true, true, false, false, false, false, false, false, false, false, false, false, false, false, false, false, false, false, false, false, false, false, false, false] rfl rfl (any_of HT_.out (by kernel_rfl)) (fun _ _ _ h => h) (Or.inl ⟨by rfl, ?_⟩) ?_ ?_
            rotate_left
            · intro w'
              go_simp
              with_reducible rfl
            rotate_left
            · simp only [Act.put, List.setIfInBounds_toArray, List.set_cons_zero, List.set_cons_succ, i64_w, i32_w]
              rfl
            refine pure_ (i := 9) (N := some 97) (v := ?_) (a' := ?_) #[true, true, true, false, true, true, true, true, false, true, false, false, false, false, false, false, false, false, false, false, false, false, false, false, false, false, false, false, false, false] rfl rfl (any_of HT_.out (by kernel_rfl)) (fun _ _ _ h => h) (Or.inl ⟨by rfl, ?_⟩) ?_ ?_
            rotate_left
            · intro w'
              go_simp
              with_reducible rfl
            rotate_left
            · simp only [Act.put, List.setIfInBounds_toArray, List.set_cons_zero, List.set_cons_succ, i64_w, i32_w]
              rfl
            refine pure_ (i := 10) (N := some 98) (v := ?_) (a' := ?_) #[true, true, true, false, true, true, true, true, false, true, true, false, false, false, false, false, false, false, false, false, false, false, false, false, false, false, false, false, false, false] rfl rfl (any_of HT_.out (by kernel_rfl)) (fun _ _ _ h => h) (Or.inl ⟨by rfl, ?_⟩) ?_ ?_
            rotate_left
            · intro w'
              go_simp
              with_reducible rfl
            rotate_left
            · simp only [Act.put, List.setIfInBounds_toArray, List.set_cons_zero, List.set_cons_succ, i64_w, i32_w]
              rfl
            refine pure_ (i := 11) (N := some 99) (v := ?_) (a' := ?_) #[true, true, true, false, true, true, true, true, false, true, true, true, false, false, false, false, false, false, false, false, false, false, false, false, false, false, false, false, false, false] rfl rfl (any_of HT_.out (by kernel_rfl)) (fun _ _ _ h => h) (Or.inl ⟨by rfl, ?_⟩) ?_ ?_
            rotate_left
            · intro w'
              go_simp
              with_reducible rfl
            rotate_left
            · simp only [Act.put, List.setIfInBounds_toArray, List.set_cons_zero, List.set_cons_succ, i64_w, i32_w]
              rfl
            refine pure_ (i := 12) (N := some 100) (v := ?_) (a' := ?_) #[true, true, true, false, true, true, true, true, false, true, true, true, true, false, false, false, false, false, false, false, false, false, false, false, false, false, false, false, false, false] rfl rfl (any_of HT_.out (by kernel_rfl)) (fun _ _ _ h => h) (Or.inl ⟨by rfl, ?_⟩) ?_ ?_
            rotate_left
            · intro w'
              go_simp
              with_reducible rfl
            rotate_left
            · simp only [Act.put, List.setIfInBounds_toArray, List.set_cons_zero, List.set_cons_succ, i64_w, i32_w]
              rfl
            refine pure_ (i := 14) (N := some 102) (v := ?_) (a' := ?_) #[true, true, true, false, true, true, true, true, false, true, true, true, true, false, true, false, false, false, false, false, false, false, false, false, false, false, false, false, false, false] rfl rfl (any_of HT_.out (by kernel_rfl)) (fun _ _ _ h => h) (Or.inl ⟨by rfl, ?_⟩) ?_ ?_
            rotate_left
            · intro w'
              go_simp
              with_reducible rfl
            rotate_left
            · simp only [Act.put, List.setIfInBounds_toArray, List.set_cons_zero, List.set_cons_succ, i64_w, i32_w]
              rfl
            refine pure_ (i := 18) (N := some 106) (v := ?_) (a' := ?_) #[true, true, true, false, true, true, true, true, false, true, true, true, true, false, true, false, false, false, true, false, false, false, false, false, false, false, false, false, false, false] rfl rfl (any_of HT_.out (by kernel_rfl)) (fun _ _ _ h => h) (Or.inl ⟨by rfl, ?_⟩) ?_ ?_
            rotate_left
            · intro w'
              go_simp
              with_reducible rfl
            rotate_left
            · simp only [Act.put, List.setIfInBounds_toArray, List.set_cons_zero, List.set_cons_succ, i64_w, i32_w]
              rfl
            refine pure_ (i := 19) (N := some 107) (v := ?_) (a' := ?_) #[true, true, true, false, true, true, true, true, false, true, true, true, true, false, true, false, false, false, true, true, false, false, false, false, false, false, false, false, false, false] rfl rfl (any_of HT_.out (by kernel_rfl)) (fun _ _ _ h => h) (Or.inl ⟨by rfl, ?_⟩) ?_ ?_
            rotate_left
            · intro w'
              go_simp
              with_reducible rfl
            rotate_left
            · simp only [Act.put, List.setIfInBounds_toArray, List.set_cons_zero, List.set_cons_succ, i64_w, i32_w]
              rfl
            refine pure_ (i := 20) (N := some 108) (v := ?_) (a' := ?_) #[true, true, true, false, true, true, true, true, false, true, true, true, true, false, true, false, false, false, true, true, true, false, false, false, false, false, false, false, false, false] rfl rfl (any_of HT_.out (by kernel_rfl)) (fun _ _ _ h => h) (Or.inl ⟨by rfl, ?_⟩) ?_ ?_
            rotate_left
            · intro w'
              go_simp
              with_reducible rfl
            rotate_left
            · simp only [Act.put, List.setIfInBounds_toArray, List.set_cons_zero, List.set_cons_succ, i64_w, i32_w]
              rfl
            refine pure_ (i := 22) (N := some 110) (v := ?_) (a' := ?_) #[true, true, true, false, true, true, true, true, false, true, true, true, true, false, true, false, false, false, true, true, true, false, true, false, false, false, false, false, false, false] rfl rfl (any_of HT_.out (by kernel_rfl)) (fun _ _ _ h => h) (Or.inl ⟨by rfl, ?_⟩) ?_ ?_
            rotate_left
            · intro w'
              go_simp
              with_reducible rfl
            rotate_left
            · simp only [Act.put, List.setIfInBounds_toArray, List.set_cons_zero, List.set_cons_succ, i64_w, i32_w]
              rfl
            refine take_ (i := 3) (N := some 91) (v := ?_) (a' := ?_) #[true, true, true, true, true, true, true, true, false, true, true, true, true, false, true, false, false, false, true, true, true, false, true, false, false, false, false, false, false, false] rfl rfl (take_ofW HT_.out HW_.out (by kernel_rfl)) (fun _ _ _ h => h) (Or.inl ⟨by rfl, ?_⟩) hHeld ?_ ?_
            rotate_left
            · rintro w' ⟨s0, s1, s2, s3⟩
              go_simp
              with_reducible rfl
            rotate_left
            · simp only [Act.put, List.setIfInBounds_toArray, List.set_cons_zero, List.set_cons_succ, i64_w, i32_w]
              rfl
            refine take_ (i := 8) (N := some 96) (v := ?_) (a' := ?_) #[true, true, true, true, true, true, true, true, true, true, true, true, true, false, true, false, false, false, true, true, true, false, true, false, false, false, false, false, false, false] rfl rfl (take_ofW HT_.out HW_.out (by kernel_rfl)) (fun _ _ _ h => h) (Or.inl ⟨by rfl, ?_⟩) hHeld ?_ ?_
            rotate_left
            · rintro w' ⟨s0, s1, s2, s3⟩
              go_simp
              with_reducible rfl
            rotate_left
            · simp only [Act.put, List.setIfInBounds_toArray, List.set_cons_zero, List.set_cons_succ, i64_w, i32_w]
              rfl
            refine take_ (i := 13) (N := some 101) (v := ?_) (a' := ?_) #[true, true, true, true, true, true, true, true, true, true, true, true, true, true, true, false, false, false, true, true, true, false, true, false, false, false, false, false, false, false] rfl rfl (take_ofW HT_.out HW_.out (by kernel_rfl)) (fun _ _ _ h => h) (Or.inl ⟨by rfl, ?_⟩) hHeld ?_ ?_
            rotate_left
            · rintro w' ⟨s0, s1, s2, s3⟩
              go_simp
              with_reducible rfl
            rotate_left
            · simp only [Act.put, List.setIfInBounds_toArray, List.set_cons_zero, List.set_cons_succ, i64_w, i32_w]
              rfl
            refine pure_ (i := 15) (N := some 103) (v := ?_) (a' := ?_) #[true, true, true, true, true, true, true, true, true, true, true, true, true, true, true, true, false, false, true, true, true, false, true, false, false, false, false, false, false, false] rfl rfl (any_of HT_.out (by kernel_rfl)) (fun _ _ _ h => h) (Or.inl ⟨by rfl, ?_⟩) ?_ ?_
            rotate_left
            · intro w'
              go_simp
              with_reducible rfl
            rotate_left
            · simp only [Act.put, List.setIfInBounds_toArray, List.set_cons_zero, List.set_cons_succ, i64_w, i32_w]
              rfl
            refine take_ (i := 16) (N := some 104) (v := ?_) (a' := ?_) #[true, true, true, true, true, true, true, true, true, true, true, true, true, true, true, true, true, false, true, true, true, false, true, false, false, false, false, false, false, false] rfl rfl (take_ofW HT_.out HW_.out (by kernel_rfl)) (fun _ _ _ h => h) (Or.inl ⟨by rfl, ?_⟩) hHeld ?_ ?_
            rotate_left
            · rintro w' ⟨s0, s1, s2, s3⟩
              go_simp
              with_reducible rfl
            rotate_left
            · simp only [Act.put, List.setIfInBounds_toArray, List.set_cons_zero, List.set_cons_succ, i64_w, i32_w]
              rfl
            refine take_ (i := 21) (N := some 109) (v := ?_) (a' := ?_) #[true, true, true, true, true, true, true, true, true, true, true, true, true, true, true, true, true, false, true, true, true, true, true, false, false, false, false, false, false, false] rfl rfl (take_ofW HT_.out HW_.out (by kernel_rfl)) (fun _ _ _ h => h) (Or.inl ⟨by rfl, ?_⟩) hHeld ?_ ?_
            rotate_left
            · rintro w' ⟨s0, s1, s2, s3⟩
              go_simp
              with_reducible rfl
            rotate_left
            · simp only [Act.put, List.setIfInBounds_toArray, List.set_cons_zero, List.set_cons_succ, i64_w, i32_w]
              rfl
            refine pure_ (i := 23) (N := some 111) (v := ?_) (a' := ?_) #[true, true, true, true, true, true, true, true, true, true, true, true, true, true, true, true, true, false, true, true, true, true, true, true, false, false, false, false, false, false] rfl rfl (any_of HT_.out (by kernel_rfl)) (fun _ _ _ h => h) (Or.inl ⟨by rfl, ?_⟩) ?_ ?_
            rotate_left
            · intro w'
              go_simp
              with_reducible rfl
            rotate_left
            · simp only [Act.put, List.setIfInBounds_toArray, List.set_cons_zero, List.set_cons_succ, i64_w, i32_w]
              rfl
            refine take_ (i := 24) (N := some 112) (v := ?_) (a' := ?_) #[true, true, true, true, true, true, true, true, true, true, true, true, true, true, true, true, true, false, true, true, true, true, true, true, true, false, false, false, false, false] rfl rfl (take_ofW HT_.out HW_.out (by kernel_rfl)) (fun _ _ _ h => h) (Or.inl ⟨by rfl, ?_⟩) hHeld ?_ ?_
            rotate_left
            · rintro w' ⟨s0, s1, s2, s3⟩
              go_simp
              with_reducible rfl
            rotate_left
            · simp only [Act.put, List.setIfInBounds_toArray, List.set_cons_zero, List.set_cons_succ, i64_w, i32_w]
              rfl
            refine one_ (i := 17) (N := some 105) #[true, true, true, true, true, true, true, true, true, true, true, true, true, true, true, true, true, true, true, true, true, true, true, true, true, false, false, false, false, false] rfl rfl (one_of HT_.out (by kernel_rfl)) (by decide) (fun K hK => ?_)
            refine goes_ Try.func61 (by kernel_rfl) rfl #[.slice A1 X1 c1] (by rfl) rfl rfl (by simp only [List.map_toArray, List.map_cons, List.map_nil]; rfl) ?_
            with_reducible refine (HD.out.set jN E1.out L1.out).mono ?_
            rintro e W2 ⟨A3, n3, c3, rfl, hT⟩
            refine ⟨_, rfl, ?_⟩
            have HT2 := Aside0.mk hT
            have u0 := (blk_cell hT.hb 0).trans rfl
            have u1 := (blk_cell hT.hb 1).trans rfl
            have u2 : W2.cell? ⟨g true, j, none⟩ = some (.slice A1 X1 c1) := (hT.hh.cell true jN).trans (congrArg some E1.out)
            have u3 : W2.cell? ⟨g false, j, none⟩ = some (.slice A2 X2 c2) := (hT.hh.cell false jN).trans (congrArg some ((upd_ne val true j undef (t' := false) (i' := j) (by simp)).symm.trans (E2.out undef)))
            clear hT
            refine hK.out _ _ ⟨u0, u1, u2, u3⟩ (fun hHeld => ?_)
            clear hK K
            refine norm_ (a' := ?_) ?_ ?_
            rotate_left
            · show Act.put _ (some 105) _ = _
              simp only [Act.put, List.setIfInBounds_toArray, List.set_cons_zero, List.set_cons_succ, i64_w, i32_w]
              rfl
            refine one_ (i := 25) (N := some 113) #[true, true, true, true, true, true, true, true, true, true, true, true, true, true, true, true, true, true, true, true, true, true, true, true, true, true, false, false, false, false] rfl rfl (one_of HT_.out (by kernel_rfl)) (by decide) (fun K hK => ?_)
            refine goes_ Try.func61 (by kernel_rfl) rfl #[.slice A2 X2 c2] (by rfl) rfl rfl (by simp only [List.map_toArray, List.map_cons, List.map_nil]; rfl) ?_
            with_reducible refine (HT2.out.set jN (E2.out _) L2.out).mono ?_
            rintro e W3 ⟨A4, n4, c4, rfl, hT⟩
            refine ⟨_, rfl, ?_⟩
            have HT3 := Aside0.mk hT
            have v0 := (blk_cell hT.hb 0).trans rfl
            have v1 := (blk_cell hT.hb 1).trans rfl
            have v2 : W3.cell? ⟨g true, j, none⟩ = some (.slice A1 X1 c1) := (hT.hh.cell true jN).trans (congrArg some E1.out)
            have v3 := hT.hh.frozen true j
            have v4 : W3.cell? ⟨g false, j, none⟩ = some (.slice A2 X2 c2) := (hT.hh.cell false jN).trans (congrArg some ((upd_ne val true j undef (t' := false) (i' := j) (by simp)).symm.trans (E2.out undef)))
            have v5 : ∀ v, (W3.setCell ⟨g true, j, none⟩ v).cell? ⟨g false, j, none⟩ = some (.slice A2 X2 c2) := fun v => (((hT.store true j v).hh.cell false jN).trans (congrArg some ((upd_ne val true j v (t' := false) (i' := j) (by simp)).trans ((upd_ne val true j undef (t' := false) (i' := j) (by simp)).symm.trans (E2.out undef)))))
            have v6 := fun v => (hT.store true j v).hh.frozen false j
            clear hT
            refine hK.out _ _ ⟨v0, v1, v2, v4⟩ (fun hHeld => ?_)
            clear hK K
            refine norm_ (a' := ?_) ?_ ?_
            rotate_left
            · show Act.put _ (some 113) _ = _
              simp only [Act.put, List.setIfInBounds_toArray, List.set_cons_zero, List.set_cons_succ, i64_w, i32_w]
              rfl
            refine pure_ (i := 26) (N := some 114) (v := ?_) (a' := ?_) #[true, true, true, true, true, true, true, true, true, true, true, true, true, true, true, true, true, true, true, true, true, true, true, true, true, true, true, false, false, false] rfl rfl (any_of HT_.out (by kernel_rfl)) (fun _ _ _ h => h) (Or.inl ⟨by rfl, ?_⟩) ?_ ?_
            rotate_left
            · intro w'
              go_simp
              with_reducible rfl
            rotate_left
            · simp only [Act.put, List.setIfInBounds_toArray, List.set_cons_zero, List.set_cons_succ, i64_w, i32_w]
              rfl
            refine last_ (i := 27) (N := none) #[true, true, true, true, true, true, true, true, true, true, true, true, true, true, true, true, true, true, true, true, true, true, true, true, true, true, true, true, false, false] rfl rfl (one_of HT_.out (by kernel_rfl)) (by decide) (fun K hK => ?_)
            refine skip_ (w1 := ?_) (by rfl) rfl ?_ ?_
            rotate_left
            · go_simp
              rfl
            refine hK.out _ _ ?_
            clear hK K
            refine pure_ (i := 28) (N := some 115) (v := ?_) (a' := ?_) #[true, true, true, true, true, true, true, true, true, true, true, true, true, true, true, true, true, true, true, true, true, true, true, true, true, true, true, true, true, false] rfl rfl (any_of HT_.out (by kernel_rfl)) (fun _ _ _ h => h) (Or.inl ⟨by rfl, ?_⟩) ?_ ?_
            rotate_left
            · intro w'
              go_simp
              with_reducible rfl
            rotate_left
            · simp only [Act.put, List.setIfInBounds_toArray, List.set_cons_zero, List.set_cons_succ, i64_w, i32_w]
              rfl
            refine last_ (i := 29) (N := none) #[true, true, true, true, true, true, true, true, true, true, true, true, true, true, true, true, true, true, true, true, true, true, true, true, true, true, true, true, true, true] rfl rfl (one_of HT_.out (by kernel_rfl)) (by decide) (fun K hK => ?_)
            refine skip_ (w1 := ?_) (by rfl) rfl ?_ ?_
            rotate_left
            · go_simp
              rfl
            refine hK.out _ _ ?_
            clear hK K
            refine done_ (done_of HT_.out (by kernel_rfl)) ?_

            all_goals
              go_wp2_with fail
              go_roundg k2
              case measure => omega
              case rel => exact ⟨j + 1, by go_num, by omega, ⟨⟨g, _, by rw [← half_succ]; exact (HT3.out.store true j _).store false j _⟩⟩⟩
      | succ k1 =>
        have hlt : i < es.length := by omega
        obtain ⟨g, val, hb, hH, hRw⟩ := HS.out.ex
        obtain ⟨ad, e0, hx0, hx1⟩ := at_T44 (Kd.C_below HR.out HS.out.bel) (i : Int) (by omega) (by omega)
        rw [Int.toNat_natCast] at hx0 hx1
        subst e0
        have hv := HOK.out (rd_T44 es (i : Int)) (by show es.getD i z44 ∈ es; rw [List.getD_eq_getElem?_getD, List.getElem?_eq_getElem hlt]; exact List.getElem_mem hlt)
        have p := eq_true (show (0 : Int) ≤ i by omega)
        have q : ((i : Int) < (es.length : Int)) = True := eq_true (by omega)
        have Hx := Aside0.mk (show es[i]? = some (rd_T44 es (i : Int)) by show _ = some (es.getD i z44); rw [List.getD_eq_getElem?_getD, List.getElem?_eq_getElem hlt]; rfl)
        obtain ⟨⟨y0, y1⟩, hx⟩ : ∃ x, x = rd_T44 es (i : Int) := ⟨_, rfl⟩
        rw [← hx] at hx0 hx1 Hx hv
        obtain ⟨n0, rfl⟩ := Int.eq_ofNat_of_zero_le hv.1.1
        obtain ⟨n1, rfl⟩ := Int.eq_ofNat_of_zero_le hv.2.1
        have b0 : n0 < N := by have : (n0 : Int) < N := hv.1.2; omega
        have b1 : n1 < N := by have : (n1 : Int) < N := hv.2.2; omega
        have i0 : isIn N n0 = true := by unfold isIn; simp; omega
        have i1 : isIn N n1 = true := by unfold isIn; simp; omega
        have m0 : (0 : Int) ≤ (n0 : Int) := by omega
        have m1 : (0 : Int) ≤ (n1 : Int) := by omega
        have m2 : (n0 : Int) < (N : Int) := by omega
        have m3 : (n1 : Int) < (N : Int) := by omega
        have z0 := (blk_cell (blk_alloc hb (.cells #[.int .i64 n0, .int .i64 n1] 44)) 0)
        obtain ⟨gx, hgx⟩ : ∃ gx, gx = wr.heap.size := ⟨_, rfl⟩
        have HM0 := Aside0.mk (show Mid w (wr.alloc (.cells #[.int .i64 n0, .int .i64 n1] 44)) gb gx N g ⟨n0, n1⟩ val (ends (es.take i)) from ⟨blk_alloc hb _, hH.alloc _, hRw.alloc _, by rw [hgx]; exact heap_alloc_last wr _, below_alloc HS.out.bel _⟩)
        obtain ⟨XX, hXX⟩ : ∃ XX, XX = ends (es.take i) := ⟨_, rfl⟩
        have HXX := Aside0.mk hXX
        rw [← hXX] at HM0
        have HLX := Aside0.mk (show ∀ t j, (XX t j).length ≤ 65535 from fun t j => by rw [hXX]; exact Nat.le_trans (ends_len _ _ _) (by rw [List.length_take]; omega))
        have Hgx := Aside0.mk hgx
        clear hx hb hH hRw HS hv hXX hgx
        go_upto_region 11 with (go_at_call 37; first | (refine (node_cell (z0.trans rfl) _).mono ?_; rw [i0]; rintro e w' ⟨rfl, ⟨mm, rfl⟩⟩) | (refine (node_cell (n := N) (c := N) (g := some ⟨g true, 0, none⟩) ?hz _).mono ?_; (case hz => exact z0.trans rfl); rw [i1]; rintro e W1 ⟨rfl, ⟨mm1, hW1⟩⟩; have HM := Aside0.mk (show Mid w W1 gb gx N g ⟨n0, n1⟩ val XX from hW1 ▸ ⟨blk_drewN (blk_drewN HM0.out.hb _) _, (HM0.out.hh.drewN _).drewN _, (HM0.out.hr.drewN _).drewN _, blk_drewN (blk_drewN HM0.out.bx _) _, pw_below_drewN (pw_below_drewN HM0.out.bel _) _⟩); clear hW1 HM0))
        clear z0 hx0 hx1 p q
        rw [← Hgx.out]
        trace_state
        go_cut [29] from 29 to 83 (fun v29 w' => v29 = .int .i64 i ∧ ∃ v, Aside0 (Mid w w' gb gx N g ⟨n0, n1⟩ (upd val true n0 v) (upd XX true n0 (XX true n0 ++ [(n1 : Int)]))))
        case first =>
          obtain ⟨A, c0, ev⟩ := row_form (HM.out.hr.own true n0 b0)
          have own := HM.out.hr.own true n0 b0
          have z0 : W1.cell? ⟨gb, 0, none⟩ = some (.slice (some ⟨g true, 0, none⟩) N N) := (blk_cell HM.out.hb 0).trans rfl
          have z1 : W1.cell? ⟨gx, 0, none⟩ = some (.int .i64 n0) := (blk_cell HM.out.bx 0).trans rfl
          have z2 : W1.cell? ⟨gx, 1, none⟩ = some (.int .i64 n1) := (blk_cell HM.out.bx 1).trans rfl
          have z3 := HM.out.hh.cell true b0
          rw [ev] at own z3
          have LX := Aside0.mk (show (XX true n0).length ≤ 65536 from Nat.le_trans (HLX.out true n0) (by decide))
          obtain ⟨M, hM⟩ : ∃ M, M = (XX true n0).length := ⟨_, rfl⟩
          obtain ⟨X, hX⟩ : ∃ X, X = (XX true n0).map (Value.int .i64) := ⟨_, rfl⟩
          have LM : M ≤ 65536 := by rw [hM]; exact LX.out
          rw [← hM] at own z3 ev
          rw [← hX] at own
          have HM1 := Aside0.mk (And.intro hM hX)
          have Ev := Aside0.mk ev
          have Own := Aside0.mk own
          have sz := Aside0.mk (below_size HM.out.bel)
          have y0 := fun o => cell_al o z0
          have y1 := fun o => cell_al o z1
          have y2 := fun o => cell_al o z2
          have y3 := fun o => cell_al o z3
          clear hM hX ev own
          have HMd := Aside0.mk HM.out.drew
          have Ownd := Aside0.mk (show World.ownsRow W1.drew w.heap.size 3 1 (.slice A M c0) M X from Own.out)
          replace z0 : W1.drew.cell? ⟨gb, 0, none⟩ = some (.slice (some ⟨g true, 0, none⟩) N N) := z0
          replace z1 : W1.drew.cell? ⟨gx, 0, none⟩ = some (.int .i64 n0) := z1
          replace z2 : W1.drew.cell? ⟨gx, 1, none⟩ = some (.int .i64 n1) := z2
          replace z3 : W1.drew.cell? ⟨g true, n0, none⟩ = some (.slice A M c0) := z3
          clear y0 y1 y2 y3 HM Own sz
          refine start_ (n := 20) (S := fun w' => w'.cell? ⟨gb, 0, none⟩ = some (.slice (some ⟨g true, 0, none⟩) N N) ∧ w'.cell? ⟨gx, 0, none⟩ = some (.int .i64 n0) ∧ w'.cell? ⟨gx, 1, none⟩ = some (.int .i64 n1) ∧ w'.cell? ⟨g true, n0, none⟩ = some (.slice A M c0)) (ds := [19]) #[false, false, false, false, false, false, false, false, false, false, false, false, false, false, false, false, false, false, false, false] (by kernel_rfl) rfl rfl ⟨z0, z1, z2, z3⟩ (fun hHeld => ?_)
          refine with_tabW NewR.tab11 NewR.bits11 (fun HT_ HW_ => ?_)
          generalize W1.drew = w5 at z0 z1 z2 z3 HMd Ownd hHeld ⊢
          have sz := Aside0.mk (below_size HMd.out.bel)
          refine pure_ (i := 0) (N := some 45) (v := ?_) (a' := ?_) #[true, false, false, false, false, false, false, false, false, false, false, false, false, false, false, false, false, false, false, false] rfl rfl (any_of HT_.out (by kernel_rfl)) (fun _ _ _ h => h) (Or.inl ⟨by rfl, ?_⟩) ?_ ?_
          rotate_left
          · intro w'
            go_simp
            with_reducible rfl
          rotate_left
          · simp only [Act.put, List.setIfInBounds_toArray, List.set_cons_zero, List.set_cons_succ, i64_w, i32_w]
            rfl
          refine pure_ (i := 1) (N := some 46) (v := ?_) (a' := ?_) #[true, true, false, false, false, false, false, false, false, false, false, false, false, false, false, false, false, false, false, false] rfl rfl (any_of HT_.out (by kernel_rfl)) (fun _ _ _ h => h) (Or.inl ⟨by rfl, ?_⟩) ?_ ?_
          rotate_left
          · intro w'
            go_simp
            with_reducible rfl
          rotate_left
          · simp only [Act.put, List.setIfInBounds_toArray, List.set_cons_zero, List.set_cons_succ, i64_w, i32_w]
            rfl
          refine pure_ (i := 2) (N := some 47) (v := ?_) (a' := ?_) #[true, true, true, false, false, false, false, false, false, false, false, false, false, false, false, false, false, false, false, false] rfl rfl (any_of HT_.out (by kernel_rfl)) (fun _ _ _ h => h) (Or.inl ⟨by rfl, ?_⟩) ?_ ?_
          rotate_left
          · intro w'
            go_simp
            with_reducible rfl
          rotate_left
          · simp only [Act.put, List.setIfInBounds_toArray, List.set_cons_zero, List.set_cons_succ, i64_w, i32_w]
            rfl
          refine pure_ (i := 4) (N := some 49) (v := ?_) (a' := ?_) #[true, true, true, false, true, false, false, false, false, false, false, false, false, false, false, false, false, false, false, false] rfl rfl (any_of HT_.out (by kernel_rfl)) (fun _ _ _ h => h) (Or.inl ⟨by rfl, ?_⟩) ?_ ?_
          rotate_left
          · intro w'
            go_simp
            with_reducible rfl
          rotate_left
          · simp only [Act.put, List.setIfInBounds_toArray, List.set_cons_zero, List.set_cons_succ, i64_w, i32_w]
            rfl
          refine pure_ (i := 6) (N := some 51) (v := ?_) (a' := ?_) #[true, true, true, false, true, false, true, false, false, false, false, false, false, false, false, false, false, false, false, false] rfl rfl (any_of HT_.out (by kernel_rfl)) (fun _ _ _ h => h) (Or.inl ⟨by rfl, ?_⟩) ?_ ?_
          rotate_left
          · intro w'
            go_simp
            with_reducible rfl
          rotate_left
          · simp only [Act.put, List.setIfInBounds_toArray, List.set_cons_zero, List.set_cons_succ, i64_w, i32_w]
            rfl
          refine pure_ (i := 7) (N := some 52) (v := ?_) (a' := ?_) #[true, true, true, false, true, false, true, true, false, false, false, false, false, false, false, false, false, false, false, false] rfl rfl (any_of HT_.out (by kernel_rfl)) (fun _ _ _ h => h) (Or.inl ⟨by rfl, ?_⟩) ?_ ?_
          rotate_left
          · intro w'
            go_simp
            with_reducible rfl
          rotate_left
          · simp only [Act.put, List.setIfInBounds_toArray, List.set_cons_zero, List.set_cons_succ, i64_w, i32_w]
            rfl
          refine pure_ (i := 8) (N := some 53) (v := ?_) (a' := ?_) #[true, true, true, false, true, false, true, true, true, false, false, false, false, false, false, false, false, false, false, false] rfl rfl (any_of HT_.out (by kernel_rfl)) (fun _ _ _ h => h) (Or.inl ⟨by rfl, ?_⟩) ?_ ?_
          rotate_left
          · intro w'
            go_simp
            with_reducible rfl
          rotate_left
          · simp only [Act.put, List.setIfInBounds_toArray, List.set_cons_zero, List.set_cons_succ, i64_w, i32_w]
            rfl
          refine pure_ (i := 10) (N := some 55) (v := ?_) (a' := ?_) #[true, true, true, false, true, false, true, true, true, false, true, false, false, false, false, false, false, false, false, false] rfl rfl (any_of HT_.out (by kernel_rfl)) (fun _ _ _ h => h) (Or.inl ⟨by rfl, ?_⟩) ?_ ?_
          rotate_left
          · intro w'
            go_simp
            with_reducible rfl
          rotate_left
          · simp only [Act.put, List.setIfInBounds_toArray, List.set_cons_zero, List.set_cons_succ, i64_w, i32_w]
            rfl
          refine pure_ (i := 14) (N := some 59) (v := ?_) (a' := ?_) #[true, true, true, false, true, false, true, true, true, false, true, false, false, false, true, false, false, false, false, false] rfl rfl (any_of HT_.out (by kernel_rfl)) (fun _ _ _ h => h) (Or.inl ⟨by rfl, ?_⟩) ?_ ?_
          rotate_left
          · intro w'
            go_simp
            with_reducible rfl
          rotate_left
          · simp only [Act.put, List.setIfInBounds_toArray, List.set_cons_zero, List.set_cons_succ, i64_w, i32_w]
            rfl
          refine take_ (i := 3) (N := some 48) (v := ?_) (a' := ?_) #[true, true, true, true, true, false, true, true, true, false, true, false, false, false, true, false, false, false, false, false] rfl rfl (take_ofW HT_.out HW_.out (by kernel_rfl)) (fun _ _ _ h => h) (Or.inl ⟨by rfl, ?_⟩) hHeld ?_ ?_
          rotate_left
          · rintro w' ⟨s0, s1, s2, s3⟩
            go_simp
            with_reducible rfl
          rotate_left
          · simp only [Act.put, List.setIfInBounds_toArray, List.set_cons_zero, List.set_cons_succ, i64_w, i32_w]
            rfl
          refine take_ (i := 5) (N := some 50) (v := ?_) (a' := ?_) #[true, true, true, true, true, true, true, true, true, false, true, false, false, false, true, false, false, false, false, false] rfl rfl (take_ofW HT_.out HW_.out (by kernel_rfl)) (fun _ _ _ h => h) (Or.inl ⟨by rfl, ?_⟩) hHeld ?_ ?_
          rotate_left
          · rintro w' ⟨s0, s1, s2, s3⟩
            go_simp
            with_reducible rfl
          rotate_left
          · simp only [Act.put, List.setIfInBounds_toArray, List.set_cons_zero, List.set_cons_succ, i64_w, i32_w]
            rfl
          refine take_ (i := 9) (N := some 54) (v := ?_) (a' := ?_) #[true, true, true, true, true, true, true, true, true, true, true, false, false, false, true, false, false, false, false, false] rfl rfl (take_ofW HT_.out HW_.out (by kernel_rfl)) (fun _ _ _ h => h) (Or.inl ⟨by rfl, ?_⟩) hHeld ?_ ?_
          rotate_left
          · rintro w' ⟨s0, s1, s2, s3⟩
            go_simp
            with_reducible rfl
          rotate_left
          · simp only [Act.put, List.setIfInBounds_toArray, List.set_cons_zero, List.set_cons_succ, i64_w, i32_w]
            rfl
          refine take_ (i := 11) (N := some 56) (v := ?_) (a' := ?_) #[true, true, true, true, true, true, true, true, true, true, true, true, false, false, true, false, false, false, false, false] rfl rfl (take_ofW HT_.out HW_.out (by kernel_rfl)) (fun _ _ _ h => h) (Or.inl ⟨by rfl, ?_⟩) hHeld ?_ ?_
          rotate_left
          · rintro w' ⟨s0, s1, s2, s3⟩
            go_simp
            with_reducible rfl
          rotate_left
          · simp only [Act.put, List.setIfInBounds_toArray, List.set_cons_zero, List.set_cons_succ, i64_w, i32_w]
            rfl
          refine pure_ (i := 12) (N := some 57) (v := ?_) (a' := ?_) #[true, true, true, true, true, true, true, true, true, true, true, true, true, false, true, false, false, false, false, false] rfl rfl (any_of HT_.out (by kernel_rfl)) (fun _ _ _ h => h) (Or.inl ⟨by rfl, ?_⟩) ?_ ?_
          rotate_left
          · intro w'
            go_simp
            with_reducible rfl
          rotate_left
          · simp only [Act.put, List.setIfInBounds_toArray, List.set_cons_zero, List.set_cons_succ, i64_w, i32_w]
            rfl
          refine take_ (i := 13) (N := some 58) (v := ?_) (a' := ?_) #[true, true, true, true, true, true, true, true, true, true, true, true, true, true, true, false, false, false, false, false] rfl rfl (take_ofW HT_.out HW_.out (by kernel_rfl)) (fun _ _ _ h => h) (Or.inl ⟨by rfl, ?_⟩) hHeld ?_ ?_
          rotate_left
          · rintro w' ⟨s0, s1, s2, s3⟩
            go_simp
            with_reducible rfl
          rotate_left
          · simp only [Act.put, List.setIfInBounds_toArray, List.set_cons_zero, List.set_cons_succ, i64_w, i32_w]
            rfl
          refine take_ (i := 15) (N := some 60) (v := ?_) (a' := ?_) #[true, true, true, true, true, true, true, true, true, true, true, true, true, true, true, true, false, false, false, false] rfl rfl (take_ofW HT_.out HW_.out (by kernel_rfl)) (fun _ _ _ h => h) (Or.inl ⟨by rfl, ?_⟩) hHeld ?_ ?_
          rotate_left
          · rintro w' ⟨s0, s1, s2, s3⟩
            go_simp
            with_reducible rfl
          rotate_left
          · simp only [Act.put, List.setIfInBounds_toArray, List.set_cons_zero, List.set_cons_succ, i64_w, i32_w]
            rfl
          refine one_ (i := 16) (N := some 61) #[true, true, true, true, true, true, true, true, true, true, true, true, true, true, true, true, true, false, false, false] rfl rfl (one_of HT_.out (by kernel_rfl)) (by decide) (fun K hK => ?_)
          refine value_ (w1 := ?_) (v := ?_) (by rfl) rfl ?_ ?_
          rotate_left 2
          · go_simp
            constructor
            · rfl
            · rfl
          refine hK.out _ _ ⟨cell_al _ z0, cell_al _ z1, cell_al _ z2, cell_al _ z3⟩ (fun hHeld => ?_)
          clear hK K
          refine norm_ (a' := ?_) ?_ ?_
          rotate_left
          · show Act.put _ (some 61) _ = _
            simp only [Act.put, List.setIfInBounds_toArray, List.set_cons_zero, List.set_cons_succ, i64_w, i32_w]
            rfl
          refine one_ (i := 17) (N := some 62) #[true, true, true, true, true, true, true, true, true, true, true, true, true, true, true, true, true, true, false, false] rfl rfl (one_of HT_.out (by kernel_rfl)) (by decide) (fun K hK => ?_)
          refine step_append_lies _ (by rfl) _ _ _ (by rfl) w.heap.size 3 i3 _ 1 8 Try.underlying30 I3.out.1 I3.out.2.1 I3.out.2.2.1 I3.out.2.2.2 rfl (by omega) (.slice A M c0) M X (by rfl) (Ownd.out.alloc _) ⟨w5.heap.size, 0, none⟩ 1 1 [.int .i64 n1] (by rfl) (by rfl) (World.news_of_block (cs := #[.int .i64 n1]) (t := 3) (fr := (0, 0)) (heap_alloc_new w5 _)) (by simp [Value.oneCell']) (by omega) (by simp [maxLen]; omega) (by omega) (by simp; have := sz.out; omega) (w5.heap.size + 1) (by simp) ?_
          intro gg cap W2 hown hgrow hat hlt
          have HP : ∃ v, v = .slice (some ⟨gg, 0, none⟩) (M + 1) cap ∧ W2.heap[gb]? = some (.cells #[.slice (some ⟨g true, 0, none⟩) N N, .slice (some ⟨g false, 0, none⟩) N N] 76 (0, 0)) ∧ Hdr W2 w.heap.size N g val ∧ W2.heap[gx]? = some (.cells #[.int .i64 n0, .int .i64 n1] 44 (0, 0)) ∧ Mid w (W2.setCell ⟨g true, n0, none⟩ v) gb gx N g ⟨n0, n1⟩ (upd val true n0 v) (upd XX true n0 (XX true n0 ++ [(n1 : Int)])) := (HMd.out.alloc (.cells #[.int .i64 n1] 3)).append b0 Ev.out HM1.out.1 (HM1.out.2 ▸ hown) hgrow (by simpa using hat)
          obtain ⟨v, hv, hb2, hh2, hx2, hm2⟩ := HP
          subst hv
          have HM2 := Aside0.mk hm2
          have s3 : W2.cell? ⟨g true, n0, none⟩ = some (.slice A M c0) := (hh2.cell true b0).trans (congrArg some Ev.out)
          have f3 := hh2.frozen true n0
          have q0 : W2.cell? ⟨gb, 0, none⟩ = some (.slice (some ⟨g true, 0, none⟩) N N) := (blk_cell hb2 0).trans rfl
          have q1 : W2.cell? ⟨gx, 0, none⟩ = some (.int .i64 n0) := (blk_cell hx2 0).trans rfl
          have q2 : W2.cell? ⟨gx, 1, none⟩ = some (.int .i64 n1) := (blk_cell hx2 1).trans rfl
          clear hown hgrow hat hlt hb2 hh2 hx2 hm2
          refine hK.out _ _ ⟨q0, q1, q2, s3⟩ (fun hHeld => ?_)
          clear hK K
          refine norm_ (a' := ?_) ?_ ?_
          rotate_left
          · show Act.put _ (some 62) _ = _
            simp only [Act.put, List.setIfInBounds_toArray, List.set_cons_zero, List.set_cons_succ, i64_w, i32_w]
            rfl
          refine pure_ (i := 18) (N := some 63) (v := ?_) (a' := ?_) #[true, true, true, true, true, true, true, true, true, true, true, true, true, true, true, true, true, true, true, false] rfl rfl (any_of HT_.out (by kernel_rfl)) (fun _ _ _ h => h) (Or.inl ⟨by rfl, ?_⟩) ?_ ?_
          rotate_left
          · intro w'
            go_simp
            with_reducible rfl
          rotate_left
          · simp only [Act.put, List.setIfInBounds_toArray, List.set_cons_zero, List.set_cons_succ, i64_w, i32_w]
            rfl
          refine last_ (i := 19) (N := none) #[true, true, true, true, true, true, true, true, true, true, true, true, true, true, true, true, true, true, true, true] rfl rfl (one_of HT_.out (by kernel_rfl)) (by decide) (fun K hK => ?_)
          refine skip_ (w1 := ?_) (by rfl) rfl ?_ ?_
          rotate_left
          · go_simp
            rfl
          refine hK.out _ _ ?_
          clear hK K
          refine done_ (done_of HT_.out (by kernel_rfl)) ?_

          all_goals
            go_wp2_with fail
            go_meet
            case rel => exact ⟨rfl, ⟨_, ⟨HM2.out⟩⟩⟩
        case rest =>
          clear HM
          obtain ⟨rfl, v1, HM⟩ := hcut
          obtain ⟨val0, hval0⟩ : ∃ z, z = upd val true n0 v1 := ⟨_, rfl⟩
          obtain ⟨XX0, hXX0⟩ : ∃ z, z = upd XX true n0 (XX true n0 ++ [(n1 : Int)]) := ⟨_, rfl⟩
          rw [← hval0, ← hXX0] at HM
          have HLX0 := Aside0.mk (show (XX0 false n1).length ≤ 65535 by rw [hXX0, upd_ne _ _ _ _ (by simp)]; exact HLX.out false n1)
          have HXX0 := Aside0.mk hXX0
          clear hval0 hXX0 HLX
          go_upto_region 12 with fail
          obtain ⟨A, c0, ev⟩ := row_form (HM.out.hr.own false n1 b1)
          have own := HM.out.hr.own false n1 b1
          have z0 : wc.cell? ⟨gb, 1, none⟩ = some (.slice (some ⟨g false, 0, none⟩) N N) := (blk_cell HM.out.hb 1).trans rfl
          have z1 : wc.cell? ⟨gx, 0, none⟩ = some (.int .i64 n0) := (blk_cell HM.out.bx 0).trans rfl
          have z2 : wc.cell? ⟨gx, 1, none⟩ = some (.int .i64 n1) := (blk_cell HM.out.bx 1).trans rfl
          have z3 := HM.out.hh.cell false b1
          rw [ev] at own z3
          have LX := Aside0.mk (show (XX0 false n1).length ≤ 65536 from Nat.le_trans (HLX0.out) (by decide))
          obtain ⟨M, hM⟩ : ∃ M, M = (XX0 false n1).length := ⟨_, rfl⟩
          obtain ⟨X, hX⟩ : ∃ X, X = (XX0 false n1).map (Value.int .i64) := ⟨_, rfl⟩
          have LM : M ≤ 65536 := by rw [hM]; exact LX.out
          rw [← hM] at own z3 ev
          rw [← hX] at own
          have HM1 := Aside0.mk (And.intro hM hX)
          have Ev := Aside0.mk ev
          have Own := Aside0.mk own
          have sz := Aside0.mk (below_size HM.out.bel)
          have y0 := fun o => cell_al o z0
          have y1 := fun o => cell_al o z1
          have y2 := fun o => cell_al o z2
          have y3 := fun o => cell_al o z3
          clear hM hX ev own
          have HMd := Aside0.mk HM.out.drew
          have Ownd := Aside0.mk (show World.ownsRow wc.drew w.heap.size 3 1 (.slice A M c0) M X from Own.out)
          replace z0 : wc.drew.cell? ⟨gb, 1, none⟩ = some (.slice (some ⟨g false, 0, none⟩) N N) := z0
          replace z1 : wc.drew.cell? ⟨gx, 0, none⟩ = some (.int .i64 n0) := z1
          replace z2 : wc.drew.cell? ⟨gx, 1, none⟩ = some (.int .i64 n1) := z2
          replace z3 : wc.drew.cell? ⟨g false, n1, none⟩ = some (.slice A M c0) := z3
          clear y0 y1 y2 y3 HM Own sz
          refine start_ (n := 20) (S := fun w' => w'.cell? ⟨gb, 1, none⟩ = some (.slice (some ⟨g false, 0, none⟩) N N) ∧ w'.cell? ⟨gx, 0, none⟩ = some (.int .i64 n0) ∧ w'.cell? ⟨gx, 1, none⟩ = some (.int .i64 n1) ∧ w'.cell? ⟨g false, n1, none⟩ = some (.slice A M c0)) (ds := [19]) #[false, false, false, false, false, false, false, false, false, false, false, false, false, false, false, false, false, false, false, false] (by kernel_rfl) rfl rfl ⟨z0, z1, z2, z3⟩ (fun hHeld => ?_)
          refine with_tabW NewR.tab12 NewR.bits12 (fun HT_ HW_ => ?_)
          generalize wc.drew = w5 at z0 z1 z2 z3 HMd Ownd hHeld ⊢
          have sz := Aside0.mk (below_size HMd.out.bel)
          refine pure_ (i := 0) (N := some 64) (v := ?_) (a' := ?_) #[true, false, false, false, false, false, false, false, false, false, false, false, false, false, false, false, false, false, false, false] rfl rfl (any_of HT_.out (by kernel_rfl)) (fun _ _ _ h => h) (Or.inl ⟨by rfl, ?_⟩) ?_ ?_
          rotate_left
          · intro w'
            go_simp
            with_reducible rfl
          rotate_left
          · simp only [Act.put, List.setIfInBounds_toArray, List.set_cons_zero, List.set_cons_succ, i64_w, i32_w]
            rfl
          refine pure_ (i := 1) (N := some 65) (v := ?_) (a' := ?_) #[true, true, false, false, false, false, false, false, false, false, false, false, false, false, false, false, false, false, false, false] rfl rfl (any_of HT_.out (by kernel_rfl)) (fun _ _ _ h => h) (Or.inl ⟨by rfl, ?_⟩) ?_ ?_
          rotate_left
          · intro w'
            go_simp
            with_reducible rfl
          rotate_left
          · simp only [Act.put, List.setIfInBounds_toArray, List.set_cons_zero, List.set_cons_succ, i64_w, i32_w]
            rfl
          refine pure_ (i := 2) (N := some 66) (v := ?_) (a' := ?_) #[true, true, true, false, false, false, false, false, false, false, false, false, false, false, false, false, false, false, false, false] rfl rfl (any_of HT_.out (by kernel_rfl)) (fun _ _ _ h => h) (Or.inl ⟨by rfl, ?_⟩) ?_ ?_
          rotate_left
          · intro w'
            go_simp
            with_reducible rfl
          rotate_left
          · simp only [Act.put, List.setIfInBounds_toArray, List.set_cons_zero, List.set_cons_succ, i64_w, i32_w]
            rfl
          refine pure_ (i := 4) (N := some 68) (v := ?_) (a' := ?_) #[true, true, true, false, true, false, false, false, false, false, false, false, false, false, false, false, false, false, false, false] rfl rfl (any_of HT_.out (by kernel_rfl)) (fun _ _ _ h => h) (Or.inl ⟨by rfl, ?_⟩) ?_ ?_
          rotate_left
          · intro w'
            go_simp
            with_reducible rfl
          rotate_left
          · simp only [Act.put, List.setIfInBounds_toArray, List.set_cons_zero, List.set_cons_succ, i64_w, i32_w]
            rfl
          refine pure_ (i := 6) (N := some 70) (v := ?_) (a' := ?_) #[true, true, true, false, true, false, true, false, false, false, false, false, false, false, false, false, false, false, false, false] rfl rfl (any_of HT_.out (by kernel_rfl)) (fun _ _ _ h => h) (Or.inl ⟨by rfl, ?_⟩) ?_ ?_
          rotate_left
          · intro w'
            go_simp
            with_reducible rfl
          rotate_left
          · simp only [Act.put, List.setIfInBounds_toArray, List.set_cons_zero, List.set_cons_succ, i64_w, i32_w]
            rfl
          refine pure_ (i := 7) (N := some 71) (v := ?_) (a' := ?_) #[true, true, true, false, true, false, true, true, false, false, false, false, false, false, false, false, false, false, false, false] rfl rfl (any_of HT_.out (by kernel_rfl)) (fun _ _ _ h => h) (Or.inl ⟨by rfl, ?_⟩) ?_ ?_
          rotate_left
          · intro w'
            go_simp
            with_reducible rfl
          rotate_left
          · simp only [Act.put, List.setIfInBounds_toArray, List.set_cons_zero, List.set_cons_succ, i64_w, i32_w]
            rfl
          refine pure_ (i := 8) (N := some 72) (v := ?_) (a' := ?_) #[true, true, true, false, true, false, true, true, true, false, false, false, false, false, false, false, false, false, false, false] rfl rfl (any_of HT_.out (by kernel_rfl)) (fun _ _ _ h => h) (Or.inl ⟨by rfl, ?_⟩) ?_ ?_
          rotate_left
          · intro w'
            go_simp
            with_reducible rfl
          rotate_left
          · simp only [Act.put, List.setIfInBounds_toArray, List.set_cons_zero, List.set_cons_succ, i64_w, i32_w]
            rfl
          refine pure_ (i := 10) (N := some 74) (v := ?_) (a' := ?_) #[true, true, true, false, true, false, true, true, true, false, true, false, false, false, false, false, false, false, false, false] rfl rfl (any_of HT_.out (by kernel_rfl)) (fun _ _ _ h => h) (Or.inl ⟨by rfl, ?_⟩) ?_ ?_
          rotate_left
          · intro w'
            go_simp
            with_reducible rfl
          rotate_left
          · simp only [Act.put, List.setIfInBounds_toArray, List.set_cons_zero, List.set_cons_succ, i64_w, i32_w]
            rfl
          refine pure_ (i := 14) (N := some 78) (v := ?_) (a' := ?_) #[true, true, true, false, true, false, true, true, true, false, true, false, false, false, true, false, false, false, false, false] rfl rfl (any_of HT_.out (by kernel_rfl)) (fun _ _ _ h => h) (Or.inl ⟨by rfl, ?_⟩) ?_ ?_
          rotate_left
          · intro w'
            go_simp
            with_reducible rfl
          rotate_left
          · simp only [Act.put, List.setIfInBounds_toArray, List.set_cons_zero, List.set_cons_succ, i64_w, i32_w]
            rfl
          refine take_ (i := 3) (N := some 67) (v := ?_) (a' := ?_) #[true, true, true, true, true, false, true, true, true, false, true, false, false, false, true, false, false, false, false, false] rfl rfl (take_ofW HT_.out HW_.out (by kernel_rfl)) (fun _ _ _ h => h) (Or.inl ⟨by rfl, ?_⟩) hHeld ?_ ?_
          rotate_left
          · rintro w' ⟨s0, s1, s2, s3⟩
            go_simp
            with_reducible rfl
          rotate_left
          · simp only [Act.put, List.setIfInBounds_toArray, List.set_cons_zero, List.set_cons_succ, i64_w, i32_w]
            rfl
          refine take_ (i := 5) (N := some 69) (v := ?_) (a' := ?_) #[true, true, true, true, true, true, true, true, true, false, true, false, false, false, true, false, false, false, false, false] rfl rfl (take_ofW HT_.out HW_.out (by kernel_rfl)) (fun _ _ _ h => h) (Or.inl ⟨by rfl, ?_⟩) hHeld ?_ ?_
          rotate_left
          · rintro w' ⟨s0, s1, s2, s3⟩
            go_simp
            with_reducible rfl
          rotate_left
          · simp only [Act.put, List.setIfInBounds_toArray, List.set_cons_zero, List.set_cons_succ, i64_w, i32_w]
            rfl
          refine take_ (i := 9) (N := some 73) (v := ?_) (a' := ?_) #[true, true, true, true, true, true, true, true, true, true, true, false, false, false, true, false, false, false, false, false] rfl rfl (take_ofW HT_.out HW_.out (by kernel_rfl)) (fun _ _ _ h => h) (Or.inl ⟨by rfl, ?_⟩) hHeld ?_ ?_
          rotate_left
          · rintro w' ⟨s0, s1, s2, s3⟩
            go_simp
            with_reducible rfl
          rotate_left
          · simp only [Act.put, List.setIfInBounds_toArray, List.set_cons_zero, List.set_cons_succ, i64_w, i32_w]
            rfl
          refine take_ (i := 11) (N := some 75) (v := ?_) (a' := ?_) #[true, true, true, true, true, true, true, true, true, true, true, true, false, false, true, false, false, false, false, false] rfl rfl (take_ofW HT_.out HW_.out (by kernel_rfl)) (fun _ _ _ h => h) (Or.inl ⟨by rfl, ?_⟩) hHeld ?_ ?_
          rotate_left
          · rintro w' ⟨s0, s1, s2, s3⟩
            go_simp
            with_reducible rfl
          rotate_left
          · simp only [Act.put, List.setIfInBounds_toArray, List.set_cons_zero, List.set_cons_succ, i64_w, i32_w]
            rfl
          refine pure_ (i := 12) (N := some 76) (v := ?_) (a' := ?_) #[true, true, true, true, true, true, true, true, true, true, true, true, true, false, true, false, false, false, false, false] rfl rfl (any_of HT_.out (by kernel_rfl)) (fun _ _ _ h => h) (Or.inl ⟨by rfl, ?_⟩) ?_ ?_
          rotate_left
          · intro w'
            go_simp
            with_reducible rfl
          rotate_left
          · simp only [Act.put, List.setIfInBounds_toArray, List.set_cons_zero, List.set_cons_succ, i64_w, i32_w]
            rfl
          refine take_ (i := 13) (N := some 77) (v := ?_) (a' := ?_) #[true, true, true, true, true, true, true, true, true, true, true, true, true, true, true, false, false, false, false, false] rfl rfl (take_ofW HT_.out HW_.out (by kernel_rfl)) (fun _ _ _ h => h) (Or.inl ⟨by rfl, ?_⟩) hHeld ?_ ?_
          rotate_left
          · rintro w' ⟨s0, s1, s2, s3⟩
            go_simp
            with_reducible rfl
          rotate_left
          · simp only [Act.put, List.setIfInBounds_toArray, List.set_cons_zero, List.set_cons_succ, i64_w, i32_w]
            rfl
          refine take_ (i := 15) (N := some 79) (v := ?_) (a' := ?_) #[true, true, true, true, true, true, true, true, true, true, true, true, true, true, true, true, false, false, false, false] rfl rfl (take_ofW HT_.out HW_.out (by kernel_rfl)) (fun _ _ _ h => h) (Or.inl ⟨by rfl, ?_⟩) hHeld ?_ ?_
          rotate_left
          · rintro w' ⟨s0, s1, s2, s3⟩
            go_simp
            with_reducible rfl
          rotate_left
          · simp only [Act.put, List.setIfInBounds_toArray, List.set_cons_zero, List.set_cons_succ, i64_w, i32_w]
            rfl
          refine one_ (i := 16) (N := some 80) #[true, true, true, true, true, true, true, true, true, true, true, true, true, true, true, true, true, false, false, false] rfl rfl (one_of HT_.out (by kernel_rfl)) (by decide) (fun K hK => ?_)
          refine value_ (w1 := ?_) (v := ?_) (by rfl) rfl ?_ ?_
          rotate_left 2
          · go_simp
            constructor
            · rfl
            · rfl
          refine hK.out _ _ ⟨cell_al _ z0, cell_al _ z1, cell_al _ z2, cell_al _ z3⟩ (fun hHeld => ?_)
          clear hK K
          refine norm_ (a' := ?_) ?_ ?_
          rotate_left
          · show Act.put _ (some 80) _ = _
            simp only [Act.put, List.setIfInBounds_toArray, List.set_cons_zero, List.set_cons_succ, i64_w, i32_w]
            rfl
          refine one_ (i := 17) (N := some 81) #[true, true, true, true, true, true, true, true, true, true, true, true, true, true, true, true, true, true, false, false] rfl rfl (one_of HT_.out (by kernel_rfl)) (by decide) (fun K hK => ?_)
          refine step_append_lies _ (by rfl) _ _ _ (by rfl) w.heap.size 3 i3 _ 1 8 Try.underlying30 I3.out.1 I3.out.2.1 I3.out.2.2.1 I3.out.2.2.2 rfl (by omega) (.slice A M c0) M X (by rfl) (Ownd.out.alloc _) ⟨w5.heap.size, 0, none⟩ 1 1 [.int .i64 n0] (by rfl) (by rfl) (World.news_of_block (cs := #[.int .i64 n0]) (t := 3) (fr := (0, 0)) (heap_alloc_new w5 _)) (by simp [Value.oneCell']) (by omega) (by simp [maxLen]; omega) (by omega) (by simp; have := sz.out; omega) (w5.heap.size + 1) (by simp) ?_
          intro gg cap W4 hown hgrow hat hlt
          have HP : ∃ v, v = .slice (some ⟨gg, 0, none⟩) (M + 1) cap ∧ W4.heap[gb]? = some (.cells #[.slice (some ⟨g true, 0, none⟩) N N, .slice (some ⟨g false, 0, none⟩) N N] 76 (0, 0)) ∧ Hdr W4 w.heap.size N g val0 ∧ W4.heap[gx]? = some (.cells #[.int .i64 n0, .int .i64 n1] 44 (0, 0)) ∧ Mid w (W4.setCell ⟨g false, n1, none⟩ v) gb gx N g ⟨n0, n1⟩ (upd val0 false n1 v) (upd XX0 false n1 (XX0 false n1 ++ [(n0 : Int)])) := (HMd.out.alloc (.cells #[.int .i64 n0] 3)).append b1 Ev.out HM1.out.1 (HM1.out.2 ▸ hown) hgrow (by simpa using hat)
          obtain ⟨v, hv, hb2, hh2, hx2, hm2⟩ := HP
          subst hv
          have HM2 := Aside0.mk hm2
          have s3 : W4.cell? ⟨g false, n1, none⟩ = some (.slice A M c0) := (hh2.cell false b1).trans (congrArg some Ev.out)
          have f3 := hh2.frozen false n1
          have q0 : W4.cell? ⟨gb, 1, none⟩ = some (.slice (some ⟨g false, 0, none⟩) N N) := (blk_cell hb2 1).trans rfl
          have q1 : W4.cell? ⟨gx, 0, none⟩ = some (.int .i64 n0) := (blk_cell hx2 0).trans rfl
          have q2 : W4.cell? ⟨gx, 1, none⟩ = some (.int .i64 n1) := (blk_cell hx2 1).trans rfl
          clear hown hgrow hat hlt hb2 hh2 hx2 hm2
          refine hK.out _ _ ⟨q0, q1, q2, s3⟩ (fun hHeld => ?_)
          clear hK K
          refine norm_ (a' := ?_) ?_ ?_
          rotate_left
          · show Act.put _ (some 81) _ = _
            simp only [Act.put, List.setIfInBounds_toArray, List.set_cons_zero, List.set_cons_succ, i64_w, i32_w]
            rfl
          refine pure_ (i := 18) (N := some 82) (v := ?_) (a' := ?_) #[true, true, true, true, true, true, true, true, true, true, true, true, true, true, true, true, true, true, true, false] rfl rfl (any_of HT_.out (by kernel_rfl)) (fun _ _ _ h => h) (Or.inl ⟨by rfl, ?_⟩) ?_ ?_
          rotate_left
          · intro w'
            go_simp
            with_reducible rfl
          rotate_left
          · simp only [Act.put, List.setIfInBounds_toArray, List.set_cons_zero, List.set_cons_succ, i64_w, i32_w]
            rfl
          refine last_ (i := 19) (N := none) #[true, true, true, true, true, true, true, true, true, true, true, true, true, true, true, true, true, true, true, true] rfl rfl (one_of HT_.out (by kernel_rfl)) (by decide) (fun K hK => ?_)
          refine skip_ (w1 := ?_) (by rfl) rfl ?_ ?_
          rotate_left
          · go_simp
            rfl
          refine hK.out _ _ ?_
          clear hK K
          refine done_ (done_of HT_.out (by kernel_rfl)) ?_

          all_goals
            go_wp2_with fail
            go_roundg k1
            case measure => omega
            case rel => exact ⟨i + 1, by go_num, by omega, ⟨⟨⟨g, _, HM2.out.hb, HM2.out.hh, by rw [← ends_upd es i n0 n1 Hx.out, ← HXX.out, ← HXX0.out]; exact HM2.out.hr⟩, HM2.out.bel⟩⟩⟩
theorem New_calls (N : Nat) (A : Option Addr) (c : Nat) (es : List S44) (w : World) (hN : N ≤ 4096) (hE : es.length ≤ 65536) (hok : ∀ e, e ∈ es → okEdge N e) (hr : k44.C w A es.length es) :
    Calls Try.prog 33 #[.int .i64 N, .slice A es.length c] w fun e w' => ∃ b, e = .returned (.tuple #[.pointer (some ⟨b, 0, none⟩), .int .i64 0]) ∧ IsG w' b (rowsOf N es true) (rowsOf N es false) ∧ Below w.heap.size w w' :=
  (New_keeps N A c es w hN hE hok hr).mono fun e w' ⟨b, h1, h2, h3⟩ => ⟨b, h1, h2.here, h3⟩
end Go.Proofs.Ythkgfmjgilkdeaa
