/- Several texts of this session in one file. -/
import Derived.Test.YthkgfmjgilkdeaaMA
import Derived.Test.YthkgfmjgilkdeaaWTab
import Derived.Lib.Walk
import Derived.Deep.CutRange
import Derived.Test.YthkgfmjgilkdeaaQx1
/- The closure of Path, slices.IndexFunc at it. -/
namespace Go.Proofs.Ythkgfmjgilkdeaa
set_option linter.unusedVariables false
set_option linter.unusedSimpArgs false
open Go.RowKit Go.Shelf Go.Proofs.Ythkgfmjgilkdeaa.Q Go.Proofs.YthkgfmjgilkdeaaW.PrintWords Go.Proofs.YthkgfmjgilkdeaaW.PrintLast Go.Proofs.YthkgfmjgilkdeaaW.PrintMore
theorem blk_far' {W : World} {g : Nat} {o : Obj} (h : W.heap[g]? = some o) (F j : Nat) (v : Value) (hne : g ≠ F) : (W.setCell ⟨F, j, none⟩ v).heap[g]? = some o := (Below.heap_setCell W ⟨F, j, none⟩ v g hne).trans h
def ints (d : List Int) : Array Value := (d.map (Value.int .i64)).toArray
theorem ints_cell {W : World} {F : Nat} {d : List Int} (h : W.heap[F]? = some (.cells (ints d) 3 (0, 0))) (n : Nat) (hn : n < d.length) : W.cell? ⟨F, n, none⟩ = some (.int .i64 (rd d (n : Int))) := by
  rw [blk_cell h n]
  unfold ints rd
  simp [hn]
theorem ints_set (d : List Int) (n : Nat) (v : Int) : (ints d).setIfInBounds n (.int .i64 v) = ints (d.set n v) := by
  unfold ints
  simp [List.map_set]
theorem negs_ints (N : Nat) : (negs N).toArray = ints (List.replicate N (-1)) := by unfold negs ints; simp
def P45.T1 : Bool × List (List Nat × List Nat) := (true, [([], []), ([], []), ([0, 1], [0, 1]), ([2], [2]), ([], []), ([], []), ([4, 5], [4, 5]), ([6], [6]), ([7], [7]), ([3, 8], [3, 8]), ([9, 0, 1, 2, 3, 4, 5, 6, 7, 8, 9], [9])])
def P45.B1 : List Nat := [0, 0, 3, 7, 0, 0, 48, 112, 240, 511, 1023]
theorem P45.tab1 : rtab .any (opsOf Try.f45 1) = P45.T1 := by kernel_rfl
theorem P45.bits1 : waitsOk P45.T1.2 P45.B1 = true := by kernel_rfl
set_option maxHeartbeats 2000000 in
set_option maxRecDepth 100000 in
theorem closure45 {W : World} {b8 b13 F N : Nat} {d : List Int} (h8 : W.cell? ⟨b8, 0, none⟩ = some (.slice (some ⟨F, 0, none⟩) N N)) (hF : W.heap[F]? = some (.cells (ints d) 3 (0, 0))) (hd : d.length = N) (n x : Nat) (h13 : W.cell? ⟨b13, 0, none⟩ = some (.int .i64 n)) (hn : n < N) (hx : x < N) :
    Calls Try.prog 45 #[.int .i64 x, .pointer (some ⟨b8, 0, none⟩), .pointer (some ⟨b13, 0, none⟩)] W fun e w' => e = .returned (.bool (rd d (x : Int) == wrap64 (rd d (n : Int) - 1))) ∧ Drawn0 W w' := by
  have z0 : W.drew.cell? ⟨b8, 0, none⟩ = some (.slice (some ⟨F, 0, none⟩) N N) := h8
  have z1 : W.drew.cell? ⟨b13, 0, none⟩ = some (.int .i64 n) := h13
  have z2 : W.drew.cell? ⟨F, x, none⟩ = some (.int .i64 (rd d (x : Int))) := ints_cell hF x (by omega)
  have z3 : W.drew.cell? ⟨F, n, none⟩ = some (.int .i64 (rd d (n : Int))) := ints_cell hF n (by omega)
  have m0 : (0 : Int) ≤ (x : Int) := by omega
  have m1 : (0 : Int) ≤ (n : Int) := by omega
  have m2 : (x : Int) < (N : Int) := by omega
  have m3 : (n : Int) < (N : Int) := by omega
  obtain ⟨u, hu⟩ : ∃ u, u = rd d (x : Int) := ⟨_, rfl⟩
  obtain ⟨v, hv⟩ : ∃ v, v = rd d (n : Int) := ⟨_, rfl⟩
  rw [← hu] at z2 ⊢
  rw [← hv] at z3 ⊢
  clear hu hv h8 hF h13 hd hn hx
  go_enter Try.func45, Try.ntmps45
  go_upto_region 1 with fail
  refine start_ (n := 11) (S := fun w' => w'.cell? ⟨b8, 0, none⟩ = some (.slice (some ⟨F, 0, none⟩) N N) ∧ w'.cell? ⟨b13, 0, none⟩ = some (.int .i64 n) ∧ w'.cell? ⟨F, x, none⟩ = some (.int .i64 u) ∧ w'.cell? ⟨F, n, none⟩ = some (.int .i64 v)) (ds := []) #[false, false, false, false, false, false, false, false, false, false, false] (by kernel_rfl) rfl rfl ⟨z0, z1, z2, z3⟩ (fun hHeld => ?_)
  refine with_tabW P45.tab1 P45.bits1 (fun HT_ HW_ => ?_)
  refine pure_ (i := 1) (N := some 6) (v := ?_) (a' := ?_) #[false, true, false, false, false, false, false, false, false, false, false] rfl rfl (any_of HT_.out (by kernel_rfl)) (fun _ _ _ h => h) (Or.inl ⟨by rfl, ?_⟩) ?_ ?_
  rotate_left
  · intro w'
    go_simp
    with_reducible rfl
  rotate_left
  · simp only [Act.put, List.setIfInBounds_toArray, List.set_cons_zero, List.set_cons_succ, i64_w, i32_w]
    rfl
  refine take_ (i := 0) (N := some 5) (v := ?_) (a' := ?_) #[true, true, false, false, false, false, false, false, false, false, false] rfl rfl (take_ofW HT_.out HW_.out (by kernel_rfl)) (fun _ _ _ h => h) (Or.inl ⟨by rfl, ?_⟩) hHeld ?_ ?_
  rotate_left
  · rintro w' ⟨s0, s1, s2, s3⟩
    go_simp
    with_reducible rfl
  rotate_left
  · simp only [Act.put, List.setIfInBounds_toArray, List.set_cons_zero, List.set_cons_succ, i64_w, i32_w]
    rfl
  refine pure_ (i := 2) (N := some 7) (v := ?_) (a' := ?_) #[true, true, true, false, false, false, false, false, false, false, false] rfl rfl (any_of HT_.out (by kernel_rfl)) (fun _ _ _ h => h) (Or.inl ⟨by rfl, ?_⟩) ?_ ?_
  rotate_left
  · intro w'
    go_simp
    with_reducible rfl
  rotate_left
  · simp only [Act.put, List.setIfInBounds_toArray, List.set_cons_zero, List.set_cons_succ, i64_w, i32_w]
    rfl
  refine take_ (i := 3) (N := some 8) (v := ?_) (a' := ?_) #[true, true, true, true, false, false, false, false, false, false, false] rfl rfl (take_ofW HT_.out HW_.out (by kernel_rfl)) (fun _ _ _ h => h) (Or.inl ⟨by rfl, ?_⟩) hHeld ?_ ?_
  rotate_left
  · rintro w' ⟨s0, s1, s2, s3⟩
    go_simp
    with_reducible rfl
  rotate_left
  · simp only [Act.put, List.setIfInBounds_toArray, List.set_cons_zero, List.set_cons_succ, i64_w, i32_w]
    rfl
  refine take_ (i := 4) (N := some 9) (v := ?_) (a' := ?_) #[true, true, true, true, true, false, false, false, false, false, false] rfl rfl (take_ofW HT_.out HW_.out (by kernel_rfl)) (fun _ _ _ h => h) (Or.inl ⟨by rfl, ?_⟩) hHeld ?_ ?_
  rotate_left
  · rintro w' ⟨s0, s1, s2, s3⟩
    go_simp
    with_reducible rfl
  rotate_left
  · simp only [Act.put, List.setIfInBounds_toArray, List.set_cons_zero, List.set_cons_succ, i64_w, i32_w]
    rfl
  refine take_ (i := 5) (N := some 10) (v := ?_) (a' := ?_) #[true, true, true, true, true, true, false, false, false, false, false] rfl rfl (take_ofW HT_.out HW_.out (by kernel_rfl)) (fun _ _ _ h => h) (Or.inl ⟨by rfl, ?_⟩) hHeld ?_ ?_
  rotate_left
  · rintro w' ⟨s0, s1, s2, s3⟩
    go_simp
    with_reducible rfl
  rotate_left
  · simp only [Act.put, List.setIfInBounds_toArray, List.set_cons_zero, List.set_cons_succ, i64_w, i32_w]
    rfl
  refine pure_ (i := 6) (N := some 11) (v := ?_) (a' := ?_) #[true, true, true, true, true, true, true, false, false, false, false] rfl rfl (any_of HT_.out (by kernel_rfl)) (fun _ _ _ h => h) (Or.inl ⟨by rfl, ?_⟩) ?_ ?_
  rotate_left
  · intro w'
    go_simp
    with_reducible rfl
  rotate_left
  · simp only [Act.put, List.setIfInBounds_toArray, List.set_cons_zero, List.set_cons_succ, i64_w, i32_w]
    rfl
  refine take_ (i := 7) (N := some 12) (v := ?_) (a' := ?_) #[true, true, true, true, true, true, true, true, false, false, false] rfl rfl (take_ofW HT_.out HW_.out (by kernel_rfl)) (fun _ _ _ h => h) (Or.inl ⟨by rfl, ?_⟩) hHeld ?_ ?_
  rotate_left
  · rintro w' ⟨s0, s1, s2, s3⟩
    go_simp
    with_reducible rfl
  rotate_left
  · simp only [Act.put, List.setIfInBounds_toArray, List.set_cons_zero, List.set_cons_succ, i64_w, i32_w]
    rfl
  refine pure_ (i := 8) (N := some 13) (v := ?_) (a' := ?_) #[true, true, true, true, true, true, true, true, true, false, false] rfl rfl (any_of HT_.out (by kernel_rfl)) (fun _ _ _ h => h) (Or.inl ⟨by rfl, ?_⟩) ?_ ?_
  rotate_left
  · intro w'
    go_simp
    with_reducible rfl
  rotate_left
  · simp only [Act.put, List.setIfInBounds_toArray, List.set_cons_zero, List.set_cons_succ, i64_w, i32_w]
    rfl
  refine pure_ (i := 9) (N := some 14) (v := ?_) (a' := ?_) #[true, true, true, true, true, true, true, true, true, true, false] rfl rfl (any_of HT_.out (by kernel_rfl)) (fun _ _ _ h => h) (Or.inl ⟨by rfl, ?_⟩) ?_ ?_
  rotate_left
  · intro w'
    go_simp
    with_reducible rfl
  rotate_left
  · simp only [Act.put, List.setIfInBounds_toArray, List.set_cons_zero, List.set_cons_succ, i64_w, i32_w]
    rfl
  refine pure_ (i := 10) (N := some 4) (v := ?_) (a' := ?_) #[true, true, true, true, true, true, true, true, true, true, true] rfl rfl (any_of HT_.out (by kernel_rfl)) (fun _ _ _ h => h) (Or.inl ⟨by rfl, ?_⟩) ?_ ?_
  rotate_left
  · intro w'
    go_simp
    with_reducible rfl
  rotate_left
  · simp only [Act.put, List.setIfInBounds_toArray, List.set_cons_zero, List.set_cons_succ, i64_w, i32_w]
    rfl
  refine done_ (done_of HT_.out (by kernel_rfl)) ?_

  go_wp2_with fail
  go_ret
  exact ⟨rfl, by repeat (first | exact Drawn0.refl _ | apply Drawn0.step)⟩
set_option maxHeartbeats 2000000 in
set_option maxRecDepth 100000 in
theorem IndexFunc_calls {w : World} {A : Option Addr} {c : Nat} {l : List Int} {lb : Array Value} {p : Int → Bool} (hl : kI.C w A l.length l) (hsmall : l.length ≤ 65536)
    (hp : ∀ x, x ∈ l → ∀ q, Calls Try.prog 45 (#[.int .i64 x] ++ lb) (w.drewN q) fun e w' => e = .returned (.bool (p x)) ∧ Drawn0 (w.drewN q) w') (k : Nat) (hk : k < l.length) (hit : p l[k]! = true) (miss : ∀ j, j < k → p l[j]! = false) :
    Calls Try.prog 44 #[.slice A l.length c, .func (.func 45) #[] lb] w fun e w' => e = .returned (.int .i64 k) ∧ Drawn0 w w' := by
  have HL := Aside0.mk hl
  have HP := Aside0.mk hp
  have HIT := Aside0.mk (And.intro hit miss)
  clear hl hp hit miss
  go_enter Try.func44, Try.ntmps44
  go_wp2
  go_loopg [8] (k + 1) (fun kq v8 w' => ∃ (j q : Nat), v8 = .int .i64 j ∧ j + kq = k + 1 ∧ 0 < kq ∧ w' = w.drewN q)
  case atStart => exact ⟨0, 0, rfl, by omega, by omega, rfl⟩
  case round =>
    obtain ⟨j, q, rfl, hj, h0, rfl⟩ := hrel
    cases gk with
    | zero => exact absurd h0 (Nat.lt_irrefl 0)
    | succ k1 =>
      have hjk : j ≤ k := by omega
      have hjl : j < l.length := by omega
      obtain ⟨ad, e0, hx⟩ := Kd.at_int HL.out (j : Int) (by omega) (by omega)
      rw [Int.toNat_natCast] at hx
      subst e0
      have p0 := eq_true (show (0 : Int) ≤ (j : Int) by omega)
      have q0 : ((j : Int) < (l.length : Int)) = True := eq_true (by omega)
      have hxl : rd l (j : Int) = l[j]! := by unfold rd; simp [hjl]
      rw [hxl] at hx
      have hcall := Aside0.mk (HP.out l[j]! (by rw [getElem!_pos l j hjl]; exact List.getElem_mem hjl))
      obtain ⟨y, hy⟩ : ∃ y, y = l[j]! := ⟨_, rfl⟩
      have Hy := Aside0.mk hy
      rw [← hy] at hx hcall
      clear hy hxl
      by_cases e : j = k
      · have hq := Aside0.mk (show p y = true by rw [Hy.out, e]; exact HIT.out.1)
        have E := Aside0.mk e
        clear e
        go_wp2_with (go_at_call 45; refine (hcall.out _).mono ?_; rw [hq.out]; rintro e w' ⟨rfl, ⟨q', rfl⟩⟩)
        go_ret
        exact ⟨by rw [E.out]; rfl, by repeat (first | exact Drawn0.refl _ | apply Drawn0.step)⟩
      · have hq := Aside0.mk (show p y = false by rw [Hy.out]; exact HIT.out.2 j (by omega))
        go_wp2_with (go_at_call 45; refine (hcall.out _).mono ?_; rw [hq.out]; rintro e w' ⟨rfl, ⟨q', rfl⟩⟩)
        go_roundg k1
        case measure => omega
        case rel => exact ⟨j + 1, q + q', by go_num, by omega, by omega, by simp [World.drewN, Nat.add_assoc]⟩
end Go.Proofs.Ythkgfmjgilkdeaa

/- graph.Path. -/
namespace Go.Proofs.Ythkgfmjgilkdeaa
set_option linter.unusedVariables false
set_option linter.unusedSimpArgs false
open Go.RowKit Go.Shelf Go.Proofs.Ythkgfmjgilkdeaa.Q Go.Proofs.YthkgfmjgilkdeaaW.PrintWords Go.Proofs.YthkgfmjgilkdeaaW.PrintLast Go.Proofs.YthkgfmjgilkdeaaW.PrintMore
/-- One node of the queue: the nodes before it that have no distance yet get one, and a place in the queue. -/
def scan (d q : List Int) : List Int → Option (List Int × List Int)
  | [] => some (d, q)
  | n :: ns => if (0 ≤ n ∧ n < d.length) ∧ (0 ≤ rd q 0 ∧ rd q 0 < d.length) ∧ 0 < q.length ∧ q.length < 1099511627776 then
      (if rd d n < 0 then scan (d.set n.toNat (wrap64 (rd d (rd q 0) + 1))) (q ++ [n]) ns else scan d q ns) else none
def bfs : Nat → List (List Int) → List Int → List Int → Option (List Int)
  | 0, _, _, _ => none
  | k + 1, Y, d, q => if 0 < q.length then (if 0 ≤ rd q 0 ∧ rd q 0 < Y.length then (scan d q (row Y (rd q 0))).bind fun s => bfs k Y s.1 (s.2.drop 1) else none) else some d
/-- The way from n on. -/
def way : Nat → List (List Int) → List Int → Int → Int → List Int → Option (List Int)
  | 0, _, _, _, _, _ => none
  | k + 1, X, d, tt, n, p => if n = tt then some p else
      if (0 ≤ n ∧ n < X.length) ∧ (∀ x, x ∈ row X n → 0 ≤ x ∧ x < d.length) ∧ p.length < 1099511627776 then
        ((row X n).find? fun x => rd d x == wrap64 (rd d n - 1)).bind fun x => way k X d tt x (p ++ [x]) else none
/-- While the queue runs. -/
structure Bs (w w' : World) (b8 F N : Nat) (d : List Int) (v : Value) (q : List Int) : Prop where
  h8 : w'.heap[b8]? = some (.cells #[.slice (some ⟨F, 0, none⟩) N N] 30 (0, 0))
  hF : w'.heap[F]? = some (.cells (ints d) 3 (0, 0))
  hd : d.length = N
  hq : kI.Q 3 w' w.heap.size (fun k => k ≠ F) v q
  bel : Below w.heap.size w w'
  g8 : w.heap.size ≤ b8
  gF : w.heap.size ≤ F
theorem q_ne {W : World} {base : Nat} {ok : Nat → Prop} {v : Value} {xs : List Int} (h : kI.Q 3 W base ok v xs) {g t : Nat} {cs : Array Value} (hb : W.heap[g]? = some (.cells cs t (0, 0))) (ht : t ≠ 3) : some g ≠ v.ownBlock := fun e => by
  obtain ⟨_, _, _, q, hq, cells, hc⟩ := (Kd.Q_bound h).1 g e.symm
  rw [hb] at hc; injection hc with hc; injection hc with _ hc
  have hq : q = 3 := by simpa [Kd.int, Kd.scalar] using hq
  exact ht (hc.trans hq)
section
variable {w W : World} {b8 F N : Nat} {d q : List Int} {v : Value}
theorem Bs.drewN (h : Bs w W b8 F N d v q) (n : Nat) : Bs w (W.drewN n) b8 F N d v q := ⟨blk_drewN h.h8 n, blk_drewN h.hF n, h.hd, Kd.Q_drewN h.hq n, pw_below_drewN h.bel n, h.g8, h.gF⟩
theorem Bs.drew (h : Bs w W b8 F N d v q) : Bs w W.drew b8 F N d v q := ⟨blk_drew h.h8, blk_drew h.hF, h.hd, Kd.Q_drew h.hq, below_drew1 h.bel, h.g8, h.gF⟩
theorem Bs.set (h : Bs w W b8 F N d v q) (n : Nat) (x : Int) : Bs w (W.setCell ⟨F, n, none⟩ (.int .i64 x)) b8 F N (d.set n x) v q :=
  ⟨(Below.heap_setCell W ⟨F, n, none⟩ _ b8 (fun e => blk_ne h.h8 h.hF (by decide) e)).trans h.h8, blk_put h.hF n _ (ints_set d n x), by rw [List.length_set]; exact h.hd,
    Kd.Q_step h.hq (fun k hk _ => Below.heap_setCell W ⟨F, n, none⟩ _ k hk), below_set h.bel h.gF, h.g8, h.gF⟩
theorem Bs.cell8 (h : Bs w W b8 F N d v q) : W.cell? ⟨b8, 0, none⟩ = some (.slice (some ⟨F, 0, none⟩) N N) := (blk_cell h.h8 0).trans rfl
theorem Bs.grown {W1 : World} (h : Bs w W b8 F N d v q) {v1 : Value} {q1 : List Int} (hg : W.grownBy W1 v.ownBlock) (hq : kI.Q 3 W1 w.heap.size (fun k => k ≠ F) v1 q1) (hb : Below w.heap.size w W1) : Bs w W1 b8 F N d v1 q1 :=
  ⟨blk_grown h.h8 hg (q_ne h.hq h.h8 (by decide)), blk_grown h.hF hg (fun e => h.hq.1 F e.symm rfl), h.hd, hq, hb, h.g8, h.gF⟩
theorem Bs.cut {g o n c : Nat} (h : Bs w W b8 F N d (.slice (some ⟨g, o, none⟩) n c) q) (hn : 1 ≤ q.length) : Bs w W b8 F N d (.slice (if c = 1 then some ⟨g, o, none⟩ else some ⟨g, o + 1, none⟩) (n - 1) (c - 1)) (q.drop 1) := by
  have := Kd.Q_drop (k := 1) h.hq hn
  refine ⟨h.h8, h.hF, h.hd, ?_, h.bel, h.g8, h.gF⟩
  exact this
end
def PathR.T8 : Bool × List (List Nat × List Nat) := (true, [([], []), ([0], [0]), ([1], [1]), ([2], [2]), ([], []), ([4], [4]), ([5], [5]), ([3, 6], [3, 6]), ([7], [7]), ([8], [8]), ([], [])])
def PathR.B8 : List Nat := [0, 1, 3, 7, 0, 16, 48, 127, 255, 511, 0]
theorem PathR.tab8 : rtab .any (opsOf Try.f25 8) = PathR.T8 := by kernel_rfl
theorem PathR.bits8 : waitsOk PathR.T8.2 PathR.B8 = true := by kernel_rfl
def PathR.T12 : Bool × List (List Nat × List Nat) := (true, [([], []), ([], []), ([], []), ([], []), ([3], [3]), ([4], [4]), ([2, 5], [2, 5]), ([6], [6]), ([7], [7]), ([0, 1, 0, 1, 2, 3, 4, 5, 6, 7, 8], [0, 1]), ([9, 8, 0, 1, 2, 3, 4, 5, 6, 7, 8], [8, 9])])
def PathR.B12 : List Nat := [0, 0, 0, 0, 8, 24, 60, 124, 252, 511, 1023]
theorem PathR.tab12 : rtab .any (opsOf Try.f25 12) = PathR.T12 := by kernel_rfl
theorem PathR.bits12 : waitsOk PathR.T12.2 PathR.B12 = true := by kernel_rfl
def PathR.T20 : Bool × List (List Nat × List Nat) := (true, [([], []), ([0], [0]), ([1], [1]), ([2], [2]), ([], []), ([3, 4], [3, 4]), ([5], [5]), ([], []), ([6, 7], [6, 7]), ([8, 8, 0, 1, 2, 3, 4, 5, 6, 7, 8], [8])])
def PathR.B20 : List Nat := [0, 1, 3, 7, 0, 31, 63, 0, 255, 511]
theorem PathR.tab20 : rtab .any (opsOf Try.f25 20) = PathR.T20 := by kernel_rfl
theorem PathR.bits20 : waitsOk PathR.T20.2 PathR.B20 = true := by kernel_rfl
def PathR.T21 : Bool × List (List Nat × List Nat) := (true, [([], []), ([0], [0]), ([1], [1]), ([2], [2]), ([], []), ([3, 4], [3, 4]), ([5], [5]), ([], []), ([6, 7], [6, 7]), ([8], [8]), ([9, 0, 1, 2, 3, 4, 5, 6, 7, 8, 9], [9])])
def PathR.B21 : List Nat := [0, 1, 3, 7, 0, 31, 63, 0, 255, 511, 1023]
theorem PathR.tab21 : rtab .any (opsOf Try.f25 21) = PathR.T21 := by kernel_rfl
theorem PathR.bits21 : waitsOk PathR.T21.2 PathR.B21 = true := by kernel_rfl
theorem lit_own {W : World} {base : Nat} (x : Int) (hb : base ≤ W.heap.size) : kI.R 3 (W.alloc (.cells #[.int .i64 x] 3)) base (fun k => W.heap.size ≤ k) (.slice (some ⟨W.heap.size, 0, none⟩) 1 1) [x] :=
  Kd.R_of_own (enc := Value.int .i64) (h1 := fun _ => rfl) ⟨rfl, .inr ⟨W.heap.size, 1, #[.int .i64 x], rfl, hb, heap_alloc_last W _, Nat.le_refl _, by decide, rfl, rfl⟩⟩ fun k hk => by
    have hk : W.heap.size = k := by simpa [Value.ownBlock] using hk
    omega
/-- While the way is gone. -/
structure Ws (w w' : World) (b8 F N : Nat) (d : List Int) (b13 n : Nat) (v : Value) (p : List Int) : Prop where
  h8 : w'.heap[b8]? = some (.cells #[.slice (some ⟨F, 0, none⟩) N N] 30 (0, 0))
  hF : w'.heap[F]? = some (.cells (ints d) 3 (0, 0))
  h13 : w'.heap[b13]? = some (.cells #[.int .i64 n] 3 (0, 0))
  hp : kI.R 3 w' w.heap.size (fun k => k ≠ F ∧ k ≠ b13) v p
  bel : Below w.heap.size w w'
  gF : w.heap.size ≤ F
  g13 : w.heap.size ≤ b13
  ne : b13 ≠ F
section
variable {w W W1 : World} {b8 F N b13 n : Nat} {d p p1 : List Int} {v v1 : Value}
theorem Ws.below (h : Ws w W b8 F N d b13 n v p) (hb : Below W.heap.size W W1) : Ws w W1 b8 F N d b13 n v p :=
  ⟨blk_below h.h8 hb, blk_below h.hF hb, blk_below h.h13 hb, Kd.R_below h.hp hb, below_step h.bel hb, h.gF, h.g13, h.ne⟩
theorem Ws.drewN (h : Ws w W b8 F N d b13 n v p) (m : Nat) : Ws w (W.drewN m) b8 F N d b13 n v p := h.below (pw_below_drewN (Below.refl _ _) m)
theorem Ws.drew (h : Ws w W b8 F N d b13 n v p) : Ws w W.drew b8 F N d b13 n v p := h.below (below_drew1 (Below.refl _ _))
theorem Ws.set (h : Ws w W b8 F N d b13 n v p) (x : Nat) : Ws w (W.setCell ⟨b13, 0, none⟩ (.int .i64 x)) b8 F N d b13 x v p :=
  ⟨(Below.heap_setCell W ⟨b13, 0, none⟩ _ b8 (fun e => blk_ne h.h8 h.h13 (by decide) e)).trans h.h8, blk_far' h.hF b13 0 _ (fun e => h.ne e.symm), blk_put h.h13 0 _ rfl,
    Kd.R_far (p := ⟨b13, 0, none⟩) h.hp (fun k hk => hk.2) _, below_set h.bel h.g13, h.gF, h.g13, h.ne⟩
theorem Ws.next (h : Ws w W b8 F N d b13 n v p) (x : Nat) : Ws w (W.alloc (.cells #[.int .i64 x] 3)) b8 F N d W.heap.size x v p :=
  ⟨blk_alloc h.h8 _, blk_alloc h.hF _, heap_alloc_last W _, Kd.R_alloc (Kd.R_mono (Kd.R_bound h.hp) fun k hk => ⟨hk.1.1, fun e => by have := hk.2.2.1; omega⟩) _, below_alloc h.bel _, h.gF, h.bel.size, fun e => by have := blk_lt h.hF; omega⟩
theorem Ws.grown (h : Ws w W b8 F N d b13 n v p) (hg : W.grownBy W1 v.ownBlock) (hp : kI.R 3 W1 w.heap.size (fun k => k ≠ F ∧ k ≠ b13) v1 p1) (hb : Below w.heap.size w W1) : Ws w W1 b8 F N d b13 n v1 p1 :=
  ⟨blk_grown h.h8 hg (Kd.R_ne h.hp h.h8 (by decide)), blk_grown h.hF hg (fun e => (h.hp.1 F e.symm).1 rfl), blk_grown h.h13 hg (fun e => (h.hp.1 b13 e.symm).2 rfl), hp, hb, h.gF, h.g13, h.ne⟩
end
theorem find_at {l : List Int} {q : Int → Bool} {x : Int} (h : l.find? q = some x) : ∃ k, k < l.length ∧ l[k]! = x ∧ q l[k]! = true ∧ ∀ j, j < k → q l[j]! = false := by
  induction l with
  | nil => cases h
  | cons y l ih =>
    rw [List.find?_cons] at h
    cases hy : q y with
    | true =>
      rw [hy] at h
      obtain rfl := Option.some.inj h
      exact ⟨0, by simp, rfl, hy, fun j hj => absurd hj (Nat.not_lt_zero _)⟩
    | false =>
      rw [hy] at h
      obtain ⟨k, hk, e, ht, hf⟩ := ih h
      refine ⟨k + 1, by simp; omega, by simpa using e, by simpa using ht, fun j hj => ?_⟩
      cases j with
      | zero => simpa using hy
      | succ j => simpa using hf j (by omega)
set_option maxHeartbeats 8000000 in
set_option maxRecDepth 100000 in
theorem Path_calls {w : World} {b : Nat} {X Y : List (List Int)} (hG : IsG w b X Y) (fr tt K : Nat) (d : List Int) (hfr : fr < X.length) (htt : tt < X.length) (hd : bfs K Y ((List.replicate X.length (-1)).set tt 0) [(tt : Int)] = some d) (hdl : d.length = X.length) (p : List Int) (hp : 0 ≤ rd d (fr : Int) → way K X d tt fr [(fr : Int)] = some p) :
    Calls Try.prog 25 #[.pointer (some ⟨b, 0, none⟩), .int .i64 fr, .int .i64 tt] w fun e w' => ∃ v, e = .returned (.tuple #[v, .bool (decide (0 ≤ rd d (fr : Int)))]) ∧ kI.R 3 w' w.heap.size (fun _ => True) v (if 0 ≤ rd d (fr : Int) then p else []) ∧ Below w.heap.size w w' := by
  have HG := Aside0.mk hG
  have HB0 := Aside0.mk (Below.refl w.heap.size w)
  have HD := Aside0.mk hd
  have HP := Aside0.mk hp
  have hf1 : isNode X fr = true := by unfold isNode isIn; simp; omega
  have ht1 : isNode X tt = true := by unfold isNode isIn; simp; omega
  have few := hG.few
  obtain ⟨N, hN⟩ : ∃ N, N = X.length := ⟨_, rfl⟩
  have HN := Aside0.mk hN
  have hYl := Aside0.mk hG.same
  rw [← hN] at hfr htt few hdl
  have m0 : (0 : Int) ≤ (tt : Int) := by omega
  have m1 : (tt : Int) < (N : Int) := by omega
  have m2 : (0 : Int) ≤ (fr : Int) := by omega
  have m3 : (fr : Int) < (N : Int) := by omega
  have hu76 := Try.underlying76
  obtain ⟨res, hres⟩ : ∃ z, z = (if 0 ≤ rd d (fr : Int) then p else []) := ⟨_, rfl⟩
  obtain ⟨bb, hbb⟩ : ∃ z, z = decide (0 ≤ rd d (fr : Int)) := ⟨_, rfl⟩
  rw [← hres, ← hbb]
  have HRes := Aside0.mk hres
  have HBb := Aside0.mk hbb
  clear hd hp hN hG hres hbb
  go_enter Try.func25, Try.ntmps25
  go_upto_region 8 with (first | (go_at_call 37; (with_reducible refine (node_calls (X := X) (Y := Y) ?hz _).mono ?_); (case hz => (first | exact HG.out | exact HG.out.drewN _)); (first | (rw [hf1]; rintro e w' ⟨rfl, ⟨q1, rfl⟩⟩) | (rw [ht1]; rintro e w' ⟨rfl, ⟨q2, rfl⟩⟩))) | (go_at_call 20; (with_reducible refine (Nodes_calls (X := X) (Y := Y) ?hz).mono ?_); (case hz => exact (HG.out.drewN _).alloc _); rw [← HN.out]; rintro e w' ⟨rfl, ⟨q3, rfl⟩⟩) | (go_at_call 43; (with_reducible refine (Repeat_calls N _ _ _ (by omega) few ?hz).mono ?_); (case hz => exact (blk_cell (blk_drewN (heap_alloc_last _ _) _) 0).trans rfl); rintro e w1 ⟨F, rfl, hF, hge, hb⟩; have HGE := Aside0.mk (show w.heap.size ≤ F from Nat.le_trans (below_size (by repeat (first | exact HB0.out | apply below_alloc | apply pw_below_drewN))) hge); have HB1 := Aside0.mk (below_step (by repeat (first | exact HB0.out | apply below_alloc | apply pw_below_drewN)) hb); rw [negs_ints] at hF; have HF := Aside0.mk hF; have s1 := fun o => ints_cell (blk_alloc hF o) tt (by simp; omega); have s2 := fun o => blk_frozen (blk_alloc hF o) tt; clear hF hge hb))
  have HS0 := Aside0.mk (show Bs w (((w1.alloc (.cells #[.slice (some ⟨F, 0, none⟩) N N] 30)).setCell ⟨F, tt, none⟩ (.int .i64 0)).alloc (.cells #[.int .i64 tt] 3)) w1.heap.size F N ((List.replicate N (-1)).set tt 0) (.slice (some ⟨w1.heap.size + 1, 0, none⟩) 1 1) [(tt : Int)] from by
    have hq := lit_own (W := (w1.alloc (.cells #[.slice (some ⟨F, 0, none⟩) N N] 30)).setCell ⟨F, tt, none⟩ (.int .i64 0)) (base := w.heap.size) (tt : Int) (by simp [World.setCell]; have := below_size HB1.out; omega)
    have hs : ((w1.alloc (.cells #[.slice (some ⟨F, 0, none⟩) N N] 30)).setCell ⟨F, tt, none⟩ (.int .i64 0)).heap.size = w1.heap.size + 1 := by simp [World.setCell]
    have hFl := blk_lt HF.out
    rw [hs] at hq
    have h8 := blk_far' (heap_alloc_last w1 (.cells #[.slice (some ⟨F, 0, none⟩) N N] 30)) F tt (.int .i64 0) (by omega)
    exact ⟨blk_alloc h8 _, blk_alloc (blk_put (blk_alloc HF.out _) tt _ (ints_set _ _ _)) _, by simp, Kd.Q_mono (Kd.Q_of_R hq) (fun k hk => by omega), below_alloc (below_set (below_alloc HB1.out _) HGE.out) _, below_size HB1.out, HGE.out⟩)
  obtain ⟨b8, hb8⟩ : ∃ z, z = w1.heap.size := ⟨_, rfl⟩
  rw [← HN.out] at HD
  rw [← hb8] at HS0 ⊢
  clear hb8 HF HB1 HGE s1 s2 HB0 hf1 ht1
  go_loopg [9] K (fun kq v9 w' => ∃ (d1 q : List Int), Aside0 (bfs kq Y d1 q = some d) ∧ Aside0 (Bs w w' b8 F N d1 v9 q))
  case atStart => exact ⟨_, _, HD, HS0⟩
  case round =>
    clear HS0 HD
    obtain ⟨d1, q, HD, HS⟩ := hrel
    cases gk with
    | zero => exact absurd HD.out (by simp [bfs])
    | succ k1 =>
      have hbd := HD.out
      rw [bfs] at hbd
      by_cases hq : 0 < q.length
      · rw [if_pos hq] at hbd
        by_cases hq0 : 0 ≤ rd q 0 ∧ rd q 0 < Y.length
        case neg => rw [if_neg hq0] at hbd; cases hbd
        rw [if_pos hq0] at hbd
        obtain ⟨s, hsc, hbd⟩ := Option.bind_eq_some_iff.mp hbd
        have HBD := Aside0.mk hbd
        obtain ⟨g9, o9, c9, rfl, _⟩ := Kd.Q_form HS.out.hq hq
        have yq := (Kd.Q_cell (0 : Int) HS.out.hq 0 (by omega) (by omega)).1
        rw [show o9 + (0 : Int).toNat = o9 from rfl, show rdOf (0 : Int) q 0 = rd q 0 from rfl] at yq
        obtain ⟨n0, hn0⟩ := Int.eq_ofNat_of_zero_le hq0.1
        rw [hn0] at yq hq0
        obtain ⟨gg, hh, cx, cy, hb, hX, hY, -, -⟩ := HG.out.ex
        obtain ⟨ad, A0, c0, e0, hc, hlc, hC⟩ := at_L4 hY (n0 : Int) hq0.1 hq0.2
        rw [Int.toNat_natCast] at hc
        have hYN : Y.length = N := by rw [hYl.out, HN.out]
        have hl : rd_L4 Y (n0 : Int) = row Y (rd q 0) := by rw [hn0, row_in hq0.1 hq0.2]
        rw [hl] at hc hlc hC
        have Hll := Aside0.mk (row_len (X := Y) (rd q 0) HG.out.fewY)
        obtain ⟨l, hl'⟩ : ∃ l, l = row Y (rd q 0) := ⟨_, rfl⟩
        rw [← hl'] at hc hlc hC hsc Hll
        have HC := Aside0.mk (Kd.C_below hC (show Below w.heap.size w wr from HS.out.bel))
        have HC0 := Aside0.mk hC
        subst e0
        rw [hYN] at hq0
        have hn1 : (n0 : Int) < (N : Int) := hq0.2
        have hn2 : (0 : Int) ≤ (n0 : Int) := hq0.1
        have z0 : wr.drew.cell? ⟨b, 1, none⟩ = some (.slice (some ad) N cy) := by rw [← hYN]; exact pw_cell_below HS.out.bel ((blk_cell hb 1).trans rfl)
        have z1 : wr.drew.cell? ⟨g9, o9, none⟩ = some (.int .i64 n0) := yq
        have z2 : wr.drew.cell? (ad.add n0) = some (.slice A0 l.length c0) := pw_cell_below HS.out.bel hc
        have HSC := Aside0.mk hsc
        have HSd := Aside0.mk HS.out.drew
        have hql : (0 : Int) < (q.length : Int) := by omega
        have Hq := Aside0.mk hq
        have Hn0 := Aside0.mk hn0
        clear hbd HD HS yq hc hC hlc hb hX hY hl hl' hsc hq0 hYN hn0 HC
        go_upto_region 8 with fail
        refine start_ (n := 11) (S := fun w' => w'.cell? ⟨b, 1, none⟩ = some (.slice (some ad) N cy) ∧ w'.cell? ⟨g9, o9, none⟩ = some (.int .i64 n0) ∧ w'.cell? (ad.add n0) = some (.slice A0 l.length c0)) (ds := []) #[false, false, false, false, false, false, false, false, false, false, false] (by kernel_rfl) rfl rfl ⟨z0, z1, z2⟩ (fun hHeld => ?_)
        refine with_tabW PathR.tab8 PathR.bits8 (fun HT_ HW_ => ?_)
        generalize wr.drew = w5 at z0 z1 z2 HSd hHeld ⊢
        refine pure_ (i := 0) (N := some 39) (v := ?_) (a' := ?_) #[true, false, false, false, false, false, false, false, false, false, false] rfl rfl (any_of HT_.out (by kernel_rfl)) (fun _ _ _ h => h) (Or.inl ⟨by rfl, ?_⟩) ?_ ?_
        rotate_left
        · intro w'
          go_simp
          with_reducible rfl
        rotate_left
        · simp only [Act.put, List.setIfInBounds_toArray, List.set_cons_zero, List.set_cons_succ, i64_w, i32_w]
          rfl
        refine pure_ (i := 1) (N := some 40) (v := ?_) (a' := ?_) #[true, true, false, false, false, false, false, false, false, false, false] rfl rfl (any_of HT_.out (by kernel_rfl)) (fun _ _ _ h => h) (Or.inl ⟨by rfl, ?_⟩) ?_ ?_
        rotate_left
        · intro w'
          go_simp
          with_reducible rfl
        rotate_left
        · simp only [Act.put, List.setIfInBounds_toArray, List.set_cons_zero, List.set_cons_succ, i64_w, i32_w]
          rfl
        refine pure_ (i := 2) (N := some 41) (v := ?_) (a' := ?_) #[true, true, true, false, false, false, false, false, false, false, false] rfl rfl (any_of HT_.out (by kernel_rfl)) (fun _ _ _ h => h) (Or.inl ⟨by rfl, ?_⟩) ?_ ?_
        rotate_left
        · intro w'
          go_simp
          with_reducible rfl
        rotate_left
        · simp only [Act.put, List.setIfInBounds_toArray, List.set_cons_zero, List.set_cons_succ, i64_w, i32_w]
          rfl
        refine pure_ (i := 4) (N := some 43) (v := ?_) (a' := ?_) #[true, true, true, false, true, false, false, false, false, false, false] rfl rfl (any_of HT_.out (by kernel_rfl)) (fun _ _ _ h => h) (Or.inl ⟨by rfl, ?_⟩) ?_ ?_
        rotate_left
        · intro w'
          go_simp
          with_reducible rfl
        rotate_left
        · simp only [Act.put, List.setIfInBounds_toArray, List.set_cons_zero, List.set_cons_succ, i64_w, i32_w]
          rfl
        refine pure_ (i := 5) (N := some 44) (v := ?_) (a' := ?_) #[true, true, true, false, true, true, false, false, false, false, false] rfl rfl (any_of HT_.out (by kernel_rfl)) (fun _ _ _ h => h) (Or.inl ⟨by rfl, ?_⟩) ?_ ?_
        rotate_left
        · intro w'
          go_simp
          with_reducible rfl
        rotate_left
        · simp only [Act.put, List.setIfInBounds_toArray, List.set_cons_zero, List.set_cons_succ, i64_w, i32_w]
          rfl
        refine pure_ (i := 10) (N := some 49) (v := ?_) (a' := ?_) #[true, true, true, false, true, true, false, false, false, false, true] rfl rfl (any_of HT_.out (by kernel_rfl)) (fun _ _ _ h => h) (Or.inl ⟨by rfl, ?_⟩) ?_ ?_
        rotate_left
        · intro w'
          go_simp
          with_reducible rfl
        rotate_left
        · simp only [Act.put, List.setIfInBounds_toArray, List.set_cons_zero, List.set_cons_succ, i64_w, i32_w]
          rfl
        refine take_ (i := 3) (N := some 42) (v := ?_) (a' := ?_) #[true, true, true, true, true, true, false, false, false, false, true] rfl rfl (take_ofW HT_.out HW_.out (by kernel_rfl)) (fun _ _ _ h => h) (Or.inl ⟨by rfl, ?_⟩) hHeld ?_ ?_
        rotate_left
        · rintro w' ⟨s0, s1, s2⟩
          go_simp
          with_reducible rfl
        rotate_left
        · simp only [Act.put, List.setIfInBounds_toArray, List.set_cons_zero, List.set_cons_succ, i64_w, i32_w]
          rfl
        refine take_ (i := 6) (N := some 45) (v := ?_) (a' := ?_) #[true, true, true, true, true, true, true, false, false, false, true] rfl rfl (take_ofW HT_.out HW_.out (by kernel_rfl)) (fun _ _ _ h => h) (Or.inl ⟨by rfl, ?_⟩) hHeld ?_ ?_
        rotate_left
        · rintro w' ⟨s0, s1, s2⟩
          go_simp
          with_reducible rfl
        rotate_left
        · simp only [Act.put, List.setIfInBounds_toArray, List.set_cons_zero, List.set_cons_succ, i64_w, i32_w]
          rfl
        refine pure_ (i := 7) (N := some 46) (v := ?_) (a' := ?_) #[true, true, true, true, true, true, true, true, false, false, true] rfl rfl (any_of HT_.out (by kernel_rfl)) (fun _ _ _ h => h) (Or.inl ⟨by rfl, ?_⟩) ?_ ?_
        rotate_left
        · intro w'
          go_simp
          with_reducible rfl
        rotate_left
        · simp only [Act.put, List.setIfInBounds_toArray, List.set_cons_zero, List.set_cons_succ, i64_w, i32_w]
          rfl
        refine take_ (i := 8) (N := some 47) (v := ?_) (a' := ?_) #[true, true, true, true, true, true, true, true, true, false, true] rfl rfl (take_ofW HT_.out HW_.out (by kernel_rfl)) (fun _ _ _ h => h) (Or.inl ⟨by rfl, ?_⟩) hHeld ?_ ?_
        rotate_left
        · rintro w' ⟨s0, s1, s2⟩
          go_simp
          with_reducible rfl
        rotate_left
        · simp only [Act.put, List.setIfInBounds_toArray, List.set_cons_zero, List.set_cons_succ, i64_w, i32_w]
          rfl
        refine pure_ (i := 9) (N := some 48) (v := ?_) (a' := ?_) #[true, true, true, true, true, true, true, true, true, true, true] rfl rfl (any_of HT_.out (by kernel_rfl)) (fun _ _ _ h => h) (Or.inl ⟨by rfl, ?_⟩) ?_ ?_
        rotate_left
        · intro w'
          go_simp
          with_reducible rfl
        rotate_left
        · simp only [Act.put, List.setIfInBounds_toArray, List.set_cons_zero, List.set_cons_succ, i64_w, i32_w]
          rfl
        refine done_ (done_of HT_.out (by kernel_rfl)) ?_

        go_wp2_with fail
        go_loopg [9, 49] l.length (fun kq v9 v49 w' => ∃ (j : Nat) (d2 q2 : List Int), v49 = .int .i64 j ∧ j + kq = l.length ∧ 0 < q2.length ∧ Aside0 (scan d2 q2 (l.drop j) = some s) ∧ Aside0 (Bs w w' b8 F N d2 v9 q2))
        case atStart => exact ⟨0, d1, q, rfl, by omega, Hq.out, HSC, HSd⟩
        case round =>
          clear HSC HSd Hq
          obtain ⟨j, d2, q2, rfl, hj, hq2, HSC, HS⟩ := hrel
          obtain ⟨g8, o8, c8, rfl, _⟩ := Kd.Q_form HS.out.hq hq2
          cases gk with
          | zero =>
            obtain rfl : j = l.length := by omega
            have e := HSC.out
            rw [List.drop_length, scan] at e
            obtain rfl := Option.some.inj e
            have hcc : q2.length ≤ c8 := (Kd.Q_reads' HS.out.hq).2.1
            have h1q : (1 : Int) ≤ (q2.length : Int) := by omega
            have h1n : 1 ≤ q2.length := by omega
            clear e
            by_cases hc1 : c8 = 1
            · subst hc1
              have HCut := Aside0.mk (HS.out.cut h1n)
              rw [if_pos rfl, show q2.length - 1 = 0 by omega] at HCut
              go_wp2_with fail
              go_roundg k1
              case measure => omega
              case rel => exact ⟨_, _, HBD, HCut⟩
            · have HCut := Aside0.mk (HS.out.cut h1n)
              rw [if_neg hc1] at HCut
              go_wp2_with fail
              go_roundg k1
              case measure => omega
              case rel => exact ⟨_, _, HBD, HCut⟩
          | succ k2 =>
            have hjl : j < l.length := by omega
            have hsc := HSC.out
            rw [List.drop_eq_getElem_cons hjl, scan] at hsc
            obtain ⟨x, hx⟩ : ∃ x, x = l[j] := ⟨_, rfl⟩
            rw [← hx] at hsc
            by_cases hcnd : (0 ≤ x ∧ x < d2.length) ∧ (0 ≤ rd q2 0 ∧ rd q2 0 < d2.length) ∧ 0 < q2.length ∧ q2.length < 1099511627776
            case neg => rw [if_neg hcnd] at hsc; cases hsc
            rw [if_pos hcnd] at hsc
            have hdl2 := HS.out.hd
            obtain ⟨nx, rfl⟩ := Int.eq_ofNat_of_zero_le hcnd.1.1
            obtain ⟨nq, hnq⟩ := Int.eq_ofNat_of_zero_le hcnd.2.1.1
            rw [hnq] at hcnd hsc
            have c1 : (nx : Int) < (N : Int) := by have := hcnd.1.2; omega
            have c2 : (0 : Int) ≤ (nx : Int) := by omega
            have c3 : (nq : Int) < (N : Int) := by have := hcnd.2.1.2; omega
            have c4 : (0 : Int) ≤ (nq : Int) := by omega
            have nxd : nx < d2.length := by have := hcnd.1.2; omega
            have nqd : nq < d2.length := by have := hcnd.2.1.2; omega
            have hqb := hcnd.2.2.2
            obtain ⟨ad0, e0, hx2⟩ := Kd.at_int (Kd.C_below HC0.out HS.out.bel) (j : Int) (by omega) (by omega)
            rw [Int.toNat_natCast, show rd l (j : Int) = (nx : Int) by rw [hx]; unfold rd; simp [hjl]] at hx2
            subst e0
            have p2 := eq_true (show (0 : Int) ≤ j by omega)
            have q3 : ((j : Int) < (l.length : Int)) = True := eq_true (by omega)
            have s8 := HS.out.cell8
            have sF := ints_cell HS.out.hF nx nxd
            have hl4 := Hll.out
            have Hhx := Aside0.mk hx
            have HSC2 := Aside0.mk hsc
            by_cases hlt : rd d2 (nx : Int) < 0
            · have b1 : decide (rd d2 (nx : Int) < 0) = true := decide_eq_true hlt
              rw [if_pos hlt, Int.toNat_natCast] at HSC2
              have z0 : wr.drew.cell? ⟨b8, 0, none⟩ = some (.slice (some ⟨F, 0, none⟩) N N) := s8
              have yq := (Kd.Q_cell (0 : Int) HS.out.hq 0 (by omega) (by omega)).1
              rw [show o8 + (0 : Int).toNat = o8 from rfl, show rdOf (0 : Int) q2 0 = rd q2 0 from rfl, hnq] at yq
              have z1 : wr.drew.cell? ⟨g8, o8, none⟩ = some (.int .i64 nq) := yq
              have z2 : wr.drew.cell? ⟨F, nq, none⟩ = some (.int .i64 (rd d2 (nq : Int))) := ints_cell HS.out.hF nq nqd
              have s3 : wr.drew.cell? ⟨F, nx, none⟩ = some (.int .i64 (rd d2 (nx : Int))) := sF
              have f3 : wr.drew.frozen? ⟨F, nx, none⟩ = false := blk_frozen HS.out.hF nx
              have HSd := Aside0.mk (HS.out.drew.set nx (wrap64 (rd d2 (nq : Int) + 1)))
              have hql : (0 : Int) < (q2.length : Int) := by omega
              have Hnq := Aside0.mk hnq
              have Hq2 := Aside0.mk hq2
              obtain ⟨u, hu⟩ : ∃ u, u = rd d2 (nq : Int) := ⟨_, rfl⟩
              rw [← hu] at z2 HSd HSC2
              clear HS hsc hlt hx hcnd yq hdl2 nxd nqd hnq hu HSC
              go_upto_region 12 with fail
              refine start_ (n := 11) (S := fun w' => w'.cell? ⟨b8, 0, none⟩ = some (.slice (some ⟨F, 0, none⟩) N N) ∧ w'.cell? ⟨g8, o8, none⟩ = some (.int .i64 nq) ∧ w'.cell? ⟨F, nq, none⟩ = some (.int .i64 u)) (ds := [10]) #[false, false, false, false, false, false, false, false, false, false, false] (by kernel_rfl) rfl rfl ⟨z0, z1, z2⟩ (fun hHeld => ?_)
              refine with_tabW PathR.tab12 PathR.bits12 (fun HT_ HW_ => ?_)
              generalize wr.drew = w5 at z0 z1 z2 s3 f3 HSd hHeld ⊢
              refine pure_ (i := 1) (N := some 59) (v := ?_) (a' := ?_) #[false, true, false, false, false, false, false, false, false, false, false] rfl rfl (any_of HT_.out (by kernel_rfl)) (fun _ _ _ h => h) (Or.inl ⟨by rfl, ?_⟩) ?_ ?_
              rotate_left
              · intro w'
                go_simp
                with_reducible rfl
              rotate_left
              · simp only [Act.put, List.setIfInBounds_toArray, List.set_cons_zero, List.set_cons_succ, i64_w, i32_w]
                rfl
              refine pure_ (i := 3) (N := some 61) (v := ?_) (a' := ?_) #[false, true, false, true, false, false, false, false, false, false, false] rfl rfl (any_of HT_.out (by kernel_rfl)) (fun _ _ _ h => h) (Or.inl ⟨by rfl, ?_⟩) ?_ ?_
              rotate_left
              · intro w'
                go_simp
                with_reducible rfl
              rotate_left
              · simp only [Act.put, List.setIfInBounds_toArray, List.set_cons_zero, List.set_cons_succ, i64_w, i32_w]
                rfl
              refine pure_ (i := 4) (N := some 62) (v := ?_) (a' := ?_) #[false, true, false, true, true, false, false, false, false, false, false] rfl rfl (any_of HT_.out (by kernel_rfl)) (fun _ _ _ h => h) (Or.inl ⟨by rfl, ?_⟩) ?_ ?_
              rotate_left
              · intro w'
                go_simp
                with_reducible rfl
              rotate_left
              · simp only [Act.put, List.setIfInBounds_toArray, List.set_cons_zero, List.set_cons_succ, i64_w, i32_w]
                rfl
              refine take_ (i := 0) (N := some 58) (v := ?_) (a' := ?_) #[true, true, false, true, true, false, false, false, false, false, false] rfl rfl (take_ofW HT_.out HW_.out (by kernel_rfl)) (fun _ _ _ h => h) (Or.inl ⟨by rfl, ?_⟩) hHeld ?_ ?_
              rotate_left
              · rintro w' ⟨s0, s1, s2⟩
                go_simp
                with_reducible rfl
              rotate_left
              · simp only [Act.put, List.setIfInBounds_toArray, List.set_cons_zero, List.set_cons_succ, i64_w, i32_w]
                rfl
              refine take_ (i := 2) (N := some 60) (v := ?_) (a' := ?_) #[true, true, true, true, true, false, false, false, false, false, false] rfl rfl (take_ofW HT_.out HW_.out (by kernel_rfl)) (fun _ _ _ h => h) (Or.inl ⟨by rfl, ?_⟩) hHeld ?_ ?_
              rotate_left
              · rintro w' ⟨s0, s1, s2⟩
                go_simp
                with_reducible rfl
              rotate_left
              · simp only [Act.put, List.setIfInBounds_toArray, List.set_cons_zero, List.set_cons_succ, i64_w, i32_w]
                rfl
              refine take_ (i := 5) (N := some 63) (v := ?_) (a' := ?_) #[true, true, true, true, true, true, false, false, false, false, false] rfl rfl (take_ofW HT_.out HW_.out (by kernel_rfl)) (fun _ _ _ h => h) (Or.inl ⟨by rfl, ?_⟩) hHeld ?_ ?_
              rotate_left
              · rintro w' ⟨s0, s1, s2⟩
                go_simp
                with_reducible rfl
              rotate_left
              · simp only [Act.put, List.setIfInBounds_toArray, List.set_cons_zero, List.set_cons_succ, i64_w, i32_w]
                rfl
              refine pure_ (i := 6) (N := some 64) (v := ?_) (a' := ?_) #[true, true, true, true, true, true, true, false, false, false, false] rfl rfl (any_of HT_.out (by kernel_rfl)) (fun _ _ _ h => h) (Or.inl ⟨by rfl, ?_⟩) ?_ ?_
              rotate_left
              · intro w'
                go_simp
                with_reducible rfl
              rotate_left
              · simp only [Act.put, List.setIfInBounds_toArray, List.set_cons_zero, List.set_cons_succ, i64_w, i32_w]
                rfl
              refine take_ (i := 7) (N := some 65) (v := ?_) (a' := ?_) #[true, true, true, true, true, true, true, true, false, false, false] rfl rfl (take_ofW HT_.out HW_.out (by kernel_rfl)) (fun _ _ _ h => h) (Or.inl ⟨by rfl, ?_⟩) hHeld ?_ ?_
              rotate_left
              · rintro w' ⟨s0, s1, s2⟩
                go_simp
                with_reducible rfl
              rotate_left
              · simp only [Act.put, List.setIfInBounds_toArray, List.set_cons_zero, List.set_cons_succ, i64_w, i32_w]
                rfl
              refine pure_ (i := 8) (N := some 66) (v := ?_) (a' := ?_) #[true, true, true, true, true, true, true, true, true, false, false] rfl rfl (any_of HT_.out (by kernel_rfl)) (fun _ _ _ h => h) (Or.inl ⟨by rfl, ?_⟩) ?_ ?_
              rotate_left
              · intro w'
                go_simp
                with_reducible rfl
              rotate_left
              · simp only [Act.put, List.setIfInBounds_toArray, List.set_cons_zero, List.set_cons_succ, i64_w, i32_w]
                rfl
              refine pure_ (i := 9) (N := some 67) (v := ?_) (a' := ?_) #[true, true, true, true, true, true, true, true, true, true, false] rfl rfl (any_of HT_.out (by kernel_rfl)) (fun _ _ _ h => h) (Or.inl ⟨by rfl, ?_⟩) ?_ ?_
              rotate_left
              · intro w'
                go_simp
                with_reducible rfl
              rotate_left
              · simp only [Act.put, List.setIfInBounds_toArray, List.set_cons_zero, List.set_cons_succ, i64_w, i32_w]
                rfl
              refine last_ (i := 10) (N := none) #[true, true, true, true, true, true, true, true, true, true, true] rfl rfl (one_of HT_.out (by kernel_rfl)) (by decide) (fun K hK => ?_)
              refine skip_ (w1 := ?_) (by rfl) rfl ?_ ?_
              rotate_left
              · go_simp
                rfl
              refine hK.out _ _ ?_
              clear hK K
              refine done_ (done_of HT_.out (by kernel_rfl)) ?_

              go_wp2_with ((with_reducible refine gate_builtin (b := .append) (xs := #[.tmp 68, .tmp 70]) rfl ?_); at_builtin; refine Kd.Q_append kI (w0 := w) w.heap.size rfl (.tmp 68) (.tmp 70) 30 3 (.int .i64 0) 8 rfl Try.underlying30 info3 rfl (by decide) (by decide) (.slice (some ⟨g8, o8, none⟩) q2.length c8) q2 (nx : Int) [.int .i64 nx] (fun k => k ≠ F) (fun _ => False) rfl ?ax rfl (fun _ h => h.elim) (fun k hk e => by have := blk_lt HSd.out.hF; omega) HSd.out.hq HSd.out.bel (below_size HSd.out.bel) (by omega) ?_; (case ax => first | (go_simp; done) | (go_simp; rfl) | simp); intro v1 w7 ho hbb hg hatt; have HN := Aside0.mk (HSd.out.grown hg ho hbb); clear ho hbb hg hatt)
              go_roundg k2
              case measure => omega
              case rel => exact ⟨j + 1, _, _, by go_num, by omega, by simp, HSC2, HN⟩
            · have b1 : decide (rd d2 (nx : Int) < 0) = false := decide_eq_false hlt
              rw [if_neg hlt] at HSC2
              have Hq2 := Aside0.mk hq2
              clear hsc hlt hx hcnd hdl2 nxd nqd hnq hq2 HSC
              go_wp2_with fail
              go_roundg k2
              case measure => omega
              case rel => exact ⟨j + 1, d2, q2, by go_num, by omega, Hq2.out, HSC2, HS⟩
      · rw [if_neg hq] at hbd
        rw [Option.some.inj hbd] at HS
        obtain ⟨A9, c9, rfl, hc9⟩ := Kd.Q_slice HS.out.hq
        have hq9 : q.length = 0 := by omega
        obtain rfl := List.eq_nil_of_length_eq_zero hq9
        have s8 := HS.out.cell8
        have sF := ints_cell HS.out.hF fr (by omega)
        have HBl := Aside0.mk HS.out.bel
        clear hq hq9 hbd HD
        by_cases hneg : rd d (fr : Int) < 0
        · have b1 : decide (rd d (fr : Int) < 0) = true := decide_eq_true hneg
          have Hneg := Aside0.mk hneg
          clear hneg HS
          go_wp2_with fail
          go_ret2
          rw [HRes.out, HBb.out, if_neg (by have := Hneg.out; omega), decide_eq_false (by have := Hneg.out; omega)]
          exact ⟨_, rfl, Kd.R_nil _ _ _ _ _, HBl.out⟩
        · have b1 : decide (rd d (fr : Int) < 0) = false := decide_eq_false hneg
          have HW := Aside0.mk (HP.out (by omega))
          have Hneg := Aside0.mk hneg
          have HS0 := Aside0.mk (show Ws w ((wr.alloc (.cells #[.int .i64 fr] 3)).alloc (.cells #[.int .i64 fr] 3)) b8 F N d (wr.heap.size + 1) fr (.slice (some ⟨wr.heap.size, 0, none⟩) 1 1) [(fr : Int)] from by
            have hF := blk_lt HS.out.hF
            have hl := lit_own (W := wr) (base := w.heap.size) (fr : Int) HS.out.bel.size
            have h0 := (show Ws w (wr.alloc (.cells #[.int .i64 fr] 3)) b8 F N d wr.heap.size fr (.slice none 0 0) [] from ⟨blk_alloc HS.out.h8 _, blk_alloc HS.out.hF _, heap_alloc_last wr _, Kd.R_nil _ _ _ _ _, below_alloc HS.out.bel _, HS.out.gF, HS.out.bel.size, by omega⟩).next fr
            rw [World.size_alloc] at h0
            exact ⟨h0.h8, h0.hF, h0.h13, Kd.R_alloc (Kd.R_mono (Kd.R_bound hl) fun k hk => by have h1 := hk.1; have h2 := hk.2.2.1; rw [World.size_alloc] at h2; omega) _, h0.bel, h0.gF, h0.g13, h0.ne⟩)
          clear hneg HS HP HBl
          go_wp2_with fail
          go_loopg [12, 13] K (fun kq v12 v13 w' => ∃ (n b13 : Nat) (pth : List Int), v13 = .pointer (some ⟨b13, 0, none⟩) ∧ n < N ∧ Aside0 (way kq X d tt n pth = some p) ∧ Aside0 (Ws w w' b8 F N d b13 n v12 pth))
          case atStart => exact ⟨fr, _, _, rfl, hfr, HW, HS0⟩
          case round =>
            clear HS0 HW
            obtain ⟨n, b13, pth, rfl, hnN, HW, HS⟩ := hrel
            cases gk with
            | zero => exact absurd HW.out (by simp [way])
            | succ k1 =>
              have hw := HW.out
              rw [way] at hw
              have s13 : wr.cell? ⟨b13, 0, none⟩ = some (.int .i64 n) := (blk_cell HS.out.h13 0).trans rfl
              by_cases hnt : (n : Int) = (tt : Int)
              · rw [if_pos hnt] at hw
                obtain rfl := Option.some.inj hw
                have b2 : ((n : Int) == (tt : Int)) = true := beq_iff_eq.mpr hnt
                have b3 : ((n : Int) != (tt : Int)) = false := bne_eq_false_iff_eq.mpr hnt
                clear hnt hw HW
                go_wp2_with fail
                go_ret2
                rw [HRes.out, HBb.out, if_pos (by have := Hneg.out; omega), decide_eq_true (by have := Hneg.out; omega)]
                exact ⟨_, rfl, Kd.R_mono HS.out.hp (fun _ _ => trivial), HS.out.bel⟩
              · rw [if_neg hnt] at hw
                have b2 : ((n : Int) == (tt : Int)) = false := beq_eq_false_iff_ne.mpr hnt
                have b3 : ((n : Int) != (tt : Int)) = true := bne_iff_ne.mpr hnt
                by_cases hcnd : (0 ≤ (n : Int) ∧ (n : Int) < X.length) ∧ (∀ x, x ∈ row X n → 0 ≤ x ∧ x < d.length) ∧ pth.length < 1099511627776
                case neg => rw [if_neg hcnd] at hw; cases hw
                rw [if_pos hcnd] at hw
                obtain ⟨x, hfind, hw⟩ := Option.bind_eq_some_iff.mp hw
                obtain ⟨k, hk, hkx, hhit, hmiss⟩ := find_at hfind
                obtain ⟨hcn, hval, hpl⟩ := hcnd
                have hxv := hval x (by rw [← hkx, getElem!_pos _ k hk]; exact List.getElem_mem hk)
                obtain ⟨nx, rfl⟩ := Int.eq_ofNat_of_zero_le hxv.1
                have hxN : nx < N := by have := hxv.2; omega
                obtain ⟨gg, hh, cx, cy, hb, hX, hY, -, -⟩ := HG.out.ex
                obtain ⟨ad, A0, c0, e0, hc, hlc, hC⟩ := at_L4 hX (n : Int) hcn.1 hcn.2
                rw [Int.toNat_natCast] at hc
                rw [← row_in hcn.1 hcn.2] at hc hlc hC
                have Hll := Aside0.mk (row_len (X := X) (n : Int) HG.out.fewX)
                obtain ⟨l, hl'⟩ : ∃ l, l = row X (n : Int) := ⟨_, rfl⟩
                rw [← hl'] at hc hlc hC Hll hval hkx hhit hmiss hk
                have HC := Aside0.mk (Kd.C_below hC (show Below w.heap.size w wr from HS.out.bel))
                have HC0 := Aside0.mk hC
                subst e0
                obtain ⟨ad0, e0, hxk⟩ := Kd.at_int HC.out (k : Int) (by omega) (by omega)
                rw [Int.toNat_natCast, show rd l (k : Int) = (nx : Int) by rw [← hkx]; unfold rd; simp [hk]] at hxk
                subst e0
                have z0 : wr.drew.cell? ⟨b, 0, none⟩ = some (.slice (some ad) N cx) := by rw [HN.out]; exact pw_cell_below HS.out.bel ((blk_cell hb 0).trans rfl)
                have z1 : wr.drew.cell? ⟨b13, 0, none⟩ = some (.int .i64 n) := s13
                have z2 : wr.drew.cell? (ad.add n) = some (.slice (some ad0) l.length c0) := pw_cell_below HS.out.bel hc
                have z3 : wr.drew.cell? (ad0.add k) = some (.int .i64 nx) := hxk
                have HSd := Aside0.mk HS.out.drew
                have HCd := Aside0.mk (show kI.C wr.drew (some ad0) l.length l from Kd.C_below HC.out (below_drew1 (Below.refl _ _)))
                have HV := Aside0.mk hval
                have HW2 := Aside0.mk hw
                have HK := Aside0.mk (And.intro hhit hmiss)
                have r0 : (0 : Int) ≤ (n : Int) := by omega
                have r1 : (n : Int) < (N : Int) := by omega
                have r2 : (0 : Int) ≤ (k : Int) := by omega
                have r3 : (k : Int) < (l.length : Int) := by omega
                have Hdl := Aside0.mk hdl
                have HnN := Aside0.mk hnN
                clear hw HW HS hcn hc hlc hC hb hX hY hl' hfind hkx hhit hmiss hxv HC hxk hval hnt hdl hnN HC0
                go_upto_region 20 with fail
                clear s13
                refine start_ (n := 10) (S := fun w' => w'.cell? ⟨b, 0, none⟩ = some (.slice (some ad) N cx) ∧ w'.cell? ⟨b13, 0, none⟩ = some (.int .i64 n) ∧ w'.cell? (ad.add n) = some (.slice (some ad0) l.length c0)) (ds := []) #[false, false, false, false, false, false, false, false, false, false] (by kernel_rfl) rfl rfl ⟨z0, z1, z2⟩ (fun hHeld => ?_)
                refine with_tabW PathR.tab20 PathR.bits20 (fun HT_ HW_ => ?_)
                generalize wr.drew = w5 at z0 z1 z2 z3 HSd HCd hHeld ⊢
                refine pure_ (i := 0) (N := some 84) (v := ?_) (a' := ?_) #[true, false, false, false, false, false, false, false, false, false] rfl rfl (any_of HT_.out (by kernel_rfl)) (fun _ _ _ h => h) (Or.inl ⟨by rfl, ?_⟩) ?_ ?_
                rotate_left
                · intro w'
                  go_simp
                  with_reducible rfl
                rotate_left
                · simp only [Act.put, List.setIfInBounds_toArray, List.set_cons_zero, List.set_cons_succ, i64_w, i32_w]
                  rfl
                refine pure_ (i := 1) (N := some 85) (v := ?_) (a' := ?_) #[true, true, false, false, false, false, false, false, false, false] rfl rfl (any_of HT_.out (by kernel_rfl)) (fun _ _ _ h => h) (Or.inl ⟨by rfl, ?_⟩) ?_ ?_
                rotate_left
                · intro w'
                  go_simp
                  with_reducible rfl
                rotate_left
                · simp only [Act.put, List.setIfInBounds_toArray, List.set_cons_zero, List.set_cons_succ, i64_w, i32_w]
                  rfl
                refine pure_ (i := 2) (N := some 86) (v := ?_) (a' := ?_) #[true, true, true, false, false, false, false, false, false, false] rfl rfl (any_of HT_.out (by kernel_rfl)) (fun _ _ _ h => h) (Or.inl ⟨by rfl, ?_⟩) ?_ ?_
                rotate_left
                · intro w'
                  go_simp
                  with_reducible rfl
                rotate_left
                · simp only [Act.put, List.setIfInBounds_toArray, List.set_cons_zero, List.set_cons_succ, i64_w, i32_w]
                  rfl
                refine pure_ (i := 7) (N := some 91) (v := ?_) (a' := ?_) #[true, true, true, false, false, false, false, true, false, false] rfl rfl (any_of HT_.out (by kernel_rfl)) (fun _ _ _ h => h) (Or.inl ⟨by rfl, ?_⟩) ?_ ?_
                rotate_left
                · intro w'
                  go_simp
                  with_reducible rfl
                rotate_left
                · simp only [Act.put, List.setIfInBounds_toArray, List.set_cons_zero, List.set_cons_succ, i64_w, i32_w]
                  rfl
                refine take_ (i := 3) (N := some 87) (v := ?_) (a' := ?_) #[true, true, true, true, false, false, false, true, false, false] rfl rfl (take_ofW HT_.out HW_.out (by kernel_rfl)) (fun _ _ _ h => h) (Or.inl ⟨by rfl, ?_⟩) hHeld ?_ ?_
                rotate_left
                · rintro w' ⟨s0, s1, s2⟩
                  go_simp
                  with_reducible rfl
                rotate_left
                · simp only [Act.put, List.setIfInBounds_toArray, List.set_cons_zero, List.set_cons_succ, i64_w, i32_w]
                  rfl
                refine take_ (i := 4) (N := some 88) (v := ?_) (a' := ?_) #[true, true, true, true, true, false, false, true, false, false] rfl rfl (take_ofW HT_.out HW_.out (by kernel_rfl)) (fun _ _ _ h => h) (Or.inl ⟨by rfl, ?_⟩) hHeld ?_ ?_
                rotate_left
                · rintro w' ⟨s0, s1, s2⟩
                  go_simp
                  with_reducible rfl
                rotate_left
                · simp only [Act.put, List.setIfInBounds_toArray, List.set_cons_zero, List.set_cons_succ, i64_w, i32_w]
                  rfl
                refine pure_ (i := 5) (N := some 89) (v := ?_) (a' := ?_) #[true, true, true, true, true, true, false, true, false, false] rfl rfl (any_of HT_.out (by kernel_rfl)) (fun _ _ _ h => h) (Or.inl ⟨by rfl, ?_⟩) ?_ ?_
                rotate_left
                · intro w'
                  go_simp
                  with_reducible rfl
                rotate_left
                · simp only [Act.put, List.setIfInBounds_toArray, List.set_cons_zero, List.set_cons_succ, i64_w, i32_w]
                  rfl
                refine take_ (i := 6) (N := some 90) (v := ?_) (a' := ?_) #[true, true, true, true, true, true, true, true, false, false] rfl rfl (take_ofW HT_.out HW_.out (by kernel_rfl)) (fun _ _ _ h => h) (Or.inl ⟨by rfl, ?_⟩) hHeld ?_ ?_
                rotate_left
                · rintro w' ⟨s0, s1, s2⟩
                  go_simp
                  with_reducible rfl
                rotate_left
                · simp only [Act.put, List.setIfInBounds_toArray, List.set_cons_zero, List.set_cons_succ, i64_w, i32_w]
                  rfl
                refine one_ (i := 8) (N := some 92) #[true, true, true, true, true, true, true, true, true, false] rfl rfl (one_of HT_.out (by kernel_rfl)) (by decide) (fun K hK => ?_)
                refine goes_ Try.func44 (by kernel_rfl) rfl #[.slice (some ad0) l.length c0, .func (.func 45) #[] #[.pointer (some ⟨b8, 0, none⟩), .pointer (some ⟨b13, 0, none⟩)]] (by rfl) rfl rfl (by simp only [List.map_toArray, List.map_cons, List.map_nil]; rfl) ?_
                with_reducible refine (IndexFunc_calls (lb := #[.pointer (some ⟨b8, 0, none⟩), .pointer (some ⟨b13, 0, none⟩)]) (p := fun x => rd d x == wrap64 (rd d (n : Int) - 1)) HCd.out Hll.out (fun x hx q => by obtain ⟨m, rfl⟩ := Int.eq_ofNat_of_zero_le (HV.out x hx).1; rw [show (#[Value.int .i64 (m : Int)] ++ #[.pointer (some ⟨b8, 0, none⟩), .pointer (some ⟨b13, 0, none⟩)] : Array Value) = #[.int .i64 (m : Int), .pointer (some ⟨b8, 0, none⟩), .pointer (some ⟨b13, 0, none⟩)] by simp]; exact closure45 (N := N) ((blk_cell (HSd.out.drewN q).h8 0).trans rfl) (HSd.out.drewN q).hF Hdl.out n m ((blk_cell (HSd.out.drewN q).h13 0).trans rfl) HnN.out (by have := (HV.out _ hx).2; have := Hdl.out; omega)) k hk HK.out.1 HK.out.2).mono ?_
                rintro e w6 ⟨rfl, ⟨q6, hq6⟩⟩
                refine ⟨_, rfl, ?_⟩
                have y0 : w6.cell? ⟨b, 0, none⟩ = some (.slice (some ad) N cx) := hq6 ▸ z0
                have y1 : w6.cell? ⟨b13, 0, none⟩ = some (.int .i64 n) := hq6 ▸ z1
                have y2 : w6.cell? (ad.add n) = some (.slice (some ad0) l.length c0) := hq6 ▸ z2
                have y3 : w6.cell? (ad0.add k) = some (.int .i64 nx) := hq6 ▸ z3
                have HS6 := Aside0.mk (show Ws w w6 b8 F N d b13 n u12 pth from hq6 ▸ HSd.out.drewN q6)
                clear z0 z1 z2 z3 HSd HCd hq6
                refine hK.out _ _ ⟨y0, y1, y2⟩ (fun hHeld => ?_)
                clear hK K
                refine norm_ (a' := ?_) ?_ ?_
                rotate_left
                · show Act.put _ (some 92) _ = _
                  simp only [Act.put, List.setIfInBounds_toArray, List.set_cons_zero, List.set_cons_succ, i64_w, i32_w]
                  rfl
                refine pure_ (i := 9) (N := some 14) (v := ?_) (a' := ?_) #[true, true, true, true, true, true, true, true, true, true] rfl rfl (any_of HT_.out (by kernel_rfl)) (fun _ _ _ h => h) (Or.inl ⟨by rfl, ?_⟩) ?_ ?_
                rotate_left
                · intro w'
                  go_simp
                  with_reducible rfl
                rotate_left
                · simp only [Act.put, List.setIfInBounds_toArray, List.set_cons_zero, List.set_cons_succ, i64_w, i32_w]
                  rfl
                refine done_ (done_of HT_.out (by kernel_rfl)) ?_

                have z0 : w6.drew.cell? ⟨b, 0, none⟩ = some (.slice (some ad) N cx) := y0
                have z1 : w6.drew.cell? ⟨b13, 0, none⟩ = some (.int .i64 n) := y1
                have z2 : w6.drew.cell? (ad.add n) = some (.slice (some ad0) l.length c0) := y2
                have z3 : w6.drew.cell? (ad0.add k) = some (.int .i64 nx) := y3
                have f13 : w6.drew.frozen? ⟨b13, 0, none⟩ = false := blk_frozen HS6.out.h13 0
                have HSd := Aside0.mk (HS6.out.drew.set nx)
                clear y0 y1 y2 y3 HS6
                go_upto_region 21 with fail
                refine start_ (n := 11) (S := fun w' => w'.cell? ⟨b, 0, none⟩ = some (.slice (some ad) N cx) ∧ w'.cell? ⟨b13, 0, none⟩ = some (.int .i64 n) ∧ w'.cell? (ad.add n) = some (.slice (some ad0) l.length c0) ∧ w'.cell? (ad0.add k) = some (.int .i64 nx)) (ds := [10]) #[false, false, false, false, false, false, false, false, false, false, false] (by kernel_rfl) rfl rfl ⟨z0, z1, z2, z3⟩ (fun hHeld => ?_)
                refine with_tabW PathR.tab21 PathR.bits21 (fun HT_ HW_ => ?_)
                generalize w6.drew = w8 at z0 z1 z2 z3 f13 HSd hHeld ⊢
                refine pure_ (i := 0) (N := some 93) (v := ?_) (a' := ?_) #[true, false, false, false, false, false, false, false, false, false, false] rfl rfl (any_of HT_.out (by kernel_rfl)) (fun _ _ _ h => h) (Or.inl ⟨by rfl, ?_⟩) ?_ ?_
                rotate_left
                · intro w'
                  go_simp
                  with_reducible rfl
                rotate_left
                · simp only [Act.put, List.setIfInBounds_toArray, List.set_cons_zero, List.set_cons_succ, i64_w, i32_w]
                  rfl
                refine pure_ (i := 1) (N := some 94) (v := ?_) (a' := ?_) #[true, true, false, false, false, false, false, false, false, false, false] rfl rfl (any_of HT_.out (by kernel_rfl)) (fun _ _ _ h => h) (Or.inl ⟨by rfl, ?_⟩) ?_ ?_
                rotate_left
                · intro w'
                  go_simp
                  with_reducible rfl
                rotate_left
                · simp only [Act.put, List.setIfInBounds_toArray, List.set_cons_zero, List.set_cons_succ, i64_w, i32_w]
                  rfl
                refine pure_ (i := 2) (N := some 95) (v := ?_) (a' := ?_) #[true, true, true, false, false, false, false, false, false, false, false] rfl rfl (any_of HT_.out (by kernel_rfl)) (fun _ _ _ h => h) (Or.inl ⟨by rfl, ?_⟩) ?_ ?_
                rotate_left
                · intro w'
                  go_simp
                  with_reducible rfl
                rotate_left
                · simp only [Act.put, List.setIfInBounds_toArray, List.set_cons_zero, List.set_cons_succ, i64_w, i32_w]
                  rfl
                refine pure_ (i := 7) (N := some 100) (v := ?_) (a' := ?_) #[true, true, true, false, false, false, false, true, false, false, false] rfl rfl (any_of HT_.out (by kernel_rfl)) (fun _ _ _ h => h) (Or.inl ⟨by rfl, ?_⟩) ?_ ?_
                rotate_left
                · intro w'
                  go_simp
                  with_reducible rfl
                rotate_left
                · simp only [Act.put, List.setIfInBounds_toArray, List.set_cons_zero, List.set_cons_succ, i64_w, i32_w]
                  rfl
                refine take_ (i := 3) (N := some 96) (v := ?_) (a' := ?_) #[true, true, true, true, false, false, false, true, false, false, false] rfl rfl (take_ofW HT_.out HW_.out (by kernel_rfl)) (fun _ _ _ h => h) (Or.inl ⟨by rfl, ?_⟩) hHeld ?_ ?_
                rotate_left
                · rintro w' ⟨s0, s1, s2, s3⟩
                  go_simp
                  with_reducible rfl
                rotate_left
                · simp only [Act.put, List.setIfInBounds_toArray, List.set_cons_zero, List.set_cons_succ, i64_w, i32_w]
                  rfl
                refine take_ (i := 4) (N := some 97) (v := ?_) (a' := ?_) #[true, true, true, true, true, false, false, true, false, false, false] rfl rfl (take_ofW HT_.out HW_.out (by kernel_rfl)) (fun _ _ _ h => h) (Or.inl ⟨by rfl, ?_⟩) hHeld ?_ ?_
                rotate_left
                · rintro w' ⟨s0, s1, s2, s3⟩
                  go_simp
                  with_reducible rfl
                rotate_left
                · simp only [Act.put, List.setIfInBounds_toArray, List.set_cons_zero, List.set_cons_succ, i64_w, i32_w]
                  rfl
                refine pure_ (i := 5) (N := some 98) (v := ?_) (a' := ?_) #[true, true, true, true, true, true, false, true, false, false, false] rfl rfl (any_of HT_.out (by kernel_rfl)) (fun _ _ _ h => h) (Or.inl ⟨by rfl, ?_⟩) ?_ ?_
                rotate_left
                · intro w'
                  go_simp
                  with_reducible rfl
                rotate_left
                · simp only [Act.put, List.setIfInBounds_toArray, List.set_cons_zero, List.set_cons_succ, i64_w, i32_w]
                  rfl
                refine take_ (i := 6) (N := some 99) (v := ?_) (a' := ?_) #[true, true, true, true, true, true, true, true, false, false, false] rfl rfl (take_ofW HT_.out HW_.out (by kernel_rfl)) (fun _ _ _ h => h) (Or.inl ⟨by rfl, ?_⟩) hHeld ?_ ?_
                rotate_left
                · rintro w' ⟨s0, s1, s2, s3⟩
                  go_simp
                  with_reducible rfl
                rotate_left
                · simp only [Act.put, List.setIfInBounds_toArray, List.set_cons_zero, List.set_cons_succ, i64_w, i32_w]
                  rfl
                refine pure_ (i := 8) (N := some 101) (v := ?_) (a' := ?_) #[true, true, true, true, true, true, true, true, true, false, false] rfl rfl (any_of HT_.out (by kernel_rfl)) (fun _ _ _ h => h) (Or.inl ⟨by rfl, ?_⟩) ?_ ?_
                rotate_left
                · intro w'
                  go_simp
                  with_reducible rfl
                rotate_left
                · simp only [Act.put, List.setIfInBounds_toArray, List.set_cons_zero, List.set_cons_succ, i64_w, i32_w]
                  rfl
                refine take_ (i := 9) (N := some 102) (v := ?_) (a' := ?_) #[true, true, true, true, true, true, true, true, true, true, false] rfl rfl (take_ofW HT_.out HW_.out (by kernel_rfl)) (fun _ _ _ h => h) (Or.inl ⟨by rfl, ?_⟩) hHeld ?_ ?_
                rotate_left
                · rintro w' ⟨s0, s1, s2, s3⟩
                  go_simp
                  with_reducible rfl
                rotate_left
                · simp only [Act.put, List.setIfInBounds_toArray, List.set_cons_zero, List.set_cons_succ, i64_w, i32_w]
                  rfl
                refine last_ (i := 10) (N := none) #[true, true, true, true, true, true, true, true, true, true, true] rfl rfl (one_of HT_.out (by kernel_rfl)) (by decide) (fun K hK => ?_)
                refine skip_ (w1 := ?_) (by rfl) rfl ?_ ?_
                rotate_left
                · go_simp
                  rfl
                refine hK.out _ _ ?_
                clear hK K
                refine done_ (done_of HT_.out (by kernel_rfl)) ?_

                have t13 := (blk_cell HSd.out.h13 0).trans rfl
                have Hrest := Aside0.mk hpl
                go_wp2_with ((with_reducible refine gate_builtin (b := .append) (xs := #[.tmp 103, .tmp 105]) rfl ?_); at_builtin; refine Kd.R_append kI (w0 := w) w.heap.size rfl (.tmp 103) (.tmp 105) 30 3 (.int .i64 0) 8 rfl Try.underlying30 info3 rfl (by decide) (by decide) u12 pth (nx : Int) [.int .i64 nx] (fun k => k ≠ F ∧ k ≠ b13) (fun _ => False) rfl ?ax rfl (fun _ h => h.elim) (fun k hk => ⟨fun e => by have := blk_lt HSd.out.hF; omega, fun e => by have := blk_lt HSd.out.h13; omega⟩) HSd.out.hp HSd.out.bel (below_size HSd.out.bel) (by omega) ?_; (case ax => first | (go_simp; done) | (go_simp; rfl) | simp); intro v1 w9 ho hbb hg hatt; have HS9 := Aside0.mk (HSd.out.grown hg ho hbb); have t14 := (blk_cell HS9.out.h13 0).trans rfl; clear ho hbb hg hatt)
                go_roundg k1
                case measure => omega
                case rel => exact ⟨nx, _, _, rfl, hxN, HW2, ⟨HS9.out.next nx⟩⟩
end Go.Proofs.Ythkgfmjgilkdeaa

/- graph.Order. -/
namespace Go.Proofs.Ythkgfmjgilkdeaa
set_option linter.unusedVariables false
set_option linter.unusedSimpArgs false
open Go.RowKit Go.Shelf Go.Proofs.Ythkgfmjgilkdeaa.Q Go.Proofs.YthkgfmjgilkdeaaW.PrintWords Go.Proofs.YthkgfmjgilkdeaaW.PrintLast Go.Proofs.YthkgfmjgilkdeaaW.PrintMore
theorem zeros_ints (N : Nat) : (zeros3 N).toArray = ints (List.replicate N 0) := by unfold zeros3 ints; simp
/-- One is taken off for each node of a list. -/
def dec (L : List Int) : List Int → Option (List Int)
  | [] => some L
  | x :: xs => if 0 ≤ x ∧ x < L.length then dec (L.set x.toNat (wrap64 (rd L x - 1))) xs else none
def ord : Nat → List (List Int) → List Int → List Int → Option (List Int × Bool)
  | 0, _, _, out => some (out, true)
  | k + 1, X, L, out => (slices_Index_int_int.f (L.length + 1) L 0).bind fun i => if i < 0 then some ([], false) else
      if i < L.length ∧ i < X.length ∧ out.length < 1099511627776 then (dec (L.set i.toNat (-1)) (row X i)).bind fun M => ord k X M (out ++ [i]) else none
/-- How many edges lead to each node. -/
def degs (Y : List (List Int)) : List Int := Y.map fun l => (l.length : Int)
/-- The first i places told. -/
def degsTo (Y : List (List Int)) (i : Nat) : List Int := (degs Y).take i ++ List.replicate (Y.length - i) 0
theorem degsTo_len (Y : List (List Int)) (i : Nat) (h : i ≤ Y.length) : (degsTo Y i).length = Y.length := by simp [degsTo, degs]; omega
theorem degsTo_set (Y : List (List Int)) (i : Nat) (h : i < Y.length) : (degsTo Y i).set i ((Y.getD i []).length : Int) = degsTo Y (i + 1) := by
  have hd : i < (degs Y).length := by simpa [degs] using h
  have he : Y.length - i = (Y.length - (i + 1)) + 1 := by omega
  unfold degsTo
  rw [List.set_append_right _ _ (by simp [degs]; omega), he, List.replicate_succ, List.take_add_one, List.getElem?_eq_getElem hd]
  have : i - (List.take i (degs Y)).length = 0 := by simp [degs]; omega
  rw [this]
  simp [degs, List.getD_eq_getElem?_getD, h]
theorem degsTo_all (Y : List (List Int)) : degsTo Y Y.length = degs Y := by
  unfold degsTo degs
  rw [List.take_of_length_le (by simp)]
  simp
theorem ints_C {W : World} {G : Nat} {L : List Int} (h : W.heap[G]? = some (.cells (ints L) 3 (0, 0))) (hl : L.length ≤ 65536) : kI.C W (some ⟨G, 0, none⟩) L.length L := by
  refine Kd.C_of_reads (d := 0) ⟨rfl, by omega, fun _ => ⟨_, rfl, fun j hj => ?_⟩⟩
  have := ints_cell h j hj
  unfold Addr.add
  by_cases h0 : j = 0
  · subst h0; rw [if_pos rfl]; exact this
  · rw [if_neg h0, Nat.zero_add]; exact this
set_option maxHeartbeats 8000000 in
set_option maxRecDepth 100000 in
theorem Order_calls {w : World} {b : Nat} {X Y : List (List Int)} (hG : IsG w b X Y) (res : List Int) (ok : Bool) (ho : ord X.length X (degs Y) [] = some (res, ok)) :
    Calls Try.prog 26 #[.pointer (some ⟨b, 0, none⟩)] w fun e w' => ∃ v, e = .returned (.tuple #[v, .bool ok]) ∧ kI.R 3 w' w.heap.size (fun _ => True) v res ∧ Below w.heap.size w w' := by
  have HG := Aside0.mk hG
  have HB0 := Aside0.mk (Below.refl w.heap.size w)
  have HO := Aside0.mk ho
  have few := hG.few
  obtain ⟨N, hN⟩ : ∃ N, N = X.length := ⟨_, rfl⟩
  have HN := Aside0.mk hN
  have hYl := Aside0.mk (show Y.length = N by rw [hG.same, hN])
  rw [← hN] at few HO
  have hmk := make30 N (by omega)
  have hu76 := Try.underlying76
  clear ho hN hG
  go_enter Try.func26, Try.ntmps26
  go_wp2_with (go_at_call 20; (with_reducible refine (Nodes_calls (X := X) (Y := Y) ?hz).mono ?_); (case hz => (first | exact HG.out | exact HG.out.drewN _)); rw [← HN.out]; rintro e w1 ⟨rfl, ⟨q1, hq1⟩⟩; have HB1 := Aside0.mk (show Below w.heap.size w w1 from hq1 ▸ pw_below_drewN HB0.out q1); clear hq1)
  obtain ⟨G, hG⟩ : ∃ z, z = w1.heap.size := ⟨_, rfl⟩
  have HGe := Aside0.mk (show w.heap.size ≤ G by rw [hG]; exact below_size HB1.out)
  have HL0 := Aside0.mk (show (w1.alloc (.cells (zeros3 N).toArray 3)).heap[G]? = some (.cells (ints (degsTo Y 0)) 3 (0, 0)) by
    rw [hG, heap_alloc_last, zeros_ints]; simp [degsTo, hYl.out])
  have HB2 := Aside0.mk (below_alloc HB1.out (.cells (zeros3 N).toArray 3))
  rw [← hG]
  clear hG hmk HB0
  go_loopg [17] N (fun kq v17 w' => ∃ (i : Nat), v17 = .int .i64 i ∧ i + kq = N ∧ Aside0 (w'.heap[G]? = some (.cells (ints (degsTo Y i)) 3 (0, 0))) ∧ Aside0 (Below w.heap.size w w'))
  case atStart => exact ⟨0, rfl, by omega, HL0, HB2⟩
  case round =>
    clear HL0 HB2
    obtain ⟨i, rfl, hi, HL, HB⟩ := hrel
    cases gk with
    | succ k1 =>
      have hiN : i < N := by omega
      obtain ⟨gg, hh, cx, cy, hb, hX, hY, -, -⟩ := HG.out.ex
      obtain ⟨ad, A0, c0, e0, hc, hlc, hC⟩ := at_L4 hY (i : Int) (by omega) (by have := hYl.out; omega)
      rw [Int.toNat_natCast] at hc
      have z1 : wr.cell? ⟨b, 1, none⟩ = some (.slice hh N cy) := by rw [← hYl.out]; exact pw_cell_below HB.out ((blk_cell hb 1).trans rfl)
      subst e0
      replace hc := pw_cell_below HB.out hc
      have e1 := (rd_L4 Y (i : Int)).length
      obtain ⟨l, hl⟩ : ∃ l, l = rd_L4 Y (i : Int) := ⟨_, rfl⟩
      have Hl := Aside0.mk (show l = Y.getD i [] from hl)
      rw [← hl] at hc
      have sG := ints_cell HL.out i (by rw [degsTo_len Y i (by have := hYl.out; omega)]; have := hYl.out; omega)
      have fG := blk_frozen HL.out i
      have m0 : (0 : Int) ≤ (i : Int) := by omega
      have m1 : (i : Int) < (N : Int) := by omega
      clear hl hlc hC hX hY hb e1
      go_wp2_with fail
      go_roundg k1
      case measure => omega
      case rel => exact ⟨i + 1, by go_num, by omega, ⟨blk_put HL.out i _ (by rw [ints_set, Hl.out, degsTo_set Y i (by have := hYl.out; omega)])⟩, ⟨below_set HB.out HGe.out⟩⟩
    | zero =>
      have ei : i = N := by omega
      rw [ei, ← hYl.out, degsTo_all] at HL
      rw [ei]
      have HR0 := Aside0.mk (Kd.R_nil kI 3 wr w.heap.size (fun k => k ≠ G))
      have hLl0 : (degs Y).length = N := by simp [degs, hYl.out]
      clear ei hi i
      go_wp2_with fail
      go_loopg [6, 34] N (fun kq v6 v34 w' => ∃ (j : Nat) (L out : List Int), v34 = .int .i64 j ∧ j + kq = N ∧ Aside0 (ord kq X L out = some (res, ok)) ∧ Aside0 (L.length = N) ∧ Aside0 (w'.heap[G]? = some (.cells (ints L) 3 (0, 0))) ∧ Aside0 (kI.R 3 w' w.heap.size (fun k => k ≠ G) v6 out) ∧ Aside0 (Below w.heap.size w w'))
      case atStart => exact ⟨0, _, _, rfl, by omega, HO, ⟨hLl0⟩, HL, HR0, HB⟩
      case round =>
        clear HL HB HR0 HO hLl0
        obtain ⟨j, L, out, rfl, hj, HO, HLl, HL, HR, HB⟩ := hrel
        cases gk with
        | zero =>
          have e := HO.out
          rw [ord] at e
          obtain ⟨rfl, rfl⟩ := Prod.mk.inj (Option.some.inj e)
          have ej : j = N := by omega
          rw [ej]
          clear e
          go_wp2_with fail
          go_ret2
          exact ⟨_, rfl, Kd.R_mono HR.out (fun _ _ => trivial), HB.out⟩
        | succ k1 =>
          have hjN : (j : Int) < (N : Int) := by omega
          have hj0 : (0 : Int) ≤ (j : Int) := by omega
          have e := HO.out
          rw [ord] at e
          obtain ⟨i, hidx, e⟩ := Option.bind_eq_some_iff.mp e
          have hcall : Calls Try.prog 46 #[.slice (some ⟨G, 0, none⟩) N N, .int .i64 0] wr fun e w' => e = .returned (.int .i64 i) ∧ Drawn0 wr w' := by
            have := slices_Index_int_int.calls (L.length + 1) (some ⟨G, 0, none⟩) L.length L 0 i wr (ints_C HL.out (by rw [HLl.out]; omega)) (Nat.le_refl _) hidx
            rwa [HLl.out] at this
          have HC := Aside0.mk hcall
          clear hcall
          by_cases hneg : i < 0
          · rw [if_pos hneg] at e
            obtain ⟨rfl, rfl⟩ := Prod.mk.inj (Option.some.inj e)
            clear e
            go_wp2_with (go_at_call 46; refine HC.out.mono ?_; rintro e w2 ⟨rfl, ⟨q2, hq2⟩⟩; have HB2 := Aside0.mk (show Below w.heap.size w w2 from hq2 ▸ pw_below_drewN HB.out q2); clear hq2)
            go_ret2
            exact ⟨_, rfl, Kd.R_nil _ _ _ _ _, HB2.out⟩
          · rw [if_neg hneg] at e
            by_cases hcnd : i < L.length ∧ i < X.length ∧ out.length < 1099511627776
            case neg => rw [if_neg hcnd] at e; cases e
            rw [if_pos hcnd] at e
            obtain ⟨M, hdec, e⟩ := Option.bind_eq_some_iff.mp e
            obtain ⟨n, rfl⟩ := Int.eq_ofNat_of_zero_le (show 0 ≤ i by omega)
            have hnN : n < N := by have := hcnd.1; have := HLl.out; omega
            rw [Int.toNat_natCast] at hdec
            obtain ⟨gg, hh, cx, cy, hb, hX, hY, -, -⟩ := HG.out.ex
            obtain ⟨ad, A0, c0, e0, hc, hlc, hC⟩ := at_L4 hX (n : Int) (by omega) hcnd.2.1
            rw [Int.toNat_natCast] at hc
            rw [← row_in (by omega) hcnd.2.1] at hc hlc hC
            have Hll := Aside0.mk (row_len (X := X) (n : Int) HG.out.fewX)
            obtain ⟨l, hl⟩ : ∃ l, l = row X (n : Int) := ⟨_, rfl⟩
            rw [← hl] at hc hlc hC Hll hdec
            subst e0
            have z1 := fun (W : World) (hB : Aside0 (Below w.heap.size w W)) => (show W.cell? ⟨b, 0, none⟩ = some (.slice (some ad) N cx) by rw [HN.out]; exact pw_cell_below hB.out ((blk_cell hb 0).trans rfl))
            have Z1 := Aside0.mk z1
            have Z2 := Aside0.mk (fun (W : World) (hB : Aside0 (Below w.heap.size w W)) => (show W.cell? (ad.add n) = some (.slice A0 l.length c0) from pw_cell_below hB.out hc))
            have HCl := Aside0.mk hC
            have HD := Aside0.mk hdec
            have HE := Aside0.mk e
            have Hol := Aside0.mk hcnd.2.2
            have m0 : (0 : Int) ≤ (n : Int) := by omega
            have m1 : (n : Int) < (N : Int) := by omega
            clear z1 hc hlc hC hX hY hb hl hdec e hcnd hneg hidx HO
            have hol := Hol.out
            have hll := Hll.out
            go_wp2_with (first | (go_at_call 46; refine HC.out.mono ?_; rintro e w2 ⟨rfl, ⟨q2, hq2⟩⟩; have HB2 := Aside0.mk (show Below w.heap.size w w2 from hq2 ▸ pw_below_drewN HB.out q2); have HL2 := Aside0.mk (show w2.heap[G]? = some (.cells (ints L) 3 (0, 0)) from hq2 ▸ blk_drewN HL.out q2); have HR2 := Aside0.mk (show kI.R 3 w2 w.heap.size (fun k => k ≠ G) u6 out from hq2 ▸ Kd.R_drewN HR.out q2); have sG := ints_cell HL2.out n (by rw [HLl.out]; exact hnN); have fG := blk_frozen HL2.out n; have HL3 := Aside0.mk (blk_put HL2.out n _ (ints_set L n (-1))); have HR3 := Aside0.mk (Kd.R_far (p := ⟨G, n, none⟩) HR2.out (fun k hk => hk) (.int .i64 (-1))); have HB3 := Aside0.mk (show Below w.heap.size w (w2.setCell ⟨G, n, none⟩ (.int .i64 (-1))) from below_set HB2.out HGe.out); clear hq2 HB2 HL2 HR2) | ((with_reducible refine gate_builtin (b := .append) (xs := #[.tmp 43, .tmp 45]) rfl ?_); at_builtin; refine Kd.R_append kI (w0 := w) w.heap.size rfl (.tmp 43) (.tmp 45) 30 3 (.int .i64 0) 8 rfl Try.underlying30 info3 rfl (by decide) (by decide) u6 out (n : Int) [.int .i64 n] (fun k => k ≠ G) (fun _ => False) rfl ?ax rfl (fun _ h => h.elim) (fun k hk e => by have := blk_lt HL3.out; omega) HR3.out HB3.out (below_size HB3.out) (by omega) ?_; (case ax => first | (go_simp; done) | (go_simp; rfl) | simp); intro v1 w4 ho hbb hg hatt; have HR4 := Aside0.mk ho; have HB4 := Aside0.mk hbb; have HL4 := Aside0.mk (blk_grown HL3.out hg (fun e => HR3.out.1 G e.symm rfl)); have z1 := Z1.out w4 HB4; have z2 := Z2.out w4 HB4; clear ho hbb hg hatt))
            go_loopg [55] l.length (fun kq v55 w' => ∃ (jj : Nat) (L2 : List Int), v55 = .int .i64 jj ∧ jj + kq = l.length ∧ Aside0 (dec L2 (l.drop jj) = some M) ∧ Aside0 (L2.length = N) ∧ Aside0 (w'.heap[G]? = some (.cells (ints L2) 3 (0, 0))) ∧ Aside0 (kI.R 3 w' w.heap.size (fun k => k ≠ G) v1 (out ++ [(n : Int)])) ∧ Aside0 (Below w.heap.size w w'))
            case atStart => exact ⟨0, _, rfl, by omega, HD, ⟨by rw [List.length_set]; exact HLl.out⟩, HL4, HR4, HB4⟩
            case round =>
              clear HL4 HR4 HB4 HD HL3 HR3 HB3
              obtain ⟨jj, L2, rfl, hjj, HD, HLl2, HL4, HR4, HB4⟩ := hrel
              cases gk with
              | zero =>
                have ejj : jj = l.length := by omega
                have e := HD.out
                rw [ejj, List.drop_length, dec] at e
                have e := Option.some.inj e
                rw [e] at HLl2 HL4
                rw [ejj]
                clear ejj hjj e HD
                go_wp2_with fail
                go_roundg k1
                case measure => omega
                case rel => exact ⟨j + 1, M, out ++ [(n : Int)], by go_num, by omega, HE, HLl2, HL4, HR4, HB4⟩
              | succ k2 =>
                have hjl : jj < l.length := by omega
                have e := HD.out
                rw [List.drop_eq_getElem_cons hjl, dec] at e
                obtain ⟨x, hx⟩ : ∃ x, x = l[jj] := ⟨_, rfl⟩
                rw [← hx] at e
                by_cases hcnd : 0 ≤ x ∧ x < L2.length
                case neg => rw [if_neg hcnd] at e; cases e
                rw [if_pos hcnd] at e
                obtain ⟨nx, rfl⟩ := Int.eq_ofNat_of_zero_le hcnd.1
                have c1 : (nx : Int) < (N : Int) := by have := hcnd.2; have := HLl2.out; omega
                have c2 : (0 : Int) ≤ (nx : Int) := by omega
                obtain ⟨ad0, e0, hx2⟩ := Kd.at_int (Kd.C_below HCl.out HB4.out) (jj : Int) (by omega) (by omega)
                rw [Int.toNat_natCast, show rd l (jj : Int) = (nx : Int) by rw [hx]; unfold rd; simp [hjl]] at hx2
                subst e0
                have p2 := eq_true (show (0 : Int) ≤ jj by omega)
                have q3 : ((jj : Int) < (l.length : Int)) = True := eq_true (by omega)
                have sX := ints_cell HL4.out nx (by have := hcnd.2; omega)
                have fX := blk_frozen HL4.out nx
                rw [Int.toNat_natCast] at e
                have HD2 := Aside0.mk e
                obtain ⟨u, hu⟩ : ∃ u, u = rd L2 (nx : Int) := ⟨_, rfl⟩
                rw [← hu] at sX HD2
                clear hx e hcnd HD hu
                go_wp2_with fail
                go_roundg k2
                case measure => omega
                case rel => exact ⟨jj + 1, _, by go_num, by omega, HD2, ⟨by rw [List.length_set]; exact HLl2.out⟩, ⟨blk_put HL4.out nx _ (ints_set L2 nx _)⟩, ⟨Kd.R_far (p := ⟨G, nx, none⟩) HR4.out (fun k hk => hk) _⟩, ⟨below_set HB4.out HGe.out⟩⟩
end Go.Proofs.Ythkgfmjgilkdeaa
