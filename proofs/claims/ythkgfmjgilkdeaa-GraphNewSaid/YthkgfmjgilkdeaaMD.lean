/- Several texts of this session in one file. -/
import Derived.Test.YthkgfmjgilkdeaaMC
import Derived.Laws.EntriesVeiled
/- graph.reached, where, Reach, Between. -/
namespace Go.Proofs.Ythkgfmjgilkdeaa
set_option linter.unusedVariables false
set_option linter.unusedSimpArgs false
open Go.RowKit Go.Shelf Go.Proofs.Ythkgfmjgilkdeaa.Q Go.Proofs.YthkgfmjgilkdeaaW.PrintWords Go.Proofs.YthkgfmjgilkdeaaW.PrintLast Go.Proofs.YthkgfmjgilkdeaaW.PrintMore
def bools (m : List Bool) : Array Value := (m.map Value.bool).toArray
theorem bools_cell {W : World} {S : Nat} {m : List Bool} (h : W.heap[S]? = some (.cells (bools m) 4 (0, 0))) (n : Nat) (hn : n < m.length) : W.cell? ⟨S, n, none⟩ = some (.bool (m.getD n false)) := by
  rw [blk_cell h n]
  unfold bools
  simp [hn]
theorem bools_set (m : List Bool) (n : Nat) (v : Bool) : (bools m).setIfInBounds n (.bool v) = bools (m.set n v) := by
  unfold bools
  simp [List.map_set]
def visL (f : List Bool → Int → Option (List Bool)) : List Int → List Bool → Option (List Bool)
  | [], m => some m
  | x :: xs, m => (f m x).bind (visL f xs)
/-- What visit makes of the marks. -/
def vis : Nat → List (List Int) → List Bool → Int → Option (List Bool)
  | 0, _, _, _ => none
  | k + 1, X, m, n => if 0 ≤ n ∧ n < m.length ∧ n < X.length then (if m.getD n.toNat false = true then some m else visL (vis k X) (row X n) (m.set n.toNat true)) else none
theorem visL_drop {f : List Bool → Int → Option (List Bool)} {l : List Int} {j : Nat} (hj : j < l.length) (m : List Bool) : visL f (l.drop j) m = (f m l[j]).bind (visL f (l.drop (j + 1))) := by
  rw [List.drop_eq_getElem_cons hj, visL]
/-- The blocks of reached. -/
structure Vs (w W : World) (b b5 b2 b6 S N : Nat) (m : List Bool) : Prop where
  h5 : W.heap[b5]? = some (.cells #[.slice (some ⟨S, 0, none⟩) N N] 83 (0, 0))
  hS : W.heap[S]? = some (.cells (bools m) 4 (0, 0))
  h2 : W.heap[b2]? = some (.cells #[.pointer (some ⟨b, 0, none⟩)] 24 (0, 0))
  h6 : W.heap[b6]? = some (.cells #[.func (.func 66) #[] #[.pointer (some ⟨b5, 0, none⟩), .pointer (some ⟨b2, 0, none⟩), .pointer (some ⟨b6, 0, none⟩)]] 87 (0, 0))
  bel : Below w.heap.size w W
  gS : w.heap.size ≤ S
  len : m.length = N
section
variable {w W : World} {b b5 b2 b6 S N : Nat} {m : List Bool}
theorem Vs.set (h : Vs w W b b5 b2 b6 S N m) (n : Nat) : Vs w (W.setCell ⟨S, n, none⟩ (.bool true)) b b5 b2 b6 S N (m.set n true) :=
  ⟨(Below.heap_setCell W ⟨S, n, none⟩ _ b5 (fun e => blk_ne h.h5 h.hS (by decide) e)).trans h.h5, blk_put h.hS n _ (bools_set m n true), (Below.heap_setCell W ⟨S, n, none⟩ _ b2 (fun e => blk_ne h.h2 h.hS (by decide) e)).trans h.h2,
    (Below.heap_setCell W ⟨S, n, none⟩ _ b6 (fun e => blk_ne h.h6 h.hS (by decide) e)).trans h.h6, below_set h.bel h.gS, h.gS, by rw [List.length_set]; exact h.len⟩
end
set_option maxHeartbeats 4000000 in
set_option maxRecDepth 100000 in
theorem visit_calls {w : World} {b b5 b2 b6 S : Nat} {X Y : List (List Int)} (hG : IsG w b X Y) : ∀ (k : Nat) (m : List Bool) (n : Int) (r : List Bool) (W : World), Vs w W b b5 b2 b6 S X.length m → vis k X m n = some r →
    Calls Try.prog 66 #[.int .i64 n, .pointer (some ⟨b5, 0, none⟩), .pointer (some ⟨b2, 0, none⟩), .pointer (some ⟨b6, 0, none⟩)] W fun e W' => (∃ v, e = .returned v) ∧ Vs w W' b b5 b2 b6 S X.length r := by
  intro k
  induction k with
  | zero => intro m n r W _ h; simp [vis] at h
  | succ k ih =>
    intro m n r W hV h
    rw [vis] at h
    by_cases hc : 0 ≤ n ∧ n < m.length ∧ n < X.length
    case neg => rw [if_neg hc] at h; cases h
    rw [if_pos hc] at h
    obtain ⟨n, rfl⟩ := Int.eq_ofNat_of_zero_le hc.1
    rw [Int.toNat_natCast] at h
    have HV := Aside0.mk hV
    have HIH := Aside0.mk ih
    have few := hG.few
    have c0 : (0 : Int) ≤ (n : Int) := hc.1
    have c1 : (n : Int) < (X.length : Int) := hc.2.2
    have s5 := (blk_cell hV.h5 0).trans rfl
    have s2 := (blk_cell hV.h2 0).trans rfl
    have sS := bools_cell hV.hS n (by omega)
    have fS := blk_frozen hV.hS n
    cases hm : m.getD n false with
    | true =>
      rw [hm, if_pos rfl] at h
      rw [hm] at sS
      obtain rfl := Option.some.inj h
      clear h hc hV ih hG
      go_enter Try.func66, Try.ntmps66
      go_wp2_with fail
      refine bodyPost_ret (results_none rfl _ _ _) rfl ?_
      exact ⟨⟨_, rfl⟩, HV.out⟩
    | false =>
      rw [hm, if_neg (by decide)] at h
      rw [hm] at sS
      have HG := Aside0.mk hG
      have H := Aside0.mk h
      obtain ⟨gg, hh, cx, cy, hb, hX, hY, -, -⟩ := hG.ex
      obtain ⟨ad, A0, c0', e0, hrow, hlc, hC⟩ := at_L4 hX (n : Int) c0 c1
      rw [Int.toNat_natCast] at hrow
      rw [← row_in c0 c1] at hrow hlc hC
      have Hll := Aside0.mk (row_len (X := X) (n : Int) hG.fewX)
      obtain ⟨l, hl⟩ : ∃ l, l = row X (n : Int) := ⟨_, rfl⟩
      rw [← hl] at hrow hlc hC Hll H
      subst e0
      have HV1 := Aside0.mk (hV.set n)
      have s2' := (blk_cell HV1.out.h2 0).trans rfl
      have z1 : (W.setCell ⟨S, n, none⟩ (.bool true)).cell? ⟨b, 0, none⟩ = some (.slice (some ad) X.length cx) := pw_cell_below HV1.out.bel ((blk_cell hb 0).trans rfl)
      have z2 : (W.setCell ⟨S, n, none⟩ (.bool true)).cell? (ad.add n) = some (.slice A0 l.length c0') := pw_cell_below HV1.out.bel hrow
      have HCl := Aside0.mk hC
      have s5' := (blk_cell HV1.out.h5 0).trans rfl
      have hll := Hll.out
      clear h hc hV ih hG hb hX hY hrow hlc hC hl HV
      go_enter Try.func66, Try.ntmps66
      go_wp2_with fail
      go_loopg [22] l.length (fun kq v22 w' => ∃ (j : Nat) (m2 : List Bool), v22 = .int .i64 j ∧ j + kq = l.length ∧ Aside0 (visL (vis k X) (l.drop j) m2 = some r) ∧ Aside0 (Vs w w' b b5 b2 b6 S X.length m2))
      case atStart => exact ⟨0, _, rfl, by omega, H, HV1⟩
      case round =>
        clear H HV1
        obtain ⟨j, m2, rfl, hj, H, HV⟩ := hrel
        cases gk with
        | zero =>
          have ej : j = l.length := by omega
          have e := H.out
          rw [ej, List.drop_length, visL] at e
          have e := Option.some.inj e
          rw [e] at HV
          rw [ej]
          clear ej hj e H
          go_wp2_with fail
          go_end0
          exact ⟨⟨_, rfl⟩, HV.out⟩
        | succ k2 =>
          have hjl : j < l.length := by omega
          have e := H.out
          rw [visL_drop hjl] at e
          obtain ⟨m3, hm3, e⟩ := Option.bind_eq_some_iff.mp e
          obtain ⟨x, hx⟩ : ∃ x, x = l[j] := ⟨_, rfl⟩
          rw [← hx] at hm3
          obtain ⟨ad0, e0, hx2⟩ := Kd.at_int (Kd.C_below HCl.out HV.out.bel) (j : Int) (by omega) (by omega)
          rw [Int.toNat_natCast, show rd l (j : Int) = x by rw [hx]; unfold rd; simp [hjl]] at hx2
          subst e0
          have p2 := eq_true (show (0 : Int) ≤ j by omega)
          have q3 : ((j : Int) < (l.length : Int)) = True := eq_true (by omega)
          have s6 := (blk_cell HV.out.h6 0).trans rfl
          have H2 := Aside0.mk e
          have H3 := Aside0.mk hm3
          clear e hm3 hx H
          go_wp2_with (go_at_call 66; refine (HIH.out m2 x m3 _ HV.out H3.out).mono ?_; rintro e w3 ⟨⟨v, rfl⟩, hv3⟩; have HV3 := Aside0.mk hv3; clear hv3)
          go_roundg k2
          case measure => omega
          case rel => exact ⟨j + 1, m3, by go_num, by omega, H2, HV3⟩
theorem info4' : (Try.prog.info? 4).map (fun i => (i.zero, i.size, i.bytes)) = some (some (.bool false), 1, 1) := by kernel_rfl
theorem made4 (N : Nat) : madeCells (Value.bool false).cells (N * 1) = bools (List.replicate N false) := by
  show (Array.range (N * 1)).map _ = _
  rw [Nat.mul_one]
  apply Array.ext
  · simp [bools]
  · intro j h1 h2
    simp [Value.cells, Nat.mod_one, bools]
theorem make83 (N : Nat) (h : N ≤ 65536) (W : World) : (Instr.makeSlice 83 (.int .i64 N) (.int .i64 N)).run Try.prog W = .ok (.slice (some ⟨W.heap.size, 0, none⟩) N N) (W.alloc (.cells (bools (List.replicate N false)) 4)) := by
  obtain ⟨i0, hi, hz0, hz1, hz2⟩ := info_parts info4'
  have := run_make (P := Try.prog) W 83 4 i0 (.bool false) Try.underlying83 hi hz0 .i64 .i64 (N : Int) (N : Int) (by omega) (by omega) (by rw [hz2]; omega) (by omega)
  rw [Int.toNat_natCast, hz1, made4] at this
  exact this
/-- The nodes of a list, one by one. -/
def fromL (f : List Bool → Int → Option (List Bool)) (N : Nat) : List Int → List Bool → Option (List Bool)
  | [], m => some m
  | n :: ns, m => if isIn N n = true then (f m n).bind (fromL f N ns) else fromL f N ns m
set_option maxHeartbeats 4000000 in
set_option maxRecDepth 100000 in
theorem reached_calls {w : World} {b : Nat} {X Y : List (List Int)} (hG : IsG w b X Y) (K : Nat) (A : Option Addr) (c : Nat) (l : List Int) (hl : kI.C w A l.length l) (hll : l.length ≤ 65536) (r : List Bool) (hr : fromL (vis K X) X.length l (List.replicate X.length false) = some r) :
    Calls Try.prog 47 #[.pointer (some ⟨b, 0, none⟩), .slice A l.length c] w fun e w' => ∃ S, e = .returned (.slice (some ⟨S, 0, none⟩) X.length X.length) ∧ w'.heap[S]? = some (.cells (bools r) 4 (0, 0)) ∧ r.length = X.length ∧ w.heap.size ≤ S ∧ Below w.heap.size w w' := by
  have HG := Aside0.mk hG
  have HB0 := Aside0.mk (Below.refl w.heap.size w)
  have HR := Aside0.mk hr
  have HL := Aside0.mk hl
  have few := hG.few
  obtain ⟨N, hN⟩ : ∃ N, N = X.length := ⟨_, rfl⟩
  have HN := Aside0.mk hN
  rw [← hN] at few HR ⊢
  have hmk := make83 N (by omega)
  clear hr hl hN hG
  go_enter Try.func47, Try.ntmps47
  have HVs := Aside0.mk (fun q1 : Nat => (show Vs w (((((w.alloc (.cells #[.pointer (some ⟨b, 0, none⟩)] 24)).drewN q1).alloc (.cells (bools (List.replicate N false)) 4)).alloc (.cells #[.slice (some ⟨w.heap.size + 1, 0, none⟩) N N] 83)).alloc (.cells #[.func (.func 66) #[] #[.pointer (some ⟨w.heap.size + 1 + 1, 0, none⟩), .pointer (some ⟨w.heap.size, 0, none⟩), .pointer (some ⟨w.heap.size + 1 + 1 + 1, 0, none⟩)]] 87)) b (w.heap.size + 1 + 1) w.heap.size (w.heap.size + 1 + 1 + 1) (w.heap.size + 1) N (List.replicate N false) from by
    have hs1 : ((w.alloc (.cells #[.pointer (some ⟨b, 0, none⟩)] 24)).drewN q1).heap.size = w.heap.size + 1 := World.size_alloc _ _
    have h2 := blk_drewN (heap_alloc_last w (.cells #[.pointer (some ⟨b, 0, none⟩)] 24)) q1
    have hS := heap_alloc_last ((w.alloc (.cells #[.pointer (some ⟨b, 0, none⟩)] 24)).drewN q1) (.cells (bools (List.replicate N false)) 4)
    rw [hs1] at hS
    have h5 := heap_alloc_last (((w.alloc (.cells #[.pointer (some ⟨b, 0, none⟩)] 24)).drewN q1).alloc (.cells (bools (List.replicate N false)) 4)) (.cells #[.slice (some ⟨w.heap.size + 1, 0, none⟩) N N] 83)
    rw [World.size_alloc, hs1] at h5
    have h6 := heap_alloc_last ((((w.alloc (.cells #[.pointer (some ⟨b, 0, none⟩)] 24)).drewN q1).alloc (.cells (bools (List.replicate N false)) 4)).alloc (.cells #[.slice (some ⟨w.heap.size + 1, 0, none⟩) N N] 83)) (.cells #[.func (.func 66) #[] #[.pointer (some ⟨w.heap.size + 1 + 1, 0, none⟩), .pointer (some ⟨w.heap.size, 0, none⟩), .pointer (some ⟨w.heap.size + 1 + 1 + 1, 0, none⟩)]] 87)
    rw [World.size_alloc, World.size_alloc, hs1] at h6
    exact ⟨blk_alloc h5 _, blk_alloc (blk_alloc hS _) _, blk_alloc (blk_alloc (blk_alloc h2 _) _) _, h6, below_alloc (below_alloc (below_alloc (pw_below_drewN (below_alloc HB0.out _) q1) _) _) _, by omega, by simp⟩))
  go_wp2_with (go_at_call 20; (with_reducible refine (Nodes_calls (X := X) (Y := Y) ?hz).mono ?_); (case hz => (first | exact HG.out.alloc _ | exact (HG.out.alloc _).drewN _)); rw [← HN.out]; rintro e w1 ⟨rfl, ⟨q1, rfl⟩⟩; have HV0 := Aside0.mk (HVs.out q1))
  obtain ⟨b5, hb5⟩ : ∃ z, z = w.heap.size + 1 + 1 := ⟨_, rfl⟩
  obtain ⟨b6, hb6⟩ : ∃ z, z = w.heap.size + 1 + 1 + 1 := ⟨_, rfl⟩
  obtain ⟨S, hS⟩ : ∃ z, z = w.heap.size + 1 := ⟨_, rfl⟩
  have HS1 := Aside0.mk (show w.heap.size ≤ S by omega)
  have HE := Aside0.mk (And.intro hb5 (And.intro hb6 hS))
  rw [← hb6, ← hb5, ← hS]
  clear HVs HB0 hmk hS hb6 hb5
  go_loopg [8, 15] l.length (fun kq v8 v15 w' => ∃ (j : Nat) (m : List Bool), v15 = .int .i64 j ∧ j + kq = l.length ∧ Aside0 (fromL (vis K X) N (l.drop j) m = some r) ∧ Aside0 (Vs w w' b b5 w.heap.size b6 S N m))
  case atStart =>
    obtain ⟨e1, e2, e3⟩ := HE.out
    subst e1 e2 e3
    exact ⟨0, _, rfl, by omega, HR, HV0⟩
  case round =>
    clear HV0 HR
    obtain ⟨j, m, rfl, hj, HR, HV⟩ := hrel
    cases gk with
    | zero =>
      have ej : j = l.length := by omega
      have e := HR.out
      rw [ej, List.drop_length, fromL] at e
      have e := Option.some.inj e
      rw [e] at HV
      rw [ej]
      have s5 := (blk_cell HV.out.h5 0).trans rfl
      clear ej hj e HR
      go_wp2_with fail
      go_ret
      exact ⟨S, rfl, HV.out.hS, HV.out.len, HS1.out, HV.out.bel⟩
    | succ k2 =>
      have hjl : j < l.length := by omega
      have e := HR.out
      rw [List.drop_eq_getElem_cons hjl, fromL] at e
      obtain ⟨x, hx⟩ : ∃ x, x = l[j] := ⟨_, rfl⟩
      rw [← hx] at e
      obtain ⟨ad0, e0, hx2⟩ := Kd.at_int (Kd.C_below HL.out HV.out.bel) (j : Int) (by omega) (by omega)
      rw [Int.toNat_natCast, show rd l (j : Int) = x by rw [hx]; unfold rd; simp [hjl]] at hx2
      subst e0
      have p2 := eq_true (show (0 : Int) ≤ j by omega)
      have q3 : ((j : Int) < (l.length : Int)) = True := eq_true (by omega)
      have s2 := (blk_cell HV.out.h2 0).trans rfl
      have s6 := (blk_cell HV.out.h6 0).trans rfl
      have HGr := Aside0.mk (HG.out.below HV.out.bel)
      cases hin : isIn N x with
      | true =>
        rw [hin, if_pos rfl] at e
        obtain ⟨m3, hm3, e⟩ := Option.bind_eq_some_iff.mp e
        have H2 := Aside0.mk e
        have H3 := Aside0.mk hm3
        have Hin := Aside0.mk (show isNode X x = true by unfold isNode; rw [← HN.out]; exact hin)
        clear e hm3 hx HR hin
        go_wp2_with (first | (go_at_call 37; (with_reducible refine (node_calls (X := X) (Y := Y) HGr.out _).mono ?_); rw [Hin.out]; rintro e w2 ⟨rfl, ⟨q2, hq2⟩⟩; have HV2 := Aside0.mk (show Vs w w2 b b5 w.heap.size b6 S X.length m from by rw [← HN.out, hq2]; exact ⟨blk_drewN HV.out.h5 q2, blk_drewN HV.out.hS q2, blk_drewN HV.out.h2 q2, blk_drewN HV.out.h6 q2, pw_below_drewN HV.out.bel q2, HV.out.gS, HV.out.len⟩); have s7 := (blk_cell HV2.out.h6 0).trans rfl; clear hq2) | (go_at_call 66; refine (visit_calls HG.out K m x m3 _ HV2.out H3.out).mono ?_; rintro e w3 ⟨⟨v, rfl⟩, hv3⟩; rw [← HN.out] at hv3; have HV3 := Aside0.mk hv3; clear hv3))
        go_roundg k2
        case measure => omega
        case rel => exact ⟨j + 1, m3, by go_num, by omega, H2, HV3⟩
      | false =>
        rw [hin, if_neg (by decide)] at e
        have H2 := Aside0.mk e
        have Hin := Aside0.mk (show isNode X x = false by unfold isNode; rw [← HN.out]; exact hin)
        clear e hx HR hin
        go_wp2_with (go_at_call 37; (with_reducible refine (node_calls (X := X) (Y := Y) HGr.out _).mono ?_); rw [Hin.out]; rintro e w2 ⟨rfl, ⟨q2, hq2⟩⟩; have HV2 := Aside0.mk (show Vs w w2 b b5 w.heap.size b6 S N m from by rw [hq2]; exact ⟨blk_drewN HV.out.h5 q2, blk_drewN HV.out.hS q2, blk_drewN HV.out.h2 q2, blk_drewN HV.out.h6 q2, pw_below_drewN HV.out.bel q2, HV.out.gS, HV.out.len⟩); clear hq2)
        go_roundg k2
        case measure => omega
        case rel => exact ⟨j + 1, m, by go_num, by omega, H2, HV2⟩
end Go.Proofs.Ythkgfmjgilkdeaa

/- graph.where, Reach, Between. -/
namespace Go.Proofs.Ythkgfmjgilkdeaa
set_option linter.unusedVariables false
set_option linter.unusedSimpArgs false
open Go.RowKit Go.Shelf Go.Proofs.Ythkgfmjgilkdeaa.Q Go.Proofs.YthkgfmjgilkdeaaW.PrintWords Go.Proofs.YthkgfmjgilkdeaaW.PrintLast Go.Proofs.YthkgfmjgilkdeaaW.PrintMore
/-- The numbers below n with a property. -/
def those (p : Nat → Bool) (n : Nat) : List Int := ((List.range n).filter p).map fun j : Nat => (j : Int)
theorem those_succ (p : Nat → Bool) (n : Nat) : those p (n + 1) = if p n then those p n ++ [(n : Int)] else those p n := by
  unfold those
  rw [List.range_succ, List.filter_append]
  by_cases h : p n = true
  · simp [h]
  · simp [h]
theorem those_len (p : Nat → Bool) (n : Nat) : (those p n).length ≤ n := by
  unfold those
  rw [List.length_map]
  have := List.length_filter_le p (List.range n)
  simpa using this
set_option maxHeartbeats 2000000 in
theorem closure49 {W : World} {b5 S N : Nat} {r : List Bool} (h5 : W.cell? ⟨b5, 0, none⟩ = some (.slice (some ⟨S, 0, none⟩) N N)) (hS : W.heap[S]? = some (.cells (bools r) 4 (0, 0))) (hr : r.length = N) (n : Nat) (hn : n < N) :
    Calls Try.prog 49 #[.int .i64 n, .pointer (some ⟨b5, 0, none⟩)] W fun e w' => e = .returned (.bool (r.getD n false)) ∧ Drawn0 W w' := by
  have c0 : (0 : Int) ≤ (n : Int) := by omega
  have c1 : (n : Int) < (N : Int) := by omega
  have sS := bools_cell hS n (by omega)
  obtain ⟨u, hu⟩ : ∃ u, u = r.getD n false := ⟨_, rfl⟩
  rw [← hu] at sS ⊢
  clear hu hS hr hn
  go_enter Try.func49, Try.ntmps49
  go_wp2
  go_ret
  exact ⟨rfl, by repeat (first | exact Drawn0.refl _ | apply Drawn0.step)⟩
set_option maxHeartbeats 2000000 in
theorem closure50 {W : World} {b7 b8 S T N : Nat} {r s : List Bool} (h7 : W.cell? ⟨b7, 0, none⟩ = some (.slice (some ⟨S, 0, none⟩) N N)) (hS : W.heap[S]? = some (.cells (bools r) 4 (0, 0))) (hr : r.length = N)
    (h8 : W.cell? ⟨b8, 0, none⟩ = some (.slice (some ⟨T, 0, none⟩) N N)) (hT : W.heap[T]? = some (.cells (bools s) 4 (0, 0))) (hs : s.length = N) (n : Nat) (hn : n < N) :
    Calls Try.prog 50 #[.int .i64 n, .pointer (some ⟨b7, 0, none⟩), .pointer (some ⟨b8, 0, none⟩)] W fun e w' => e = .returned (.bool (r.getD n false && s.getD n false)) ∧ Drawn0 W w' := by
  have c0 : (0 : Int) ≤ (n : Int) := by omega
  have c1 : (n : Int) < (N : Int) := by omega
  have sS := bools_cell hS n (by omega)
  have sT := bools_cell hT n (by omega)
  obtain ⟨v, hv⟩ : ∃ v, v = s.getD n false := ⟨_, rfl⟩
  cases hu : r.getD n false with
  | true =>
    rw [hu] at sS
    rw [← hv] at sT ⊢
    clear hu hv hS hr hn hT hs
    go_enter Try.func50, Try.ntmps50
    go_wp2
    go_ret
    exact ⟨by simp, by repeat (first | exact Drawn0.refl _ | apply Drawn0.step)⟩
  | false =>
    rw [hu] at sS
    clear hu hv sT hS hr hn hT hs
    go_enter Try.func50, Try.ntmps50
    go_wp2
    go_ret
    exact ⟨by simp, by repeat (first | exact Drawn0.refl _ | apply Drawn0.step)⟩
set_option maxHeartbeats 4000000 in
set_option maxRecDepth 100000 in
theorem where49 {w : World} {b : Nat} {X Y : List (List Int)} (hG : IsG w b X Y) (b5 : Nat) (p : Nat → Bool) (hp : ∀ (n : Nat), n < X.length → ∀ W, Below w.heap.size w W → Calls Try.prog 49 #[.int .i64 n, .pointer (some ⟨b5, 0, none⟩)] W fun e w' => e = .returned (.bool (p n)) ∧ Drawn0 W w') :
    Calls Try.prog 48 #[.pointer (some ⟨b, 0, none⟩), .func (.func 49) #[] #[.pointer (some ⟨b5, 0, none⟩)]] w fun e w' => ∃ v, e = .returned v ∧ kI.R 3 w' w.heap.size (fun _ => True) v (those p X.length) ∧ Below w.heap.size w w' := by
  have HG := Aside0.mk hG
  have HB0 := Aside0.mk (Below.refl w.heap.size w)
  have HP := Aside0.mk hp
  have few := hG.few
  obtain ⟨N, hN⟩ : ∃ N, N = X.length := ⟨_, rfl⟩
  have HN := Aside0.mk hN
  rw [← hN] at few HP ⊢
  clear hp hN hG
  go_enter Try.func48, Try.ntmps48
  go_wp2_with (go_at_call 20; (with_reducible refine (Nodes_calls (X := X) (Y := Y) ?hz).mono ?_); (case hz => (first | exact HG.out | exact HG.out.drewN _)); rw [← HN.out]; rintro e w1 ⟨rfl, ⟨q1, hq1⟩⟩; have HB1 := Aside0.mk (show Below w.heap.size w w1 from hq1 ▸ pw_below_drewN HB0.out q1); clear hq1)
  have HR0 := Aside0.mk (Kd.R_nil kI 3 w1 w.heap.size (fun _ => True))
  clear HB0
  go_loopg [5, 9] N (fun kq v5 v9 w' => ∃ (j : Nat), v9 = .int .i64 j ∧ j + kq = N ∧ Aside0 (kI.R 3 w' w.heap.size (fun _ => True) v5 (those p j)) ∧ Aside0 (Below w.heap.size w w'))
  case atStart => exact ⟨0, rfl, by omega, HR0, HB1⟩
  case round =>
    clear HR0 HB1
    obtain ⟨j, rfl, hj, HR, HB⟩ := hrel
    cases gk with
    | zero =>
      have ej : j = N := by omega
      rw [ej] at HR
      rw [ej]
      clear ej hj
      go_wp2_with fail
      go_ret
      exact ⟨_, rfl, HR.out, HB.out⟩
    | succ k1 =>
      have hjN : j < N := by omega
      have c0 : (0 : Int) ≤ (j : Int) := by omega
      have c1 : (j : Int) < (N : Int) := by omega
      have HC := Aside0.mk (HP.out j hjN wr HB.out)
      have hlen := Aside0.mk (those_len p j)
      cases hpj : p j with
      | true =>
        rw [hpj] at HC
        have Hpj := Aside0.mk hpj
        clear hpj
        go_wp2_with (first | (go_at_call 49; refine HC.out.mono ?_; rintro e w2 ⟨rfl, ⟨q2, hq2⟩⟩; have HR2 := Aside0.mk (show kI.R 3 w2 w.heap.size (fun _ => True) u5 (those p j) from hq2 ▸ Kd.R_drewN HR.out q2); have HB2 := Aside0.mk (show Below w.heap.size w w2 from hq2 ▸ pw_below_drewN HB.out q2); clear hq2) | ((with_reducible refine gate_builtin (b := .append) (xs := #[.tmp 15, .tmp 17]) rfl ?_); at_builtin; refine Kd.R_append kI (w0 := w) w.heap.size rfl (.tmp 15) (.tmp 17) 30 3 (.int .i64 0) 8 rfl Try.underlying30 info3 rfl (by decide) (by decide) u5 (those p j) (j : Int) [.int .i64 j] (fun _ => True) (fun _ => False) rfl ?ax rfl (fun _ h => h.elim) (fun _ _ => trivial) HR2.out HB2.out (below_size HB2.out) (by have := hlen.out; omega) ?_; (case ax => first | (go_simp; done) | (go_simp; rfl) | simp); intro v1 w4 ho hbb hg hatt; have HR4 := Aside0.mk ho; have HB4 := Aside0.mk hbb; clear ho hbb hg hatt))
        go_roundg k1
        case measure => omega
        case rel => exact ⟨j + 1, by go_num, by omega, ⟨by rw [those_succ, Hpj.out]; exact HR4.out⟩, HB4⟩
      | false =>
        rw [hpj] at HC
        have Hpj := Aside0.mk hpj
        clear hpj
        go_wp2_with (go_at_call 49; refine HC.out.mono ?_; rintro e w2 ⟨rfl, ⟨q2, hq2⟩⟩; have HR2 := Aside0.mk (show kI.R 3 w2 w.heap.size (fun _ => True) u5 (those p j) from hq2 ▸ Kd.R_drewN HR.out q2); have HB2 := Aside0.mk (show Below w.heap.size w w2 from hq2 ▸ pw_below_drewN HB.out q2); clear hq2)
        go_roundg k1
        case measure => omega
        case rel => exact ⟨j + 1, by go_num, by omega, ⟨by rw [those_succ, Hpj.out]; exact HR2.out⟩, HB2⟩
set_option maxHeartbeats 4000000 in
set_option maxRecDepth 100000 in
theorem where50 {w : World} {b : Nat} {X Y : List (List Int)} (hG : IsG w b X Y) (b7 b8 : Nat) (p : Nat → Bool) (hp : ∀ (n : Nat), n < X.length → ∀ W, Below w.heap.size w W → Calls Try.prog 50 #[.int .i64 n, .pointer (some ⟨b7, 0, none⟩), .pointer (some ⟨b8, 0, none⟩)] W fun e w' => e = .returned (.bool (p n)) ∧ Drawn0 W w') :
    Calls Try.prog 48 #[.pointer (some ⟨b, 0, none⟩), .func (.func 50) #[] #[.pointer (some ⟨b7, 0, none⟩), .pointer (some ⟨b8, 0, none⟩)]] w fun e w' => ∃ v, e = .returned v ∧ kI.R 3 w' w.heap.size (fun _ => True) v (those p X.length) ∧ Below w.heap.size w w' := by
  have HG := Aside0.mk hG
  have HB0 := Aside0.mk (Below.refl w.heap.size w)
  have HP := Aside0.mk hp
  have few := hG.few
  obtain ⟨N, hN⟩ : ∃ N, N = X.length := ⟨_, rfl⟩
  have HN := Aside0.mk hN
  rw [← hN] at few HP ⊢
  clear hp hN hG
  go_enter Try.func48, Try.ntmps48
  go_wp2_with (go_at_call 20; (with_reducible refine (Nodes_calls (X := X) (Y := Y) ?hz).mono ?_); (case hz => (first | exact HG.out | exact HG.out.drewN _)); rw [← HN.out]; rintro e w1 ⟨rfl, ⟨q1, hq1⟩⟩; have HB1 := Aside0.mk (show Below w.heap.size w w1 from hq1 ▸ pw_below_drewN HB0.out q1); clear hq1)
  have HR0 := Aside0.mk (Kd.R_nil kI 3 w1 w.heap.size (fun _ => True))
  clear HB0
  go_loopg [5, 9] N (fun kq v5 v9 w' => ∃ (j : Nat), v9 = .int .i64 j ∧ j + kq = N ∧ Aside0 (kI.R 3 w' w.heap.size (fun _ => True) v5 (those p j)) ∧ Aside0 (Below w.heap.size w w'))
  case atStart => exact ⟨0, rfl, by omega, HR0, HB1⟩
  case round =>
    clear HR0 HB1
    obtain ⟨j, rfl, hj, HR, HB⟩ := hrel
    cases gk with
    | zero =>
      have ej : j = N := by omega
      rw [ej] at HR
      rw [ej]
      clear ej hj
      go_wp2_with fail
      go_ret
      exact ⟨_, rfl, HR.out, HB.out⟩
    | succ k1 =>
      have hjN : j < N := by omega
      have c0 : (0 : Int) ≤ (j : Int) := by omega
      have c1 : (j : Int) < (N : Int) := by omega
      have HC := Aside0.mk (HP.out j hjN wr HB.out)
      have hlen := Aside0.mk (those_len p j)
      cases hpj : p j with
      | true =>
        rw [hpj] at HC
        have Hpj := Aside0.mk hpj
        clear hpj
        go_wp2_with (first | (go_at_call 50; refine HC.out.mono ?_; rintro e w2 ⟨rfl, ⟨q2, hq2⟩⟩; have HR2 := Aside0.mk (show kI.R 3 w2 w.heap.size (fun _ => True) u5 (those p j) from hq2 ▸ Kd.R_drewN HR.out q2); have HB2 := Aside0.mk (show Below w.heap.size w w2 from hq2 ▸ pw_below_drewN HB.out q2); clear hq2) | ((with_reducible refine gate_builtin (b := .append) (xs := #[.tmp 15, .tmp 17]) rfl ?_); at_builtin; refine Kd.R_append kI (w0 := w) w.heap.size rfl (.tmp 15) (.tmp 17) 30 3 (.int .i64 0) 8 rfl Try.underlying30 info3 rfl (by decide) (by decide) u5 (those p j) (j : Int) [.int .i64 j] (fun _ => True) (fun _ => False) rfl ?ax rfl (fun _ h => h.elim) (fun _ _ => trivial) HR2.out HB2.out (below_size HB2.out) (by have := hlen.out; omega) ?_; (case ax => first | (go_simp; done) | (go_simp; rfl) | simp); intro v1 w4 ho hbb hg hatt; have HR4 := Aside0.mk ho; have HB4 := Aside0.mk hbb; clear ho hbb hg hatt))
        go_roundg k1
        case measure => omega
        case rel => exact ⟨j + 1, by go_num, by omega, ⟨by rw [those_succ, Hpj.out]; exact HR4.out⟩, HB4⟩
      | false =>
        rw [hpj] at HC
        have Hpj := Aside0.mk hpj
        clear hpj
        go_wp2_with (go_at_call 50; refine HC.out.mono ?_; rintro e w2 ⟨rfl, ⟨q2, hq2⟩⟩; have HR2 := Aside0.mk (show kI.R 3 w2 w.heap.size (fun _ => True) u5 (those p j) from hq2 ▸ Kd.R_drewN HR.out q2); have HB2 := Aside0.mk (show Below w.heap.size w w2 from hq2 ▸ pw_below_drewN HB.out q2); clear hq2)
        go_roundg k1
        case measure => omega
        case rel => exact ⟨j + 1, by go_num, by omega, ⟨by rw [those_succ, Hpj.out]; exact HR2.out⟩, HB2⟩
end Go.Proofs.Ythkgfmjgilkdeaa

/- graph.Reach, graph.Between. -/
namespace Go.Proofs.Ythkgfmjgilkdeaa
set_option linter.unusedVariables false
set_option linter.unusedSimpArgs false
open Go.RowKit Go.Shelf Go.Proofs.Ythkgfmjgilkdeaa.Q Go.Proofs.YthkgfmjgilkdeaaW.PrintWords Go.Proofs.YthkgfmjgilkdeaaW.PrintLast Go.Proofs.YthkgfmjgilkdeaaW.PrintMore
set_option maxHeartbeats 4000000 in
set_option maxRecDepth 100000 in
theorem Reach_calls {w : World} {b : Nat} {X Y : List (List Int)} (hG : IsG w b X Y) (K : Nat) (A : Option Addr) (c : Nat) (l : List Int) (hl : kI.C w A l.length l) (hll : l.length ≤ 65536) (r : List Bool) (hr : fromL (vis K X) X.length l (List.replicate X.length false) = some r) :
    Calls Try.prog 27 #[.pointer (some ⟨b, 0, none⟩), .slice A l.length c] w fun e w' => ∃ v, e = .returned v ∧ kI.R 3 w' w.heap.size (fun _ => True) v (those (fun n => r.getD n false) X.length) ∧ Below w.heap.size w w' := by
  have HG := Aside0.mk hG
  have HB0 := Aside0.mk (Below.refl w.heap.size w)
  have HC := Aside0.mk (reached_calls hG K A c l hl hll r hr)
  clear hG hl hr
  go_enter Try.func27, Try.ntmps27
  go_wp2_with (first | (go_at_call 47; refine HC.out.mono ?_; rintro e w1 ⟨S, rfl, hS, hrl, hge, hb1⟩; have HB1 := Aside0.mk hb1; have HSS := Aside0.mk (And.intro hS hrl); clear hS hrl hge hb1) | (go_at_call 48; (with_reducible refine (where49 (X := X) (Y := Y) ?hz _ (fun n => r.getD n false) ?hp).mono ?_); (case hz => exact (HG.out.below HB1.out).alloc _); (case hp => exact (fun n hn W hW => closure49 ((blk_cell (blk_below (heap_alloc_last w1 _) hW) 0).trans rfl) (blk_below (blk_alloc HSS.out.1 _) hW) HSS.out.2 n hn)); rintro e w3 ⟨v, rfl, hv, hb3⟩; have HV := Aside0.mk hv; have HB3 := Aside0.mk hb3; clear hv hb3))
  go_ret
  exact ⟨_, rfl, Kd.R_lower HV.out (below_size (below_alloc HB1.out _)), below_step (below_alloc HB1.out _) HB3.out⟩
set_option maxHeartbeats 4000000 in
set_option maxRecDepth 100000 in
theorem Between_calls {w : World} {b : Nat} {X Y : List (List Int)} (hG : IsG w b X Y) (K : Nat) (A1 : Option Addr) (c1 : Nat) (l1 : List Int) (hl1 : kI.C w A1 l1.length l1) (hll1 : l1.length ≤ 65536) (r : List Bool) (hr : fromL (vis K X) X.length l1 (List.replicate X.length false) = some r)
    (A2 : Option Addr) (c2 : Nat) (l2 : List Int) (hl2 : kI.C w A2 l2.length l2) (hll2 : l2.length ≤ 65536) (s : List Bool) (hs : fromL (vis K Y) Y.length l2 (List.replicate Y.length false) = some s) :
    Calls Try.prog 28 #[.pointer (some ⟨b, 0, none⟩), .slice A1 l1.length c1, .slice A2 l2.length c2] w fun e w' => ∃ v, e = .returned v ∧ kI.R 3 w' w.heap.size (fun _ => True) v (those (fun n => r.getD n false && s.getD n false) X.length) ∧ Below w.heap.size w w' := by
  have HG := Aside0.mk hG
  have HB0 := Aside0.mk (Below.refl w.heap.size w)
  have HC := Aside0.mk (reached_calls hG K A1 c1 l1 hl1 hll1 r hr)
  have HL2 := Aside0.mk hl2
  have HS := Aside0.mk (And.intro hll2 hs)
  have HYX := Aside0.mk hG.same
  clear hG hl1 hr hl2 hs
  go_enter Try.func28, Try.ntmps28
  go_wp2_with (first | (go_at_call 47; (first | (refine HC.out.mono ?_; rintro e w1 ⟨S, rfl, hS, hrl, hge, hb1⟩; have HB1 := Aside0.mk hb1; have HSS := Aside0.mk (And.intro hS hrl); clear hS hrl hge hb1 HC) | (refine (reached_calls HG2.out K A2 c2 l2 (Kd.C_below HL2.out HB2.out) HS.out.1 s HS.out.2).mono ?_; rintro e w3 ⟨T, rfl, hT, hsl, hge, hb3⟩; have HT := Aside0.mk (And.intro hT hsl); have HSS3 := Aside0.mk (blk_below (blk_below HSS.out.1 HB12.out) hb3); have HB3 := Aside0.mk (below_step HB2.out hb3); clear hT hsl hge hb3))) | (go_at_call 19; refine (Reverse_calls (HG.out.below HB1.out)).mono ?_; rintro e w2 ⟨b', rfl, hg2, hb2⟩; have HG2 := Aside0.mk hg2; have HB12 := Aside0.mk hb2; have HB2 := Aside0.mk (below_step HB1.out hb2); clear hg2 hb2) | (go_at_call 48; (with_reducible refine (where50 (X := X) (Y := Y) ?hz _ _ (fun n => r.getD n false && s.getD n false) ?hp).mono ?_); (case hz => exact ((HG.out.below HB3.out).alloc _).alloc _); (case hp => exact (fun n hn W hW => closure50 (N := X.length) ((blk_cell (blk_below (blk_alloc (heap_alloc_last w3 _) _) hW) 0).trans rfl) (blk_below (blk_alloc (blk_alloc HSS3.out _) _) hW) HSS.out.2 (by have h := blk_below (heap_alloc_last (w3.alloc (.cells #[.slice (some ⟨S, 0, none⟩) X.length X.length] 83)) (.cells #[.slice (some ⟨T, 0, none⟩) Y.length Y.length] 83)) hW; rw [World.size_alloc] at h; rw [← HYX.out]; exact (blk_cell h 0).trans rfl) (blk_below (blk_alloc (blk_alloc HT.out.1 _) _) hW) (HT.out.2.trans HYX.out) n hn)); rintro e w5 ⟨v, rfl, hv, hb5⟩; have HV := Aside0.mk hv; have HB5 := Aside0.mk hb5; clear hv hb5))
  go_ret
  exact ⟨_, rfl, Kd.R_lower HV.out (below_size (below_alloc (below_alloc HB3.out _) _)), below_step (below_alloc (below_alloc HB3.out _) _) HB5.out⟩
end Go.Proofs.Ythkgfmjgilkdeaa

/- The visit of graph.Components. -/
namespace Go.Proofs.Ythkgfmjgilkdeaa
set_option linter.unusedVariables false
set_option linter.unusedSimpArgs false
open Go.RowKit Go.Shelf Go.Proofs.Ythkgfmjgilkdeaa.Q Go.Proofs.YthkgfmjgilkdeaaW.PrintWords Go.Proofs.YthkgfmjgilkdeaaW.PrintLast Go.Proofs.YthkgfmjgilkdeaaW.PrintMore
def dfsL (f : List Bool × List Int → Int → Option (List Bool × List Int)) : List Int → List Bool × List Int → Option (List Bool × List Int)
  | [], s => some s
  | x :: xs, s => (f s x).bind (dfsL f xs)
/-- Marks and the list of the nodes that are done. -/
def dfs : Nat → List (List Int) → List Bool × List Int → Int → Option (List Bool × List Int)
  | 0, _, _, _ => none
  | k + 1, X, s, n => if 0 ≤ n ∧ n < s.1.length ∧ n < X.length then (if s.1.getD n.toNat false = true then some s else
      (dfsL (dfs k X) (row X n) (s.1.set n.toNat true, s.2)).bind fun t => if t.2.length < 1099511627776 then some (t.1, t.2 ++ [n]) else none) else none
/-- What a step may change: the marks' block S, the list's box bd and its row. -/
structure Chg (W W' : World) (S bd : Nat) (v v' : Value) : Prop where
  size : W.heap.size ≤ W'.heap.size
  os : W'.os = W.os
  tape : W'.tape = W.tape
  output : W'.output = W.output
  same : ∀ k, k < W.heap.size → k ≠ S → k ≠ bd → some k ≠ v.ownBlock → W'.heap[k]? = W.heap[k]?
  own : v'.ownBlock = v.ownBlock ∨ ∃ b, v'.ownBlock = some b ∧ W.heap.size ≤ b
theorem Chg.refl (W : World) (S bd : Nat) (v : Value) : Chg W W S bd v v := ⟨Nat.le_refl _, rfl, rfl, rfl, fun _ _ _ _ _ => rfl, .inl rfl⟩
theorem Chg.trans {W W1 W2 : World} {S bd : Nat} {v v1 v2 : Value} (h : Chg W W1 S bd v v1) (g : Chg W1 W2 S bd v1 v2) : Chg W W2 S bd v v2 := by
  refine ⟨Nat.le_trans h.size g.size, g.os.trans h.os, g.tape.trans h.tape, g.output.trans h.output, fun k hk hS hb ho => ?_, ?_⟩
  · refine (g.same k (Nat.lt_of_lt_of_le hk h.size) hS hb ?_).trans (h.same k hk hS hb ho)
    rcases h.own with e | ⟨b, e, hle⟩
    · rw [e]; exact ho
    · rw [e]; intro z; injection z with z; omega
  · rcases g.own with e | ⟨b, e, hle⟩
    · rw [e]; exact h.own
    · exact .inr ⟨b, e, Nat.le_trans h.size hle⟩
theorem Chg.below {W W' : World} {S bd B : Nat} {v v' : Value} {w : World} (h : Chg W W' S bd v v') (hb : Below B w W) (hS : B ≤ S) (hbd : B ≤ bd) (hv : ∀ k, v.ownBlock = some k → B ≤ k) (hB : B ≤ W.heap.size) : Below B w W' :=
  ⟨h.os.trans hb.os, h.tape.trans hb.tape, h.output.trans hb.output, Nat.le_trans hb.size h.size, fun k hk => (h.same k (by omega) (by omega) (by omega) (fun e => by have := hv k e.symm; omega)).trans (hb.block k hk)⟩
/-- The blocks of the visit. -/
structure Ds (w W : World) (b4 b5 S bd N : Nat) (v : Value) (s : List Bool × List Int) : Prop where
  h4 : W.heap[b4]? = some (.cells #[.slice (some ⟨S, 0, none⟩) N N] 83 (0, 0))
  h5 : W.heap[b5]? = some (.cells #[.func (.func 51) #[] #[.pointer (some ⟨b4, 0, none⟩), .pointer (some ⟨b5, 0, none⟩)]] 86 (0, 0))
  hS : W.heap[S]? = some (.cells (bools s.1) 4 (0, 0))
  hd : W.heap[bd]? = some (.cells #[v] 30 (0, 0))
  hr : kI.R 3 W w.heap.size (fun _ => True) v s.2
  len : s.1.length = N
  bel : Below w.heap.size w W
  gS : w.heap.size ≤ S
  gd : w.heap.size ≤ bd
theorem Ds.set {w W : World} {b4 b5 S bd N : Nat} {v : Value} {s : List Bool × List Int} (h : Ds w W b4 b5 S bd N v s) (n : Nat) : Ds w (W.setCell ⟨S, n, none⟩ (.bool true)) b4 b5 S bd N v (s.1.set n true, s.2) ∧ Chg W (W.setCell ⟨S, n, none⟩ (.bool true)) S bd v v := by
  have hm : ∀ k, k ≠ S → (W.setCell ⟨S, n, none⟩ (.bool true)).heap[k]? = W.heap[k]? := fun k hk => Below.heap_setCell W ⟨S, n, none⟩ _ k hk
  refine ⟨⟨(hm _ (fun e => blk_ne h.h4 h.hS (by decide) e)).trans h.h4, (hm _ (fun e => blk_ne h.h5 h.hS (by decide) e)).trans h.h5, blk_put h.hS n _ (bools_set s.1 n true), (hm _ (fun e => blk_ne h.hd h.hS (by decide) e)).trans h.hd,
    Kd.R_set h.hr h.hS (by decide) n _, by rw [List.length_set]; exact h.len, below_set h.bel h.gS, h.gS, h.gd⟩, ⟨by simp [World.setCell], rfl, rfl, rfl, fun k _ hk _ _ => hm k hk, .inl rfl⟩⟩
set_option maxHeartbeats 2000000 in
set_option maxRecDepth 100000 in
theorem done52 {w W : World} {b4 b5 S bd N : Nat} {v : Value} {s : List Bool × List Int} (h : Ds w W b4 b5 S bd N v s) (hl : s.2.length < 1099511627776) (n : Nat) :
    Calls Try.prog 52 #[.int .i64 n, .pointer (some ⟨bd, 0, none⟩)] W fun e W' => (∃ u, e = .returned u) ∧ ∃ v', Ds w W' b4 b5 S bd N v' (s.1, s.2 ++ [(n : Int)]) ∧ Chg W W' S bd v v' := by
  have HD := Aside0.mk h
  obtain ⟨A, c, e0⟩ := Kd.R_slice h.hr
  have Ev := Aside0.mk e0
  have s0 : W.cell? ⟨bd, 0, none⟩ = some (.slice A s.2.length c) := ((blk_cell h.hd 0).trans rfl).trans (congrArg some e0)
  have HR := Aside0.mk (show kI.R 3 W w.heap.size (fun _ => True) (.slice A s.2.length c) s.2 from e0 ▸ h.hr)
  clear h e0
  go_enter Try.func52, Try.ntmps52
  go_wp2_with ((with_reducible refine gate_builtin (b := .append) (xs := #[.tmp 3, .tmp 5]) rfl ?_); at_builtin; refine Kd.R_append kI (w0 := w) w.heap.size rfl (.tmp 3) (.tmp 5) 30 3 (.int .i64 0) 8 rfl Try.underlying30 info3 rfl (by decide) (by decide) (.slice A s.2.length c) s.2 (n : Int) [.int .i64 n] (fun _ => True) (fun _ => False) rfl ?ax rfl (fun _ h => h.elim) (fun _ _ => trivial) HR.out HD.out.bel (below_size HD.out.bel) (by omega) ?_; (case ax => first | (go_simp; done) | (go_simp; rfl) | simp); intro v1 w7 ho hbb hg hatt; obtain ⟨A1, c1, e1⟩ := Kd.R_slice ho; subst e1; have HR1 := Aside0.mk ho; have HB1 := Aside0.mk hbb; have HG1 := Aside0.mk (And.intro hg hatt); have hd1 := blk_grown HD.out.hd hg (Kd.R_ne HR.out HD.out.hd (by decide)); have q0 := (blk_cell hd1 0).trans (show _ = some v from rfl); have f0 := blk_frozen hd1 0; have Hd1 := Aside0.mk hd1; clear hd1 ho hbb hg hatt)
  go_end0
  have e : (s.2 ++ [(n : Int)]).length = s.2.length + 1 := by simp
  rw [← e]
  have hd1 := Hd1.out
  have hm : ∀ k, k ≠ bd → (w7.setCell ⟨bd, 0, none⟩ (.slice A1 (s.2 ++ [(n : Int)]).length c1)).heap[k]? = w7.heap[k]? := fun k hk => Below.heap_setCell w7 ⟨bd, 0, none⟩ _ k hk
  have keep : ∀ {k t : Nat} {cs : Array Value}, W.heap[k]? = some (.cells cs t (0, 0)) → t ≠ 3 → t ≠ 30 → (w7.setCell ⟨bd, 0, none⟩ (.slice A1 (s.2 ++ [(n : Int)]).length c1)).heap[k]? = some (.cells cs t (0, 0)) := fun h h3 h30 =>
    (hm _ (fun e => blk_ne h HD.out.hd h30 e)).trans (blk_grown h HG1.out.1 (Kd.R_ne HR.out h (fun e => h3 e.symm)))
  refine ⟨⟨_, rfl⟩, .slice A1 (s.2 ++ [(n : Int)]).length c1, ⟨keep HD.out.h4 (by decide) (by decide), keep HD.out.h5 (by decide) (by decide), keep HD.out.hS (by decide) (by decide), blk_put hd1 0 _ rfl, Kd.R_set HR1.out hd1 (by decide) 0 _, HD.out.len, below_set HB1.out HD.out.gd, HD.out.gS, HD.out.gd⟩, ?_⟩
  rw [Ev.out]
  exact ⟨by simpa [World.setCell] using HG1.out.1.size, HG1.out.1.os, HG1.out.1.tape, HG1.out.1.output, fun k hk _ hb ho => (hm k hb).trans (HG1.out.1.block k hk ho), HG1.out.2⟩
set_option maxHeartbeats 4000000 in
set_option maxRecDepth 100000 in
theorem visit51_52 {w : World} {b4 b5 S bd : Nat} {A : Option Addr} {c : Nat} {X : List (List Int)} (hX : kL.C w A X.length X) (few : X.length ≤ 4096) (fewX : ∀ l, l ∈ X → l.length ≤ 65536) : ∀ (k : Nat) (s : List Bool × List Int) (n : Int) (r : List Bool × List Int) (W : World) (v : Value), Ds w W b4 b5 S bd X.length v s → dfs k X s n = some r →
    Calls Try.prog 51 #[.int .i64 n, .slice A X.length c, .func (.func 52) #[] #[.pointer (some ⟨bd, 0, none⟩)], .pointer (some ⟨b4, 0, none⟩), .pointer (some ⟨b5, 0, none⟩)] W fun e W' => (∃ u, e = .returned u) ∧ ∃ v', Ds w W' b4 b5 S bd X.length v' r ∧ Chg W W' S bd v v' := by
  intro k
  induction k with
  | zero => intro s n r W v _ h; simp [dfs] at h
  | succ k ih =>
    intro s n r W v hV h
    rw [dfs] at h
    by_cases hc : 0 ≤ n ∧ n < s.1.length ∧ n < X.length
    case neg => rw [if_neg hc] at h; cases h
    rw [if_pos hc] at h
    obtain ⟨n, rfl⟩ := Int.eq_ofNat_of_zero_le hc.1
    rw [Int.toNat_natCast] at h
    have HV := Aside0.mk hV
    have HIH := Aside0.mk ih
    have c0 : (0 : Int) ≤ (n : Int) := hc.1
    have c1 : (n : Int) < (X.length : Int) := hc.2.2
    have s4 := (blk_cell hV.h4 0).trans rfl
    have sS := bools_cell hV.hS n (by omega)
    have fS := blk_frozen hV.hS n
    cases hm : s.1.getD n false with
    | true =>
      rw [hm, if_pos rfl] at h
      rw [hm] at sS
      obtain rfl := Option.some.inj h
      clear h hc hV ih
      go_enter Try.func51, Try.ntmps51
      go_wp2_with fail
      refine bodyPost_ret (results_none rfl _ _ _) rfl ?_
      exact ⟨⟨_, rfl⟩, v, HV.out, Chg.refl _ _ _ _⟩
    | false =>
      rw [hm, if_neg (by decide)] at h
      rw [hm] at sS
      obtain ⟨t, ht, h⟩ := Option.bind_eq_some_iff.mp h
      by_cases htl : t.2.length < 1099511627776
      case neg => rw [if_neg htl] at h; cases h
      rw [if_pos htl] at h
      have Hr := Aside0.mk (Option.some.inj h)
      have Htl := Aside0.mk htl
      have H := Aside0.mk ht
      obtain ⟨ad, A0, c0', e0, hrow, hlc, hC⟩ := at_L4 hX (n : Int) c0 c1
      rw [Int.toNat_natCast] at hrow
      rw [← row_in c0 c1] at hrow hlc hC
      have Hll := Aside0.mk (row_len (X := X) (n : Int) fewX)
      obtain ⟨l, hl⟩ : ∃ l, l = row X (n : Int) := ⟨_, rfl⟩
      rw [← hl] at hrow hlc hC Hll H
      subst e0
      have HV1 := Aside0.mk (hV.set n).1
      have HC1 := Aside0.mk (hV.set n).2
      have z2 : (W.setCell ⟨S, n, none⟩ (.bool true)).cell? (ad.add n) = some (.slice A0 l.length c0') := pw_cell_below HV1.out.bel hrow
      have HCl := Aside0.mk hC
      have hll := Hll.out
      clear h hc hV ih hX hrow hlc hC hl HV ht htl
      go_enter Try.func51, Try.ntmps51
      go_wp2_with fail
      go_loopg [22] l.length (fun kq v22 w' => ∃ (j : Nat) (s2 : List Bool × List Int) (v2 : Value), v22 = .int .i64 j ∧ j + kq = l.length ∧ Aside0 (dfsL (dfs k X) (l.drop j) s2 = some t) ∧ Aside0 (Ds w w' b4 b5 S bd X.length v2 s2) ∧ Aside0 (Chg W w' S bd v v2))
      case atStart => exact ⟨0, _, v, rfl, by omega, H, HV1, HC1⟩
      case round =>
        clear H HV1 HC1
        obtain ⟨j, s2, v2, rfl, hj, H, HV, HC⟩ := hrel
        cases gk with
        | zero =>
          have ej : j = l.length := by omega
          have e := H.out
          rw [ej, List.drop_length, dfsL] at e
          have e := Option.some.inj e
          rw [e] at HV
          rw [ej]
          clear ej hj e H
          go_wp2_with (go_at_call 52; refine (done52 HV.out Htl.out n).mono ?_; rintro e w3 ⟨⟨u, rfl⟩, v3, hv3, hc3⟩; have HV3 := Aside0.mk hv3; have HC3 := Aside0.mk hc3; clear hv3 hc3)
          go_end0
          exact ⟨⟨_, rfl⟩, v3, by rw [← Hr.out]; exact HV3.out, HC.out.trans HC3.out⟩
        | succ k2 =>
          have hjl : j < l.length := by omega
          have e := H.out
          rw [List.drop_eq_getElem_cons hjl, dfsL] at e
          obtain ⟨s3, hs3, e⟩ := Option.bind_eq_some_iff.mp e
          obtain ⟨x, hx⟩ : ∃ x, x = l[j] := ⟨_, rfl⟩
          rw [← hx] at hs3
          obtain ⟨ad0, e0, hx2⟩ := Kd.at_int (Kd.C_below HCl.out HV.out.bel) (j : Int) (by omega) (by omega)
          rw [Int.toNat_natCast, show rd l (j : Int) = x by rw [hx]; unfold rd; simp [hjl]] at hx2
          subst e0
          have p2 := eq_true (show (0 : Int) ≤ j by omega)
          have q3 : ((j : Int) < (l.length : Int)) = True := eq_true (by omega)
          have s5 := (blk_cell HV.out.h5 0).trans rfl
          have H2 := Aside0.mk e
          have H3 := Aside0.mk hs3
          clear e hs3 hx H
          go_wp2_with (go_at_call 51; refine (HIH.out s2 x s3 _ v2 HV.out H3.out).mono ?_; rintro e w3 ⟨⟨u, rfl⟩, v3, hv3, hc3⟩; have HV3 := Aside0.mk hv3; have HC3 := Aside0.mk (HC.out.trans hc3); clear hv3 hc3)
          go_roundg k2
          case measure => omega
          case rel => exact ⟨j + 1, s3, v3, by go_num, by omega, H2, HV3, HC3⟩
set_option maxHeartbeats 2000000 in
set_option maxRecDepth 100000 in
theorem done54 {w W : World} {b4 b5 S bd N : Nat} {v : Value} {s : List Bool × List Int} (h : Ds w W b4 b5 S bd N v s) (hl : s.2.length < 1099511627776) (n : Nat) :
    Calls Try.prog 54 #[.int .i64 n, .pointer (some ⟨bd, 0, none⟩)] W fun e W' => (∃ u, e = .returned u) ∧ ∃ v', Ds w W' b4 b5 S bd N v' (s.1, s.2 ++ [(n : Int)]) ∧ Chg W W' S bd v v' := by
  have HD := Aside0.mk h
  obtain ⟨A, c, e0⟩ := Kd.R_slice h.hr
  have Ev := Aside0.mk e0
  have s0 : W.cell? ⟨bd, 0, none⟩ = some (.slice A s.2.length c) := ((blk_cell h.hd 0).trans rfl).trans (congrArg some e0)
  have HR := Aside0.mk (show kI.R 3 W w.heap.size (fun _ => True) (.slice A s.2.length c) s.2 from e0 ▸ h.hr)
  clear h e0
  go_enter Try.func54, Try.ntmps54
  go_wp2_with ((with_reducible refine gate_builtin (b := .append) (xs := #[.tmp 3, .tmp 5]) rfl ?_); at_builtin; refine Kd.R_append kI (w0 := w) w.heap.size rfl (.tmp 3) (.tmp 5) 30 3 (.int .i64 0) 8 rfl Try.underlying30 info3 rfl (by decide) (by decide) (.slice A s.2.length c) s.2 (n : Int) [.int .i64 n] (fun _ => True) (fun _ => False) rfl ?ax rfl (fun _ h => h.elim) (fun _ _ => trivial) HR.out HD.out.bel (below_size HD.out.bel) (by omega) ?_; (case ax => first | (go_simp; done) | (go_simp; rfl) | simp); intro v1 w7 ho hbb hg hatt; obtain ⟨A1, c1, e1⟩ := Kd.R_slice ho; subst e1; have HR1 := Aside0.mk ho; have HB1 := Aside0.mk hbb; have HG1 := Aside0.mk (And.intro hg hatt); have hd1 := blk_grown HD.out.hd hg (Kd.R_ne HR.out HD.out.hd (by decide)); have q0 := (blk_cell hd1 0).trans (show _ = some v from rfl); have f0 := blk_frozen hd1 0; have Hd1 := Aside0.mk hd1; clear hd1 ho hbb hg hatt)
  go_end0
  have e : (s.2 ++ [(n : Int)]).length = s.2.length + 1 := by simp
  rw [← e]
  have hd1 := Hd1.out
  have hm : ∀ k, k ≠ bd → (w7.setCell ⟨bd, 0, none⟩ (.slice A1 (s.2 ++ [(n : Int)]).length c1)).heap[k]? = w7.heap[k]? := fun k hk => Below.heap_setCell w7 ⟨bd, 0, none⟩ _ k hk
  have keep : ∀ {k t : Nat} {cs : Array Value}, W.heap[k]? = some (.cells cs t (0, 0)) → t ≠ 3 → t ≠ 30 → (w7.setCell ⟨bd, 0, none⟩ (.slice A1 (s.2 ++ [(n : Int)]).length c1)).heap[k]? = some (.cells cs t (0, 0)) := fun h h3 h30 =>
    (hm _ (fun e => blk_ne h HD.out.hd h30 e)).trans (blk_grown h HG1.out.1 (Kd.R_ne HR.out h (fun e => h3 e.symm)))
  refine ⟨⟨_, rfl⟩, .slice A1 (s.2 ++ [(n : Int)]).length c1, ⟨keep HD.out.h4 (by decide) (by decide), keep HD.out.h5 (by decide) (by decide), keep HD.out.hS (by decide) (by decide), blk_put hd1 0 _ rfl, Kd.R_set HR1.out hd1 (by decide) 0 _, HD.out.len, below_set HB1.out HD.out.gd, HD.out.gS, HD.out.gd⟩, ?_⟩
  rw [Ev.out]
  exact ⟨by simpa [World.setCell] using HG1.out.1.size, HG1.out.1.os, HG1.out.1.tape, HG1.out.1.output, fun k hk _ hb ho => (hm k hb).trans (HG1.out.1.block k hk ho), HG1.out.2⟩
set_option maxHeartbeats 4000000 in
set_option maxRecDepth 100000 in
theorem visit51_54 {w : World} {b4 b5 S bd : Nat} {A : Option Addr} {c : Nat} {X : List (List Int)} (hX : kL.C w A X.length X) (few : X.length ≤ 4096) (fewX : ∀ l, l ∈ X → l.length ≤ 65536) : ∀ (k : Nat) (s : List Bool × List Int) (n : Int) (r : List Bool × List Int) (W : World) (v : Value), Ds w W b4 b5 S bd X.length v s → dfs k X s n = some r →
    Calls Try.prog 51 #[.int .i64 n, .slice A X.length c, .func (.func 54) #[] #[.pointer (some ⟨bd, 0, none⟩)], .pointer (some ⟨b4, 0, none⟩), .pointer (some ⟨b5, 0, none⟩)] W fun e W' => (∃ u, e = .returned u) ∧ ∃ v', Ds w W' b4 b5 S bd X.length v' r ∧ Chg W W' S bd v v' := by
  intro k
  induction k with
  | zero => intro s n r W v _ h; simp [dfs] at h
  | succ k ih =>
    intro s n r W v hV h
    rw [dfs] at h
    by_cases hc : 0 ≤ n ∧ n < s.1.length ∧ n < X.length
    case neg => rw [if_neg hc] at h; cases h
    rw [if_pos hc] at h
    obtain ⟨n, rfl⟩ := Int.eq_ofNat_of_zero_le hc.1
    rw [Int.toNat_natCast] at h
    have HV := Aside0.mk hV
    have HIH := Aside0.mk ih
    have c0 : (0 : Int) ≤ (n : Int) := hc.1
    have c1 : (n : Int) < (X.length : Int) := hc.2.2
    have s4 := (blk_cell hV.h4 0).trans rfl
    have sS := bools_cell hV.hS n (by omega)
    have fS := blk_frozen hV.hS n
    cases hm : s.1.getD n false with
    | true =>
      rw [hm, if_pos rfl] at h
      rw [hm] at sS
      obtain rfl := Option.some.inj h
      clear h hc hV ih
      go_enter Try.func51, Try.ntmps51
      go_wp2_with fail
      refine bodyPost_ret (results_none rfl _ _ _) rfl ?_
      exact ⟨⟨_, rfl⟩, v, HV.out, Chg.refl _ _ _ _⟩
    | false =>
      rw [hm, if_neg (by decide)] at h
      rw [hm] at sS
      obtain ⟨t, ht, h⟩ := Option.bind_eq_some_iff.mp h
      by_cases htl : t.2.length < 1099511627776
      case neg => rw [if_neg htl] at h; cases h
      rw [if_pos htl] at h
      have Hr := Aside0.mk (Option.some.inj h)
      have Htl := Aside0.mk htl
      have H := Aside0.mk ht
      obtain ⟨ad, A0, c0', e0, hrow, hlc, hC⟩ := at_L4 hX (n : Int) c0 c1
      rw [Int.toNat_natCast] at hrow
      rw [← row_in c0 c1] at hrow hlc hC
      have Hll := Aside0.mk (row_len (X := X) (n : Int) fewX)
      obtain ⟨l, hl⟩ : ∃ l, l = row X (n : Int) := ⟨_, rfl⟩
      rw [← hl] at hrow hlc hC Hll H
      subst e0
      have HV1 := Aside0.mk (hV.set n).1
      have HC1 := Aside0.mk (hV.set n).2
      have z2 : (W.setCell ⟨S, n, none⟩ (.bool true)).cell? (ad.add n) = some (.slice A0 l.length c0') := pw_cell_below HV1.out.bel hrow
      have HCl := Aside0.mk hC
      have hll := Hll.out
      clear h hc hV ih hX hrow hlc hC hl HV ht htl
      go_enter Try.func51, Try.ntmps51
      go_wp2_with fail
      go_loopg [22] l.length (fun kq v22 w' => ∃ (j : Nat) (s2 : List Bool × List Int) (v2 : Value), v22 = .int .i64 j ∧ j + kq = l.length ∧ Aside0 (dfsL (dfs k X) (l.drop j) s2 = some t) ∧ Aside0 (Ds w w' b4 b5 S bd X.length v2 s2) ∧ Aside0 (Chg W w' S bd v v2))
      case atStart => exact ⟨0, _, v, rfl, by omega, H, HV1, HC1⟩
      case round =>
        clear H HV1 HC1
        obtain ⟨j, s2, v2, rfl, hj, H, HV, HC⟩ := hrel
        cases gk with
        | zero =>
          have ej : j = l.length := by omega
          have e := H.out
          rw [ej, List.drop_length, dfsL] at e
          have e := Option.some.inj e
          rw [e] at HV
          rw [ej]
          clear ej hj e H
          go_wp2_with (go_at_call 54; refine (done54 HV.out Htl.out n).mono ?_; rintro e w3 ⟨⟨u, rfl⟩, v3, hv3, hc3⟩; have HV3 := Aside0.mk hv3; have HC3 := Aside0.mk hc3; clear hv3 hc3)
          go_end0
          exact ⟨⟨_, rfl⟩, v3, by rw [← Hr.out]; exact HV3.out, HC.out.trans HC3.out⟩
        | succ k2 =>
          have hjl : j < l.length := by omega
          have e := H.out
          rw [List.drop_eq_getElem_cons hjl, dfsL] at e
          obtain ⟨s3, hs3, e⟩ := Option.bind_eq_some_iff.mp e
          obtain ⟨x, hx⟩ : ∃ x, x = l[j] := ⟨_, rfl⟩
          rw [← hx] at hs3
          obtain ⟨ad0, e0, hx2⟩ := Kd.at_int (Kd.C_below HCl.out HV.out.bel) (j : Int) (by omega) (by omega)
          rw [Int.toNat_natCast, show rd l (j : Int) = x by rw [hx]; unfold rd; simp [hjl]] at hx2
          subst e0
          have p2 := eq_true (show (0 : Int) ≤ j by omega)
          have q3 : ((j : Int) < (l.length : Int)) = True := eq_true (by omega)
          have s5 := (blk_cell HV.out.h5 0).trans rfl
          have H2 := Aside0.mk e
          have H3 := Aside0.mk hs3
          clear e hs3 hx H
          go_wp2_with (go_at_call 51; refine (HIH.out s2 x s3 _ v2 HV.out H3.out).mono ?_; rintro e w3 ⟨⟨u, rfl⟩, v3, hv3, hc3⟩; have HV3 := Aside0.mk hv3; have HC3 := Aside0.mk (HC.out.trans hc3); clear hv3 hc3)
          go_roundg k2
          case measure => omega
          case rel => exact ⟨j + 1, s3, v3, by go_num, by omega, H2, HV3, HC3⟩
end Go.Proofs.Ythkgfmjgilkdeaa
