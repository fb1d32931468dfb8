/- Several texts of this session in one file. -/
import Derived.RangeFuncNested
import Derived.RangeFuncBound
import Derived.RangeFuncCalls
import Derived.RangeFuncLeaves
import Derived.OrdersIn
import Derived.TacticsInMore
import Derived.Test.YthkgfmjgilkdeaaWTab
import Derived.Test.YthkgfmjgilkdeaaMD
import Derived.LoopNIn
import Derived.LoopIn
import Derived.Test.YthkgfmjgilkdeaaQx5
import Derived.Shelf.SlSortCmp.Whole1
import Derived.Shelf.Lay
import Derived.Ground.SlsfProg
import Derived.Lib.SliceRun
/- A plain walk of a region inside the round of a range over a function. -/
namespace Go.Proofs.Ythkgfmjgilkdeaa
set_option linter.unusedVariables false
set_option linter.unusedSimpArgs false
open Go.RowKit
theorem rowsIn_wide {n : Nat} {P : Program} {row : String} {args : Array Value} {w : World} {R : Value → World → Prop} (h : Rows P row args w R) : RowsIn Fence.wide n P row args w R :=
  fun c cs _ => let ⟨v, w', r, s⟩ := h c cs; ⟨v, w', r, stepsIn_wide.2 s⟩
/-- No operation of a region is a defer statement. -/
def noDefer (ops : Array Oper) : Bool := ops.all fun o => match o.op with | .defer _ => false | _ => true
theorem noDefer_at {ops : Array Oper} (h : noDefer ops = true) {i : Nat} {o : Oper} (ho : ops[i]? = some o) : ∀ c, o.op ≠ .defer c := by
  intro c e
  unfold noDefer at h
  rw [Array.all_eq_true] at h
  obtain ⟨hi, rfl⟩ := Array.getElem?_eq_some_iff.1 ho
  have := h i hi
  rw [e] at this
  cases this
theorem opIn_round {n l : Nat} {P : Program} {o : Oper} {a : Act} {w : World} {K K' : Act → World → Prop} {Q : Exit → Act → World → Prop} (hd : ∀ c, o.op ≠ .defer c) (hK : ∀ a w, K a w → K' a w)
    (h : o.wp P a w K Q) : o.wpIn (Fence.wide.inRound l) n P a w K' Q := by
  refine ⟨fun _ _ => trivial, ?_⟩
  rw [show (Fence.wide.inRound l).round = some l from rfl, Oper.semAt_some l a.eval o hd]
  unfold Oper.wp at h
  generalize (execOp a.eval o).run P w = r at h
  cases r with
  | ok x w' =>
    cases x <;> simp only [Oper.uponIn, Oper.upon] at h ⊢ <;>
      first
        | exact hK _ _ h
        | exact ⟨fun e => absurd e (by simp [Fence.wide, Fence.inRound]), CallsIn.inRound l (callsIn_wide.2 (Calls.mono h (fun e w'' he => by cases e <;> first | exact hK _ _ he | exact he)))⟩
        | exact ⟨fun e => absurd e (by simp [Fence.wide, Fence.inRound]), rowsIn_wide (Rows.mono h (fun _ _ he => hK _ _ he))⟩
        | exact h.elim
  | halt x w' => cases x <;> simp only [Oper.uponIn, Oper.upon] at h ⊢ <;> exact h
theorem opsIn_round {n l : Nat} {P : Program} {ops : Array Oper} {Q : Exit → Act → World → Prop} (hd : noDefer ops = true) (hQ : ¬ LetsOut Q) : ∀ (is : List Nat) (a : Act) (w : World), wpOps P ops Q is a w → wpOpsIn (Fence.wide.inRound l) n P ops Q is a w
  | [], _, _, h => h
  | i :: is, a, w, h => by
    unfold wpOps at h
    unfold wpOpsIn
    cases ho : ops[i]? with
    | none => rw [ho] at h; exact opsIn_round hd hQ is a w h
    | some o =>
      rw [ho] at h
      simp only at h ⊢
      split at h
      · rename_i hw
        rw [if_pos hw]
        rcases h with h | ⟨_, h⟩
        · exact opIn_round (noDefer_at hd ho) (fun a w h => opsIn_round hd hQ is a w h) h
        · exact absurd h hQ
      · rename_i hw
        rw [if_neg hw]
        exact ⟨fun _ _ => trivial, opsIn_round hd hQ is _ w h⟩
/-- A region that draws its order: the plain walk of it serves in a round. -/
theorem region_round {n l id : Nat} {P : Program} {ops : Array Oper} {Q : Exit → Act → World → Prop} {a : Act} {w : World} (hm : P.follows .mixedOrders = true) (hd : noDefer ops = true) (hQ : ¬ LetsOut Q)
    (h : wpAny P .any ops Q ops.size (Array.replicate ops.size false) a w.drew) : (Code.region id ops true).wpIn (Fence.wide.inRound l) n P Q a w :=
  wpIn_region_draw fun t => by
    simp only [Region.schedule, hm, Bool.true_or, if_true]
    exact opsIn_round hd hQ _ a _ (wpAny_sound ops.size t _ a _ h)
/-- One that does not. -/
theorem region_roundL {n l id : Nat} {P : Program} {os : List Oper} {Q : Exit → Act → World → Prop} {a : Act} {w : World} (hd : noDefer os.toArray = true) (hQ : ¬ LetsOut Q)
    (h : wpList P os.toArray Q os a w) : (Code.region id os.toArray false).wpIn (Fence.wide.inRound l) n P Q a w :=
  wpIn_region (opsIn_round hd hQ _ a _ (by rw [List.range_eq_range', show os.toArray.size = os.length from rfl, wpOps_eq_wpList os 0 (by simp)]; exact h))
/-- start_ in a round. -/
theorem startR_ {P : Program} {ops : Array Oper} {Q : Exit → Act → World → Prop} {S : World → Prop} {ds : List Nat} {k m id n : Nat} {a : Act} {w : World} (hd : noDefer ops = true) (hQ : ¬ LetsOut Q) (l : Array Bool) (hm : P.follows .mixedOrders = true) (hn : ops.size = n) (hl : Array.replicate n false = l) (hS : S w.drew)
    (h : S w.drew → Go.Proofs.YthkgfmjgilkdeaaW.PrintLast.wpAnyLast P .any ops Q S ds n l a w.drew) : (Code.region id ops true).wpIn (Fence.wide.inRound k) m P Q a w := by
  subst hn
  subst hl
  exact region_round hm hd hQ (Go.Proofs.YthkgfmjgilkdeaaW.PrintLast.wpAny_of_last _ _ _ _ (h hS))
/-- A call through a function value that has captured. -/
theorem goesV_ {P : Program} {ops : Array Oper} {Q : Exit → Act → World → Prop} {oi : Oper} {N : Option Tmp} {a : Act} {w : World} {K : Act → World → Prop} {f : FuncId} {fn : Func} {x : Operand} {ags : Array Operand} {ts : Array TypeId} (caps : Array Value) (hf : P.funcs[f]? = some fn) (hname : (fn.name == "runtime.NumGoroutine") = false) (hb : fn.body.isSome = true) (args : Array Value)
    (hw : Region.wanted oi (yielded ops a.tmps) = true) (hN : oi.dst = N) (hop : oi.op = .call { callee := .value x, args := ags, argTypes := ts }) (hx : a.eval x = .func (.func f) #[] caps) (hargs : ags.map a.eval ++ caps = args)
    (h : Calls P f args w fun e w' => ∃ v, e = .returned v ∧ K (a.put N v) w') : if Region.wanted oi (yielded ops a.tmps) = true then Oper.wp P oi a w K Q else K (a.put N undef) w := by
  refine Go.Proofs.YthkgfmjgilkdeaaW.PrintLast.call_ f args hw hN ?_ h
  have he := Go.Proofs.YthkgfmjgilkdeaaW.PrintLast.enters_ hf hname hb args w
  unfold execOp
  simp [hop, resolve, Deferred.ofValue, invoke, hx, hargs, he]
/-- The ways out that return. -/
def onlyRet (Q : Exit → Act → World → Prop) : Exit → Act → World → Prop
  | .normal, a, w => Q .normal a w
  | .ret, a, w => Q .ret a w
  | _, _, _ => False
theorem onlyRet_imp {Q : Exit → Act → World → Prop} : ∀ (e : Exit) (a : Act) (w : World), onlyRet Q e a w → Q e a w
  | .normal, _, _, h => h
  | .ret, _, _, h => h
  | .exit _, _, _, h => h.elim
  | .goto _, _, _, h => h.elim
  | .panic _, _, _, h => h.elim
  | .outgrown, _, _, h => h.elim
end Go.Proofs.Ythkgfmjgilkdeaa

/- slices.Backward and its closure: what comes, in the contract of a range over a function. -/
namespace Go.Proofs.Ythkgfmjgilkdeaa
set_option linter.unusedVariables false
set_option linter.unusedSimpArgs false
open Go.RowKit Go.Shelf Go.Proofs.Ythkgfmjgilkdeaa.Q Go.Proofs.YthkgfmjgilkdeaaW.PrintWords Go.Proofs.YthkgfmjgilkdeaaW.PrintLast Go.Proofs.YthkgfmjgilkdeaaW.PrintMore
attribute [local go_sem] Oper.semAt_some
/-- What has come behind k rounds. -/
def backTo (xs : List Int) (k : Nat) : List (Nat × Int) := (List.range k).map fun j => (xs.length - 1 - j, xs.getD (xs.length - 1 - j) 0)
theorem backTo_succ (xs : List Int) (k : Nat) : backTo xs (k + 1) = backTo xs k ++ [(xs.length - 1 - k, xs.getD (xs.length - 1 - k) 0)] := by simp [backTo, List.range_succ]
theorem backTo_snd (xs : List Int) : (backTo xs xs.length).map Prod.snd = xs.reverse := by
  apply List.ext_getElem
  · simp [backTo]
  · intro j h1 h2
    simp [backTo] at h1
    have : xs.length - 1 - j < xs.length := by omega
    simp [backTo, this]
/-- What a round must keep for Backward. -/
def KpB (Bs : Nat) (v : Value) (W W' : World) : Prop := W'.heap[Bs]? = W.heap[Bs]? ∧ ∀ k, v.ownBlock = some k → W'.heap[k]? = W.heap[k]?
theorem KpB.refl (Bs : Nat) (v : Value) (W : World) : KpB Bs v W W := ⟨rfl, fun _ _ => rfl⟩
theorem KpB.trans {Bs : Nat} {v : Value} {A B C : World} (h : KpB Bs v A B) (g : KpB Bs v B C) : KpB Bs v A C := ⟨g.1.trans h.1, fun k hk => (g.2 k hk).trans (h.2 k hk)⟩
set_option maxRecDepth 100000 in
set_option maxHeartbeats 2000000 in
theorem back67_in (n : Nat) (l Bs base : Nat) (v : Value) (xs : List Int) (hl : xs.length ≤ 65536) (J Jx : List (Nat × Int) → World → Prop)
    (hY : ∀ k x W, J (backTo xs k) W → k < xs.length → backTo xs (k + 1) = backTo xs k ++ [x] → YieldAt Fence.wide (n - 1) Try.prog l #[.int .i64 (x.1 : Int), .int .i64 x.2] W fun e W' =>
      (e = .returned (.bool true) ∧ J (backTo xs (k + 1)) W' ∧ KpB Bs v W W') ∨ (e = .returned (.bool false) ∧ Jx (backTo xs (k + 1)) W'))
    (W : World) (hB : W.heap[Bs]? = some (.cells #[v] 30 (0, 0))) (hr : kI.R 3 W base (fun _ => True) v xs) (h0 : J [] W) :
    CallsIn Fence.wide n Try.prog 67 #[.func (.yield l) #[] #[], .pointer (some ⟨Bs, 0, none⟩)] W fun e W' => (∃ v, e = .returned v) ∧
      ((∃ ys, ys = backTo xs xs.length ∧ J ys W') ∨ (∃ pre, True ∧ Jx pre W')) := by
  obtain ⟨A, c, ev, hlc, hC0⟩ := Kd.R_reads hr
  have HR := Aside0.mk (show ∀ W', KpB Bs v W W' → kI.C W' A xs.length xs from fun W' h => by
    have h2 : kI.R 3 W base (fun k => v.ownBlock = some k) v xs := Kd.R_flat (fun h => h) hr (fun k hk _ => hk)
    have h3 := Kd.R_move (w1 := W') h2 (fun k hk => h.2 k hk)
    rw [ev] at h3
    exact (Kd.R_reads' h3).2.2)
  have HB := Aside0.mk (show ∀ W', KpB Bs v W W' → W'.cell? ⟨Bs, 0, none⟩ = some (.slice A xs.length c) from fun W' h => by
    rw [← ev]; exact (blk_cell (h.1.trans hB) 0).trans rfl)
  have z0 := HB.out W (KpB.refl _ _ _)
  have HY := Aside0.mk hY
  have H0 := Aside0.mk h0
  clear hY hB hr hC0 h0 ev
  refine callsIn_of_wp Try.func67 rfl trivial ?_ rfl
  simp only [Try.ntmps67, List.size_toArray, List.length_cons, List.length_nil, Nat.reduceAdd, Nat.reduceSub, Array.replicate_succ, Array.replicate_zero, List.push_toArray, List.append_toArray, List.nil_append, List.cons_append]
  gi_wp2
  gi_loopw [3] (fun p wr => ∃ (i k : Nat) (m : Int), p = .int .i64 m ∧ m = (i : Int) - 1 ∧ i + k = xs.length ∧ Aside0 (J (backTo xs k) wr) ∧ Aside0 (KpB Bs v W wr))
    (fun p _ => (intOf p + 1).toNat)
  case atStart => exact ⟨xs.length, 0, _, rfl, by omega, by omega, H0, ⟨KpB.refl _ _ _⟩⟩
  case round =>
    clear H0
    obtain ⟨i, k, m, rfl, hm, hik, HJ, HK⟩ := hrel
    cases i with
    | zero =>
      have ek : k = xs.length := by omega
      rw [ek] at HJ
      have em : (m ≥ 0) = False := eq_false (by omega)
      clear hm ek hik
      gi_wp2
      go_end0
      exact ⟨⟨_, rfl⟩, .inl ⟨_, rfl, HJ.out⟩⟩
    | succ i =>
      obtain rfl : m = (i : Int) := by omega
      clear hm
      have hlt : (i : Int) < (xs.length : Int) := by omega
      have h00 : (0 : Int) ≤ (i : Int) := by omega
      have em : ((i : Int) ≥ 0) = True := eq_true (by omega)
      have z1 := HB.out wr HK.out
      obtain ⟨ad, e0, hx⟩ := Kd.at_int (HR.out wr HK.out) (i : Int) h00 hlt
      rw [Int.toNat_natCast] at hx
      subst e0
      have ei : xs.length - 1 - k = i := by omega
      have hJ2 := Aside0.mk (show backTo xs (k + 1) = backTo xs k ++ [(i, rd xs (i : Int))] by rw [backTo_succ, ei]; unfold rd; simp)
      obtain ⟨fn, tmps, assign, body, hy, hR⟩ := HY.out k (i, rd xs (i : Int)) wr HJ.out (by omega) hJ2.out
      dsimp only at hy
      have HRR := Aside0.mk hR
      have Hmm := Aside0.mk hik
      clear hR hik ei
      gi_wp2
      refine ⟨fun e => absurd e (by simp [Fence.wide]), HRR.out.mono ?_⟩
      rintro e W3 (⟨rfl, hJ3, hk3⟩ | ⟨rfl, hJx3⟩)
      · have HJ3 := Aside0.mk hJ3
        have HK3 := Aside0.mk (HK.out.trans hk3)
        clear hJ3 hk3
        gi_wp2
        go_roundw
        case rel => exact ⟨i, k + 1, _, by go_num, rfl, by have := Hmm.out; omega, HJ3, HK3⟩
        case measure => simp [intOf]
      · have HX := Aside0.mk hJx3
        clear hJx3
        gi_wp2
        refine bodyPost_ret (results_none rfl _ _ _) rfl ?_
        exact ⟨⟨_, rfl⟩, .inr ⟨_, trivial, HX.out⟩⟩
set_option maxHeartbeats 1000000 in
/-- Backward: the slice is boxed; the function value captures the box. -/
theorem back53 (A : Option Addr) (n c : Nat) (w : World) :
    Calls Try.prog 53 #[.slice A n c] w fun e w' => e = .returned (.func (.func 67) #[] #[.pointer (some ⟨w.heap.size, 0, none⟩)]) ∧ w' = w.alloc (.cells #[.slice A n c] 30) := by
  go_enter Try.func53, Try.ntmps53
  go_wp2_with fail
  go_ret
  exact ⟨rfl, rfl⟩
/-- What a round may know of what it is handed: the second is a node. -/
abbrev Bk (N : Nat) : Type := { p : Nat × Int // 0 ≤ p.2 ∧ p.2 < N }
theorem back_stops (n : Nat) (Bs base : Nat) (v : Value) (xs : List Int) (hl : xs.length ≤ 65536) (w : World) (hB : w.heap[Bs]? = some (.cells #[v] 30 (0, 0))) (hr : kI.R 3 w base (fun _ => True) v xs) (N : Nat) (hx : ∀ x, x ∈ xs → 0 ≤ x ∧ x < (N : Int)) :
    SeqStopsK Fence.wide n Try.prog 67 #[.pointer (some ⟨Bs, 0, none⟩)] (fun x : Bk N => #[Value.int .i64 (x.1.1 : Int), Value.int .i64 x.1.2]) (KpB Bs v) (fun ys => ys.map (fun x => x.1.2) = xs.reverse) (fun _ => True) xs.length w := fun l J Jx W hW _ _ hY h0 => by
  refine CallsIn.mono (back67_in n l Bs base v xs hl (fun pre W => ∃ ys : List (Bk N), ys.map (fun x => x.1) = pre ∧ J ys W) (fun pre W => ∃ ys : List (Bk N), Jx ys W) ?_ W (blk_below hB hW) (Kd.R_below hr hW) ⟨[], rfl, h0⟩) ?_
  · rintro k x W1 ⟨ys, he, hJ⟩ hk hkx
    have hxin : x.2 ∈ xs := by
      have h1 := backTo_succ xs k
      rw [hkx] at h1
      have h2 := (List.append_inj h1 rfl).2
      injection h2 with h2
      rw [h2]
      have : xs.length - 1 - k < xs.length := by omega
      show xs.getD (xs.length - 1 - k) 0 ∈ xs
      rw [List.getD_eq_getElem?_getD, List.getElem?_eq_getElem this]
      exact List.getElem_mem this
    have hlen : ys.length < xs.length := by
      have : ys.length = (backTo xs k).length := by rw [← he, List.length_map]
      rw [this]; simp [backTo]; exact hk
    refine YieldAt.mono (hY ys ⟨x, hx _ hxin⟩ W1 hJ hlen) ?_
    rintro e W' (⟨rfl, h1, h2⟩ | ⟨rfl, h1⟩)
    · exact .inl ⟨rfl, ⟨_, by rw [List.map_append, he, hkx]; rfl, h1⟩, h2⟩
    · exact .inr ⟨rfl, _, h1⟩
  · rintro e W' ⟨he, ⟨ys, rfl, zs, hz, hJ⟩ | ⟨pre, _, zs, hJ⟩⟩
    · refine ⟨he, .inl ⟨zs, ?_, hJ⟩⟩
      rw [← backTo_snd, ← hz, List.map_map]
      rfl
    · exact ⟨he, .inr ⟨zs, trivial, hJ⟩⟩
end Go.Proofs.Ythkgfmjgilkdeaa

/- slices.SortFunc at the groups of Components. -/
namespace Go.Proofs.Ythkgfmjgilkdeaa
open Go.Shelf
shelf_lay_g SlLaysF.n6 Slsf 6 at Try 56 as sortF56
end Go.Proofs.Ythkgfmjgilkdeaa
namespace Go.Proofs.Ythkgfmjgilkdeaa
set_option linter.unusedVariables false
set_option linter.unusedSimpArgs false
open Go.RowKit Go.Shelf Go.Proofs.Ythkgfmjgilkdeaa.Q Go.Proofs.YthkgfmjgilkdeaaW.PrintWords Go.Proofs.YthkgfmjgilkdeaaW.PrintLast Go.Proofs.YthkgfmjgilkdeaaW.PrintMore
theorem ltHead (x y : Int) : decide (Lib.compareInt x y < 0) = decide (x < y) := by
  unfold Lib.compareInt
  by_cases h1 : x < y
  · simp [h1]
  · by_cases h2 : y < x <;> simp [h1, h2]
theorem compare_head (x y : Int) : cmp_Compare_int.f x y = some (Lib.compareInt x y) := by
  unfold cmp_Compare_int.f Lib.compareInt
  simp [cmp_isNaN_int.f]
  by_cases h1 : x < y
  · simp [h1]
  · by_cases h2 : y < x <;> simp [h1, h2]
/-- A group's value beside its numbers. -/
abbrev Grp (w : World) (base blk : Nat) : Type := { p : Value × List Int // kI.R 3 w base (fun k => k ≠ blk) p.1 p.2 ∧ 0 < p.2.length }
def Grp.enc {w : World} {base blk : Nat} (g : Grp w base blk) : Value := g.1.1
def Grp.hd {w : World} {base blk : Nat} (g : Grp w base blk) : Int := rd g.1.2 0
theorem Grp.one {w : World} {base blk : Nat} : OneCell (Grp.enc : Grp w base blk → Value) := fun g => by
  obtain ⟨A, c, e⟩ := Kd.R_slice g.2.1
  show (g.1.1).oneCell' = true
  rw [e]
  rfl
theorem Grp.swo {w : World} {base blk : Nat} : Go.Sort.SWO (ltOf fun x y : Grp w base blk => Lib.compareInt x.hd y.hd) where
  irrefl x := by unfold ltOf; rw [ltHead]; simp
  trans x y z h1 h2 := by unfold ltOf at *; rw [ltHead] at *; simp at *; omega
  ntrans x y z h1 h2 := by unfold ltOf at *; rw [ltHead] at *; simp at *; omega
def HSortR.T1 : Bool × List (List Nat × List Nat) := (true, [([], []), ([0], [0]), ([1], [1]), ([], []), ([3], [3]), ([4], [4]), ([2, 5], [2, 5]), ([6, 6, 0, 1, 2, 3, 4, 5, 6], [6])])
def HSortR.B1 : List Nat := [0, 1, 3, 0, 8, 24, 63, 127]
theorem HSortR.tab1 : rtab .any (opsOf Try.f57 1) = HSortR.T1 := by kernel_rfl
theorem HSortR.bits1 : waitsOk HSortR.T1.2 HSortR.B1 = true := by kernel_rfl
set_option maxHeartbeats 2000000 in
set_option maxRecDepth 100000 in
/-- The closure compares the groups' first numbers. -/
theorem closure57 {W : World} {A B : Option Addr} {n m c d : Nat} {xs ys : List Int} (hx : kI.C W A n xs) (hy : kI.C W B m ys) (h1 : 0 < n) (h2 : 0 < m) :
    Calls Try.prog 57 #[.slice A n c, .slice B m d] W fun e w' => e = .returned (.int .i64 (Lib.compareInt (rd xs 0) (rd ys 0))) ∧ Drawn0 W w' := by
  obtain ⟨ad, e0, z0⟩ := Kd.at_int hx 0 (by omega) (by omega)
  obtain ⟨bd, e1, z1⟩ := Kd.at_int hy 0 (by omega) (by omega)
  subst e0 e1
  obtain ⟨u, hu⟩ : ∃ u, u = rd xs 0 := ⟨_, rfl⟩
  obtain ⟨v, hv⟩ : ∃ v, v = rd ys 0 := ⟨_, rfl⟩
  rw [← hu] at z0 ⊢
  rw [← hv] at z1 ⊢
  have p0 : (0 : Int) < (n : Int) := by omega
  have p1 : (0 : Int) < (m : Int) := by omega
  have HC := Aside0.mk (compare_head u v)
  obtain ⟨r, hr⟩ : ∃ r, r = Lib.compareInt u v := ⟨_, rfl⟩
  rw [← hr] at HC ⊢
  have y0 : W.cell? (ad.add 0) = some (.int .i64 u) := z0
  have y1 : W.cell? (bd.add 0) = some (.int .i64 v) := z1
  rw [show ad.add 0 = ad from rfl] at y0
  rw [show bd.add 0 = bd from rfl] at y1
  clear hu hv hr hx hy z0 z1
  go_enter Try.func57, Try.ntmps57
  go_wp2_with fail
  refine start_ (n := 8) (S := fun w' => w'.cell? ad = some (.int .i64 u) ∧ w'.cell? bd = some (.int .i64 v)) (ds := []) #[false, false, false, false, false, false, false, false] (by kernel_rfl) rfl rfl ⟨y0, y1⟩ (fun hHeld => ?_)
  refine with_tabW HSortR.tab1 HSortR.bits1 (fun HT_ HW_ => ?_)
  refine pure_ (i := 0) (N := some 5) (v := ?_) (a' := ?_) #[true, false, false, false, false, false, false, false] rfl rfl (any_of HT_.out (by kernel_rfl)) (fun _ _ _ h => h) (Or.inl ⟨by rfl, ?_⟩) ?_ ?_
  rotate_left
  · intro w'
    go_simp
    with_reducible rfl
  rotate_left
  · simp only [Act.put, List.setIfInBounds_toArray, List.set_cons_zero, List.set_cons_succ, i64_w, i32_w]
    rfl
  refine pure_ (i := 1) (N := some 6) (v := ?_) (a' := ?_) #[true, true, false, false, false, false, false, false] rfl rfl (any_of HT_.out (by kernel_rfl)) (fun _ _ _ h => h) (Or.inl ⟨by rfl, ?_⟩) ?_ ?_
  rotate_left
  · intro w'
    go_simp
    with_reducible rfl
  rotate_left
  · simp only [Act.put, List.setIfInBounds_toArray, List.set_cons_zero, List.set_cons_succ, i64_w, i32_w]
    rfl
  refine pure_ (i := 3) (N := some 8) (v := ?_) (a' := ?_) #[true, true, false, true, false, false, false, false] rfl rfl (any_of HT_.out (by kernel_rfl)) (fun _ _ _ h => h) (Or.inl ⟨by rfl, ?_⟩) ?_ ?_
  rotate_left
  · intro w'
    go_simp
    with_reducible rfl
  rotate_left
  · simp only [Act.put, List.setIfInBounds_toArray, List.set_cons_zero, List.set_cons_succ, i64_w, i32_w]
    rfl
  refine pure_ (i := 4) (N := some 9) (v := ?_) (a' := ?_) #[true, true, false, true, true, false, false, false] rfl rfl (any_of HT_.out (by kernel_rfl)) (fun _ _ _ h => h) (Or.inl ⟨by rfl, ?_⟩) ?_ ?_
  rotate_left
  · intro w'
    go_simp
    with_reducible rfl
  rotate_left
  · simp only [Act.put, List.setIfInBounds_toArray, List.set_cons_zero, List.set_cons_succ, i64_w, i32_w]
    rfl
  refine take_ (i := 2) (N := some 7) (v := ?_) (a' := ?_) #[true, true, true, true, true, false, false, false] rfl rfl (take_ofW HT_.out HW_.out (by kernel_rfl)) (fun _ _ _ h => h) (Or.inl ⟨by rfl, ?_⟩) hHeld ?_ ?_
  rotate_left
  · rintro w' ⟨s0, s1⟩
    go_simp
    with_reducible rfl
  rotate_left
  · simp only [Act.put, List.setIfInBounds_toArray, List.set_cons_zero, List.set_cons_succ, i64_w, i32_w]
    rfl
  refine take_ (i := 5) (N := some 10) (v := ?_) (a' := ?_) #[true, true, true, true, true, true, false, false] rfl rfl (take_ofW HT_.out HW_.out (by kernel_rfl)) (fun _ _ _ h => h) (Or.inl ⟨by rfl, ?_⟩) hHeld ?_ ?_
  rotate_left
  · rintro w' ⟨s0, s1⟩
    go_simp
    with_reducible rfl
  rotate_left
  · simp only [Act.put, List.setIfInBounds_toArray, List.set_cons_zero, List.set_cons_succ, i64_w, i32_w]
    rfl
  refine one_ (i := 6) (N := some 11) #[true, true, true, true, true, true, true, false] rfl rfl (one_of HT_.out (by kernel_rfl)) (by decide) (fun K hK => ?_)
  refine goes_ Try.func58 (by kernel_rfl) rfl #[.int .i64 u, .int .i64 v] (by rfl) rfl rfl (by simp only [List.map_toArray, List.map_cons, List.map_nil]; rfl) ?_
  with_reducible refine (cmp_Compare_int.calls u v r _ HC.out).mono ?_
  rintro e w6 ⟨rfl, ⟨q2, hq2⟩⟩
  refine ⟨_, rfl, ?_⟩
  have x0_ : w6.cell? ad = some (.int .i64 u) := by rw [hq2]; exact y0
  have x1_ : w6.cell? bd = some (.int .i64 v) := by rw [hq2]; exact y1
  have HD := Aside0.mk hq2
  clear hq2
  refine hK.out _ _ ⟨x0_, x1_⟩ (fun hHeld => ?_)
  clear hK K
  refine norm_ (a' := ?_) ?_ ?_
  rotate_left
  · show Act.put _ (some 11) _ = _
    simp only [Act.put, List.setIfInBounds_toArray, List.set_cons_zero, List.set_cons_succ, i64_w, i32_w]
    rfl
  refine pure_ (i := 7) (N := some 4) (v := ?_) (a' := ?_) #[true, true, true, true, true, true, true, true] rfl rfl (any_of HT_.out (by kernel_rfl)) (fun _ _ _ h => h) (Or.inl ⟨by rfl, ?_⟩) ?_ ?_
  rotate_left
  · intro w'
    go_simp
    with_reducible rfl
  rotate_left
  · simp only [Act.put, List.setIfInBounds_toArray, List.set_cons_zero, List.set_cons_succ, i64_w, i32_w]
    rfl
  refine done_ (done_of HT_.out (by kernel_rfl)) ?_

  go_wp2_with fail
  go_ret
  exact ⟨rfl, by rw [HD.out]; repeat (first | exact Drawn0.refl _ | apply Drawn0.step)⟩
section
open Go.Sort
variable {α : Type} [Inhabited α]
theorem heap_sortW {w : World} {g n : Nat} {os : Array Obj} {cur : Array Value} {e : TypeId} {fr : Nat × Nat} (enc : α → Value) (d : Array α) (hb : w.heap[g]? = some (.cells cur e fr)) :
    (sortWorld enc w g 0 n d os).heap[g]? = some (.cells (putCells enc 0 d cur) e fr) := by
  have hg : g < w.heap.size := (Array.getElem?_eq_some_iff.1 hb).1
  unfold sortWorld
  rw [heap_grow_old _ _ (by simpa using hg)]
  simp [putRow, mapBlock, Sort.ahead, Array.getElem?_modify, hb, onCells]
theorem grownBy_sortW {w : World} {g n : Nat} {os : Array Obj} (enc : α → Value) (d : Array α) : w.grownBy (sortWorld enc w g 0 n d os) (some g) := by
  unfold sortWorld
  refine ⟨rfl, rfl, rfl, by simp, fun k hk hne => ?_⟩
  rw [heap_grow_old _ _ (by simpa using hk)]
  have : g ≠ k := fun e => hne (by rw [e])
  simp [putRow, mapBlock, Sort.ahead, Array.getElem?_modify, this]
end
theorem Grp.reads {w W : World} {base blk : Nat} (g : Grp w base blk) (hm : ∀ k, k < w.heap.size → k ≠ blk → W.heap[k]? = w.heap[k]?) : ∃ A c, g.enc = .slice A g.1.2.length c ∧ g.1.2.length ≤ c ∧ kI.C W A g.1.2.length g.1.2 := by
  have h := Kd.R_step g.2.1 (w1 := W) (fun k hk hlt => hm k hlt hk)
  obtain ⟨A, c, e, hl, hc⟩ := Kd.R_reads h
  exact ⟨A, c, e, hl, hc⟩
theorem sort56 {W : World} {base b cap : Nat} {cur : Array Value} {ps : List (Value × List Int)} (hb : W.heap[b]? = some (.cells cur 30 (0, 0))) (hcur : cur.toList.take ps.length = ps.map Prod.fst)
    (hg : ∀ p, p ∈ ps → kI.R 3 W base (fun _ => True) p.1 p.2 ∧ 0 < p.2.length) (hne : 0 < ps.length) (hlen : ps.length ≤ 4096) :
    Calls Try.prog 56 #[.slice (some ⟨b, 0, none⟩) ps.length cap, .func (.func 57) #[] #[]] W fun e W' => e = .returned (.tuple #[]) ∧
      ∃ gs : List (List Int), gs.Perm (ps.map Prod.snd) ∧ gs.Pairwise (fun x y => rd x 0 ≤ rd y 0) ∧ kL.C W' (some ⟨b, 0, none⟩) gs.length gs ∧ W.grownBy W' (some b) := by
  have hg' : ∀ p, p ∈ ps → kI.R 3 W base (fun k => k ≠ b) p.1 p.2 ∧ 0 < p.2.length := fun p hp =>
    ⟨Kd.R_flat (fun h => h) (hg p hp).1 (fun k hk _ e => Kd.R_ne (hg p hp).1 hb (by decide) (by rw [← e]; exact hk.symm)), (hg p hp).2⟩
  obtain ⟨dl, hdl⟩ : ∃ dl : List (Grp W base b), dl.map (fun g => g.1) = ps := ⟨ps.attach.map fun p => ⟨p.1, hg' p.1 p.2⟩, by rw [List.map_map]; exact List.attach_map_subtype_val ps⟩
  have hdlen : dl.length = ps.length := by rw [← hdl, List.length_map]
  haveI : Inhabited (Grp W base b) := ⟨dl[0]'(by omega)⟩
  have hcell : ∀ j, j < dl.length → cur[j]? = some (Grp.enc dl[j]!) := fun j hj => by
    have h1 : (cur.toList.take ps.length)[j]? = cur[j]? := by rw [List.getElem?_take_of_lt (by omega), Array.getElem?_toList]
    rw [← h1, hcur, ← hdl]
    simp [hj, Grp.enc]
  have hH : Go.Sort.Holds (Grp.enc (w := W) (base := base) (blk := b)) W b 0 dl.toArray := fun j hj => by
    have hj' : j < dl.length := by simpa using hj
    rw [Nat.zero_add]
    exact ⟨by rw [blk_cell hb j, hcell j hj', List.getElem!_toArray], blk_frozen hb j⟩
  have eg : ∀ args w, (callFunc 57 args).run Try.prog w = .ok (.enter 57 args) w := enters_of Try.func57 (by kernel_rfl) rfl
  have hcmp : CmpReads Try.prog 57 #[] (Grp.enc (w := W) (base := base) (blk := b)) (fun x y => Lib.compareInt x.hd y.hd) b 0 dl.toArray.size W := fun m os dk _ x y => by
    have hm : ∀ k, k < W.heap.size → k ≠ b → (sortWorld (Grp.enc (w := W) (base := base) (blk := b)) W b 0 m dk os).heap[k]? = W.heap[k]? := fun k hk hne => (grownBy_sortW _ _).block k hk (fun e => hne (by injection e))
    obtain ⟨A, c, ex, _, hx⟩ := x.reads hm
    obtain ⟨B, d, ey, _, hy⟩ := y.reads hm
    rw [ex, ey]
    exact (closure57 hx hy x.2.2 y.2.2).mono fun e w' ⟨he, q, hq⟩ => ⟨he, q, hq⟩
  have hcon := Any.slices_SortFunc sortF56 (Grp.enc (w := W) (base := base) (blk := b)) Grp.one (fun x y => Lib.compareInt x.hd y.hd) Grp.swo 57 #[] b 0 cap dl.toArray W eg hcmp.lays hH (blk_lt hb) (by simp; omega)
  rw [show dl.toArray.size = ps.length by simp [hdlen]] at hcon
  refine Calls.mono hcon fun e W' ⟨he, d', n, os, hp, hs, hw⟩ => ⟨he, d'.toList.map (fun g => g.1.2), ?_, ?_, ?_, by rw [hw]; exact grownBy_sortW _ _⟩
  · have h3 := hp.2.2
    have hsz : d'.size = dl.length := by simpa using hp.1
    have e1 : (d'.extract 0 ps.length).toList = d'.toList := by simp [← hdlen, ← hsz]
    have e2 : (dl.toArray.extract 0 ps.length).toList = dl := by simp [← hdlen]
    rw [e1, e2] at h3
    rw [← hdl, List.map_map]
    exact h3.map _
  · have hsz : d'.size = dl.length := by simpa using hp.1
    rw [List.pairwise_map, List.pairwise_iff_getElem]
    intro i j hi hj hij
    have hj' : j < d'.size := by simpa using hj
    have hi' : i < d'.size := by simpa using hi
    have := hs i j (Nat.zero_le _) hij (by omega)
    unfold ltOf at this
    rw [ltHead] at this
    rw [getElem!_pos d' i hi', getElem!_pos d' j hj'] at this
    rw [decide_eq_false_iff_not] at this
    exact Int.not_lt.mp this
  · have hsz : d'.size = dl.length := by simpa using hp.1
    refine ⟨by simp, by simp; omega, fun _ => ⟨_, rfl, fun j p hj => ?_⟩⟩
    rw [List.getElem?_map] at hj
    obtain ⟨x, hx, rfl⟩ := Option.map_eq_some_iff.1 hj
    rw [Array.getElem?_toList] at hx
    obtain ⟨hjl, hx2⟩ := Array.getElem?_eq_some_iff.1 hx
    obtain ⟨A, c, ex, hl, hc⟩ := x.reads (W := W') (fun k hk hne => by rw [hw]; exact (grownBy_sortW _ _).block k hk (fun e => hne (by injection e)))
    refine ⟨[x.enc], rfl, ⟨A, c, by rw [ex], hl, hc⟩, fun i u hu => ?_⟩
    cases i with
    | zero =>
      obtain rfl := Option.some.inj hu
      have h1 : W'.heap[b]? = some (.cells (Go.Sort.putCells (Grp.enc (w := W) (base := base) (blk := b)) 0 d' cur) 30 (0, 0)) := by rw [hw]; exact heap_sortW _ _ hb
      have hcur2 := hcell j (by omega)
      have hjc : j < cur.size := (Array.getElem?_eq_some_iff.1 hcur2).1
      have h2 : W'.cell? ⟨b, j, none⟩ = some x.enc := by
        rw [blk_cell h1 j]
        simp [Go.Sort.putCells, hjl, hjc, hx2]
      unfold Addr.add
      by_cases h0 : j = 0
      · subst h0; simpa using h2
      · rw [if_neg (by simpa [Kd.slice] using h0)]
        simpa [Kd.slice] using h2
    | succ i => simp at hu
end Go.Proofs.Ythkgfmjgilkdeaa

/- graph.Components: the groups one by one (plain), a group sorted, what a round keeps. -/
namespace Go.Proofs.Ythkgfmjgilkdeaa
set_option linter.unusedVariables false
set_option linter.unusedSimpArgs false
open Go.RowKit Go.Shelf Go.Proofs.Ythkgfmjgilkdeaa.Q Go.Proofs.YthkgfmjgilkdeaaW.PrintWords Go.Proofs.YthkgfmjgilkdeaaW.PrintLast Go.Proofs.YthkgfmjgilkdeaaW.PrintMore
def srt (l : List Int) : List Int := l.mergeSort fun x y => decide (x ≤ y)
/-- The nodes 0 .. N-1. -/
def nums (N : Nat) : List Int := (List.range N).map fun j : Nat => (j : Int)
theorem nums_len (N : Nat) : (nums N).length = N := by simp [nums]
theorem nums_at (N j : Nat) (h : j < N) : (nums N)[j]'(by rw [nums_len]; exact h) = (j : Int) := by simp [nums]
/-- One node of the second pass: a new group, unless it has been met. -/
def grp1 (K : Nat) (Y : List (List Int)) (s : List Bool × List (List Int)) (n : Int) : Option (List Bool × List (List Int)) :=
  if s.1.getD n.toNat false = true then some s else (dfs K Y (s.1, []) n).bind fun t => some (t.1, s.2 ++ [srt t.2])
def grps (K : Nat) (Y : List (List Int)) : List Int → List Bool × List (List Int) → Option (List Bool × List (List Int))
  | [], s => some s
  | n :: ns, s => (grp1 K Y s n).bind (grps K Y ns)
theorem grps_snoc (K : Nat) (Y : List (List Int)) (n : Int) : ∀ (ns : List Int) (s : List Bool × List (List Int)), grps K Y (ns ++ [n]) s = (grps K Y ns s).bind fun t => grp1 K Y t n
  | [], s => by simp [grps]
  | x :: ns, s => by
    simp only [List.cons_append, grps]
    cases h : grp1 K Y s x with
    | none => rfl
    | some t => exact grps_snoc K Y n ns t
def encV (v : Value) : Value := if v.oneCell' = true then v else .bool false
theorem encV_one (v : Value) : (encV v).oneCell' = true := by
  unfold encV
  split
  · assumption
  · rfl
theorem encV_slice (A : Option Addr) (n c : Nat) : encV (.slice A n c) = .slice A n c := rfl
abbrev kV : Kd Value := Kd.scalar encV encV_one
/-- The blocks at the head of a round. -/
structure Rs (w W : World) (b b1 b4 b5 S b7 N : Nat) (v7 : Value) (m : List Bool) (ps : List (Value × List Int)) : Prop where
  h1 : W.heap[b1]? = some (.cells #[.pointer (some ⟨b, 0, none⟩)] 24 (0, 0))
  h4 : W.heap[b4]? = some (.cells #[.slice (some ⟨S, 0, none⟩) N N] 83 (0, 0))
  h5 : W.heap[b5]? = some (.cells #[.func (.func 51) #[] #[.pointer (some ⟨b4, 0, none⟩), .pointer (some ⟨b5, 0, none⟩)]] 86 (0, 0))
  hS : W.heap[S]? = some (.cells (bools m) 4 (0, 0))
  h7 : W.heap[b7]? = some (.cells #[v7] 50 (0, 0))
  hr : kV.R 30 W w.heap.size (fun _ => True) v7 (ps.map Prod.fst)
  hg : ∀ p, p ∈ ps → kI.R 3 W w.heap.size (fun _ => True) p.1 p.2 ∧ 0 < p.2.length
  len : m.length = N
  bel : Below w.heap.size w W
  gS : w.heap.size ≤ S
  g7 : w.heap.size ≤ b7
section
variable {w W W' : World} {b b1 b4 b5 S b7 N : Nat} {v7 : Value} {m m' : List Bool} {ps : List (Value × List Int)}
/-- All that lay is kept, the marks' block aside. -/
theorem Rs.keep (h : Rs w W b b1 b4 b5 S b7 N v7 m ps) (hm : ∀ k, k < W.heap.size → k ≠ S → W'.heap[k]? = W.heap[k]?) (hS : W'.heap[S]? = some (.cells (bools m') 4 (0, 0))) (hl : m'.length = N) (hb : Below w.heap.size w W') : Rs w W' b b1 b4 b5 S b7 N v7 m' ps := by
  have kp : ∀ {k t : Nat} {cs : Array Value}, W.heap[k]? = some (.cells cs t (0, 0)) → t ≠ 4 → W'.heap[k]? = some (.cells cs t (0, 0)) := fun hk ht => (hm _ (blk_lt hk) (fun e => blk_ne hk h.hS ht e)).trans hk
  refine ⟨kp h.h1 (by decide), kp h.h4 (by decide), kp h.h5 (by decide), hS, kp h.h7 (by decide), ?_, fun p hp => ⟨?_, (h.hg p hp).2⟩, hl, hb, h.gS, h.g7⟩
  · exact Kd.R_mono (Kd.R_step (Kd.R_types h.hr h.hS (by decide)) (fun k hk hlt => hm k hlt hk.2)) (fun _ _ => trivial)
  · exact Kd.R_mono (Kd.R_step (Kd.R_types (h.hg p hp).1 h.hS (by decide)) (fun k hk hlt => hm k hlt hk.2)) (fun _ _ => trivial)
/-- It abides the turn of a block that is no cells. -/
theorem Rs.abide (h : Rs w W b b1 b4 b5 S b7 N v7 m ps) {row : Option Nat} (hg : W.grownBy W' row) (hr : ∀ r, row = some r → w.heap.size ≤ r ∧ ∃ o : Obj, W.heap[r]? = some o ∧ o.isCells = false) : Rs w W' b b1 b4 b5 S b7 N v7 m ps := by
  have hc : ∀ {k t : Nat} {cs : Array Value}, W.heap[k]? = some (.cells cs t (0, 0)) → W'.heap[k]? = W.heap[k]? := fun {k t cs} hk => hg.block k (blk_lt hk) fun e => by
    obtain ⟨_, o, ho, hoc⟩ := hr k e.symm
    rw [hk] at ho; cases ho; cases hoc
  have kp : ∀ {k t : Nat} {cs : Array Value}, W.heap[k]? = some (.cells cs t (0, 0)) → W'.heap[k]? = some (.cells cs t (0, 0)) := fun hk => (hc hk).trans hk
  refine ⟨kp h.h1, kp h.h4, kp h.h5, kp h.hS, kp h.h7, ?_, fun p hp => ⟨?_, (h.hg p hp).2⟩, h.len, h.bel.grown hg h.bel.size (fun k hk => (hr k hk).1), h.gS, h.g7⟩
  · refine Kd.R_mono (Kd.R_move (Kd.R_bound h.hr) (fun k hk => ?_)) (fun _ _ => trivial)
    obtain ⟨_, _, _, q, _, cs, hq⟩ := hk
    exact hc hq
  · refine Kd.R_mono (Kd.R_move (Kd.R_bound (h.hg p hp).1) (fun k hk => ?_)) (fun _ _ => trivial)
    obtain ⟨_, _, _, q, _, cs, hq⟩ := hk
    exact hc hq
/-- The group is put behind the others. -/
theorem Rs.push {W4 : World} {v4 v : Value} {g : List Int} (h : Rs w W b b1 b4 b5 S b7 N v7 m ps) (hv : kI.R 3 W w.heap.size (fun _ => True) v g) (hgl : 0 < g.length) (hr4 : kV.R 30 W4 w.heap.size (fun _ => True) v4 (ps.map Prod.fst ++ [v])) (hg : W.grownBy W4 v7.ownBlock) (hb : Below w.heap.size w W4) :
    Rs w (W4.setCell ⟨b7, 0, none⟩ v4) b b1 b4 b5 S b7 N v4 m (ps ++ [(v, g)]) := by
  have h74 := blk_grown h.h7 hg (Kd.R_ne h.hr h.h7 (by decide))
  have kp : ∀ {k t : Nat} {cs : Array Value}, W.heap[k]? = some (.cells cs t (0, 0)) → t ≠ 30 → t ≠ 50 → (W4.setCell ⟨b7, 0, none⟩ v4).heap[k]? = some (.cells cs t (0, 0)) := fun hk h30 h50 =>
    (Below.heap_setCell W4 ⟨b7, 0, none⟩ v4 _ (fun e => blk_ne hk h.h7 h50 e)).trans (blk_grown hk hg (Kd.R_ne h.hr hk (fun e => h30 e.symm)))
  have tor : ∀ {u : Value} {l : List Int}, kI.R 3 W w.heap.size (fun _ => True) u l → kI.R 3 (W4.setCell ⟨b7, 0, none⟩ v4) w.heap.size (fun _ => True) u l := fun {u l} hu => by
    refine Kd.R_set ?_ h74 (by decide) 0 v4
    refine Kd.R_mono (Kd.R_move (Kd.R_bound hu) (fun k hk => ?_)) (fun _ _ => trivial)
    obtain ⟨_, _, _, q, hq, cs, hc⟩ := hk
    have hq3 : q = 3 := by rcases List.mem_cons.mp hq with e | e; exact e; exact absurd e (by simp [kI, Kd.int, Kd.scalar])
    subst hq3
    exact (blk_grown hc hg (Kd.R_ne h.hr hc (by decide))).trans hc.symm
  refine ⟨kp h.h1 (by decide) (by decide), kp h.h4 (by decide) (by decide), kp h.h5 (by decide) (by decide), kp h.hS (by decide) (by decide), blk_put h74 0 v4 rfl, ?_, fun p hp => ?_, h.len, below_set hb h.g7, h.gS, h.g7⟩
  · rw [List.map_append]
    exact Kd.R_set hr4 h74 (by decide) 0 v4
  · rcases List.mem_append.mp hp with hp | hp
    · exact ⟨tor (h.hg p hp).1, (h.hg p hp).2⟩
    · obtain rfl := List.mem_singleton.mp hp
      exact ⟨tor hv, hgl⟩
end
/-- slices.Sort at a row of the call's own. -/
theorem sort_row {w : World} {base : Nat} {v : Value} {zs : List Int} (hr : kI.R 3 w base (fun _ => True) v zs) (hz : zs.length ≤ 65536) :
    Calls Try.prog 55 #[v] w fun e w' => (∃ u, e = .returned u) ∧ kI.R 3 w' base (fun _ => True) v (srt zs) ∧ w.grownBy w' v.ownBlock := by
  have hown := Kd.own_of_R hr
  have hl : (srt zs).length = zs.length := List.length_mergeSort zs
  rcases hown.2 with ⟨e0, h0⟩ | ⟨g, cap, cur, e0, hbase, hcur, h1, h2, h3, -⟩
  · obtain rfl := List.eq_nil_of_length_eq_zero h0
    subst e0
    have h1 := Any.slices_Sort_int_none laysSort none 0 w
    change Calls Try.prog 55 _ _ _ at h1
    refine h1.mono ?_
    rintro e w' ⟨rfl, rfl⟩
    exact ⟨⟨_, rfl⟩, by rw [show srt [] = [] by simp [srt]]; exact Kd.R_nil _ _ _ _ _, World.grownBy.refl _ _⟩
  · subst e0
    obtain ⟨g', cap', e, _, hgl, _, _, _, hH⟩ := Lib.holds_of_ownsRow hown (by simp)
    injection e with e1 _ e3
    injection e1 with e1
    injection e1 with e1
    subst e1 e3
    have hsort := Any.slices_Sort_int laysSort g 0 cap zs w hH hgl (by omega)
    change Calls Try.prog 55 _ _ _ at hsort
    refine hsort.mono ?_
    rintro e w' ⟨rfl, nn, os, rfl⟩
    refine ⟨⟨_, rfl⟩, ?_, Go.grownBy_sortedI _⟩
    have := Go.ownsRow_sortedI (n := nn) (os := os) (ts := srt zs) hl hbase hcur h1 h2 h3
    rw [← hl] at this
    rw [← hl]
    exact Kd.R_of_own this (fun _ _ => trivial)
end Go.Proofs.Ythkgfmjgilkdeaa

/- graph.Components. -/
namespace Go.Proofs.Ythkgfmjgilkdeaa
set_option linter.unusedVariables false
set_option linter.unusedSimpArgs false
open Go.RowKit Go.Shelf Go.Proofs.Ythkgfmjgilkdeaa.Q Go.Proofs.YthkgfmjgilkdeaaW.PrintWords Go.Proofs.YthkgfmjgilkdeaaW.PrintLast Go.Proofs.YthkgfmjgilkdeaaW.PrintMore
attribute [local go_sem] Oper.semAt_some
def CompR.T10 : Bool × List (List Nat × List Nat) := (true, [([], []), ([], []), ([], []), ([2], [2]), ([3], [3]), ([4], [4]), ([], []), ([0, 1, 5, 6], [0, 1, 5, 6])])
def CompR.B10 : List Nat := [0, 0, 0, 4, 12, 28, 0, 127]
theorem CompR.tab10 : rtab .any (opsOf Try.f29 10) = CompR.T10 := by kernel_rfl
theorem CompR.bits10 : waitsOk CompR.T10.2 CompR.B10 = true := by kernel_rfl
def CompR.T18 : Bool × List (List Nat × List Nat) := (true, [([], []), ([], []), ([], []), ([2], [2]), ([3], [3]), ([4], [4]), ([], []), ([0, 1, 5, 6], [0, 1, 5, 6])])
def CompR.B18 : List Nat := [0, 0, 0, 4, 12, 28, 0, 127]
theorem CompR.tab18 : rtab .any (opsOf Try.f29 18) = CompR.T18 := by kernel_rfl
theorem CompR.bits18 : waitsOk CompR.T18.2 CompR.B18 = true := by kernel_rfl
theorem Ds.blk {w W : World} {b4 b5 S bd N : Nat} {v v' : Value} {s : List Bool × List Int} {W' : World} (h : Ds w W b4 b5 S bd N v s) (hc : Chg W W' S bd v v') {k t : Nat} {cs : Array Value} (hk : W.heap[k]? = some (.cells cs t (0, 0))) (h3 : t ≠ 3) (h4 : t ≠ 4) (h30 : t ≠ 30) : W'.heap[k]? = some (.cells cs t (0, 0)) :=
  (hc.same k (blk_lt hk) (fun e => blk_ne hk h.hS h4 e) (fun e => blk_ne hk h.hd h30 e) (Kd.R_ne h.hr hk (fun e => h3 e.symm))).trans hk
theorem bools_clear (S : Nat) : ∀ (k o : Nat) (m : List Bool) (W : World), W.heap[S]? = some (.cells (bools m) 4 (0, 0)) → o + k ≤ m.length → (W.setCells S o (List.replicate k (.bool false))).heap[S]? = some (.cells (bools (m.take o ++ List.replicate k false ++ m.drop (o + k))) 4 (0, 0))
  | 0, o, m, W, h, _ => by simpa [World.setCells] using h
  | k + 1, o, m, W, h, hl => by
    rw [List.replicate_succ, World.setCells]
    have h1 := blk_put h o (.bool false) (bools_set m o false)
    rw [bools_clear S k (o + 1) (m.set o false) _ h1 (by rw [List.length_set]; omega)]
    congr 3
    rw [List.drop_set_of_lt (by omega), List.take_add_one, List.take_set_of_le (by omega)]
    simp [show o < m.length by omega, List.replicate_succ, Nat.add_assoc, Nat.add_comm 1 k]
theorem setCells_other (S : Nat) : ∀ (vs : List Value) (o : Nat) (W : World) (k : Nat), k ≠ S → (W.setCells S o vs).heap[k]? = W.heap[k]?
  | [], _, _, _, _ => rfl
  | v :: vs, o, W, k, h => (setCells_other S vs (o + 1) _ k h).trans (Below.heap_setCell W ⟨S, o, none⟩ v k h)
theorem setCells_size (S : Nat) : ∀ (vs : List Value) (o : Nat) (W : World), (W.setCells S o vs).heap.size = W.heap.size
  | [], _, _ => rfl
  | v :: vs, o, W => (setCells_size S vs (o + 1) _).trans (by simp [World.setCell])
theorem setCells_below {w : World} {S : Nat} (hS : w.heap.size ≤ S) : ∀ (vs : List Value) (o : Nat) (W : World), Below w.heap.size w W → Below w.heap.size w (W.setCells S o vs)
  | [], _, _, h => h
  | v :: vs, o, W, h => setCells_below hS vs (o + 1) _ (below_set h hS)
theorem Ds.clear {w W : World} {b4 b5 S bd N : Nat} {v : Value} {m : List Bool} {fl : List Int} (h : Ds w W b4 b5 S bd N v (m, fl)) : Ds w (W.setCells S 0 (List.replicate N (.bool false))) b4 b5 S bd N v (List.replicate N false, fl) := by
  have hm : ∀ {k t : Nat} {cs : Array Value}, W.heap[k]? = some (.cells cs t (0, 0)) → t ≠ 4 → (W.setCells S 0 (List.replicate N (.bool false))).heap[k]? = some (.cells cs t (0, 0)) := fun hk ht => (setCells_other S _ 0 W _ (fun e => blk_ne hk h.hS ht e)).trans hk
  have hS := bools_clear S N 0 m W h.hS (by have : m.length = N := h.len; omega)
  have hl : m.length = N := h.len
  rw [Nat.zero_add, List.drop_of_length_le (by omega), List.append_nil, List.take_zero, List.nil_append] at hS
  refine ⟨hm h.h4 (by decide), hm h.h5 (by decide), hS, hm h.hd (by decide), ?_, by simp, setCells_below h.gS _ 0 W h.bel, h.gS, h.gd⟩
  exact Kd.R_mono (Kd.R_step (Kd.R_types h.hr h.hS (by decide)) (fun k hk _ => setCells_other S _ 0 W k hk.2)) (fun _ _ => trivial)
/-- What Backward reads lies apart: its box, the finished nodes (v), the groups' row (v7). -/
structure Iter (W : World) (bx : Nat) (v v7 : Value) : Prop where
  bs : W.heap[bx + 1]? = some (.cells #[v] 30 (0, 0))
  o7 : ∀ k, v7.ownBlock = some k → bx + 1 < k
  fin : ∀ k, v.ownBlock = some k → ∃ cells, W.heap[k]? = some (.cells cells 3 (0, 0))
theorem Iter.abide {W W' : World} {bx : Nat} {v v7 : Value} (h : Iter W bx v v7) {row : Option Nat} (hg : W.grownBy W' row) (hr : ∀ r, row = some r → ∃ o : Obj, W.heap[r]? = some o ∧ o.isCells = false) : Iter W' bx v v7 := by
  have hc : ∀ {k t : Nat} {cs : Array Value}, W.heap[k]? = some (.cells cs t (0, 0)) → W'.heap[k]? = some (.cells cs t (0, 0)) := fun {k t cs} hk => (hg.block k (blk_lt hk) fun e => by
    obtain ⟨o, ho, hoc⟩ := hr k e.symm
    rw [hk] at ho; cases ho; cases hoc).trans hk
  exact ⟨hc h.bs, h.o7, fun k hk => by obtain ⟨cs, h2⟩ := h.fin k hk; exact ⟨cs, hc h2⟩⟩
theorem out_row {W : World} {base : Nat} {v : Value} {V : List Value} (h : kV.R 30 W base (fun _ => True) v V) (he : ∀ u, u ∈ V → encV u = u) (hn : 0 < V.length) :
    ∃ g cap cur, v = .slice (some ⟨g, 0, none⟩) V.length cap ∧ base ≤ g ∧ W.heap[g]? = some (.cells cur 30 (0, 0)) ∧ V.length ≤ cap ∧ cur.toList.take V.length = V := by
  have ho := Kd.own_of_R h
  have hl : encs encV V = V := by
    unfold encs
    conv => rhs; rw [← List.map_id V]
    exact List.map_congr_left (fun u hu => he u hu)
  rw [hl] at ho
  rcases ho.2 with ⟨_, h0⟩ | ⟨g, cap, cur, e, hb, hc, h1, _, _, h2⟩
  · omega
  · rw [Nat.mul_one] at h2
    exact ⟨g, cap, cur, e, hb, hc, h1, h2⟩
/-- What reads, reads on where each cell stays. -/
theorem kL_stay {W W' : World} {A : Option Addr} {n : Nat} {xs : List (List Int)} (h : kL.C W A n xs) (hc : ∀ a v, W.cell? a = some v → W'.cell? a = some v) : kL.C W' A n xs := by
  refine ⟨h.1, h.2.1, fun hn => ?_⟩
  obtain ⟨ad, e, hx⟩ := h.2.2 hn
  refine ⟨ad, e, fun j p hj => ?_⟩
  obtain ⟨c, hs, ⟨B, d, rfl, hl, hi⟩, hcell⟩ := hx j p hj
  refine ⟨_, hs, ⟨B, d, rfl, hl, hi.1, hi.2.1, fun hp => ?_⟩, fun i u hu => hc _ _ (hcell i u hu)⟩
  obtain ⟨ad2, e2, hy⟩ := hi.2.2 hp
  refine ⟨ad2, e2, fun j2 p2 hj2 => ?_⟩
  obtain ⟨c2, hs2, hk, hcell2⟩ := hy j2 p2 hj2
  exact ⟨c2, hs2, hk, fun i u hu => hc _ _ (hcell2 i u hu)⟩
theorem comp_start (w : World) (b N q q1 : Nat) : Ds w (((((((w.alloc (.cells #[.pointer (some ⟨b, 0, none⟩)] 24)).alloc (.cells #[.slice none 0 0] 30)).drewN q).alloc (.cells (bools (List.replicate N false)) 4)).alloc (.cells #[.slice (some ⟨w.heap.size + 1 + 1, 0, none⟩) N N] 83)).alloc (.cells #[.func (.func 51) #[] #[.pointer (some ⟨w.heap.size + 1 + 1 + 1, 0, none⟩), .pointer (some ⟨w.heap.size + 1 + 1 + 1 + 1, 0, none⟩)]] 86)).drewN q1)
      (w.heap.size + 1 + 1 + 1) (w.heap.size + 1 + 1 + 1 + 1) (w.heap.size + 1 + 1) (w.heap.size + 1) N (.slice none 0 0) (List.replicate N false, []) ∧
    (((((((w.alloc (.cells #[.pointer (some ⟨b, 0, none⟩)] 24)).alloc (.cells #[.slice none 0 0] 30)).drewN q).alloc (.cells (bools (List.replicate N false)) 4)).alloc (.cells #[.slice (some ⟨w.heap.size + 1 + 1, 0, none⟩) N N] 83)).alloc (.cells #[.func (.func 51) #[] #[.pointer (some ⟨w.heap.size + 1 + 1 + 1, 0, none⟩), .pointer (some ⟨w.heap.size + 1 + 1 + 1 + 1, 0, none⟩)]] 86)).drewN q1).heap[w.heap.size]? = some (.cells #[.pointer (some ⟨b, 0, none⟩)] 24 (0, 0)) := by
  have e1 := heap_alloc_last w (.cells #[.pointer (some ⟨b, 0, none⟩)] 24)
  have n1 : (w.alloc (.cells #[.pointer (some ⟨b, 0, none⟩)] 24)).heap.size = w.heap.size + 1 := World.size_alloc _ _
  have b1 : Below w.heap.size w (w.alloc (.cells #[.pointer (some ⟨b, 0, none⟩)] 24)) := below_alloc (Below.refl _ _) _
  generalize w.alloc (.cells #[.pointer (some ⟨b, 0, none⟩)] 24) = W1 at e1 n1 b1 ⊢
  have e2 := heap_alloc_last W1 (.cells #[.slice none 0 0] 30)
  have n2 : ((W1.alloc (.cells #[.slice none 0 0] 30)).drewN q).heap.size = w.heap.size + 1 + 1 := by rw [show ((W1.alloc (.cells #[.slice none 0 0] 30)).drewN q).heap.size = (W1.alloc (.cells #[.slice none 0 0] 30)).heap.size from rfl, World.size_alloc, n1]
  rw [n1] at e2
  replace e1 := blk_drewN (blk_alloc e1 (.cells #[.slice none 0 0] 30)) q
  replace e2 := blk_drewN e2 q
  replace b1 := pw_below_drewN (below_alloc b1 (.cells #[.slice none 0 0] 30)) q
  generalize (W1.alloc (.cells #[.slice none 0 0] 30)).drewN q = W2 at e1 e2 n2 b1 ⊢
  have e3 := heap_alloc_last W2 (.cells (bools (List.replicate N false)) 4)
  have n3 : (W2.alloc (.cells (bools (List.replicate N false)) 4)).heap.size = w.heap.size + 1 + 1 + 1 := by rw [World.size_alloc, n2]
  rw [n2] at e3
  replace e1 := blk_alloc e1 (.cells (bools (List.replicate N false)) 4)
  replace e2 := blk_alloc e2 (.cells (bools (List.replicate N false)) 4)
  replace b1 := below_alloc b1 (.cells (bools (List.replicate N false)) 4)
  generalize W2.alloc (.cells (bools (List.replicate N false)) 4) = W3 at e1 e2 e3 n3 b1 ⊢
  generalize ho : Obj.cells #[.slice (some ⟨w.heap.size + 1 + 1, 0, none⟩) N N] 83 = o4
  have e4 := heap_alloc_last W3 o4
  have n4 : (W3.alloc o4).heap.size = w.heap.size + 1 + 1 + 1 + 1 := by rw [World.size_alloc, n3]
  rw [n3, ← ho] at e4
  replace e1 := blk_alloc e1 o4
  replace e2 := blk_alloc e2 o4
  replace e3 := blk_alloc e3 o4
  replace b1 := below_alloc b1 o4
  rw [ho] at e4
  generalize W3.alloc o4 = W4 at e1 e2 e3 e4 n4 b1 ⊢
  generalize ho5 : Obj.cells #[.func (.func 51) #[] #[.pointer (some ⟨w.heap.size + 1 + 1 + 1, 0, none⟩), .pointer (some ⟨w.heap.size + 1 + 1 + 1 + 1, 0, none⟩)]] 86 = o5
  have e5 := heap_alloc_last W4 o5
  rw [n4] at e5
  refine ⟨⟨blk_drewN ?_ q1, blk_drewN ?_ q1, blk_drewN (blk_alloc e3 o5) q1, blk_drewN (blk_alloc e2 o5) q1, Kd.R_nil _ _ _ _ _, by simp, pw_below_drewN (below_alloc b1 o5) q1, by omega, by omega⟩, blk_drewN (blk_alloc e1 o5) q1⟩
  · subst ho; exact blk_alloc e4 o5
  · rw [e5, ← ho5]
set_option maxHeartbeats 8000000 in
set_option maxRecDepth 100000 in
theorem Components_calls {w : World} {b : Nat} {X Y : List (List Int)} (hG : IsG w b X Y) (K : Nat) (m1 m2 : List Bool) (fl : List Int) (gs : List (List Int))
    (h1 : dfsL (dfs K X) (nums X.length) (List.replicate X.length false, []) = some (m1, fl)) (hm1 : m1.length = X.length) (hfl : fl.length ≤ 65536) (hfr : ∀ x, x ∈ fl → 0 ≤ x ∧ x < X.length)
    (HT : ∀ (m : List Bool) (n : Int), m.length = X.length → 0 ≤ n → n < X.length → m.getD n.toNat false = false → ∃ t, dfs K Y (m, []) n = some t ∧ 0 < t.2.length ∧ t.2.length ≤ 65536)
    (h2 : grps K Y fl.reverse (List.replicate X.length false, []) = some (m2, gs)) (hgs : gs ≠ []) (hgl : gs.length ≤ 4096) :
    Calls Try.prog 29 #[.pointer (some ⟨b, 0, none⟩)] w fun e w' => ∃ A n c gs', e = .returned (.slice A n c) ∧ n = gs'.length ∧ n ≤ c ∧ gs'.Perm gs ∧ gs'.Pairwise (fun x y => rd x 0 ≤ rd y 0) ∧ kL.C w' A gs'.length gs' ∧ Below w.heap.size w w' := by
  have HG := Aside0.mk hG
  have HB0 := Aside0.mk (Below.refl w.heap.size w)
  have H1 := Aside0.mk h1
  have H2 := Aside0.mk h2
  have HTT := Aside0.mk HT
  have HFF := Aside0.mk (And.intro hm1 (And.intro hfl (And.intro hfr (And.intro hgs hgl))))
  have few := hG.few
  obtain ⟨N, hN⟩ : ∃ N, N = X.length := ⟨_, rfl⟩
  have HN := Aside0.mk hN
  rw [← hN] at few H1 H2 HTT HFF
  have hmk := make83 N (by omega)
  clear hG h1 h2 HT hm1 hfl hfr hgs hgl hN
  refine (callsIn_wide (n := 9)).1 ?_
  refine callsIn_of_wp_marks Try.func29 rfl trivial ?_ rfl
  refine wpIn_wide.2 ?_
  refine Code.wp_mono onlyRet_imp ?_
  simp only [Try.ntmps29, List.size_toArray, List.length_cons, List.length_nil, Nat.reduceAdd, Nat.reduceSub, Array.replicate_succ, Array.replicate_zero, List.push_toArray, List.append_toArray, List.nil_append, List.cons_append]
  go_wp2_with (go_at_call 20; (with_reducible refine (Nodes_calls (X := X) (Y := Y) ?hz).mono ?_); (case hz => with_reducible repeat (first | exact HG.out | apply IsG.alloc | apply IsG.drewN)); rw [← HN.out]; rintro e w1 ⟨rfl, ⟨q1, rfl⟩⟩)
  have HS0 := Aside0.mk (fun q q1 => comp_start w b N q q1)
  obtain ⟨b5, hb5⟩ : ∃ z, z = w.heap.size + 1 + 1 + 1 + 1 := ⟨_, rfl⟩
  obtain ⟨b4, hb4⟩ : ∃ z, z = w.heap.size + 1 + 1 + 1 := ⟨_, rfl⟩
  obtain ⟨S, hS⟩ : ∃ z, z = w.heap.size + 1 + 1 := ⟨_, rfl⟩
  obtain ⟨bd, hbd⟩ : ∃ z, z = w.heap.size + 1 := ⟨_, rfl⟩
  have HGS := Aside0.mk (And.intro hb5 (And.intro hb4 (And.intro hS hbd)))
  rw [← hb5, ← hb4, ← hS, ← hbd] at HS0 ⊢
  clear hb5 hb4 hS hbd hmk
  obtain ⟨gg, hh, cx, cy, hb, hX, hY, hcx, hcy⟩ := HG.out.ex
  have HV1 := Aside0.mk (show ∀ (s : List Bool × List Int) (n : Int) (r : List Bool × List Int) (W : World) (v : Value), Ds w W b4 b5 S bd N v s → dfs K X s n = some r →
    Calls Try.prog 51 #[.int .i64 n, .slice gg N cx, .func (.func 52) #[] #[.pointer (some ⟨bd, 0, none⟩)], .pointer (some ⟨b4, 0, none⟩), .pointer (some ⟨b5, 0, none⟩)] W fun e W' => (∃ u, e = .returned u) ∧ ∃ v', Ds w W' b4 b5 S bd N v' r ∧ Chg W W' S bd v v' from by
    rw [HN.out]; exact visit51_52 hX HG.out.few HG.out.fewX K)
  have HZ := Aside0.mk (show ∀ W, Below w.heap.size w W → W.cell? ⟨b, 0, none⟩ = some (.slice gg N cx) from fun W hB => by rw [HN.out]; exact pw_cell_below hB ((blk_cell hb 0).trans rfl))
  have HZ1 := Aside0.mk (show ∀ W, Below w.heap.size w W → W.cell? ⟨b, 1, none⟩ = some (.slice hh N cy) from fun W hB => by rw [HN.out, ← HG.out.same]; exact pw_cell_below hB ((blk_cell hb 1).trans rfl))
  have HV2 := Aside0.mk (show ∀ (bd : Nat) (s : List Bool × List Int) (n : Int) (r : List Bool × List Int) (W : World) (v : Value), Ds w W b4 b5 S bd N v s → dfs K Y s n = some r →
    Calls Try.prog 51 #[.int .i64 n, .slice hh N cy, .func (.func 54) #[] #[.pointer (some ⟨bd, 0, none⟩)], .pointer (some ⟨b4, 0, none⟩), .pointer (some ⟨b5, 0, none⟩)] W fun e W' => (∃ u, e = .returned u) ∧ ∃ v', Ds w W' b4 b5 S bd N v' r ∧ Chg W W' S bd v v' from by
    intro bd
    rw [HN.out, ← HG.out.same]; exact visit51_54 hY (by rw [HG.out.same]; exact HG.out.few) HG.out.fewY K)
  clear hb hX hY hcx hcy
  go_loopg [6, 19] N (fun kq v6 v19 w' => ∃ (j : Nat), v19 = .int .i64 j ∧ j + kq = N ∧ Aside0 (∃ s v, dfsL (dfs K X) ((nums N).drop j) s = some (m1, fl) ∧ Ds w w' b4 b5 S bd N v s ∧ w'.heap[w.heap.size]? = some (.cells #[.pointer (some ⟨b, 0, none⟩)] 24 (0, 0))))
  case atStart => exact ⟨0, rfl, by omega, ⟨_, _, H1.out, (HS0.out _ _).1, (HS0.out _ _).2⟩⟩
  case round =>
    clear HS0 H1
    obtain ⟨j, rfl, hj, HD⟩ := hrel
    cases gk with
    | succ k1 =>
      obtain ⟨s, v, hd, hD, hb1⟩ := HD.out
      have hjN : j < N := by omega
      rw [List.drop_eq_getElem_cons (by rw [nums_len]; exact hjN), nums_at N j hjN, dfsL] at hd
      obtain ⟨s3, hs3, hd⟩ := Option.bind_eq_some_iff.mp hd
      have HD2 := Aside0.mk hd
      have HD3 := Aside0.mk hs3
      have HDs := Aside0.mk (show Ds w wr.drew b4 b5 S bd N v s from ⟨blk_drew hD.h4, blk_drew hD.h5, blk_drew hD.hS, blk_drew hD.hd, Kd.R_drew hD.hr, hD.len, below_drew1 hD.bel, hD.gS, hD.gd⟩)
      have Hb1 := Aside0.mk (blk_drew hb1)
      have z0 : wr.drew.cell? ⟨b5, 0, none⟩ = some (.func (.func 51) #[] #[.pointer (some ⟨b4, 0, none⟩), .pointer (some ⟨b5, 0, none⟩)]) := (blk_cell HDs.out.h5 0).trans rfl
      have z1 : wr.drew.cell? ⟨w.heap.size, 0, none⟩ = some (.pointer (some ⟨b, 0, none⟩)) := (blk_cell Hb1.out 0).trans rfl
      have z2 : wr.drew.cell? ⟨b, 0, none⟩ = some (.slice gg N cx) := HZ.out _ HDs.out.bel
      clear hd hD hb1 hs3 HD
      go_upto_region 10 with fail
      refine start_ (n := 8) (S := fun w' => w'.cell? ⟨b5, 0, none⟩ = some (.func (.func 51) #[] #[.pointer (some ⟨b4, 0, none⟩), .pointer (some ⟨b5, 0, none⟩)]) ∧ w'.cell? ⟨w.heap.size, 0, none⟩ = some (.pointer (some ⟨b, 0, none⟩)) ∧ w'.cell? ⟨b, 0, none⟩ = some (.slice gg N cx)) (ds := []) #[false, false, false, false, false, false, false, false] (by kernel_rfl) rfl rfl ⟨z0, z1, z2⟩ (fun hHeld => ?_)
      refine with_tabW CompR.tab10 CompR.bits10 (fun HT_ HW_ => ?_)
      generalize wr.drew = w5 at z0 z1 z2 HDs Hb1 hHeld ⊢
      refine pure_ (i := 1) (N := some 23) (v := ?_) (a' := ?_) #[false, true, false, false, false, false, false, false] rfl rfl (any_of HT_.out (by kernel_rfl)) (fun _ _ _ h => h) (Or.inl ⟨by rfl, ?_⟩) ?_ ?_
      rotate_left
      · intro w'
        go_simp
        with_reducible rfl
      rotate_left
      · simp only [Act.put, List.setIfInBounds_toArray, List.set_cons_zero, List.set_cons_succ, i64_w, i32_w]
        rfl
      refine pure_ (i := 6) (N := some 28) (v := ?_) (a' := ?_) #[false, true, false, false, false, false, true, false] rfl rfl (any_of HT_.out (by kernel_rfl)) (fun _ _ _ h => h) (Or.inl ⟨by rfl, ?_⟩) ?_ ?_
      rotate_left
      · intro w'
        go_simp
        with_reducible rfl
      rotate_left
      · simp only [Act.put, List.setIfInBounds_toArray, List.set_cons_zero, List.set_cons_succ, i64_w, i32_w]
        rfl
      refine take_ (i := 0) (N := some 22) (v := ?_) (a' := ?_) #[true, true, false, false, false, false, true, false] rfl rfl (take_ofW HT_.out HW_.out (by kernel_rfl)) (fun _ _ _ h => h) (Or.inl ⟨by rfl, ?_⟩) hHeld ?_ ?_
      rotate_left
      · rintro w' ⟨s0, s1, s2⟩
        go_simp
        with_reducible rfl
      rotate_left
      · simp only [Act.put, List.setIfInBounds_toArray, List.set_cons_zero, List.set_cons_succ, i64_w, i32_w]
        rfl
      refine take_ (i := 2) (N := some 24) (v := ?_) (a' := ?_) #[true, true, true, false, false, false, true, false] rfl rfl (take_ofW HT_.out HW_.out (by kernel_rfl)) (fun _ _ _ h => h) (Or.inl ⟨by rfl, ?_⟩) hHeld ?_ ?_
      rotate_left
      · rintro w' ⟨s0, s1, s2⟩
        go_simp
        with_reducible rfl
      rotate_left
      · simp only [Act.put, List.setIfInBounds_toArray, List.set_cons_zero, List.set_cons_succ, i64_w, i32_w]
        rfl
      refine pure_ (i := 3) (N := some 25) (v := ?_) (a' := ?_) #[true, true, true, true, false, false, true, false] rfl rfl (any_of HT_.out (by kernel_rfl)) (fun _ _ _ h => h) (Or.inl ⟨by rfl, ?_⟩) ?_ ?_
      rotate_left
      · intro w'
        go_simp
        with_reducible rfl
      rotate_left
      · simp only [Act.put, List.setIfInBounds_toArray, List.set_cons_zero, List.set_cons_succ, i64_w, i32_w]
        rfl
      refine pure_ (i := 4) (N := some 26) (v := ?_) (a' := ?_) #[true, true, true, true, true, false, true, false] rfl rfl (any_of HT_.out (by kernel_rfl)) (fun _ _ _ h => h) (Or.inl ⟨by rfl, ?_⟩) ?_ ?_
      rotate_left
      · intro w'
        go_simp
        with_reducible rfl
      rotate_left
      · simp only [Act.put, List.setIfInBounds_toArray, List.set_cons_zero, List.set_cons_succ, i64_w, i32_w]
        rfl
      refine take_ (i := 5) (N := some 27) (v := ?_) (a' := ?_) #[true, true, true, true, true, true, true, false] rfl rfl (take_ofW HT_.out HW_.out (by kernel_rfl)) (fun _ _ _ h => h) (Or.inl ⟨by rfl, ?_⟩) hHeld ?_ ?_
      rotate_left
      · rintro w' ⟨s0, s1, s2⟩
        go_simp
        with_reducible rfl
      rotate_left
      · simp only [Act.put, List.setIfInBounds_toArray, List.set_cons_zero, List.set_cons_succ, i64_w, i32_w]
        rfl
      refine one_ (i := 7) (N := some 29) #[true, true, true, true, true, true, true, true] rfl rfl (one_of HT_.out (by kernel_rfl)) (by decide) (fun K hK => ?_)
      refine goesV_ #[.pointer (some ⟨b4, 0, none⟩), .pointer (some ⟨b5, 0, none⟩)] Try.func51 (by kernel_rfl) rfl #[.int .i64 j, .slice gg N cx, .func (.func 52) #[] #[.pointer (some ⟨bd, 0, none⟩)], .pointer (some ⟨b4, 0, none⟩), .pointer (some ⟨b5, 0, none⟩)] (by rfl) rfl rfl (by rfl) (by simp only [List.map_toArray, List.map_cons, List.map_nil]; rfl) ?_
      with_reducible refine (HV1.out _ _ _ _ _ HDs.out HD3.out).mono ?_
      rintro e w6 ⟨⟨u, rfl⟩, v6, hd6, hc6⟩
      refine ⟨_, rfl, ?_⟩
      have Hb6 := Aside0.mk (HDs.out.blk hc6 Hb1.out (by decide) (by decide) (by decide))
      have HD6 := Aside0.mk hd6
      have y0 : w6.cell? ⟨b5, 0, none⟩ = some (.func (.func 51) #[] #[.pointer (some ⟨b4, 0, none⟩), .pointer (some ⟨b5, 0, none⟩)]) := (blk_cell hd6.h5 0).trans rfl
      have y1 : w6.cell? ⟨w.heap.size, 0, none⟩ = some (.pointer (some ⟨b, 0, none⟩)) := (blk_cell Hb6.out 0).trans rfl
      have y2 : w6.cell? ⟨b, 0, none⟩ = some (.slice gg N cx) := HZ.out _ hd6.bel
      clear hd6 hc6
      refine hK.out _ _ ⟨y0, y1, y2⟩ (fun hHeld => ?_)
      clear hK K
      refine norm_ (a' := ?_) ?_ ?_
      rotate_left
      · show Act.put _ (some 29) _ = _
        simp only [Act.put, List.setIfInBounds_toArray, List.set_cons_zero, List.set_cons_succ, i64_w, i32_w]
        rfl
      refine done_ (done_of HT_.out (by kernel_rfl)) ?_

      go_wp2_with fail
      go_roundg k1
      case measure => omega
      case rel => exact ⟨j + 1, by go_num, by omega, ⟨s3, v6, HD2.out, HD6.out, Hb6.out⟩⟩
    | zero =>
      have ej : j = N := by omega
      obtain ⟨s, v, hd, hD, hb1⟩ := HD.out
      rw [ej, List.drop_of_length_le (by rw [nums_len]; exact Nat.le_refl _), dfsL] at hd
      obtain rfl := Option.some.inj hd
      have hN0 : 0 < N := by
        rcases Nat.eq_zero_or_pos N with e | e
        · exfalso
          have h := HFF.out.2.2.1
          cases fl with
          | nil =>
            have h2 := H2.out
            simp [grps] at h2
            exact HFF.out.2.2.2.1 h2.2
          | cons x xs => have := h x (List.mem_cons_self ..); omega
        · exact e
      have s4 := (blk_cell hD.h4 0).trans rfl
      have hclr := fun ty => Lib.run_clear_slice (P := Try.prog) wr 83 4 ty (.bool false) Try.underlying83 (fun w => by kernel_rfl) rfl rfl S 0 N N hN0 (fun i hi => by rw [Nat.zero_add, bools_cell hD.hS i (by rw [hD.len]; exact hi)]; rfl) (fun i _ => blk_frozen hD.hS _)
      obtain ⟨Wc, hWc⟩ : ∃ Wc, Wc = wr.setCells S 0 (List.replicate N (.bool false)) := ⟨_, rfl⟩
      rw [← hWc] at hclr
      have hDz := hD.clear
      rw [← hWc] at hDz
      have hb1z : Wc.heap[w.heap.size]? = some (.cells #[.pointer (some ⟨b, 0, none⟩)] 24 (0, 0)) := by
        rw [hWc]; exact (setCells_other S _ 0 wr _ (fun e => blk_ne hb1 hD.hS (by decide) e)).trans hb1
      obtain ⟨A, c, ev⟩ := Kd.R_slice hDz.hr
      have sd : (Wc.alloc (.cells #[.slice none 0 0] 50)).cell? ⟨bd, 0, none⟩ = some (.slice A fl.length c) := ((blk_cell (blk_alloc hDz.hd _) 0).trans rfl).trans (congrArg some ev)
      have HDz := Aside0.mk hDz
      have Hb1 := Aside0.mk hb1z
      have Ev := Aside0.mk ev
      have hHK := fun W (l : Nat) (o o' : Obj) (h : Wc.heap.size + 1 + 1 ≤ l) => (show KpB (Wc.heap.size + 1) (.slice A fl.length c) W (W.putObj l o') from ⟨World.putObj_heap_other (by omega), fun k hk => World.putObj_heap_other (by
        rw [← ev] at hk
        obtain ⟨cells, hc⟩ := own_typed (Kd.own_of_R hDz.hr) k hk
        have := blk_lt hc
        omega)⟩)
      have HKB := Aside0.mk hHK
      rw [ej]
      clear hd hD hb1 HD ej hj HV1 hWc hDz hb1z ev hHK
      go_wp2_with (go_at_call 53; refine (back53 _ _ _ _).mono ?_; rintro e w5 ⟨rfl, hw5⟩; have HW5 := Aside0.mk hw5; clear hw5)
      have n5 : w5.heap.size = Wc.heap.size + 1 + 1 := by rw [HW5.out, World.size_alloc, World.size_alloc]
      have hbs : w5.heap[Wc.heap.size + 1]? = some (.cells #[.slice A fl.length c] 30 (0, 0)) := by
        have := heap_alloc_last (Wc.alloc (.cells #[.slice none 0 0] 50)) (.cells #[.slice A fl.length c] 30)
        rw [World.size_alloc] at this
        rw [HW5.out]; exact this
      have hB5 : Below Wc.heap.size Wc w5 := by rw [HW5.out]; exact below_alloc (below_alloc (Below.refl _ _) _) _
      have hfin : kI.R 3 w5 w.heap.size (fun _ => True) (.slice A fl.length c) fl := by rw [← Ev.out]; exact Kd.R_below HDz.out.hr hB5
      have hRs : Rs w w5 b w.heap.size b4 b5 S Wc.heap.size N (.slice none 0 0) (List.replicate N false) [] := by
        have h7 : w5.heap[Wc.heap.size]? = some (.cells #[.slice none 0 0] 50 (0, 0)) := by rw [HW5.out]; exact blk_alloc (heap_alloc_last Wc _) _
        exact ⟨blk_below Hb1.out hB5, blk_below HDz.out.h4 hB5, blk_below HDz.out.h5 hB5, blk_below HDz.out.hS hB5, h7, Kd.R_nil _ _ _ _ _, fun p hp => absurd hp (by simp), by simp, below_step HDz.out.bel hB5, HDz.out.gS, below_size HDz.out.bel⟩
      have HRs := Aside0.mk hRs
      have HIt := Aside0.mk (show Iter w5 Wc.heap.size (.slice A fl.length c) (.slice none 0 0) from ⟨hbs, fun k hk => by simp [Value.ownBlock] at hk, fun k hk => own_typed (Kd.own_of_R hfin) k hk⟩)
      refine (wpIn_wide (n := 9)).1 ?_
      refine wpIn_rangeFunc_ownG (F := Fence.wide) (n := 9) rfl (by omega) (gf := 67) (lb := #[.pointer (some ⟨Wc.heap.size + 1, 0, none⟩)]) rfl trivial (enters_of Try.func67 (by kernel_rfl) rfl)
        (back_stops 8 (Wc.heap.size + 1) w.heap.size (.slice A fl.length c) fl HFF.out.2.1 w5 hbs hfin N HFF.out.2.2.1) KpB.trans (fun W l o o' h _ _ _ => HKB.out W l o o' (by omega)) (Below.refl _ _) (fun _ => rfl)
        (fun pre W => ∃ (s : List Bool × List (List Int)) (ps : List (Value × List Int)) (v7 : Value), ps.length ≤ pre.length ∧ grps K Y (pre.map (fun x => x.1.2)) (List.replicate N false, []) = some s ∧ ps.map (fun p => p.2) = s.2 ∧ Rs w W b w.heap.size b4 b5 S Wc.heap.size N v7 s.1 ps ∧ Iter W Wc.heap.size (.slice A fl.length c) v7)
        (fun _ _ _ => False)
        (fun pre W W' row ⟨s, ps, v7, h1, h2, h3, h4, h5⟩ hg hr => ⟨s, ps, v7, h1, h2, h3, h4.abide hg (fun r e => ⟨by have := (hr r e).1; have := below_size HDz.out.bel; omega, (hr r e).2⟩), h5.abide hg (fun r e => (hr r e).2)⟩)
        (fun _ _ _ _ _ h _ _ => h) ⟨_, [], _, Nat.le_refl _, rfl, rfl, HRs.out, HIt.out⟩ ?a1 ?assign ?body ?done ?stop
      case assign =>
        intro l x W K hK
        gi_wp2
        exact hK
      case stop =>
        rintro D c pre W _ _ h
        exact h.elim
      case body =>
        rintro l pre x W ⟨s, ps, v7, hpl, hgr, hps, hR, hIt⟩ hlen
        have HI := Aside0.mk hIt
        clear hIt
        obtain ⟨nn, hx2⟩ := Int.eq_ofNat_of_zero_le x.2.1
        have hnN : nn < N := by have := x.2.2; rw [hx2] at this; omega
        rw [hx2]
        have Hx2 := Aside0.mk hx2
        clear hx2
        have c0 : (0 : Int) ≤ (nn : Int) := by omega
        have c1 : (nn : Int) < (N : Int) := by omega
        have s4 := (blk_cell hR.h4 0).trans rfl
        have sS := bools_cell hR.hS nn (by rw [hR.len]; exact hnN)
        have HR := Aside0.mk hR
        have HP := Aside0.mk (And.intro hpl (And.intro hgr (And.intro hps hlen)))
        cases hm : s.1.getD nn false with
        | true =>
          rw [hm] at sS
          have Hm := Aside0.mk hm
          clear hR hpl hgr hps hlen hm
          gi_wp2
          exact ⟨KeepsFrom.refl _ _, KpB.refl _ _ _, s, ps, v7, by have := HP.out.1; simp; omega, by rw [List.map_append, List.map_singleton, grps_snoc, HP.out.2.1]; simp only [Option.bind_some]; unfold grp1; rw [Hx2.out, Int.toNat_natCast, Hm.out, if_pos rfl], HP.out.2.2.1, HR.out, HI.out⟩
        | false =>
          rw [hm] at sS
          have Hm := Aside0.mk hm
          obtain ⟨tt, htt, htp, htl⟩ := HTT.out s.1 (nn : Int) hR.len c0 c1 (by rw [Int.toNat_natCast]; exact hm)
          have HTt := Aside0.mk (And.intro htt (And.intro htp htl))
          have hD1 : Ds w (W.alloc (.cells #[.slice none 0 0] 30)) b4 b5 S W.heap.size N (.slice none 0 0) (s.1, []) :=
            ⟨blk_alloc hR.h4 _, blk_alloc hR.h5 _, blk_alloc hR.hS _, heap_alloc_last W _, Kd.R_nil _ _ _ _ _, hR.len, below_alloc hR.bel _, hR.gS, below_size hR.bel⟩
          have hb11 := blk_alloc hR.h1 (.cells #[.slice none 0 0] 30)
          obtain ⟨W1, hW1⟩ : ∃ W1, W1 = W.alloc (.cells #[.slice none 0 0] 30) := ⟨_, rfl⟩
          have HW1 := Aside0.mk hW1
          rw [← hW1] at hD1 hb11
          have HD1 := Aside0.mk hD1
          have HB1 := Aside0.mk hb11
          clear hR hpl hgr hps hlen hm htt htp htl hD1 hb11
          have HD1d := Aside0.mk (show Ds w W1.drew b4 b5 S W.heap.size N (.slice none 0 0) (s.1, []) from ⟨blk_drew HD1.out.h4, blk_drew HD1.out.h5, blk_drew HD1.out.hS, blk_drew HD1.out.hd, Kd.R_drew HD1.out.hr, HD1.out.len, below_drew1 HD1.out.bel, HD1.out.gS, HD1.out.gd⟩)
          have HB1d := Aside0.mk (blk_drew HB1.out)
          have z0 : W1.drew.cell? ⟨b5, 0, none⟩ = some (.func (.func 51) #[] #[.pointer (some ⟨b4, 0, none⟩), .pointer (some ⟨b5, 0, none⟩)]) := (blk_cell HD1d.out.h5 0).trans rfl
          have z1 : W1.drew.cell? ⟨w.heap.size, 0, none⟩ = some (.pointer (some ⟨b, 0, none⟩)) := (blk_cell HB1d.out 0).trans rfl
          have z2 : W1.drew.cell? ⟨b, 1, none⟩ = some (.slice hh N cy) := HZ1.out _ HD1d.out.bel
          gi_wp2
          rw [← HW1.out]
          have HWd := Aside0.mk (show ∀ k, k < W.heap.size → W1.drew.heap[k]? = W.heap[k]? from fun k hk => by rw [HW1.out]; exact Below.heap_alloc W _ k hk)
          refine startR_ (by kernel_rfl) (fun ⟨_, _, h⟩ => h) (n := 8) (S := fun w' => w'.cell? ⟨b5, 0, none⟩ = some (.func (.func 51) #[] #[.pointer (some ⟨b4, 0, none⟩), .pointer (some ⟨b5, 0, none⟩)]) ∧ w'.cell? ⟨w.heap.size, 0, none⟩ = some (.pointer (some ⟨b, 0, none⟩)) ∧ w'.cell? ⟨b, 1, none⟩ = some (.slice hh N cy)) (ds := []) #[false, false, false, false, false, false, false, false] (by kernel_rfl) rfl rfl ⟨z0, z1, z2⟩ (fun hHeld => ?_)
          refine with_tabW CompR.tab18 CompR.bits18 (fun HT_ HW_ => ?_)
          generalize W1.drew = w5d at z0 z1 z2 HD1d HB1d HWd hHeld ⊢
          refine pure_ (i := 1) (N := some 41) (v := ?_) (a' := ?_) #[false, true, false, false, false, false, false, false] rfl rfl (any_of HT_.out (by kernel_rfl)) (fun _ _ _ h => h) (Or.inl ⟨by rfl, ?_⟩) ?_ ?_
          rotate_left
          · intro w'
            go_simp
            with_reducible rfl
          rotate_left
          · simp only [Act.put, List.setIfInBounds_toArray, List.set_cons_zero, List.set_cons_succ, i64_w, i32_w]
            rfl
          refine pure_ (i := 6) (N := some 46) (v := ?_) (a' := ?_) #[false, true, false, false, false, false, true, false] rfl rfl (any_of HT_.out (by kernel_rfl)) (fun _ _ _ h => h) (Or.inl ⟨by rfl, ?_⟩) ?_ ?_
          rotate_left
          · intro w'
            go_simp
            with_reducible rfl
          rotate_left
          · simp only [Act.put, List.setIfInBounds_toArray, List.set_cons_zero, List.set_cons_succ, i64_w, i32_w]
            rfl
          refine take_ (i := 0) (N := some 40) (v := ?_) (a' := ?_) #[true, true, false, false, false, false, true, false] rfl rfl (take_ofW HT_.out HW_.out (by kernel_rfl)) (fun _ _ _ h => h) (Or.inl ⟨by rfl, ?_⟩) hHeld ?_ ?_
          rotate_left
          · rintro w' ⟨s0, s1, s2⟩
            go_simp
            with_reducible rfl
          rotate_left
          · simp only [Act.put, List.setIfInBounds_toArray, List.set_cons_zero, List.set_cons_succ, i64_w, i32_w]
            rfl
          refine take_ (i := 2) (N := some 42) (v := ?_) (a' := ?_) #[true, true, true, false, false, false, true, false] rfl rfl (take_ofW HT_.out HW_.out (by kernel_rfl)) (fun _ _ _ h => h) (Or.inl ⟨by rfl, ?_⟩) hHeld ?_ ?_
          rotate_left
          · rintro w' ⟨s0, s1, s2⟩
            go_simp
            with_reducible rfl
          rotate_left
          · simp only [Act.put, List.setIfInBounds_toArray, List.set_cons_zero, List.set_cons_succ, i64_w, i32_w]
            rfl
          refine pure_ (i := 3) (N := some 43) (v := ?_) (a' := ?_) #[true, true, true, true, false, false, true, false] rfl rfl (any_of HT_.out (by kernel_rfl)) (fun _ _ _ h => h) (Or.inl ⟨by rfl, ?_⟩) ?_ ?_
          rotate_left
          · intro w'
            go_simp
            with_reducible rfl
          rotate_left
          · simp only [Act.put, List.setIfInBounds_toArray, List.set_cons_zero, List.set_cons_succ, i64_w, i32_w]
            rfl
          refine pure_ (i := 4) (N := some 44) (v := ?_) (a' := ?_) #[true, true, true, true, true, false, true, false] rfl rfl (any_of HT_.out (by kernel_rfl)) (fun _ _ _ h => h) (Or.inl ⟨by rfl, ?_⟩) ?_ ?_
          rotate_left
          · intro w'
            go_simp
            with_reducible rfl
          rotate_left
          · simp only [Act.put, List.setIfInBounds_toArray, List.set_cons_zero, List.set_cons_succ, i64_w, i32_w]
            rfl
          refine take_ (i := 5) (N := some 45) (v := ?_) (a' := ?_) #[true, true, true, true, true, true, true, false] rfl rfl (take_ofW HT_.out HW_.out (by kernel_rfl)) (fun _ _ _ h => h) (Or.inl ⟨by rfl, ?_⟩) hHeld ?_ ?_
          rotate_left
          · rintro w' ⟨s0, s1, s2⟩
            go_simp
            with_reducible rfl
          rotate_left
          · simp only [Act.put, List.setIfInBounds_toArray, List.set_cons_zero, List.set_cons_succ, i64_w, i32_w]
            rfl
          refine one_ (i := 7) (N := some 47) #[true, true, true, true, true, true, true, true] rfl rfl (one_of HT_.out (by kernel_rfl)) (by decide) (fun K hK => ?_)
          refine goesV_ #[.pointer (some ⟨b4, 0, none⟩), .pointer (some ⟨b5, 0, none⟩)] Try.func51 (by kernel_rfl) rfl #[.int .i64 nn, .slice hh N cy, .func (.func 54) #[] #[.pointer (some ⟨W.heap.size, 0, none⟩)], .pointer (some ⟨b4, 0, none⟩), .pointer (some ⟨b5, 0, none⟩)] (by rfl) rfl rfl (by rfl) (by simp only [List.map_toArray, List.map_cons, List.map_nil]; rfl) ?_
          with_reducible refine (HV2.out _ _ _ _ _ _ HD1d.out HTt.out.1).mono ?_
          rintro e w6 ⟨⟨u, rfl⟩, v6, hd6, hc6⟩
          refine ⟨_, rfl, ?_⟩
          have HB6 := Aside0.mk (HD1d.out.blk hc6 HB1d.out (by decide) (by decide) (by decide))
          have HD6 := Aside0.mk hd6
          have HC6 := Aside0.mk hc6
          have y0 : w6.cell? ⟨b5, 0, none⟩ = some (.func (.func 51) #[] #[.pointer (some ⟨b4, 0, none⟩), .pointer (some ⟨b5, 0, none⟩)]) := (blk_cell hd6.h5 0).trans rfl
          have y1 : w6.cell? ⟨w.heap.size, 0, none⟩ = some (.pointer (some ⟨b, 0, none⟩)) := (blk_cell HB6.out 0).trans rfl
          have y2 : w6.cell? ⟨b, 1, none⟩ = some (.slice hh N cy) := HZ1.out _ hd6.bel
          clear hd6 hc6
          refine hK.out _ _ ⟨y0, y1, y2⟩ (fun hHeld => ?_)
          clear hK K
          refine norm_ (a' := ?_) ?_ ?_
          rotate_left
          · show Act.put _ (some 47) _ = _
            simp only [Act.put, List.setIfInBounds_toArray, List.set_cons_zero, List.set_cons_succ, i64_w, i32_w]
            rfl
          refine done_ (done_of HT_.out (by kernel_rfl)) ?_

          have H6 := Aside0.mk (show ∀ k, k < W.heap.size → k ≠ S → w6.heap[k]? = W.heap[k]? from fun k hk hS => (HC6.out.same k (Nat.lt_of_lt_of_le hk (by have := blk_lt HD1d.out.hd; omega)) hS (by omega) (by simp [Value.ownBlock])).trans (HWd.out k hk))
          have H6s := Aside0.mk (show W.heap.size ≤ w6.heap.size from by have := HC6.out.size; have := blk_lt HD1d.out.hd; omega)
          have H6v := Aside0.mk (show ∀ k, v6.ownBlock = some k → W.heap.size ≤ k from fun k hk => by
            rcases HC6.out.own with e | ⟨b', e, hle⟩
            · rw [e] at hk; simp [Value.ownBlock] at hk
            · rw [e] at hk; injection hk with hk; have := blk_lt HD1d.out.hd; omega)
          obtain ⟨A6, c6, e6⟩ := Kd.R_slice HD6.out.hr
          subst e6
          have t0 : w6.cell? ⟨W.heap.size, 0, none⟩ = some (.slice A6 tt.2.length c6) := (blk_cell HD6.out.hd 0).trans rfl
          clear z0 z1 z2 y0 y1 y2 hHeld HC6 HD1d HB1d HWd HB1 HD1 HT_ HW_
          gi_step
          gi_step
          gi_step
          refine region_roundL (by kernel_rfl) (fun ⟨_, _, h⟩ => h) ?_
          go_wp2_with (go_at_call 55; refine (sort_row HD6.out.hr HTt.out.2.2).mono ?_; rintro e w7 ⟨⟨u7, rfl⟩, hr7, hg7⟩; have HR7 := Aside0.mk hr7; have HG7 := Aside0.mk hg7; clear hr7 hg7)
          have H7 := Aside0.mk (show ∀ k, k < W.heap.size → k ≠ S → w7.heap[k]? = W.heap[k]? from fun k hk hS => (HG7.out.block k (Nat.lt_of_lt_of_le hk H6s.out) (fun e => by have := H6v.out k e.symm; omega)).trans (H6.out k hk hS))
          have hB7 : Below w.heap.size w w7 := HD6.out.bel.grown HG7.out HD6.out.bel.size (fun k hk => own_base (Kd.own_of_R HD6.out.hr) k hk)
          have R7 := Aside0.mk (HR.out.keep H7.out (blk_grown HD6.out.hS HG7.out (Kd.R_ne HD6.out.hr HD6.out.hS (by decide))) HD6.out.len hB7)
          have ht7 := blk_grown HD6.out.hd HG7.out (Kd.R_ne HD6.out.hr HD6.out.hd (by decide))
          obtain ⟨A7, c7, e7⟩ := Kd.R_slice R7.out.hr
          obtain ⟨V, hV⟩ : ∃ V, V = ps.map Prod.fst := ⟨_, rfl⟩
          have HVl := Aside0.mk (show V.length = ps.length by rw [hV, List.length_map])
          have HVe := Aside0.mk hV
          rw [← hV] at e7
          subst e7
          have s7 : w7.cell? ⟨Wc.heap.size, 0, none⟩ = some (.slice A7 V.length c7) := (blk_cell R7.out.h7 0).trans rfl
          have s10 : w7.cell? ⟨W.heap.size, 0, none⟩ = some (.slice A6 tt.2.length c6) := (blk_cell ht7 0).trans rfl
          have H7s := Aside0.mk (show W.heap.size ≤ w7.heap.size from Nat.le_trans H6s.out HG7.out.size)
          have HR10 := Aside0.mk (show kV.R 30 w7 w.heap.size (fun _ => True) (.slice A7 V.length c7) V by have := R7.out.hr; rwa [← hV] at this)
          have hpl2 := HP.out.1
          have hlen2 := HP.out.2.2.2
          have hfl2 := HFF.out.2.1
          have hvl := Nat.le_of_eq HVl.out
          clear hB7 ht7 hV
          refine region_roundL (by kernel_rfl) (fun ⟨_, _, h⟩ => h) ?_
          go_wp2_with ((with_reducible refine gate_builtin (b := .append) (xs := #[.tmp 50, .tmp 52]) rfl ?_); at_builtin; refine Kd.R_append kV (w0 := w) w.heap.size rfl (.tmp 50) (.tmp 52) 50 30 (.slice none 0 0) 24 rfl Try.underlying50 info30 rfl (by decide) (by decide) (.slice A7 V.length c7) V (.slice A6 tt.2.length c6) [.slice A6 tt.2.length c6] (fun _ => True) (fun _ => False) rfl ?ax rfl (fun _ h => h.elim) (fun _ _ => trivial) HR10.out R7.out.bel (below_size R7.out.bel) (by omega) ?_; (case ax => first | (go_simp; done) | (go_simp; rfl) | simp); intro v8 w8 ho hbb hg hatt; obtain ⟨A8, c8, e8⟩ := Kd.R_slice ho; subst e8; have HR8 := Aside0.mk ho; have HB8 := Aside0.mk hbb; have HG8 := Aside0.mk (And.intro hg hatt); have hd8 := blk_grown R7.out.h7 hg (by have := Kd.R_ne HR10.out R7.out.h7 (by decide); exact this); have q0 := (blk_cell hd8 0).trans (show _ = some _ from rfl); have f0 := blk_frozen hd8 0; have Hd8 := Aside0.mk hd8; clear hd8 ho hbb hg hatt)
          have e : (V ++ [(.slice A6 tt.2.length c6 : Value)]).length = V.length + 1 := by simp
          rw [← e]
          have H9 : ∀ k, k < W.heap.size → k ≠ S → k ≠ Wc.heap.size → some k ≠ (Value.slice A7 V.length c7).ownBlock → (w8.setCell ⟨Wc.heap.size, 0, none⟩ (.slice A8 (V ++ [(.slice A6 tt.2.length c6 : Value)]).length c8)).heap[k]? = W.heap[k]? := fun k hk hS h7 ho =>
            (Below.heap_setCell w8 ⟨Wc.heap.size, 0, none⟩ _ k h7).trans ((HG8.out.1.block k (Nat.lt_of_lt_of_le hk H7s.out) ho).trans (H7.out k hk hS))
          have hr0 := HR.out.hr
          have hK1 : ∀ k, (Value.slice A fl.length c).ownBlock = some k → (w8.setCell ⟨Wc.heap.size, 0, none⟩ (.slice A8 (V ++ [(.slice A6 tt.2.length c6 : Value)]).length c8)).heap[k]? = W.heap[k]? := fun k hk => by
            obtain ⟨cs, hc⟩ := HI.out.fin k hk
            exact H9 k (blk_lt hc) (fun e => blk_ne hc HR.out.hS (by decide) e) (fun e => blk_ne hc HR.out.h7 (by decide) e) (Kd.R_ne hr0 hc (by decide))
          have hK2 : (w8.setCell ⟨Wc.heap.size, 0, none⟩ (.slice A8 (V ++ [(.slice A6 tt.2.length c6 : Value)]).length c8)).heap[Wc.heap.size + 1]? = W.heap[Wc.heap.size + 1]? :=
            H9 _ (blk_lt HI.out.bs) (fun e => blk_ne HI.out.bs HR.out.hS (by decide) e) (by omega) (fun e => absurd (HI.out.o7 _ e.symm) (Nat.lt_irrefl _))
          refine ⟨⟨?_, fun k o _ hko hoc => (H9 k (Array.getElem?_eq_some_iff.1 hko).1 ?_ ?_ ?_).trans hko⟩, ⟨hK2, hK1⟩, (tt.1, s.2 ++ [srt tt.2]), ps ++ [(.slice A6 tt.2.length c6, srt tt.2)], .slice A8 (V ++ [(.slice A6 tt.2.length c6 : Value)]).length c8, ?_, ?_, ?_, ?_, ?_⟩
          · have h1 := HG8.out.1.size
            have h2 := H7s.out
            simp only [World.setCell, Array.size_modify]
            omega
          · rintro rfl
            have h := HR.out.hS
            rw [hko] at h; cases h; cases hoc
          · rintro rfl
            have h := HR.out.h7
            rw [hko] at h; cases h; cases hoc
          · intro e
            obtain ⟨cs, hc⟩ := own_typed (Kd.own_of_R hr0) k e.symm
            rw [hko] at hc; cases hc; cases hoc
          · have := HP.out.1
            simp
            omega
          · rw [List.map_append, List.map_singleton, grps_snoc, HP.out.2.1]
            simp only [Option.bind_some]
            unfold grp1
            rw [Hx2.out, Int.toNat_natCast, Hm.out, if_neg (by decide), HTt.out.1]
            rfl
          · rw [List.map_append, HP.out.2.2.1]
            rfl
          · exact R7.out.push HR7.out (by rw [show (srt tt.2).length = tt.2.length from List.length_mergeSort _]; exact HTt.out.2.1) (by rw [← HVe.out]; exact HR8.out) HG8.out.1 HB8.out
          · refine ⟨hK2.trans HI.out.bs, fun k hk => ?_, fun k hk => by obtain ⟨cs, hc⟩ := HI.out.fin k hk; exact ⟨cs, (hK1 k hk).trans hc⟩⟩
            rcases HG8.out.2 with e | ⟨b', e, hle⟩
            · exact HI.out.o7 k (by rw [← e]; exact hk)
            · have h1 := blk_lt HI.out.bs
              have h2 := H7s.out
              have h3 : (Value.slice A8 (V ++ [(.slice A6 tt.2.length c6 : Value)]).length c8).ownBlock = some k := hk
              rw [e] at h3
              injection h3 with h3
              omega
      case done =>
        rintro D xs Wd hDs hxs ⟨s, ps, v7, hpl, hgr, hps, hR, hIt⟩ hDd
        rw [hxs, H2.out] at hgr
        obtain rfl := Option.some.inj hgr
        have hps2 : ps.map (fun p => p.2) = gs := hps
        have hpos : 0 < ps.length := by
          rcases Nat.eq_zero_or_pos ps.length with e | e
          · obtain rfl := List.eq_nil_of_length_eq_zero e
            exact absurd hps2.symm HFF.out.2.2.2.1
          · exact e
        have hpl4 : ps.length ≤ 4096 := by have := HFF.out.2.2.2.2; rw [← hps2, List.length_map] at this; exact this
        obtain ⟨g, cap, cur, e7, hbg, hgc, hcap, htk⟩ := out_row hR.hr (fun v hv => by
          obtain ⟨p, hp, rfl⟩ := List.mem_map.1 hv
          obtain ⟨A, c, e⟩ := Kd.R_slice (hR.hg p hp).1
          rw [e]; rfl) (by rw [List.length_map]; exact hpos)
        rw [List.length_map] at e7 hcap htk
        subst e7
        have s7 := (blk_cell hR.h7 0).trans (show _ = some (.slice (some ⟨g, 0, none⟩) ps.length cap) from rfl)
        have HSo := Aside0.mk (sort56 hgc htk hR.hg hpos hpl4 (cap := cap))
        have HH7 := Aside0.mk hR.h7
        have HGc := Aside0.mk hgc
        have HBw := Aside0.mk hR.bel
        have HFin := Aside0.mk (And.intro hps2 (And.intro hbg (And.intro hcap (And.intro hpos (And.intro hDs hDd)))))
        clear hDs hxs hpl hgr hps hR hIt hDd hps2 hpos hpl4 hbg hgc hcap htk hbs hB5 hfin hRs
        go_wp2_with (go_at_call 56; refine HSo.out.mono ?_; rintro e w7 ⟨rfl, gs', hp1, hp2, hC, hg⟩; have HC := Aside0.mk (And.intro hp1 (And.intro hp2 hC)); have HG7 := Aside0.mk hg; have h77 := blk_grown HH7.out hg (fun e => by injection e with e; exact blk_ne HH7.out HGc.out (by decide) e); have s77 := (blk_cell h77 0).trans (show _ = some (.slice (some ⟨g, 0, none⟩) ps.length cap) from rfl); clear hp1 hp2 hC hg h77)
        obtain ⟨hps2, hbg, hcap, hpos, hDs, hDd⟩ := HFin.out
        have hDlt : D < Wd.heap.size := (Array.getElem?_eq_some_iff.1 hDd).1
        have hK : w7.heap[D]? = some (.deferred (some [])) := (HG7.out.block D hDlt (fun e => by
          injection e with e
          subst e
          have h := HGc.out
          rw [hDd] at h; cases h)).trans hDd
        refine ⟨by simp, .inl ⟨_, _, rfl, run_takeDeferred hK, ?_⟩⟩
        have hl : ps.length = gs'.length := by rw [HC.out.1.length_eq, List.length_map]
        refine ⟨_, results_tmp rfl _ _ _, _, _, _, gs', rfl, hl, hcap, by rw [← hps2]; exact HC.out.1, HC.out.2.1, kL_stay HC.out.2.2 (fun a v ha => ?_), ?_⟩
        · have hne : a.block ≠ D := fun e => by
            unfold World.cell? at ha
            rw [e, hK] at ha
            cases ha
          have := World.putObj_heap_other (w := w7) (o := .deferred none) hne
          unfold World.cell? at ha ⊢
          rw [this]
          exact ha
        · have h7 := HBw.out.grown HG7.out HBw.out.size (fun k hk => by injection hk with hk; omega)
          exact h7.grown (grownBy_putObj' w7 D (.deferred none)) h7.size (fun k hk => by injection hk with hk; have := below_size HDz.out.bel; omega)
end Go.Proofs.Ythkgfmjgilkdeaa
