/- The reference's Reads and Writes, walked by hand: an array of eight marks. -/
import Derived.Laws.IdiomArrays
import Derived.Deep.WholeRow
import Derived.Deep.Heap
import Derived.Test.YtdnhekgdpolenaaQx13
import Derived.Test.YtdnhekgdpolenaaQx10
import Derived.Test.YtdnhekgdpolenaaQx12
namespace Go.Proofs.Ytdnhekgdpolenaa
set_option linter.unusedVariables false
set_option linter.unusedSimpArgs false
open Go.RowKit Go.Proofs.Ytdnhekgdpolenaa.Q Go.Proofs.YtdnhekgdpolenaaW.PrintWords Go.Proofs.YtdnhekgdpolenaaW.PrintLast Go.Proofs.YtdnhekgdpolenaaW.PrintMore
/-- The numbers below n that are marked. -/
def marked (β : Nat → Bool) (n : Nat) : List Int := ((List.range n).filter β).map fun j : Nat => (j : Int)
theorem marked_succ (β : Nat → Bool) (n : Nat) : marked β (n + 1) = if β n then marked β n ++ [(n : Int)] else marked β n := by
  unfold marked
  rw [List.range_succ, List.filter_append]
  by_cases h : β n = true
  · simp [h]
  · simp [h]
theorem marked_len (β : Nat → Bool) (n : Nat) : (marked β n).length ≤ n := by
  unfold marked
  rw [List.length_map]
  have := List.length_filter_le β (List.range n)
  simpa using this
def marks (β : Nat → Bool) : Array Value := #[.bool (β 0), .bool (β 1), .bool (β 2), .bool (β 3), .bool (β 4), .bool (β 5), .bool (β 6), .bool (β 7)]
theorem marks_at (β : Nat → Bool) (i : Nat) (h : i < 8) : (marks β)[i]? = some (.bool (β i)) := by
  match i, h with
  | 0, _ => rfl
  | 1, _ => rfl
  | 2, _ => rfl
  | 3, _ => rfl
  | 4, _ => rfl
  | 5, _ => rfl
  | 6, _ => rfl
  | 7, _ => rfl
set_option maxRecDepth 100000 in
theorem run_index8 (b i : Nat) (h : i < 8) (W : World) : (Instr.indexAt 102 (.pointer (some ⟨b, 0, none⟩)) (.int .i64 (i : Int))).run Try.prog W = .ok (.pointer (some ⟨b, i, none⟩)) W := by
  rw [run_indexAt_array (P := Try.prog) (w := W) (t := 102) (a := ⟨b, 0, none⟩) (k := .i64) (i := (i : Int)) (h := Try.underlying102), if_pos ⟨by omega, by rw [show Try.prog.arrayLen 102 = 8 by kernel_rfl]; omega⟩, show Try.prog.elem 102 = 4 by kernel_rfl, Try.sizeOf4]
  simp only [Result.andThen, Int.toNat_natCast, Nat.mul_one]
  unfold Addr.add
  by_cases h0 : i = 0
  · rw [if_pos h0, h0]
  · rw [if_neg h0, Nat.zero_add]
theorem reads1 {W : World} {g : Nat} {x : Int} {t : TypeId} (h : W.heap[g]? = some (.cells #[.int .i64 x] t (0, 0))) : (Kd.int .i64).C W (some ⟨g, 0, none⟩) 1 [x] := by
  refine Kd.C_of_reads (d := 0) ⟨rfl, by decide, fun _ => ⟨_, rfl, fun j hj => ?_⟩⟩
  obtain rfl : j = 0 := by omega
  exact blk_cell h 0
set_option maxHeartbeats 2000000 in
set_option maxRecDepth 100000 in
theorem refregs_calls (β : Nat → Bool) (w : World) :
    Calls Try.prog 63 #[.agg (marks β)] w fun e w' => ∃ v0_ : Value, e = .returned v0_ ∧ Kd.R (Kd.int .i64) 3 w' w.heap.size (fun _ => True) v0_ (marked β 8) ∧ Below w.heap.size w w' := by
  have hu102 := Try.underlying102
  have HB0 := Aside0.mk (below_alloc (Below.refl w.heap.size w) (.cells (marks β) 102))
  have HK0 := Aside0.mk (heap_alloc_last w (.cells (marks β) 102))
  have hat := marks_at β
  obtain ⟨M, hM⟩ : ∃ M, M = marks β := ⟨_, rfl⟩
  rw [← hM] at HB0 HK0 hat ⊢
  have hsz : M.size = 8 := by rw [hM]; rfl
  clear hM
  have hix := run_index8 w.heap.size
  go_enter Try.func63, Try.ntmps63
  go_wp2
  go_loopg [3, 4] 8 (fun kq v3 v4 w' => ∃ (i : Nat), v4 = .int .i64 i ∧ i + kq = 8 ∧ Aside0 (Kd.R (Kd.int .i64) 3 w' w.heap.size (fun _ => True) v3 (marked β i)) ∧ Aside0 (w'.heap[w.heap.size]? = some (.cells M 102 (0, 0))) ∧ Aside0 (Below w.heap.size w w'))
  case atStart => exact ⟨0, rfl, rfl, ⟨Kd.R_nil _ _ _ _ _⟩, HK0, HB0⟩
  case round =>
    clear HB0 HK0
    obtain ⟨i, rfl, hi, HO, BK, HB⟩ := hrel
    cases gk with
    | zero =>
      obtain rfl : i = 8 := by omega
      go_wp2_with fail
      go_ret
      exact ⟨_, rfl, HO.out, HB.out⟩
    | succ k1 =>
      have hx := hix i (by omega)
      have hc := (blk_cell BK.out i).trans (hat i (by omega))
      have c8 : ((i : Int) < 8) = True := eq_true (by omega)
      have hlen := Aside0.mk (marked_len β i)
      obtain ⟨y, hy⟩ : ∃ y, y = marked β (i + 1) := ⟨_, rfl⟩
      have Ny := Aside0.mk hy
      clear hy hix hat
      cases hb : β i with
      | true =>
        rw [hb] at hc
        have Hb := Aside0.mk hb
        clear hb
        go_wp2_with ((with_reducible refine gate_builtin (b := .append) (xs := #[.tmp 12, .tmp 14]) rfl ?_); at_builtin; refine Kd.R_append_row (.int .i64) (0 : Int) (h1 := fun _ => rfl) (w0 := w) w.heap.size rfl (.tmp 12) (.tmp 14) 79 3 (.int .i64 0) 8 rfl Try.underlying79 info3 rfl (by decide) u3 (marked β i) [(i : Int)] _ 1 1 (fun _ => True) rfl rfl ?aF ?aO ?aR ?aB ?aS ?aL ?_; (case aR => exact reads1 (heap_alloc_last _ _)); (case aF => exact (fun _ _ => trivial)); (case aO => exact Kd.R_alloc HO.out _); (case aB => exact (by repeat (first | (with_reducible first | exact HB.out | apply below_alloc) | exact HB.out))); (case aS => exact (below_size (by repeat (first | (with_reducible first | exact HB.out | apply below_alloc) | exact HB.out)))); (case aL => have := hlen.out; omega); intro v1 w7 ho hbb hg hatt; have n0_ := Aside0.mk (show Kd.R (Kd.int .i64) 3 w7 w.heap.size (fun _ => True) v1 (marked β i ++ [(i : Int)]) from ho); have n1_ := Aside0.mk hbb; have n2_ := Aside0.mk (blk_grown (g := w.heap.size) (o := .cells M 102 (0, 0)) (blk_alloc BK.out _) hg (Kd.R_ne HO.out BK.out (by decide))); clear HO HB BK ho hbb hg hatt; have HO := n0_; have HB := n1_; have BK := n2_; clear n0_ n1_ n2_)
        go_roundg k1
        case measure => omega
        case rel => exact ⟨i + 1, by go_num, by omega, ⟨by rw [marked_succ, Hb.out]; exact HO.out⟩, BK, HB⟩
      | false =>
        rw [hb] at hc
        have Hb := Aside0.mk hb
        clear hb
        go_wp2_with fail
        go_roundg k1
        case measure => omega
        case rel => exact ⟨i + 1, by go_num, by omega, ⟨by rw [marked_succ, Hb.out]; exact HO.out⟩, BK, HB⟩
theorem marks_set (β : Nat → Bool) (i : Nat) (h : i < 8) : (marks β).setIfInBounds i (.bool true) = marks (fun j => β j || j == i) := by
  match i, h with
  | 0, _ => simp [marks]
  | 1, _ => simp [marks]
  | 2, _ => simp [marks]
  | 3, _ => simp [marks]
  | 4, _ => simp [marks]
  | 5, _ => simp [marks]
  | 6, _ => simp [marks]
  | 7, _ => simp [marks]
theorem put_mark {W : World} {g : Nat} {β : Nat → Bool} (h : W.heap[g]? = some (.cells (marks β) 102 (0, 0))) (i : Nat) (hi : i < 8) : (W.setCell ⟨g, i, none⟩ (.bool true)).heap[g]? = some (.cells (marks (fun j => β j || j == i)) 102 (0, 0)) :=
  blk_put h i _ (marks_set β i hi)
theorem cells8 {W : World} {g : Nat} {β : Nat → Bool} (h : W.heap[g]? = some (.cells (marks β) 102 (0, 0))) : W.cell? ⟨g, 0, none⟩ = some (.bool (β 0)) ∧ W.cell? ⟨g, 1, none⟩ = some (.bool (β 1)) ∧ W.cell? ⟨g, 2, none⟩ = some (.bool (β 2)) ∧ W.cell? ⟨g, 3, none⟩ = some (.bool (β 3)) ∧ W.cell? ⟨g, 4, none⟩ = some (.bool (β 4)) ∧ W.cell? ⟨g, 5, none⟩ = some (.bool (β 5)) ∧ W.cell? ⟨g, 6, none⟩ = some (.bool (β 6)) ∧ W.cell? ⟨g, 7, none⟩ = some (.bool (β 7)) :=
  ⟨blk_cell h 0, blk_cell h 1, blk_cell h 2, blk_cell h 3, blk_cell h 4, blk_cell h 5, blk_cell h 6, blk_cell h 7⟩
/-- Does the operation read its register a? -/
def rdop (op : Int) : Bool := op == 3 || op == 18 || op == 20 || op == 22 || op == 23 || op == 25
theorem rdop_cases {a0 : Int} (h : rdop a0 = true) : (a0 == 3) = true ∨ ((a0 == 3) = false ∧ (a0 == 18) = true) ∨ ((a0 == 3) = false ∧ (a0 == 18) = false ∧ (a0 == 20) = true) ∨ ((a0 == 3) = false ∧ (a0 == 18) = false ∧ (a0 == 20) = false ∧ (a0 == 22) = true) ∨ ((a0 == 3) = false ∧ (a0 == 18) = false ∧ (a0 == 20) = false ∧ (a0 == 22) = false ∧ (a0 == 23) = true) ∨ ((a0 == 3) = false ∧ (a0 == 18) = false ∧ (a0 == 20) = false ∧ (a0 == 22) = false ∧ (a0 == 23) = false ∧ (a0 == 25) = true) := by
  unfold rdop at h
  cases h1 : (a0 == 3) <;> cases h2 : (a0 == 18) <;> cases h3 : (a0 == 20) <;> cases h4 : (a0 == 22) <;> cases h5 : (a0 == 23) <;> simp_all
def rdMarks (r hb hc : Bool) (a b c : Nat) : Nat → Bool := fun j => (((false || (r && j == a)) || (hb && j == b)) || (hc && j == c))
def replevinref16_Reads.f (a0 a1 a2 a3 : Int) : Option (List Int) :=
  (replevinref16_Form.f 3 a0).bind fun t => (replevinref16_Check.f 3 a0 a1 a2 a3).bind fun e =>
    if e = 0 then (replevinref16_hasB.f t.1).bind fun hb => (if (0 ≤ a1 ∧ a1 < 8) ∧ (0 ≤ a2 ∧ a2 < 8) ∧ (t.1 = 3 → 0 ≤ a3 ∧ a3 < 8) then some (marked (rdMarks (rdop a0) hb (t.1 == 3) a1.toNat a2.toNat a3.toNat) 8) else none) else some []
set_option maxHeartbeats 4000000 in
set_option maxRecDepth 100000 in
theorem replevinref16_Reads.calls (a0 a1 a2 a3 : Int) (r : List Int) (w : World) (h : replevinref16_Reads.f a0 a1 a2 a3 = some r) :
    Calls Try.prog 43 #[.agg #[.int .i64 a0, .int .i64 a1, .int .i64 a2, .int .i64 a3]] w fun e w' => ∃ v0_ : Value, e = .returned v0_ ∧ Kd.R (Kd.int .i64) 3 w' w.heap.size (fun _ => True) v0_ r ∧ Below w.heap.size w w' := by
  unfold replevinref16_Reads.f at h
  obtain ⟨⟨t1, t2⟩, hF, h⟩ := Option.bind_eq_some_iff.mp h
  obtain ⟨e0, hE, h⟩ := Option.bind_eq_some_iff.mp h
  have hu23 := Try.underlying23
  have hu102 := Try.underlying102
  have AF := Aside0.mk hF
  have AE := Aside0.mk hE
  clear hF hE
  have HB0 := Aside0.mk (Below.refl w.heap.size w)
  by_cases h0 : e0 = 0
  · rw [if_pos h0] at h
    obtain ⟨hb, hH, h⟩ := Option.bind_eq_some_iff.mp h
    by_cases hr : (0 ≤ a1 ∧ a1 < 8) ∧ (0 ≤ a2 ∧ a2 < 8) ∧ (t1 = 3 → 0 ≤ a3 ∧ a3 < 8)
    case neg => rw [if_neg hr] at h; cases h
    rw [if_pos hr] at h
    obtain rfl := Option.some.inj h
    have AH := Aside0.mk hH
    clear hH
    obtain ⟨n1, rfl⟩ := Int.eq_ofNat_of_zero_le hr.1.1
    obtain ⟨n2, rfl⟩ := Int.eq_ofNat_of_zero_le hr.2.1.1
    have h1 : n1 < 8 := by omega
    have h2 : n2 < 8 := by omega
    have hx := run_index8 (w.heap.size + 1)
    have hx1 := hx n1 h1
    have hx2 := hx n2 h2
    subst h0
    simp only [Int.toNat_natCast]
    have BK0 := Aside0.mk (show ((w.alloc (.cells #[.int .i64 a0, .int .i64 n1, .int .i64 n2, .int .i64 a3] 23)).alloc (.cells (marks fun _ => false) 102)).heap[w.heap.size + 1]? = some (.cells (marks fun _ => false) 102 (0, 0)) by
      have := heap_alloc_last (w.alloc (.cells #[.int .i64 a0, .int .i64 n1, .int .i64 n2, .int .i64 a3] 23)) (.cells (marks fun _ => false) 102)
      rwa [World.size_alloc] at this)
    have B230 := Aside0.mk (show ((w.alloc (.cells #[.int .i64 a0, .int .i64 n1, .int .i64 n2, .int .i64 a3] 23)).alloc (.cells (marks fun _ => false) 102)).heap[w.heap.size]? = some (.cells #[.int .i64 a0, .int .i64 n1, .int .i64 n2, .int .i64 a3] 23 (0, 0)) from blk_alloc (heap_alloc_last w _) _)
    --GEN
    have hx := Aside0.mk hx
    clear h
    by_cases ho : rdop a0 = true
    · have ho' : (a0 == 3) = true ∨ ((a0 == 3) = false ∧ (a0 == 18) = true) ∨ ((a0 == 3) = false ∧ (a0 == 18) = false ∧ (a0 == 20) = true) ∨ ((a0 == 3) = false ∧ (a0 == 18) = false ∧ (a0 == 20) = false ∧ (a0 == 22) = true) ∨ ((a0 == 3) = false ∧ (a0 == 18) = false ∧ (a0 == 20) = false ∧ (a0 == 22) = false ∧ (a0 == 23) = true) ∨ ((a0 == 3) = false ∧ (a0 == 18) = false ∧ (a0 == 20) = false ∧ (a0 == 22) = false ∧ (a0 == 23) = false ∧ (a0 == 25) = true) := rdop_cases ho
      have ho := Aside0.mk ho
      rcases ho' with o1 | ⟨o1, o2⟩ | ⟨o1, o2, o3⟩ | ⟨o1, o2, o3, o4⟩ | ⟨o1, o2, o3, o4, o5⟩ | ⟨o1, o2, o3, o4, o5, o6⟩
      all_goals
        cases hb with
        | false =>
          have t3 : (t1 == 3) = false := by
            cases ht : t1 == 3 with
            | false => rfl
            | true =>
              obtain rfl := beq_iff_eq.mp ht
              have := AH.out
              simp [replevinref16_hasB.f] at this
          have t3 := Aside0.mk t3
          go_enter Try.func43, Try.ntmps43
          go_wp2_with (first | (go_at_call 31; refine (replevinref16_Form.calls 3 _ t1 t2 _ AF.out).mono ?_; rintro e w' ⟨rfl, ⟨nd, rfl⟩⟩) | (go_at_call 16; refine (replevinref16_Check.calls 3 _ _ _ _ 0 _ AE.out).mono ?_; rintro e w6 ⟨rfl, hb6⟩; have BK := Aside0.mk (blk_below (g := w.heap.size + 1) (o := .cells (marks fun _ => false) 102 (0, 0)) (by first | exact BK0.out | exact blk_drewN BK0.out _) hb6); have HB := Aside0.mk (below_step (by repeat (first | exact HB0.out | apply below_alloc | apply pw_below_drewN | apply below_drew1)) hb6); have B23 := blk_below (g := w.heap.size) (o := .cells #[.int .i64 a0, .int .i64 n1, .int .i64 n2, .int .i64 a3] 23 (0, 0)) (by first | exact B230.out | exact blk_drewN B230.out _) hb6; have z0 : w6.cell? ⟨w.heap.size, 0, none⟩ = some (.int .i64 a0) := (blk_cell B23 0).trans rfl; have z1 : w6.cell? ⟨w.heap.size, 1, none⟩ = some (.int .i64 n1) := (blk_cell B23 1).trans rfl; have z2 : w6.cell? ⟨w.heap.size, 2, none⟩ = some (.int .i64 n2) := (blk_cell B23 2).trans rfl; have z3 : w6.cell? ⟨w.heap.size, 3, none⟩ = some (.int .i64 a3) := (blk_cell B23 3).trans rfl; have R23 := Aside0.mk B23; clear B23 hb6; have p0 := (blk_cell BK.out n1).trans (marks_at _ n1 h1); have p1 := blk_frozen BK.out n1) | (go_at_call 53; refine (replevinref16_hasB.calls _ false _ AH.out).mono ?_; rintro e w8 ⟨rfl, ⟨nd2, hw8⟩⟩; have BK1 := Aside0.mk (show w8.heap[w.heap.size + 1]? = some (.cells (marks fun j => false || j == n1) 102 (0, 0)) from hw8 ▸ blk_drewN (put_mark BK.out n1 h1) nd2); have HB1 := Aside0.mk (show Below w.heap.size w w8 from hw8 ▸ pw_below_drewN (below_set HB.out (Nat.le_succ _)) nd2); have C23 := show w8.heap[w.heap.size]? = some (.cells #[.int .i64 a0, .int .i64 n1, .int .i64 n2, .int .i64 a3] 23 (0, 0)) from hw8 ▸ blk_drewN ((Go.Deep.blk_setCell_other _ _ _ _ (by simp)).trans R23.out) nd2; clear hw8; have y20 : w8.cell? ⟨w.heap.size, 2, none⟩ = some (.int .i64 n2) := (blk_cell C23 2).trans rfl; have y30 : w8.cell? ⟨w.heap.size, 3, none⟩ = some (.int .i64 a3) := (blk_cell C23 3).trans rfl; clear C23; obtain ⟨y0, y1, y2, y3, y4, y5, y6, y7⟩ := cells8 BK1.out) | (go_at_call 63; refine (refregs_calls (fun j => false || j == n1) _).mono ?_; rintro e w7 ⟨v1, rfl, hR, hb7⟩))
          have hs := Aside0.mk (show Below w.heap.size w w8 from HB1.out)
          go_ret
          rw [show rdMarks (rdop a0) false (t1 == 3) n1 n2 a3.toNat = fun j => false || j == n1 by funext j; simp [rdMarks, ho.out, t3.out]]
          exact ⟨_, rfl, Kd.R_lower hR hs.out.size, below_step hs.out hb7⟩
        | true =>
          by_cases t3 : (t1 == 3) = true
          · obtain ⟨n3, rfl⟩ := Int.eq_ofNat_of_zero_le (hr.2.2 (beq_iff_eq.mp t3)).1
            have h3 : n3 < 8 := by have := hr.2.2 (beq_iff_eq.mp t3); omega
            have hx3 := hx.out n3 h3
            obtain rfl := beq_iff_eq.mp t3
            have t3 := Aside0.mk t3
            simp only [Int.toNat_natCast]
            go_enter Try.func43, Try.ntmps43
            go_wp2_with (first | (go_at_call 31; refine (replevinref16_Form.calls 3 _ 3 t2 _ AF.out).mono ?_; rintro e w' ⟨rfl, ⟨nd, rfl⟩⟩) | (go_at_call 16; refine (replevinref16_Check.calls 3 _ _ _ _ 0 _ AE.out).mono ?_; rintro e w6 ⟨rfl, hb6⟩; have BK := Aside0.mk (blk_below (g := w.heap.size + 1) (o := .cells (marks fun _ => false) 102 (0, 0)) (by first | exact BK0.out | exact blk_drewN BK0.out _) hb6); have HB := Aside0.mk (below_step (by repeat (first | exact HB0.out | apply below_alloc | apply pw_below_drewN | apply below_drew1)) hb6); have B23 := blk_below (g := w.heap.size) (o := .cells #[.int .i64 a0, .int .i64 n1, .int .i64 n2, .int .i64 (n3 : Int)] 23 (0, 0)) (by first | exact B230.out | exact blk_drewN B230.out _) hb6; have z0 : w6.cell? ⟨w.heap.size, 0, none⟩ = some (.int .i64 a0) := (blk_cell B23 0).trans rfl; have z1 : w6.cell? ⟨w.heap.size, 1, none⟩ = some (.int .i64 n1) := (blk_cell B23 1).trans rfl; have z2 : w6.cell? ⟨w.heap.size, 2, none⟩ = some (.int .i64 n2) := (blk_cell B23 2).trans rfl; have z3 : w6.cell? ⟨w.heap.size, 3, none⟩ = some (.int .i64 (n3 : Int)) := (blk_cell B23 3).trans rfl; have R23 := Aside0.mk B23; clear B23 hb6; have p0 := (blk_cell BK.out n1).trans (marks_at _ n1 h1); have p1 := blk_frozen BK.out n1) | (go_at_call 53; refine (replevinref16_hasB.calls _ true _ AH.out).mono ?_; rintro e w8 ⟨rfl, ⟨nd2, hw8⟩⟩; have BK1 := Aside0.mk (show w8.heap[w.heap.size + 1]? = some (.cells (marks fun j => false || j == n1) 102 (0, 0)) from hw8 ▸ blk_drewN (put_mark BK.out n1 h1) nd2); have HB1 := Aside0.mk (show Below w.heap.size w w8 from hw8 ▸ pw_below_drewN (below_set HB.out (Nat.le_succ _)) nd2); have C23 := show w8.heap[w.heap.size]? = some (.cells #[.int .i64 a0, .int .i64 n1, .int .i64 n2, .int .i64 (n3 : Int)] 23 (0, 0)) from hw8 ▸ blk_drewN ((Go.Deep.blk_setCell_other _ _ _ _ (by simp)).trans R23.out) nd2; clear hw8; have y20 : w8.cell? ⟨w.heap.size, 2, none⟩ = some (.int .i64 n2) := (blk_cell C23 2).trans rfl; have y30 : w8.cell? ⟨w.heap.size, 3, none⟩ = some (.int .i64 (n3 : Int)) := (blk_cell C23 3).trans rfl; have q0 := (blk_cell BK1.out n2).trans (marks_at _ n2 h2); have q1 := blk_frozen BK1.out n2; have BK2 := Aside0.mk (put_mark BK1.out n2 h2); have r0 := (blk_cell BK2.out n3).trans (marks_at _ n3 h3); have r1 := blk_frozen BK2.out n3; have BK3 := Aside0.mk (put_mark BK2.out n3 h3); clear C23; obtain ⟨y0, y1, y2, y3, y4, y5, y6, y7⟩ := cells8 BK3.out) | (go_at_call 63; refine (refregs_calls (fun j => ((false || j == n1) || j == n2) || j == n3) _).mono ?_; rintro e w7 ⟨v1, rfl, hR, hb7⟩))
            have hs := Aside0.mk (show Below w.heap.size w ((w8.setCell ⟨w.heap.size + 1, n2, none⟩ (.bool true)).setCell ⟨w.heap.size + 1, n3, none⟩ (.bool true)) from below_set (below_set (HB1.out) (Nat.le_succ _)) (Nat.le_succ _))
            go_ret
            rw [show rdMarks (rdop a0) true ((3 : Int) == 3) n1 n2 n3 = fun j => ((false || j == n1) || j == n2) || j == n3 by funext j; simp [rdMarks, ho.out, t3.out]]
            exact ⟨_, rfl, Kd.R_lower hR hs.out.size, below_step hs.out hb7⟩
          · replace t3 := Bool.not_eq_true _ ▸ t3
            have t3' := t3
            have t3 := Aside0.mk t3'
            go_enter Try.func43, Try.ntmps43
            go_wp2_with (first | (go_at_call 31; refine (replevinref16_Form.calls 3 _ t1 t2 _ AF.out).mono ?_; rintro e w' ⟨rfl, ⟨nd, rfl⟩⟩) | (go_at_call 16; refine (replevinref16_Check.calls 3 _ _ _ _ 0 _ AE.out).mono ?_; rintro e w6 ⟨rfl, hb6⟩; have BK := Aside0.mk (blk_below (g := w.heap.size + 1) (o := .cells (marks fun _ => false) 102 (0, 0)) (by first | exact BK0.out | exact blk_drewN BK0.out _) hb6); have HB := Aside0.mk (below_step (by repeat (first | exact HB0.out | apply below_alloc | apply pw_below_drewN | apply below_drew1)) hb6); have B23 := blk_below (g := w.heap.size) (o := .cells #[.int .i64 a0, .int .i64 n1, .int .i64 n2, .int .i64 a3] 23 (0, 0)) (by first | exact B230.out | exact blk_drewN B230.out _) hb6; have z0 : w6.cell? ⟨w.heap.size, 0, none⟩ = some (.int .i64 a0) := (blk_cell B23 0).trans rfl; have z1 : w6.cell? ⟨w.heap.size, 1, none⟩ = some (.int .i64 n1) := (blk_cell B23 1).trans rfl; have z2 : w6.cell? ⟨w.heap.size, 2, none⟩ = some (.int .i64 n2) := (blk_cell B23 2).trans rfl; have z3 : w6.cell? ⟨w.heap.size, 3, none⟩ = some (.int .i64 a3) := (blk_cell B23 3).trans rfl; have R23 := Aside0.mk B23; clear B23 hb6; have p0 := (blk_cell BK.out n1).trans (marks_at _ n1 h1); have p1 := blk_frozen BK.out n1) | (go_at_call 53; refine (replevinref16_hasB.calls _ true _ AH.out).mono ?_; rintro e w8 ⟨rfl, ⟨nd2, hw8⟩⟩; have BK1 := Aside0.mk (show w8.heap[w.heap.size + 1]? = some (.cells (marks fun j => false || j == n1) 102 (0, 0)) from hw8 ▸ blk_drewN (put_mark BK.out n1 h1) nd2); have HB1 := Aside0.mk (show Below w.heap.size w w8 from hw8 ▸ pw_below_drewN (below_set HB.out (Nat.le_succ _)) nd2); have C23 := show w8.heap[w.heap.size]? = some (.cells #[.int .i64 a0, .int .i64 n1, .int .i64 n2, .int .i64 a3] 23 (0, 0)) from hw8 ▸ blk_drewN ((Go.Deep.blk_setCell_other _ _ _ _ (by simp)).trans R23.out) nd2; clear hw8; have y20 : w8.cell? ⟨w.heap.size, 2, none⟩ = some (.int .i64 n2) := (blk_cell C23 2).trans rfl; have y30 : w8.cell? ⟨w.heap.size, 3, none⟩ = some (.int .i64 a3) := (blk_cell C23 3).trans rfl; have q0 := (blk_cell BK1.out n2).trans (marks_at _ n2 h2); have q1 := blk_frozen BK1.out n2; have BK2 := Aside0.mk (put_mark BK1.out n2 h2); clear C23; obtain ⟨y0, y1, y2, y3, y4, y5, y6, y7⟩ := cells8 BK2.out) | (go_at_call 63; refine (refregs_calls (fun j => (false || j == n1) || j == n2) _).mono ?_; rintro e w7 ⟨v1, rfl, hR, hb7⟩))
            have hs := Aside0.mk (show Below w.heap.size w (w8.setCell ⟨w.heap.size + 1, n2, none⟩ (.bool true)) from below_set (HB1.out) (Nat.le_succ _))
            go_ret
            rw [show rdMarks (rdop a0) true (t1 == 3) n1 n2 a3.toNat = fun j => (false || j == n1) || j == n2 by funext j; simp [rdMarks, ho.out, t3.out]]
            exact ⟨_, rfl, Kd.R_lower hR hs.out.size, below_step hs.out hb7⟩
    · have ho' : (a0 == 3) = false ∧ (a0 == 18) = false ∧ (a0 == 20) = false ∧ (a0 == 22) = false ∧ (a0 == 23) = false ∧ (a0 == 25) = false := by
        simpa [rdop, not_or, and_assoc] using ho
      obtain ⟨o1, o2, o3, o4, o5, o6⟩ := ho'
      have ho := Aside0.mk (Bool.not_eq_true _ ▸ ho : rdop a0 = false)
      cases hb with
      | false =>
        have t3 : (t1 == 3) = false := by
          cases ht : t1 == 3 with
          | false => rfl
          | true =>
            obtain rfl := beq_iff_eq.mp ht
            have := AH.out
            simp [replevinref16_hasB.f] at this
        have t3 := Aside0.mk t3
        go_enter Try.func43, Try.ntmps43
        go_wp2_with (first | (go_at_call 31; refine (replevinref16_Form.calls 3 _ t1 t2 _ AF.out).mono ?_; rintro e w' ⟨rfl, ⟨nd, rfl⟩⟩) | (go_at_call 16; refine (replevinref16_Check.calls 3 _ _ _ _ 0 _ AE.out).mono ?_; rintro e w6 ⟨rfl, hb6⟩; have BK := Aside0.mk (blk_below (g := w.heap.size + 1) (o := .cells (marks fun _ => false) 102 (0, 0)) (by first | exact BK0.out | exact blk_drewN BK0.out _) hb6); have HB := Aside0.mk (below_step (by repeat (first | exact HB0.out | apply below_alloc | apply pw_below_drewN | apply below_drew1)) hb6); have B23 := blk_below (g := w.heap.size) (o := .cells #[.int .i64 a0, .int .i64 n1, .int .i64 n2, .int .i64 a3] 23 (0, 0)) (by first | exact B230.out | exact blk_drewN B230.out _) hb6; have z0 : w6.cell? ⟨w.heap.size, 0, none⟩ = some (.int .i64 a0) := (blk_cell B23 0).trans rfl; have z1 : w6.cell? ⟨w.heap.size, 1, none⟩ = some (.int .i64 n1) := (blk_cell B23 1).trans rfl; have z2 : w6.cell? ⟨w.heap.size, 2, none⟩ = some (.int .i64 n2) := (blk_cell B23 2).trans rfl; have z3 : w6.cell? ⟨w.heap.size, 3, none⟩ = some (.int .i64 a3) := (blk_cell B23 3).trans rfl; have R23 := Aside0.mk B23; clear B23 hb6) | (go_at_call 53; refine (replevinref16_hasB.calls _ false _ AH.out).mono ?_; rintro e w8 ⟨rfl, ⟨nd2, hw8⟩⟩; have BK1 := Aside0.mk (show w8.heap[w.heap.size + 1]? = some (.cells (marks fun _ => false) 102 (0, 0)) from hw8 ▸ blk_drewN BK.out nd2); have HB1 := Aside0.mk (show Below w.heap.size w w8 from hw8 ▸ pw_below_drewN HB.out nd2); have C23 := show w8.heap[w.heap.size]? = some (.cells #[.int .i64 a0, .int .i64 n1, .int .i64 n2, .int .i64 a3] 23 (0, 0)) from hw8 ▸ blk_drewN R23.out nd2; clear hw8; have y20 : w8.cell? ⟨w.heap.size, 2, none⟩ = some (.int .i64 n2) := (blk_cell C23 2).trans rfl; have y30 : w8.cell? ⟨w.heap.size, 3, none⟩ = some (.int .i64 a3) := (blk_cell C23 3).trans rfl; clear C23; obtain ⟨y0, y1, y2, y3, y4, y5, y6, y7⟩ := cells8 BK1.out) | (go_at_call 63; refine (refregs_calls (fun _ => false) _).mono ?_; rintro e w7 ⟨v1, rfl, hR, hb7⟩))
        have hs := Aside0.mk (show Below w.heap.size w w8 from HB1.out)
        go_ret
        rw [show rdMarks (rdop a0) false (t1 == 3) n1 n2 a3.toNat = fun _ => false by funext j; simp [rdMarks, ho.out, t3.out]]
        exact ⟨_, rfl, Kd.R_lower hR hs.out.size, below_step hs.out hb7⟩
      | true =>
        by_cases t3 : (t1 == 3) = true
        · obtain ⟨n3, rfl⟩ := Int.eq_ofNat_of_zero_le (hr.2.2 (beq_iff_eq.mp t3)).1
          have h3 : n3 < 8 := by have := hr.2.2 (beq_iff_eq.mp t3); omega
          have hx3 := hx.out n3 h3
          obtain rfl := beq_iff_eq.mp t3
          have t3 := Aside0.mk t3
          simp only [Int.toNat_natCast]
          go_enter Try.func43, Try.ntmps43
          go_wp2_with (first | (go_at_call 31; refine (replevinref16_Form.calls 3 _ 3 t2 _ AF.out).mono ?_; rintro e w' ⟨rfl, ⟨nd, rfl⟩⟩) | (go_at_call 16; refine (replevinref16_Check.calls 3 _ _ _ _ 0 _ AE.out).mono ?_; rintro e w6 ⟨rfl, hb6⟩; have BK := Aside0.mk (blk_below (g := w.heap.size + 1) (o := .cells (marks fun _ => false) 102 (0, 0)) (by first | exact BK0.out | exact blk_drewN BK0.out _) hb6); have HB := Aside0.mk (below_step (by repeat (first | exact HB0.out | apply below_alloc | apply pw_below_drewN | apply below_drew1)) hb6); have B23 := blk_below (g := w.heap.size) (o := .cells #[.int .i64 a0, .int .i64 n1, .int .i64 n2, .int .i64 (n3 : Int)] 23 (0, 0)) (by first | exact B230.out | exact blk_drewN B230.out _) hb6; have z0 : w6.cell? ⟨w.heap.size, 0, none⟩ = some (.int .i64 a0) := (blk_cell B23 0).trans rfl; have z1 : w6.cell? ⟨w.heap.size, 1, none⟩ = some (.int .i64 n1) := (blk_cell B23 1).trans rfl; have z2 : w6.cell? ⟨w.heap.size, 2, none⟩ = some (.int .i64 n2) := (blk_cell B23 2).trans rfl; have z3 : w6.cell? ⟨w.heap.size, 3, none⟩ = some (.int .i64 (n3 : Int)) := (blk_cell B23 3).trans rfl; have R23 := Aside0.mk B23; clear B23 hb6) | (go_at_call 53; refine (replevinref16_hasB.calls _ true _ AH.out).mono ?_; rintro e w8 ⟨rfl, ⟨nd2, hw8⟩⟩; have BK1 := Aside0.mk (show w8.heap[w.heap.size + 1]? = some (.cells (marks fun _ => false) 102 (0, 0)) from hw8 ▸ blk_drewN BK.out nd2); have HB1 := Aside0.mk (show Below w.heap.size w w8 from hw8 ▸ pw_below_drewN HB.out nd2); have C23 := show w8.heap[w.heap.size]? = some (.cells #[.int .i64 a0, .int .i64 n1, .int .i64 n2, .int .i64 (n3 : Int)] 23 (0, 0)) from hw8 ▸ blk_drewN R23.out nd2; clear hw8; have y20 : w8.cell? ⟨w.heap.size, 2, none⟩ = some (.int .i64 n2) := (blk_cell C23 2).trans rfl; have y30 : w8.cell? ⟨w.heap.size, 3, none⟩ = some (.int .i64 (n3 : Int)) := (blk_cell C23 3).trans rfl; have q0 := (blk_cell BK1.out n2).trans (marks_at _ n2 h2); have q1 := blk_frozen BK1.out n2; have BK2 := Aside0.mk (put_mark BK1.out n2 h2); have r0 := (blk_cell BK2.out n3).trans (marks_at _ n3 h3); have r1 := blk_frozen BK2.out n3; have BK3 := Aside0.mk (put_mark BK2.out n3 h3); clear C23; obtain ⟨y0, y1, y2, y3, y4, y5, y6, y7⟩ := cells8 BK3.out) | (go_at_call 63; refine (refregs_calls (fun j => (false || j == n2) || j == n3) _).mono ?_; rintro e w7 ⟨v1, rfl, hR, hb7⟩))
          have hs := Aside0.mk (show Below w.heap.size w ((w8.setCell ⟨w.heap.size + 1, n2, none⟩ (.bool true)).setCell ⟨w.heap.size + 1, n3, none⟩ (.bool true)) from below_set (below_set (HB1.out) (Nat.le_succ _)) (Nat.le_succ _))
          go_ret
          rw [show rdMarks (rdop a0) true ((3 : Int) == 3) n1 n2 n3 = fun j => (false || j == n2) || j == n3 by funext j; simp [rdMarks, ho.out, t3.out]]
          exact ⟨_, rfl, Kd.R_lower hR hs.out.size, below_step hs.out hb7⟩
        · replace t3 := Bool.not_eq_true _ ▸ t3
          have t3' := t3
          have t3 := Aside0.mk t3'
          go_enter Try.func43, Try.ntmps43
          go_wp2_with (first | (go_at_call 31; refine (replevinref16_Form.calls 3 _ t1 t2 _ AF.out).mono ?_; rintro e w' ⟨rfl, ⟨nd, rfl⟩⟩) | (go_at_call 16; refine (replevinref16_Check.calls 3 _ _ _ _ 0 _ AE.out).mono ?_; rintro e w6 ⟨rfl, hb6⟩; have BK := Aside0.mk (blk_below (g := w.heap.size + 1) (o := .cells (marks fun _ => false) 102 (0, 0)) (by first | exact BK0.out | exact blk_drewN BK0.out _) hb6); have HB := Aside0.mk (below_step (by repeat (first | exact HB0.out | apply below_alloc | apply pw_below_drewN | apply below_drew1)) hb6); have B23 := blk_below (g := w.heap.size) (o := .cells #[.int .i64 a0, .int .i64 n1, .int .i64 n2, .int .i64 a3] 23 (0, 0)) (by first | exact B230.out | exact blk_drewN B230.out _) hb6; have z0 : w6.cell? ⟨w.heap.size, 0, none⟩ = some (.int .i64 a0) := (blk_cell B23 0).trans rfl; have z1 : w6.cell? ⟨w.heap.size, 1, none⟩ = some (.int .i64 n1) := (blk_cell B23 1).trans rfl; have z2 : w6.cell? ⟨w.heap.size, 2, none⟩ = some (.int .i64 n2) := (blk_cell B23 2).trans rfl; have z3 : w6.cell? ⟨w.heap.size, 3, none⟩ = some (.int .i64 a3) := (blk_cell B23 3).trans rfl; have R23 := Aside0.mk B23; clear B23 hb6) | (go_at_call 53; refine (replevinref16_hasB.calls _ true _ AH.out).mono ?_; rintro e w8 ⟨rfl, ⟨nd2, hw8⟩⟩; have BK1 := Aside0.mk (show w8.heap[w.heap.size + 1]? = some (.cells (marks fun _ => false) 102 (0, 0)) from hw8 ▸ blk_drewN BK.out nd2); have HB1 := Aside0.mk (show Below w.heap.size w w8 from hw8 ▸ pw_below_drewN HB.out nd2); have C23 := show w8.heap[w.heap.size]? = some (.cells #[.int .i64 a0, .int .i64 n1, .int .i64 n2, .int .i64 a3] 23 (0, 0)) from hw8 ▸ blk_drewN R23.out nd2; clear hw8; have y20 : w8.cell? ⟨w.heap.size, 2, none⟩ = some (.int .i64 n2) := (blk_cell C23 2).trans rfl; have y30 : w8.cell? ⟨w.heap.size, 3, none⟩ = some (.int .i64 a3) := (blk_cell C23 3).trans rfl; have q0 := (blk_cell BK1.out n2).trans (marks_at _ n2 h2); have q1 := blk_frozen BK1.out n2; have BK2 := Aside0.mk (put_mark BK1.out n2 h2); clear C23; obtain ⟨y0, y1, y2, y3, y4, y5, y6, y7⟩ := cells8 BK2.out) | (go_at_call 63; refine (refregs_calls (fun j => false || j == n2) _).mono ?_; rintro e w7 ⟨v1, rfl, hR, hb7⟩))
          have hs := Aside0.mk (show Below w.heap.size w (w8.setCell ⟨w.heap.size + 1, n2, none⟩ (.bool true)) from below_set (HB1.out) (Nat.le_succ _))
          go_ret
          rw [show rdMarks (rdop a0) true (t1 == 3) n1 n2 a3.toNat = fun j => false || j == n2 by funext j; simp [rdMarks, ho.out, t3.out]]
          exact ⟨_, rfl, Kd.R_lower hR hs.out.size, below_step hs.out hb7⟩
  · rw [if_neg h0] at h
    obtain rfl := Option.some.inj h
    have b1 : (e0 == 0) = false := beq_eq_false_iff_ne.mpr h0
    have b2 : (e0 != 0) = true := bne_iff_ne.mpr h0
    clear h0
    go_enter Try.func43, Try.ntmps43
    go_wp2_with (first | (go_at_call 31; refine (replevinref16_Form.calls 3 _ t1 t2 _ AF.out).mono ?_; rintro e w' ⟨rfl, ⟨nd, rfl⟩⟩) | (go_at_call 16; refine (replevinref16_Check.calls 3 _ _ _ _ e0 _ AE.out).mono ?_; rintro e w6 ⟨rfl, hb6⟩; have HB := Aside0.mk (below_step (by repeat (first | exact HB0.out | apply below_alloc | apply pw_below_drewN | apply below_drew1)) hb6); clear hb6))
    go_ret
    exact ⟨_, rfl, Kd.R_nil _ _ _ _ _, HB.out⟩
/-- Does the operation change its register a? -/
def wrop (op : Int) : Bool := (decide (1 ≤ op) && decide (op ≤ 17)) || op == 19 || op == 24
def replevinref16_Writes.f (a0 a1 a2 a3 : Int) : Option (List Int) :=
  (replevinref16_Check.f 3 a0 a1 a2 a3).bind fun e => if e = 0 ∧ wrop a0 = true then (if 0 ≤ a1 ∧ a1 < 8 then some (marked (fun j => false || j == a1.toNat) 8) else none) else some (marked (fun _ => false) 8)
theorem wrop_true {a0 : Int} (h : wrop a0 = true) : (decide (1 ≤ a0) = true ∧ decide (a0 ≤ 17) = true) ∨ (decide (1 ≤ a0) = true ∧ decide (a0 ≤ 17) = false ∧ (a0 == 19) = true) ∨ (decide (1 ≤ a0) = true ∧ decide (a0 ≤ 17) = false ∧ (a0 == 19) = false ∧ (a0 == 24) = true) := by
  unfold wrop at h
  by_cases h1 : 1 ≤ a0
  · by_cases h2 : a0 ≤ 17
    · exact .inl ⟨by simpa using h1, by simpa using h2⟩
    · simp only [h1, h2, decide_true, decide_false, Bool.and_false, Bool.false_or] at h ⊢
      cases h3 : (a0 == 19)
      · rw [h3, Bool.false_or] at h
        simp [h]
      · simp
  · have h3 : (a0 == 19) = false := by rw [beq_eq_false_iff_ne]; omega
    have h4 : (a0 == 24) = false := by rw [beq_eq_false_iff_ne]; omega
    simp [h1, h3, h4] at h
theorem wrop_false {a0 : Int} (h : wrop a0 = false) : (decide (1 ≤ a0) = false ∧ (a0 == 19) = false ∧ (a0 == 24) = false) ∨ (decide (1 ≤ a0) = true ∧ decide (a0 ≤ 17) = false ∧ (a0 == 19) = false ∧ (a0 == 24) = false) := by
  unfold wrop at h
  simp only [Bool.or_eq_false_iff, Bool.and_eq_false_iff] at h
  by_cases h1 : 1 ≤ a0
  · refine .inr ⟨by simpa using h1, ?_, h.1.2, h.2⟩
    rcases h.1.1 with h2 | h2
    · simp [h1] at h2
    · exact h2
  · exact .inl ⟨by simpa using h1, h.1.2, h.2⟩
set_option maxHeartbeats 4000000 in
set_option maxRecDepth 100000 in
theorem replevinref16_Writes.calls (a0 a1 a2 a3 : Int) (r : List Int) (w : World) (h : replevinref16_Writes.f a0 a1 a2 a3 = some r) :
    Calls Try.prog 45 #[.agg #[.int .i64 a0, .int .i64 a1, .int .i64 a2, .int .i64 a3]] w fun e w' => ∃ v0_ : Value, e = .returned v0_ ∧ Kd.R (Kd.int .i64) 3 w' w.heap.size (fun _ => True) v0_ r ∧ Below w.heap.size w w' := by
  unfold replevinref16_Writes.f at h
  obtain ⟨e0, hE, h⟩ := Option.bind_eq_some_iff.mp h
  have hu23 := Try.underlying23
  have hu102 := Try.underlying102
  have AE := Aside0.mk hE
  clear hE
  have HB0 := Aside0.mk (Below.refl w.heap.size w)
  have BK0 := Aside0.mk (show ((w.alloc (.cells #[.int .i64 a0, .int .i64 a1, .int .i64 a2, .int .i64 a3] 23)).alloc (.cells (marks fun _ => false) 102)).heap[w.heap.size + 1]? = some (.cells (marks fun _ => false) 102 (0, 0)) by
    have := heap_alloc_last (w.alloc (.cells #[.int .i64 a0, .int .i64 a1, .int .i64 a2, .int .i64 a3] 23)) (.cells (marks fun _ => false) 102)
    rwa [World.size_alloc] at this)
  have B230 := Aside0.mk (show ((w.alloc (.cells #[.int .i64 a0, .int .i64 a1, .int .i64 a2, .int .i64 a3] 23)).alloc (.cells (marks fun _ => false) 102)).heap[w.heap.size]? = some (.cells #[.int .i64 a0, .int .i64 a1, .int .i64 a2, .int .i64 a3] 23 (0, 0)) from blk_alloc (heap_alloc_last w _) _)
  by_cases h0 : e0 = 0
  · subst h0
    cases ho : wrop a0 with
    | true =>
      rw [if_pos ⟨rfl, ho⟩] at h
      by_cases hr : 0 ≤ a1 ∧ a1 < 8
      case neg => rw [if_neg hr] at h; cases h
      rw [if_pos hr] at h
      obtain rfl := Option.some.inj h
      clear h
      obtain ⟨n1, rfl⟩ := Int.eq_ofNat_of_zero_le hr.1
      have h1 : n1 < 8 := by omega
      have hx1 := run_index8 (w.heap.size + 1) n1 h1
      simp only [Int.toNat_natCast]
      rcases wrop_true ho with ⟨o1, o2⟩ | ⟨o1, o2, o3⟩ | ⟨o1, o2, o3, o4⟩
      all_goals
        clear ho
        go_enter Try.func45, Try.ntmps45
        go_wp2_with (first | (go_at_call 16; refine (replevinref16_Check.calls 3 _ _ _ _ 0 _ AE.out).mono ?_; rintro e w6 ⟨rfl, hb6⟩; have BK := Aside0.mk (blk_below (g := w.heap.size + 1) (o := .cells (marks fun _ => false) 102 (0, 0)) (by first | exact BK0.out | exact blk_drewN BK0.out _) hb6); have HB := Aside0.mk (below_step (by repeat (first | exact HB0.out | apply below_alloc | apply pw_below_drewN | apply below_drew1)) hb6); have B23 := blk_below (g := w.heap.size) (o := .cells #[.int .i64 a0, .int .i64 n1, .int .i64 a2, .int .i64 a3] 23 (0, 0)) (by first | exact B230.out | exact blk_drewN B230.out _) hb6; have z0 : w6.cell? ⟨w.heap.size, 0, none⟩ = some (.int .i64 a0) := (blk_cell B23 0).trans rfl; have z1 : w6.cell? ⟨w.heap.size, 1, none⟩ = some (.int .i64 n1) := (blk_cell B23 1).trans rfl; have R23 := Aside0.mk B23; clear B23 hb6; have p0 := (blk_cell BK.out n1).trans (marks_at _ n1 h1); have p1 := blk_frozen BK.out n1; have BK1 := Aside0.mk (put_mark BK.out n1 h1); obtain ⟨y0, y1, y2, y3, y4, y5, y6, y7⟩ := cells8 BK1.out) | (go_at_call 63; refine (refregs_calls (fun j => false || j == n1) _).mono ?_; rintro e w7 ⟨v1, rfl, hR, hb7⟩))
        have hs := Aside0.mk (show Below w.heap.size w (w6.setCell ⟨w.heap.size + 1, n1, none⟩ (.bool true)) from below_set HB.out (Nat.le_succ _))
        go_ret
        exact ⟨_, rfl, Kd.R_lower hR hs.out.size, below_step hs.out hb7⟩
    | false =>
      rw [if_neg (by simp [ho])] at h
      obtain rfl := Option.some.inj h
      clear h
      rcases wrop_false ho with ⟨o1, o3, o4⟩ | ⟨o1, o2, o3, o4⟩
      all_goals
        clear ho
        go_enter Try.func45, Try.ntmps45
        go_wp2_with (first | (go_at_call 16; refine (replevinref16_Check.calls 3 _ _ _ _ 0 _ AE.out).mono ?_; rintro e w6 ⟨rfl, hb6⟩; have BK := Aside0.mk (blk_below (g := w.heap.size + 1) (o := .cells (marks fun _ => false) 102 (0, 0)) (by first | exact BK0.out | exact blk_drewN BK0.out _) hb6); have HB := Aside0.mk (below_step (by repeat (first | exact HB0.out | apply below_alloc | apply pw_below_drewN | apply below_drew1)) hb6); have B23 := blk_below (g := w.heap.size) (o := .cells #[.int .i64 a0, .int .i64 a1, .int .i64 a2, .int .i64 a3] 23 (0, 0)) (by first | exact B230.out | exact blk_drewN B230.out _) hb6; have z0 : w6.cell? ⟨w.heap.size, 0, none⟩ = some (.int .i64 a0) := (blk_cell B23 0).trans rfl; have z1 : w6.cell? ⟨w.heap.size, 1, none⟩ = some (.int .i64 a1) := (blk_cell B23 1).trans rfl; have R23 := Aside0.mk B23; clear B23 hb6; obtain ⟨y0, y1, y2, y3, y4, y5, y6, y7⟩ := cells8 BK.out) | (go_at_call 63; refine (refregs_calls (fun _ => false) _).mono ?_; rintro e w7 ⟨v1, rfl, hR, hb7⟩))
        go_ret
        exact ⟨_, rfl, Kd.R_lower hR HB.out.size, below_step HB.out hb7⟩
  · rw [if_neg (by simp [h0])] at h
    obtain rfl := Option.some.inj h
    have b1 : (e0 == 0) = false := beq_eq_false_iff_ne.mpr h0
    clear h0 h
    go_enter Try.func45, Try.ntmps45
    go_wp2_with (first | (go_at_call 16; refine (replevinref16_Check.calls 3 _ _ _ _ e0 _ AE.out).mono ?_; rintro e w6 ⟨rfl, hb6⟩; have BK := Aside0.mk (blk_below (g := w.heap.size + 1) (o := .cells (marks fun _ => false) 102 (0, 0)) (by first | exact BK0.out | exact blk_drewN BK0.out _) hb6); have HB := Aside0.mk (below_step (by repeat (first | exact HB0.out | apply below_alloc | apply pw_below_drewN | apply below_drew1)) hb6); have B23 := blk_below (g := w.heap.size) (o := .cells #[.int .i64 a0, .int .i64 a1, .int .i64 a2, .int .i64 a3] 23 (0, 0)) (by first | exact B230.out | exact blk_drewN B230.out _) hb6; have z0 : w6.cell? ⟨w.heap.size, 0, none⟩ = some (.int .i64 a0) := (blk_cell B23 0).trans rfl; have z1 : w6.cell? ⟨w.heap.size, 1, none⟩ = some (.int .i64 a1) := (blk_cell B23 1).trans rfl; have R23 := Aside0.mk B23; clear B23 hb6; obtain ⟨y0, y1, y2, y3, y4, y5, y6, y7⟩ := cells8 BK.out) | (go_at_call 63; refine (refregs_calls (fun _ => false) _).mono ?_; rintro e w7 ⟨v1, rfl, hR, hb7⟩))
    go_ret
    exact ⟨_, rfl, Kd.R_lower hR HB.out.size, below_step HB.out hb7⟩
end Go.Proofs.Ytdnhekgdpolenaa
