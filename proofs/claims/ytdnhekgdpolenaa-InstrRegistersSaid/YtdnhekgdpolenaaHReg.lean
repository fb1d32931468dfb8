/- instr.registers: slices.Sort and slices.Compact of a slice of the caller's own, by their contracts off the shelf. -/
import Derived.Test.YtdnhekgdpolenaaQx0
import Derived.Test.YtdnhekgdpolenaaHOps
import Derived.Shelf.Lay
import Derived.Shelf.Sort.Plain
import Derived.Shelf.Slices.In.SortNone
import Derived.Shelf.Slices.CompactI
import Derived.Ground.NamesProg
import Derived.Ground.Names2Prog
import Derived.Lib.OwnBridge
import Derived.Sort.OwnSortedInts
import Derived.Sort.Grow
namespace Go.Proofs.Ytdnhekgdpolenaa
set_option linter.unusedVariables false
set_option linter.unusedSimpArgs false
open Go.Shelf
shelf_lay Lays.n189 Nm 189 at Try as laysSort
shelf_lay Lays2.n20 Nm2 20 at Try as laysCompact
end Go.Proofs.Ytdnhekgdpolenaa
namespace Go.Proofs.Ytdnhekgdpolenaa
open Go.RowKit Go.Shelf Go.Sort Go.Proofs.YtdnhekgdpolenaaW.PrintWords Go.Proofs.YtdnhekgdpolenaaW.PrintLast Go.Proofs.YtdnhekgdpolenaaW.PrintMore
/-- What instr.registers makes of a list: sorted, each once. -/
def regs (zs : List Int) : List Int := Lib.compact (zs.mergeSort fun x y => decide (x ≤ y))
theorem regs_left {w w1 : World} {g cap nn q : Nat} {os : Array Obj} {zs : List Int} (hown : w1.ownsRow w.heap.size 3 1 (.slice (some ⟨g, 0, none⟩) zs.length cap) zs.length (zs.map (Value.int .i64))) (hbel : Below w.heap.size w w1) :
    (putRow (Value.int .i64) (Sort.ahead (grow (putRow (Value.int .i64) (Sort.ahead w1 nn) g 0 (zs.mergeSort fun x y => decide (x ≤ y)).toArray) os) q) g 0 (regs zs ++ List.replicate ((zs.mergeSort fun x y => decide (x ≤ y)).length - (regs zs).length) 0).toArray).ownsRow w.heap.size 3 1 (.slice (some ⟨g, 0, none⟩) (regs zs).length cap) (regs zs).length ((regs zs).map (Value.int .i64)) ∧
    Below w.heap.size w (putRow (Value.int .i64) (Sort.ahead (grow (putRow (Value.int .i64) (Sort.ahead w1 nn) g 0 (zs.mergeSort fun x y => decide (x ≤ y)).toArray) os) q) g 0 (regs zs ++ List.replicate ((zs.mergeSort fun x y => decide (x ≤ y)).length - (regs zs).length) 0).toArray) := by
  have hl2 : (zs.mergeSort fun x y => decide (x ≤ y)).length = zs.length := List.length_mergeSort zs
  have hle : (regs zs).length ≤ zs.length := by
    have := Lib.compact_length_le (zs.mergeSort fun x y => decide (x ≤ y))
    unfold regs
    omega
  rcases hown.2 with ⟨h0, _⟩ | ⟨g', cap', cur, hv, hbase, hb, h1, h2, h3, h4⟩
  · cases h0
  cases hv
  have hs := ownsRow_sortedI (n := nn) (os := os) (ts := zs.mergeSort fun x y => decide (x ≤ y)) hl2 hbase hb h1 h2 h3
  have hc := Lib.ownsRow_putRow (q := q) (k := (regs zs).length) (ys := regs zs ++ List.replicate ((zs.mergeSort fun x y => decide (x ≤ y)).length - (regs zs).length) 0) hs (by simp; omega) (by omega)
  rw [List.take_left] at hc
  exact ⟨hc, Lib.below_putRow (hbel.grown (grownBy_sortedI _) hbel.size (fun j hj => by cases hj; exact hbase)) hbase⟩
set_option maxHeartbeats 2000000 in
set_option maxRecDepth 100000 in
theorem registers_own (w0 w : World) (g cap : Nat) (zs : List Int) (hown : w.ownsRow w0.heap.size 3 1 (.slice (some ⟨g, 0, none⟩) zs.length cap) zs.length (zs.map (Value.int .i64))) (hbel : Below w0.heap.size w0 w) (hz : zs.length ≤ 1000) :
    Calls Try.prog 62 #[.slice (some ⟨g, 0, none⟩) zs.length cap] w fun e w' => e = .returned (.slice (some ⟨g, 0, none⟩) (regs zs).length cap) ∧ w'.ownsRow w0.heap.size 3 1 (.slice (some ⟨g, 0, none⟩) (regs zs).length cap) (regs zs).length ((regs zs).map (Value.int .i64)) ∧ Below w0.heap.size w0 w' := by
  obtain ⟨g', cap', e, hbg, hgl, hncap, hcm, hlen, hH⟩ := Lib.holds_of_ownsRow hown (by simp)
  injection e with e1 _ e3
  injection e1 with e1
  injection e1 with e1
  subst e1 e3
  have hsort := Any.slices_Sort_int laysSort g 0 cap zs w hH hgl (by omega)
  change Calls Try.prog 78 _ _ _ at hsort
  have X := Aside0.mk (And.intro hown (And.intro hbel (And.intro hgl (And.intro hncap hH))))
  clear hown hbel hH
  go_enter Try.func62, Try.ntmps62
  go_wp2_with (first
    | (go_at_call 78; refine hsort.mono ?_; rintro e w2 ⟨rfl, nn, os, rfl⟩
       have hl2 : (zs.mergeSort fun x y => decide (x ≤ y)).length = zs.length := List.length_mergeSort zs
       have hH2 : Holds (Value.int .i64) (grow (putRow (Value.int .i64) (Sort.ahead w nn) g 0 (zs.mergeSort fun x y => decide (x ≤ y)).toArray) os) g 0 (zs.mergeSort fun x y => decide (x ≤ y)).toArray :=
         holds_grow (Value.int .i64) _ os g 0 _ (by simpa [putRow, mapBlock, Sort.ahead] using X.out.2.2.1) (holds_putRow (Value.int .i64) _ g 0 _ _ (holds_ahead (Value.int .i64) w nn g 0 _ X.out.2.2.2.2) (by simp))
       have hcomp := Any.slices_Compact_int laysCompact g 0 cap (zs.mergeSort fun x y => decide (x ≤ y)) _ hH2 (by omega) (by have := X.out.2.2.2.1; omega)
       change Calls Try.prog 79 _ _ _ at hcomp
       rw [show (zs.mergeSort fun x y => decide (x ≤ y)).length = zs.length from hl2] at hcomp
       clear hH2 hsort)
    | (go_at_call 79; refine hcomp.mono ?_; rintro e w3 ⟨rfl, q, rfl⟩))
  go_ret
  have := regs_left (nn := nn) (q := q) (os := os) X.out.1 X.out.2.1
  rw [hl2] at this
  exact ⟨rfl, this⟩
set_option maxHeartbeats 2000000 in
set_option maxRecDepth 100000 in
theorem registers_none (w : World) :
    Calls Try.prog 62 #[.slice none 0 0] w fun e w' => e = .returned (.slice none 0 0) ∧ w' = w := by
  have h1 := Any.slices_Sort_int_none laysSort none 0 w
  change Calls Try.prog 78 _ _ _ at h1
  have h2 := Any.slices_Compact_int_empty laysCompact none 0 w
  change Calls Try.prog 79 _ _ _ at h2
  go_enter Try.func62, Try.ntmps62
  go_wp2_with (first | (go_at_call 78; refine h1.mono ?_; rintro e w2 ⟨rfl, rfl⟩) | (go_at_call 79; refine h2.mono ?_; rintro e w2 ⟨rfl, rfl⟩))
  go_ret
  exact ⟨rfl, rfl⟩
/-- What instr.registers answers. -/
def instr_registers.f (xs : List Int) : Option (List Int) := if xs.length ≤ 1000 then some (regs xs) else none
theorem registers_R {w0 w1 : World} (A : Option Addr) (c : Nat) (xs t : List Int) (HO : Kd.R (Kd.int .i64) 3 w1 w0.heap.size (fun _ => True) (.slice A xs.length c) xs) (HB : Below w0.heap.size w0 w1) (h : instr_registers.f xs = some t) :
    Calls Try.prog 62 #[.slice A xs.length c] w1 fun e w' => ∃ v' : Value, e = .returned v' ∧ Kd.R (Kd.int .i64) 3 w' w0.heap.size (fun _ => True) v' t ∧ Below w0.heap.size w0 w' := by
  unfold instr_registers.f at h
  by_cases hl : xs.length ≤ 1000
  case neg => rw [if_neg hl] at h; cases h
  rw [if_pos hl] at h
  obtain rfl := Option.some.inj h
  have hown : w1.ownsRow w0.heap.size 3 1 (.slice A xs.length c) xs.length (xs.map (Value.int .i64)) := Kd.own_of_R HO
  rcases hown.2 with ⟨e0, h0⟩ | ⟨g, cap, cur, e0, -⟩
  · injection e0 with e1 e2 e3
    subst e1 e3
    obtain rfl : xs = [] := List.eq_nil_of_length_eq_zero h0
    refine (registers_none w1).mono ?_
    rintro e w' ⟨rfl, rfl⟩
    rw [show regs [] = [] by simp [regs, Lib.compact, Lib.compactUpTo]]
    exact ⟨_, rfl, Kd.R_nil _ _ _ _ _, HB⟩
  · injection e0 with e1 e2 e3
    subst e1 e3
    refine (registers_own w0 w1 g c xs hown HB hl).mono ?_
    rintro e w' ⟨rfl, ho, hb⟩
    exact ⟨_, rfl, Kd.R_of_own ho (fun _ _ => trivial), hb⟩
end Go.Proofs.Ytdnhekgdpolenaa
