/- The arithmetic of the processor (instr.Calculate), its map of functions and each function of it, walked by hand. -/
import Derived.Test.YtdnhekgdpolenaaHOps
import Derived.MapKept
import Derived.Lib.Hide
namespace Go.Proofs.Ytdnhekgdpolenaa
open Go.RowKit
set_option linter.unusedVariables false
set_option linter.unusedSimpArgs false
/-- A word as the signed number. -/
def sg (x : Int) : Int := wrap64 (wrap32 x)
def fl (b : Bool) : Int := if b then 1 else 0
/-- What the operation calculates that the map has under its number. -/
def arith (op x y : Int) : Int :=
  if op = 4 then (x + y) % 4294967296 else if op = 5 then (x - y) % 4294967296 else if op = 6 then x * y % 4294967296 else
  if op = 9 then bits .and .u32 x y else if op = 10 then bits .or .u32 x y else if op = 11 then bits .xor .u32 x y else
  if op = 12 then x * 2 ^ (y % 32).toNat % 4294967296 else if op = 13 then x / 2 ^ (y % 32).toNat else
  if op = 14 then fl (decide (wrap32 x < wrap32 y)) else if op = 15 then fl (x == y) else
  if op = 7 then wrap64 ((sg x).tdiv (sg y)) % 4294967296 else (sg x).tmod (sg y) % 4294967296
theorem wrap_ne {y : Int} (hy0 : 0 ≤ y) (hy : y < 4294967296) (h : ¬ y = 0) : ¬ wrap64 (wrap32 y) = 0 := by
  unfold wrap64 wrap32
  omega

theorem ret_u32 {a b : Int} (h : a = b) : Ending.returned (.int .u32 a) = .returned (.int .u32 b) := by rw [h]
set_option maxHeartbeats 400000 in
theorem flag_any (b : Bool) (w : World) : Calls Try.prog 73 #[.bool b] w fun e w' => e = .returned (.int .u32 (fl b)) ∧ w' = w := by
  cases b
  · go_enter Try.func73, Try.ntmps73
    go_wp2
    go_ret
    exact ⟨rfl, rfl⟩
  · go_enter Try.func73, Try.ntmps73
    go_wp2
    go_ret
    exact ⟨rfl, rfl⟩
set_option maxHeartbeats 400000 in
theorem arith_4 (x y : Int) (hx0 : 0 ≤ x) (hx : x < 4294967296) (hy0 : 0 ≤ y) (hy : y < 4294967296) (w : World) :
    Calls Try.prog 64 #[.int .u32 x, .int .u32 y] w fun e w' => e = .returned (.int .u32 ((x + y) % 4294967296)) ∧ w' = w := by
  go_enter Try.func64, Try.ntmps64
  go_wp2
  go_ret
  exact ⟨rfl, rfl⟩
set_option maxHeartbeats 400000 in
theorem arith_5 (x y : Int) (hx0 : 0 ≤ x) (hx : x < 4294967296) (hy0 : 0 ≤ y) (hy : y < 4294967296) (w : World) :
    Calls Try.prog 65 #[.int .u32 x, .int .u32 y] w fun e w' => e = .returned (.int .u32 ((x - y) % 4294967296)) ∧ w' = w := by
  go_enter Try.func65, Try.ntmps65
  go_wp2
  go_ret
  exact ⟨rfl, rfl⟩
set_option maxHeartbeats 400000 in
theorem arith_6 (x y : Int) (hx0 : 0 ≤ x) (hx : x < 4294967296) (hy0 : 0 ≤ y) (hy : y < 4294967296) (w : World) :
    Calls Try.prog 66 #[.int .u32 x, .int .u32 y] w fun e w' => e = .returned (.int .u32 (x * y % 4294967296)) ∧ w' = w := by
  go_enter Try.func66, Try.ntmps66
  go_wp2
  go_ret
  exact ⟨rfl, rfl⟩
set_option maxHeartbeats 400000 in
theorem arith_9 (x y : Int) (hx0 : 0 ≤ x) (hx : x < 4294967296) (hy0 : 0 ≤ y) (hy : y < 4294967296) (w : World) :
    Calls Try.prog 67 #[.int .u32 x, .int .u32 y] w fun e w' => e = .returned (.int .u32 (bits .and .u32 x y)) ∧ w' = w := by
  go_enter Try.func67, Try.ntmps67
  go_wp2
  go_ret
  exact ⟨rfl, rfl⟩
set_option maxHeartbeats 400000 in
theorem arith_10 (x y : Int) (hx0 : 0 ≤ x) (hx : x < 4294967296) (hy0 : 0 ≤ y) (hy : y < 4294967296) (w : World) :
    Calls Try.prog 68 #[.int .u32 x, .int .u32 y] w fun e w' => e = .returned (.int .u32 (bits .or .u32 x y)) ∧ w' = w := by
  go_enter Try.func68, Try.ntmps68
  go_wp2
  go_ret
  exact ⟨rfl, rfl⟩
set_option maxHeartbeats 400000 in
theorem arith_11 (x y : Int) (hx0 : 0 ≤ x) (hx : x < 4294967296) (hy0 : 0 ≤ y) (hy : y < 4294967296) (w : World) :
    Calls Try.prog 69 #[.int .u32 x, .int .u32 y] w fun e w' => e = .returned (.int .u32 (bits .xor .u32 x y)) ∧ w' = w := by
  go_enter Try.func69, Try.ntmps69
  go_wp2
  go_ret
  exact ⟨rfl, rfl⟩
set_option maxHeartbeats 400000 in
theorem arith_12 (x y : Int) (hx0 : 0 ≤ x) (hx : x < 4294967296) (hy0 : 0 ≤ y) (hy : y < 4294967296) (w : World) :
    Calls Try.prog 70 #[.int .u32 x, .int .u32 y] w fun e w' => e = .returned (.int .u32 (x * 2 ^ (y % 32).toNat % 4294967296)) ∧ w' = w := by
  go_enter Try.func70, Try.ntmps70
  go_wp2
  go_ret
  exact ⟨rfl, rfl⟩
set_option maxHeartbeats 400000 in
theorem arith_13 (x y : Int) (hx0 : 0 ≤ x) (hx : x < 4294967296) (hy0 : 0 ≤ y) (hy : y < 4294967296) (w : World) :
    Calls Try.prog 71 #[.int .u32 x, .int .u32 y] w fun e w' => e = .returned (.int .u32 (x / 2 ^ (y % 32).toNat)) ∧ w' = w := by
  go_enter Try.func71, Try.ntmps71
  go_wp2
  go_ret
  exact ⟨rfl, rfl⟩
set_option maxHeartbeats 400000 in
theorem arith_14 (x y : Int) (hx0 : 0 ≤ x) (hx : x < 4294967296) (hy0 : 0 ≤ y) (hy : y < 4294967296) (w : World) :
    Calls Try.prog 72 #[.int .u32 x, .int .u32 y] w fun e w' => e = .returned (.int .u32 (fl (decide (wrap32 x < wrap32 y)))) ∧ w' = w := by
  go_enter Try.func72, Try.ntmps72
  go_wp2_with ((go_at_call 73; refine (flag_any _ _).mono ?_; rintro e w' ⟨rfl, rfl⟩))
  go_ret
  exact ⟨rfl, rfl⟩
set_option maxHeartbeats 400000 in
theorem arith_15 (x y : Int) (hx0 : 0 ≤ x) (hx : x < 4294967296) (hy0 : 0 ≤ y) (hy : y < 4294967296) (w : World) :
    Calls Try.prog 74 #[.int .u32 x, .int .u32 y] w fun e w' => e = .returned (.int .u32 (fl (x == y))) ∧ w' = w := by
  go_enter Try.func74, Try.ntmps74
  go_wp2_with ((go_at_call 73; refine (flag_any _ _).mono ?_; rintro e w' ⟨rfl, rfl⟩))
  go_ret
  exact ⟨rfl, rfl⟩
set_option maxHeartbeats 400000 in
theorem arith_7 (x y : Int) (hx0 : 0 ≤ x) (hx : x < 4294967296) (hy0 : 0 ≤ y) (hy : y < 4294967296) (hz : ¬ y = 0) (w : World) :
    Calls Try.prog 75 #[.int .u32 x, .int .u32 y] w fun e w' => e = .returned (.int .u32 (wrap64 ((sg x).tdiv (sg y)) % 4294967296)) ∧ w' = w := by
  have hn := wrap_ne hy0 hy hz
  have hb : (wrap64 (wrap32 y) == 0) = false := beq_eq_false_iff_ne.mpr hn
  go_enter Try.func75, Try.ntmps75
  go_wp2
  go_ret
  exact ⟨rfl, rfl⟩
set_option maxHeartbeats 400000 in
theorem arith_8 (x y : Int) (hx0 : 0 ≤ x) (hx : x < 4294967296) (hy0 : 0 ≤ y) (hy : y < 4294967296) (hz : ¬ y = 0) (w : World) :
    Calls Try.prog 76 #[.int .u32 x, .int .u32 y] w fun e w' => e = .returned (.int .u32 ((sg x).tmod (sg y) % 4294967296)) ∧ w' = w := by
  have hn := wrap_ne hy0 hy hz
  have hb : (wrap64 (wrap32 y) == 0) = false := beq_eq_false_iff_ne.mpr hn
  go_enter Try.func76, Try.ntmps76
  go_wp2
  go_ret
  exact ⟨rfl, rfl⟩
def arithMap : Array MapEntry := #[⟨.int .i64 4, .func (.func 64) #[] #[], 0⟩, ⟨.int .i64 5, .func (.func 65) #[] #[], 1⟩, ⟨.int .i64 6, .func (.func 66) #[] #[], 2⟩, ⟨.int .i64 9, .func (.func 67) #[] #[], 3⟩, ⟨.int .i64 10, .func (.func 68) #[] #[], 4⟩, ⟨.int .i64 11, .func (.func 69) #[] #[], 5⟩, ⟨.int .i64 12, .func (.func 70) #[] #[], 6⟩, ⟨.int .i64 13, .func (.func 71) #[] #[], 7⟩, ⟨.int .i64 14, .func (.func 72) #[] #[], 8⟩, ⟨.int .i64 15, .func (.func 74) #[] #[], 9⟩, ⟨.int .i64 7, .func (.func 75) #[] #[], 10⟩, ⟨.int .i64 8, .func (.func 76) #[] #[], 11⟩]
theorem heap_set_new (w : World) (o o' : Obj) : ({ (w.alloc o) with heap := (w.alloc o).heap.setIfInBounds w.heap.size o' } : World) = w.alloc o' := by
  simp only [World.alloc]
  congr 1
  apply Array.ext_getElem?
  intro i
  rw [Array.getElem?_setIfInBounds]
  by_cases h : w.heap.size = i
  · subst h
    simp
  · have h' : ¬ i = w.heap.size := fun e => h e.symm
    simp [h, h', Array.getElem?_push]
theorem run_insert_new {P : Program} {t kt et : TypeId} (ht : P.underlying t = some (.map kt et)) (hk : P.underlying kt = some (.int .i64)) (w : World) (es : Array MapEntry) (clock : Nat) (n : Int) (v : Value)
    (hf : Instr.findNow (.int .i64) (.int .i64 n) es.toList 0 = some none) :
    (Instr.mapUpdate t (.map (some w.heap.size)) (.int .i64 n) v).run P (w.alloc (.map es clock)) = .ok () (w.alloc (.map (es.push ⟨.int .i64 n, v, clock⟩) (clock + 1))) := by
  have hg : (w.alloc (.map es clock)).heap[w.heap.size]? = some (.map es clock) := heap_alloc_last w _
  unfold Instr.mapUpdate
  simp only [Sem.run_bind, run_underlying ht, Result.andThen_ok, MapKept.run_getObj_map hg, MapKept.run_checkKey hk (show MapKept.IsKey (.int .i64) (.int .i64 n) from rfl), MapKept.run_findKey hk hf, MapKept.run_setObj_map _ hg, heap_set_new]
theorem run_lookup_at {P : Program} {t kt et : TypeId} (ht : P.underlying t = some (.map kt et)) (hk : P.underlying kt = some (.int .i64)) (w : World) (g : Nat) (es : Array MapEntry) (clock : Nat) (n : Int) (i : Nat) (v : Value)
    (hg : w.heap[g]? = some (.map es clock)) (hf : Instr.findNow (.int .i64) (.int .i64 n) es.toList 0 = some (some (i, v))) :
    (Instr.lookup t (.map (some g)) (.int .i64 n) false).run P w = .ok v w := by
  unfold Instr.lookup
  simp [run_underlying ht, MapKept.run_getObj_map hg, MapKept.run_checkKey hk (show MapKept.IsKey (.int .i64) (.int .i64 n) from rfl), MapKept.run_findKey hk hf]
theorem run_lookup_none {P : Program} {t kt et : TypeId} (ht : P.underlying t = some (.map kt et)) (hk : P.underlying kt = some (.int .i64)) (w : World) (g : Nat) (es : Array MapEntry) (clock : Nat) (n : Int) (z : Value)
    (hg : w.heap[g]? = some (.map es clock)) (hz : (zeroValue et).run P w = .ok z w) (hf : Instr.findNow (.int .i64) (.int .i64 n) es.toList 0 = some none) :
    (Instr.lookup t (.map (some g)) (.int .i64 n) false).run P w = .ok z w := by
  unfold Instr.lookup
  simp [run_underlying ht, MapKept.run_getObj_map hg, MapKept.run_checkKey hk (show MapKept.IsKey (.int .i64) (.int .i64 n) from rfl), MapKept.run_findKey hk hf, hz]

set_option maxHeartbeats 400000 in
theorem arithmetic_any (w : World) : Calls Try.prog 55 #[] w fun e w' => e = .returned (.map (some w.heap.size)) ∧ w' = w.alloc (.map arithMap 12) := by
  have hmm := @run_makeMap Try.prog
  have hins := fun (w : World) es clock n v hf => run_insert_new (P := Try.prog) (t := 88) Try.underlying88 Try.underlying3 w es clock n v hf
  have i0 := fun (w : World) => hins w #[] 0 4 (.func (.func 64) #[] #[]) rfl
  have i1 := fun (w : World) => hins w #[⟨.int .i64 4, .func (.func 64) #[] #[], 0⟩] 1 5 (.func (.func 65) #[] #[]) rfl
  have i2 := fun (w : World) => hins w #[⟨.int .i64 4, .func (.func 64) #[] #[], 0⟩, ⟨.int .i64 5, .func (.func 65) #[] #[], 1⟩] 2 6 (.func (.func 66) #[] #[]) rfl
  have i3 := fun (w : World) => hins w #[⟨.int .i64 4, .func (.func 64) #[] #[], 0⟩, ⟨.int .i64 5, .func (.func 65) #[] #[], 1⟩, ⟨.int .i64 6, .func (.func 66) #[] #[], 2⟩] 3 9 (.func (.func 67) #[] #[]) rfl
  have i4 := fun (w : World) => hins w #[⟨.int .i64 4, .func (.func 64) #[] #[], 0⟩, ⟨.int .i64 5, .func (.func 65) #[] #[], 1⟩, ⟨.int .i64 6, .func (.func 66) #[] #[], 2⟩, ⟨.int .i64 9, .func (.func 67) #[] #[], 3⟩] 4 10 (.func (.func 68) #[] #[]) rfl
  have i5 := fun (w : World) => hins w #[⟨.int .i64 4, .func (.func 64) #[] #[], 0⟩, ⟨.int .i64 5, .func (.func 65) #[] #[], 1⟩, ⟨.int .i64 6, .func (.func 66) #[] #[], 2⟩, ⟨.int .i64 9, .func (.func 67) #[] #[], 3⟩, ⟨.int .i64 10, .func (.func 68) #[] #[], 4⟩] 5 11 (.func (.func 69) #[] #[]) rfl
  have i6 := fun (w : World) => hins w #[⟨.int .i64 4, .func (.func 64) #[] #[], 0⟩, ⟨.int .i64 5, .func (.func 65) #[] #[], 1⟩, ⟨.int .i64 6, .func (.func 66) #[] #[], 2⟩, ⟨.int .i64 9, .func (.func 67) #[] #[], 3⟩, ⟨.int .i64 10, .func (.func 68) #[] #[], 4⟩, ⟨.int .i64 11, .func (.func 69) #[] #[], 5⟩] 6 12 (.func (.func 70) #[] #[]) rfl
  have i7 := fun (w : World) => hins w #[⟨.int .i64 4, .func (.func 64) #[] #[], 0⟩, ⟨.int .i64 5, .func (.func 65) #[] #[], 1⟩, ⟨.int .i64 6, .func (.func 66) #[] #[], 2⟩, ⟨.int .i64 9, .func (.func 67) #[] #[], 3⟩, ⟨.int .i64 10, .func (.func 68) #[] #[], 4⟩, ⟨.int .i64 11, .func (.func 69) #[] #[], 5⟩, ⟨.int .i64 12, .func (.func 70) #[] #[], 6⟩] 7 13 (.func (.func 71) #[] #[]) rfl
  have i8 := fun (w : World) => hins w #[⟨.int .i64 4, .func (.func 64) #[] #[], 0⟩, ⟨.int .i64 5, .func (.func 65) #[] #[], 1⟩, ⟨.int .i64 6, .func (.func 66) #[] #[], 2⟩, ⟨.int .i64 9, .func (.func 67) #[] #[], 3⟩, ⟨.int .i64 10, .func (.func 68) #[] #[], 4⟩, ⟨.int .i64 11, .func (.func 69) #[] #[], 5⟩, ⟨.int .i64 12, .func (.func 70) #[] #[], 6⟩, ⟨.int .i64 13, .func (.func 71) #[] #[], 7⟩] 8 14 (.func (.func 72) #[] #[]) rfl
  have i9 := fun (w : World) => hins w #[⟨.int .i64 4, .func (.func 64) #[] #[], 0⟩, ⟨.int .i64 5, .func (.func 65) #[] #[], 1⟩, ⟨.int .i64 6, .func (.func 66) #[] #[], 2⟩, ⟨.int .i64 9, .func (.func 67) #[] #[], 3⟩, ⟨.int .i64 10, .func (.func 68) #[] #[], 4⟩, ⟨.int .i64 11, .func (.func 69) #[] #[], 5⟩, ⟨.int .i64 12, .func (.func 70) #[] #[], 6⟩, ⟨.int .i64 13, .func (.func 71) #[] #[], 7⟩, ⟨.int .i64 14, .func (.func 72) #[] #[], 8⟩] 9 15 (.func (.func 74) #[] #[]) rfl
  have i10 := fun (w : World) => hins w #[⟨.int .i64 4, .func (.func 64) #[] #[], 0⟩, ⟨.int .i64 5, .func (.func 65) #[] #[], 1⟩, ⟨.int .i64 6, .func (.func 66) #[] #[], 2⟩, ⟨.int .i64 9, .func (.func 67) #[] #[], 3⟩, ⟨.int .i64 10, .func (.func 68) #[] #[], 4⟩, ⟨.int .i64 11, .func (.func 69) #[] #[], 5⟩, ⟨.int .i64 12, .func (.func 70) #[] #[], 6⟩, ⟨.int .i64 13, .func (.func 71) #[] #[], 7⟩, ⟨.int .i64 14, .func (.func 72) #[] #[], 8⟩, ⟨.int .i64 15, .func (.func 74) #[] #[], 9⟩] 10 7 (.func (.func 75) #[] #[]) rfl
  have i11 := fun (w : World) => hins w #[⟨.int .i64 4, .func (.func 64) #[] #[], 0⟩, ⟨.int .i64 5, .func (.func 65) #[] #[], 1⟩, ⟨.int .i64 6, .func (.func 66) #[] #[], 2⟩, ⟨.int .i64 9, .func (.func 67) #[] #[], 3⟩, ⟨.int .i64 10, .func (.func 68) #[] #[], 4⟩, ⟨.int .i64 11, .func (.func 69) #[] #[], 5⟩, ⟨.int .i64 12, .func (.func 70) #[] #[], 6⟩, ⟨.int .i64 13, .func (.func 71) #[] #[], 7⟩, ⟨.int .i64 14, .func (.func 72) #[] #[], 8⟩, ⟨.int .i64 15, .func (.func 74) #[] #[], 9⟩, ⟨.int .i64 7, .func (.func 75) #[] #[], 10⟩] 11 8 (.func (.func 76) #[] #[]) rfl
  clear hins
  simp only [List.push_toArray, List.append_toArray, List.cons_append, List.nil_append] at i0 i1 i2 i3 i4 i5 i6 i7 i8 i9 i10 i11
  go_enter Try.func55, Try.ntmps55
  go_wp2
  go_ret
  exact ⟨rfl, rfl⟩
theorem eql_func (g : Nat) (w : World) : (binOp .eql 87 (.func (.func g) #[] #[]) .nilFunc).run Try.prog w = .ok (.bool false) w := by kernel_rfl
theorem eql_nilfunc (w : World) : (binOp .eql 87 .nilFunc .nilFunc).run Try.prog w = .ok (.bool true) w := by kernel_rfl
set_option maxHeartbeats 400000 in
theorem calc_none (op x y : Int) (hf : Instr.findNow (.int .i64) (.int .i64 op) arithMap.toList 0 = some none) (w : World) :
    Calls Try.prog 17 #[.int .i64 op, .int .u32 x, .int .u32 y] w fun e w' => e = .returned (.tuple #[.int .u32 0, .int .i64 11]) ∧ Below w.heap.size w w' := by
  have hlk := fun (w : World) g hg => run_lookup_none (P := Try.prog) (t := 88) Try.underlying88 Try.underlying3 w g arithMap 12 op .nilFunc hg (by kernel_rfl) hf
  have hlk' : ∀ w : World, (Instr.lookup 88 (.map (some w.heap.size)) (.int .i64 op) false).run Try.prog (w.alloc (.map arithMap 12)) = .ok .nilFunc (w.alloc (.map arithMap 12)) := fun w => hlk _ _ (heap_alloc_last w _)
  clear hlk hf
  have he := eql_nilfunc
  go_enter Try.func17, Try.ntmps17
  go_wp2_with ((go_at_call 55; refine (arithmetic_any _).mono ?_; rintro e w' ⟨rfl, rfl⟩))
  go_ret2
  exact ⟨rfl, (Below.refl _ _).alloc (Nat.le_refl _) _⟩
set_option maxHeartbeats 400000 in
theorem calc_div0 (op x : Int) (i g : Nat) (hf : Instr.findNow (.int .i64) (.int .i64 op) arithMap.toList 0 = some (some (i, .func (.func g) #[] #[]))) (ho : op = 7 ∨ op = 8) (w : World) :
    Calls Try.prog 17 #[.int .i64 op, .int .u32 x, .int .u32 0] w fun e w' => e = .returned (.tuple #[.int .u32 0, .int .i64 38]) ∧ Below w.heap.size w w' := by
  have hlk := fun (w : World) g' hg => run_lookup_at (P := Try.prog) (t := 88) Try.underlying88 Try.underlying3 w g' arithMap 12 op i _ hg hf
  have hlk' : ∀ w : World, (Instr.lookup 88 (.map (some w.heap.size)) (.int .i64 op) false).run Try.prog (w.alloc (.map arithMap 12)) = .ok (.func (.func g) #[] #[]) (w.alloc (.map arithMap 12)) := fun w => hlk _ _ (heap_alloc_last w _)
  clear hlk hf
  have he := eql_func
  rcases ho with rfl | rfl
  all_goals
    go_enter Try.func17, Try.ntmps17
    go_wp2_with ((go_at_call 55; refine (arithmetic_any _).mono ?_; rintro e w' ⟨rfl, rfl⟩))
    go_ret2
    exact ⟨rfl, (Below.refl _ _).alloc (Nat.le_refl _) _⟩

set_option maxHeartbeats 400000 in
theorem calc_4 (x y : Int) (hx0 : 0 ≤ x) (hx : x < 4294967296) (hy0 : 0 ≤ y) (hy : y < 4294967296) (w : World) :
    Calls Try.prog 17 #[.int .i64 4, .int .u32 x, .int .u32 y] w fun e w' => e = .returned (.tuple #[.int .u32 ((x + y) % 4294967296), .int .i64 0]) ∧ Below w.heap.size w w' := by
  have hlk := fun (w : World) g' hg => run_lookup_at (P := Try.prog) (t := 88) Try.underlying88 Try.underlying3 w g' arithMap 12 4 0 (.func (.func 64) #[] #[]) hg rfl
  have hlk' : ∀ w : World, (Instr.lookup 88 (.map (some w.heap.size)) (.int .i64 4) false).run Try.prog (w.alloc (.map arithMap 12)) = .ok (.func (.func 64) #[] #[]) (w.alloc (.map arithMap 12)) := fun w => hlk _ _ (heap_alloc_last w _)
  clear hlk
  have he := eql_func
  go_enter Try.func17, Try.ntmps17
  go_wp2_with (first | (go_at_call 55; refine (arithmetic_any _).mono ?_; rintro e w' ⟨rfl, rfl⟩) | (go_at_call 64; refine (arith_4 x y hx0 hx hy0 hy _).mono ?_; rintro e w' ⟨rfl, rfl⟩))
  go_ret2
  exact ⟨rfl, (Below.refl _ _).alloc (Nat.le_refl _) _⟩
set_option maxHeartbeats 400000 in
theorem calc_5 (x y : Int) (hx0 : 0 ≤ x) (hx : x < 4294967296) (hy0 : 0 ≤ y) (hy : y < 4294967296) (w : World) :
    Calls Try.prog 17 #[.int .i64 5, .int .u32 x, .int .u32 y] w fun e w' => e = .returned (.tuple #[.int .u32 ((x - y) % 4294967296), .int .i64 0]) ∧ Below w.heap.size w w' := by
  have hlk := fun (w : World) g' hg => run_lookup_at (P := Try.prog) (t := 88) Try.underlying88 Try.underlying3 w g' arithMap 12 5 1 (.func (.func 65) #[] #[]) hg rfl
  have hlk' : ∀ w : World, (Instr.lookup 88 (.map (some w.heap.size)) (.int .i64 5) false).run Try.prog (w.alloc (.map arithMap 12)) = .ok (.func (.func 65) #[] #[]) (w.alloc (.map arithMap 12)) := fun w => hlk _ _ (heap_alloc_last w _)
  clear hlk
  have he := eql_func
  go_enter Try.func17, Try.ntmps17
  go_wp2_with (first | (go_at_call 55; refine (arithmetic_any _).mono ?_; rintro e w' ⟨rfl, rfl⟩) | (go_at_call 65; refine (arith_5 x y hx0 hx hy0 hy _).mono ?_; rintro e w' ⟨rfl, rfl⟩))
  go_ret2
  exact ⟨rfl, (Below.refl _ _).alloc (Nat.le_refl _) _⟩
set_option maxHeartbeats 400000 in
theorem calc_6 (x y : Int) (hx0 : 0 ≤ x) (hx : x < 4294967296) (hy0 : 0 ≤ y) (hy : y < 4294967296) (w : World) :
    Calls Try.prog 17 #[.int .i64 6, .int .u32 x, .int .u32 y] w fun e w' => e = .returned (.tuple #[.int .u32 (x * y % 4294967296), .int .i64 0]) ∧ Below w.heap.size w w' := by
  have hlk := fun (w : World) g' hg => run_lookup_at (P := Try.prog) (t := 88) Try.underlying88 Try.underlying3 w g' arithMap 12 6 2 (.func (.func 66) #[] #[]) hg rfl
  have hlk' : ∀ w : World, (Instr.lookup 88 (.map (some w.heap.size)) (.int .i64 6) false).run Try.prog (w.alloc (.map arithMap 12)) = .ok (.func (.func 66) #[] #[]) (w.alloc (.map arithMap 12)) := fun w => hlk _ _ (heap_alloc_last w _)
  clear hlk
  have he := eql_func
  go_enter Try.func17, Try.ntmps17
  go_wp2_with (first | (go_at_call 55; refine (arithmetic_any _).mono ?_; rintro e w' ⟨rfl, rfl⟩) | (go_at_call 66; refine (arith_6 x y hx0 hx hy0 hy _).mono ?_; rintro e w' ⟨rfl, rfl⟩))
  go_ret2
  exact ⟨rfl, (Below.refl _ _).alloc (Nat.le_refl _) _⟩
set_option maxHeartbeats 400000 in
theorem calc_9 (x y : Int) (hx0 : 0 ≤ x) (hx : x < 4294967296) (hy0 : 0 ≤ y) (hy : y < 4294967296) (w : World) :
    Calls Try.prog 17 #[.int .i64 9, .int .u32 x, .int .u32 y] w fun e w' => e = .returned (.tuple #[.int .u32 (bits .and .u32 x y), .int .i64 0]) ∧ Below w.heap.size w w' := by
  have hlk := fun (w : World) g' hg => run_lookup_at (P := Try.prog) (t := 88) Try.underlying88 Try.underlying3 w g' arithMap 12 9 3 (.func (.func 67) #[] #[]) hg rfl
  have hlk' : ∀ w : World, (Instr.lookup 88 (.map (some w.heap.size)) (.int .i64 9) false).run Try.prog (w.alloc (.map arithMap 12)) = .ok (.func (.func 67) #[] #[]) (w.alloc (.map arithMap 12)) := fun w => hlk _ _ (heap_alloc_last w _)
  clear hlk
  have he := eql_func
  go_enter Try.func17, Try.ntmps17
  go_wp2_with (first | (go_at_call 55; refine (arithmetic_any _).mono ?_; rintro e w' ⟨rfl, rfl⟩) | (go_at_call 67; refine (arith_9 x y hx0 hx hy0 hy _).mono ?_; rintro e w' ⟨rfl, rfl⟩))
  go_ret2
  exact ⟨rfl, (Below.refl _ _).alloc (Nat.le_refl _) _⟩
set_option maxHeartbeats 400000 in
theorem calc_10 (x y : Int) (hx0 : 0 ≤ x) (hx : x < 4294967296) (hy0 : 0 ≤ y) (hy : y < 4294967296) (w : World) :
    Calls Try.prog 17 #[.int .i64 10, .int .u32 x, .int .u32 y] w fun e w' => e = .returned (.tuple #[.int .u32 (bits .or .u32 x y), .int .i64 0]) ∧ Below w.heap.size w w' := by
  have hlk := fun (w : World) g' hg => run_lookup_at (P := Try.prog) (t := 88) Try.underlying88 Try.underlying3 w g' arithMap 12 10 4 (.func (.func 68) #[] #[]) hg rfl
  have hlk' : ∀ w : World, (Instr.lookup 88 (.map (some w.heap.size)) (.int .i64 10) false).run Try.prog (w.alloc (.map arithMap 12)) = .ok (.func (.func 68) #[] #[]) (w.alloc (.map arithMap 12)) := fun w => hlk _ _ (heap_alloc_last w _)
  clear hlk
  have he := eql_func
  go_enter Try.func17, Try.ntmps17
  go_wp2_with (first | (go_at_call 55; refine (arithmetic_any _).mono ?_; rintro e w' ⟨rfl, rfl⟩) | (go_at_call 68; refine (arith_10 x y hx0 hx hy0 hy _).mono ?_; rintro e w' ⟨rfl, rfl⟩))
  go_ret2
  exact ⟨rfl, (Below.refl _ _).alloc (Nat.le_refl _) _⟩
set_option maxHeartbeats 400000 in
theorem calc_11 (x y : Int) (hx0 : 0 ≤ x) (hx : x < 4294967296) (hy0 : 0 ≤ y) (hy : y < 4294967296) (w : World) :
    Calls Try.prog 17 #[.int .i64 11, .int .u32 x, .int .u32 y] w fun e w' => e = .returned (.tuple #[.int .u32 (bits .xor .u32 x y), .int .i64 0]) ∧ Below w.heap.size w w' := by
  have hlk := fun (w : World) g' hg => run_lookup_at (P := Try.prog) (t := 88) Try.underlying88 Try.underlying3 w g' arithMap 12 11 5 (.func (.func 69) #[] #[]) hg rfl
  have hlk' : ∀ w : World, (Instr.lookup 88 (.map (some w.heap.size)) (.int .i64 11) false).run Try.prog (w.alloc (.map arithMap 12)) = .ok (.func (.func 69) #[] #[]) (w.alloc (.map arithMap 12)) := fun w => hlk _ _ (heap_alloc_last w _)
  clear hlk
  have he := eql_func
  go_enter Try.func17, Try.ntmps17
  go_wp2_with (first | (go_at_call 55; refine (arithmetic_any _).mono ?_; rintro e w' ⟨rfl, rfl⟩) | (go_at_call 69; refine (arith_11 x y hx0 hx hy0 hy _).mono ?_; rintro e w' ⟨rfl, rfl⟩))
  go_ret2
  exact ⟨rfl, (Below.refl _ _).alloc (Nat.le_refl _) _⟩
set_option maxHeartbeats 400000 in
theorem calc_12 (x y : Int) (hx0 : 0 ≤ x) (hx : x < 4294967296) (hy0 : 0 ≤ y) (hy : y < 4294967296) (w : World) :
    Calls Try.prog 17 #[.int .i64 12, .int .u32 x, .int .u32 y] w fun e w' => e = .returned (.tuple #[.int .u32 (x * 2 ^ (y % 32).toNat % 4294967296), .int .i64 0]) ∧ Below w.heap.size w w' := by
  have hlk := fun (w : World) g' hg => run_lookup_at (P := Try.prog) (t := 88) Try.underlying88 Try.underlying3 w g' arithMap 12 12 6 (.func (.func 70) #[] #[]) hg rfl
  have hlk' : ∀ w : World, (Instr.lookup 88 (.map (some w.heap.size)) (.int .i64 12) false).run Try.prog (w.alloc (.map arithMap 12)) = .ok (.func (.func 70) #[] #[]) (w.alloc (.map arithMap 12)) := fun w => hlk _ _ (heap_alloc_last w _)
  clear hlk
  have he := eql_func
  go_enter Try.func17, Try.ntmps17
  go_wp2_with (first | (go_at_call 55; refine (arithmetic_any _).mono ?_; rintro e w' ⟨rfl, rfl⟩) | (go_at_call 70; refine (arith_12 x y hx0 hx hy0 hy _).mono ?_; rintro e w' ⟨rfl, rfl⟩))
  go_ret2
  exact ⟨rfl, (Below.refl _ _).alloc (Nat.le_refl _) _⟩
set_option maxHeartbeats 400000 in
theorem calc_13 (x y : Int) (hx0 : 0 ≤ x) (hx : x < 4294967296) (hy0 : 0 ≤ y) (hy : y < 4294967296) (w : World) :
    Calls Try.prog 17 #[.int .i64 13, .int .u32 x, .int .u32 y] w fun e w' => e = .returned (.tuple #[.int .u32 (x / 2 ^ (y % 32).toNat), .int .i64 0]) ∧ Below w.heap.size w w' := by
  have hlk := fun (w : World) g' hg => run_lookup_at (P := Try.prog) (t := 88) Try.underlying88 Try.underlying3 w g' arithMap 12 13 7 (.func (.func 71) #[] #[]) hg rfl
  have hlk' : ∀ w : World, (Instr.lookup 88 (.map (some w.heap.size)) (.int .i64 13) false).run Try.prog (w.alloc (.map arithMap 12)) = .ok (.func (.func 71) #[] #[]) (w.alloc (.map arithMap 12)) := fun w => hlk _ _ (heap_alloc_last w _)
  clear hlk
  have he := eql_func
  go_enter Try.func17, Try.ntmps17
  go_wp2_with (first | (go_at_call 55; refine (arithmetic_any _).mono ?_; rintro e w' ⟨rfl, rfl⟩) | (go_at_call 71; refine (arith_13 x y hx0 hx hy0 hy _).mono ?_; rintro e w' ⟨rfl, rfl⟩))
  go_ret2
  exact ⟨rfl, (Below.refl _ _).alloc (Nat.le_refl _) _⟩
set_option maxHeartbeats 400000 in
theorem calc_14 (x y : Int) (hx0 : 0 ≤ x) (hx : x < 4294967296) (hy0 : 0 ≤ y) (hy : y < 4294967296) (w : World) :
    Calls Try.prog 17 #[.int .i64 14, .int .u32 x, .int .u32 y] w fun e w' => e = .returned (.tuple #[.int .u32 (fl (decide (wrap32 x < wrap32 y))), .int .i64 0]) ∧ Below w.heap.size w w' := by
  have hlk := fun (w : World) g' hg => run_lookup_at (P := Try.prog) (t := 88) Try.underlying88 Try.underlying3 w g' arithMap 12 14 8 (.func (.func 72) #[] #[]) hg rfl
  have hlk' : ∀ w : World, (Instr.lookup 88 (.map (some w.heap.size)) (.int .i64 14) false).run Try.prog (w.alloc (.map arithMap 12)) = .ok (.func (.func 72) #[] #[]) (w.alloc (.map arithMap 12)) := fun w => hlk _ _ (heap_alloc_last w _)
  clear hlk
  have he := eql_func
  go_enter Try.func17, Try.ntmps17
  go_wp2_with (first | (go_at_call 55; refine (arithmetic_any _).mono ?_; rintro e w' ⟨rfl, rfl⟩) | (go_at_call 72; refine (arith_14 x y hx0 hx hy0 hy _).mono ?_; rintro e w' ⟨rfl, rfl⟩))
  go_ret2
  exact ⟨rfl, (Below.refl _ _).alloc (Nat.le_refl _) _⟩
set_option maxHeartbeats 400000 in
theorem calc_15 (x y : Int) (hx0 : 0 ≤ x) (hx : x < 4294967296) (hy0 : 0 ≤ y) (hy : y < 4294967296) (w : World) :
    Calls Try.prog 17 #[.int .i64 15, .int .u32 x, .int .u32 y] w fun e w' => e = .returned (.tuple #[.int .u32 (fl (x == y)), .int .i64 0]) ∧ Below w.heap.size w w' := by
  have hlk := fun (w : World) g' hg => run_lookup_at (P := Try.prog) (t := 88) Try.underlying88 Try.underlying3 w g' arithMap 12 15 9 (.func (.func 74) #[] #[]) hg rfl
  have hlk' : ∀ w : World, (Instr.lookup 88 (.map (some w.heap.size)) (.int .i64 15) false).run Try.prog (w.alloc (.map arithMap 12)) = .ok (.func (.func 74) #[] #[]) (w.alloc (.map arithMap 12)) := fun w => hlk _ _ (heap_alloc_last w _)
  clear hlk
  have he := eql_func
  go_enter Try.func17, Try.ntmps17
  go_wp2_with (first | (go_at_call 55; refine (arithmetic_any _).mono ?_; rintro e w' ⟨rfl, rfl⟩) | (go_at_call 74; refine (arith_15 x y hx0 hx hy0 hy _).mono ?_; rintro e w' ⟨rfl, rfl⟩))
  go_ret2
  exact ⟨rfl, (Below.refl _ _).alloc (Nat.le_refl _) _⟩
set_option maxHeartbeats 400000 in
theorem calc_7 (x y : Int) (hx0 : 0 ≤ x) (hx : x < 4294967296) (hy0 : 0 ≤ y) (hy : y < 4294967296) (hz : ¬ y = 0) (w : World) :
    Calls Try.prog 17 #[.int .i64 7, .int .u32 x, .int .u32 y] w fun e w' => e = .returned (.tuple #[.int .u32 (wrap64 ((sg x).tdiv (sg y)) % 4294967296), .int .i64 0]) ∧ Below w.heap.size w w' := by
  have hlk := fun (w : World) g' hg => run_lookup_at (P := Try.prog) (t := 88) Try.underlying88 Try.underlying3 w g' arithMap 12 7 10 (.func (.func 75) #[] #[]) hg rfl
  have hlk' : ∀ w : World, (Instr.lookup 88 (.map (some w.heap.size)) (.int .i64 7) false).run Try.prog (w.alloc (.map arithMap 12)) = .ok (.func (.func 75) #[] #[]) (w.alloc (.map arithMap 12)) := fun w => hlk _ _ (heap_alloc_last w _)
  clear hlk
  have he := eql_func
  have hb : (y == 0) = false := beq_eq_false_iff_ne.mpr hz
  go_enter Try.func17, Try.ntmps17
  go_wp2_with (first | (go_at_call 55; refine (arithmetic_any _).mono ?_; rintro e w' ⟨rfl, rfl⟩) | (go_at_call 75; refine (arith_7 x y hx0 hx hy0 hy hz _).mono ?_; rintro e w' ⟨rfl, rfl⟩))
  go_ret2
  exact ⟨rfl, (Below.refl _ _).alloc (Nat.le_refl _) _⟩
set_option maxHeartbeats 400000 in
theorem calc_8 (x y : Int) (hx0 : 0 ≤ x) (hx : x < 4294967296) (hy0 : 0 ≤ y) (hy : y < 4294967296) (hz : ¬ y = 0) (w : World) :
    Calls Try.prog 17 #[.int .i64 8, .int .u32 x, .int .u32 y] w fun e w' => e = .returned (.tuple #[.int .u32 ((sg x).tmod (sg y) % 4294967296), .int .i64 0]) ∧ Below w.heap.size w w' := by
  have hlk := fun (w : World) g' hg => run_lookup_at (P := Try.prog) (t := 88) Try.underlying88 Try.underlying3 w g' arithMap 12 8 11 (.func (.func 76) #[] #[]) hg rfl
  have hlk' : ∀ w : World, (Instr.lookup 88 (.map (some w.heap.size)) (.int .i64 8) false).run Try.prog (w.alloc (.map arithMap 12)) = .ok (.func (.func 76) #[] #[]) (w.alloc (.map arithMap 12)) := fun w => hlk _ _ (heap_alloc_last w _)
  clear hlk
  have he := eql_func
  have hb : (y == 0) = false := beq_eq_false_iff_ne.mpr hz
  go_enter Try.func17, Try.ntmps17
  go_wp2_with (first | (go_at_call 55; refine (arithmetic_any _).mono ?_; rintro e w' ⟨rfl, rfl⟩) | (go_at_call 76; refine (arith_8 x y hx0 hx hy0 hy hz _).mono ?_; rintro e w' ⟨rfl, rfl⟩))
  go_ret2
  exact ⟨rfl, (Below.refl _ _).alloc (Nat.le_refl _) _⟩
/-- What instr.Calculate answers. -/
def instr_Calculate.f (op x y : Int) : Option (Int × Int) :=
  if ¬ (0 ≤ x ∧ x < 4294967296 ∧ 0 ≤ y ∧ y < 4294967296) then none else if op < 4 ∨ 15 < op then some (0, 11) else if (op = 7 ∨ op = 8) ∧ y = 0 then some (0, 38) else some (arith op x y, 0)
theorem arithMap_none {op : Int} (h : op < 4 ∨ 15 < op) : Instr.findNow (.int .i64) (.int .i64 op) arithMap.toList 0 = some none := by
  have h4 : (op == 4) = false := beq_eq_false_iff_ne.mpr (by omega)
  have h5 : (op == 5) = false := beq_eq_false_iff_ne.mpr (by omega)
  have h6 : (op == 6) = false := beq_eq_false_iff_ne.mpr (by omega)
  have h7 : (op == 7) = false := beq_eq_false_iff_ne.mpr (by omega)
  have h8 : (op == 8) = false := beq_eq_false_iff_ne.mpr (by omega)
  have h9 : (op == 9) = false := beq_eq_false_iff_ne.mpr (by omega)
  have h10 : (op == 10) = false := beq_eq_false_iff_ne.mpr (by omega)
  have h11 : (op == 11) = false := beq_eq_false_iff_ne.mpr (by omega)
  have h12 : (op == 12) = false := beq_eq_false_iff_ne.mpr (by omega)
  have h13 : (op == 13) = false := beq_eq_false_iff_ne.mpr (by omega)
  have h14 : (op == 14) = false := beq_eq_false_iff_ne.mpr (by omega)
  have h15 : (op == 15) = false := beq_eq_false_iff_ne.mpr (by omega)
  simp [arithMap, Instr.findNow, Instr.sameNow, h4, h5, h6, h7, h8, h9, h10, h11, h12, h13, h14, h15]
theorem Calls_cast {P : Program} {f : FuncId} {args : Array Value} {w : World} {R R' : Ending → World → Prop} (h : Calls P f args w R) (hr : ∀ e w', R e w' → R' e w') : Calls P f args w R' := h.mono hr
theorem instr_Calculate.calls (a0 a1 a2 : Int) (r1 r2 : Int) (w : World) (h : instr_Calculate.f a0 a1 a2 = some (r1, r2)) :
    Calls Try.prog 17 #[.int .i64 a0, .int .u32 a1, .int .u32 a2] w fun e w' => e = .returned (.tuple #[.int .u32 r1, .int .i64 r2]) ∧ Below w.heap.size w w' := by
  unfold instr_Calculate.f at h
  by_cases hb : 0 ≤ a1 ∧ a1 < 4294967296 ∧ 0 ≤ a2 ∧ a2 < 4294967296
  case neg => rw [if_pos hb] at h; cases h
  rw [if_neg (fun h => h hb)] at h
  have hx : 0 ≤ a1 ∧ a1 < 4294967296 := ⟨hb.1, hb.2.1⟩
  have hy : 0 ≤ a2 ∧ a2 < 4294967296 := hb.2.2
  clear hb
  by_cases c : a0 < 4 ∨ 15 < a0
  · rw [if_pos c] at h
    simp only [Option.some.injEq, Prod.mk.injEq] at h
    obtain ⟨rfl, rfl⟩ := h
    exact calc_none a0 a1 a2 (arithMap_none c) w
  · rw [if_neg c] at h
    by_cases d : (a0 = 7 ∨ a0 = 8) ∧ a2 = 0
    · rw [if_pos d] at h
      simp only [Option.some.injEq, Prod.mk.injEq] at h
      obtain ⟨rfl, rfl⟩ := h
      obtain ⟨d1, rfl⟩ := d
      rcases d1 with rfl | rfl
      · exact calc_div0 7 a1 10 75 rfl (.inl rfl) w
      · exact calc_div0 8 a1 11 76 rfl (.inr rfl) w
    · rw [if_neg d] at h
      simp only [Option.some.injEq, Prod.mk.injEq] at h
      obtain ⟨rfl, rfl⟩ := h
      have hc : a0 = 4 ∨ a0 = 5 ∨ a0 = 6 ∨ a0 = 7 ∨ a0 = 8 ∨ a0 = 9 ∨ a0 = 10 ∨ a0 = 11 ∨ a0 = 12 ∨ a0 = 13 ∨ a0 = 14 ∨ a0 = 15 := by omega
      rcases hc with rfl | rfl | rfl | rfl | rfl | rfl | rfl | rfl | rfl | rfl | rfl | rfl
      · exact calc_4 a1 a2 hx.1 hx.2 hy.1 hy.2 w
      · exact calc_5 a1 a2 hx.1 hx.2 hy.1 hy.2 w
      · exact calc_6 a1 a2 hx.1 hx.2 hy.1 hy.2 w
      · exact calc_7 a1 a2 hx.1 hx.2 hy.1 hy.2 (by intro hz; exact d ⟨by omega, hz⟩) w
      · exact calc_8 a1 a2 hx.1 hx.2 hy.1 hy.2 (by intro hz; exact d ⟨by omega, hz⟩) w
      · exact calc_9 a1 a2 hx.1 hx.2 hy.1 hy.2 w
      · exact calc_10 a1 a2 hx.1 hx.2 hy.1 hy.2 w
      · exact calc_11 a1 a2 hx.1 hx.2 hy.1 hy.2 w
      · exact calc_12 a1 a2 hx.1 hx.2 hy.1 hy.2 w
      · exact calc_13 a1 a2 hx.1 hx.2 hy.1 hy.2 w
      · exact calc_14 a1 a2 hx.1 hx.2 hy.1 hy.2 w
      · exact calc_15 a1 a2 hx.1 hx.2 hy.1 hy.2 w
end Go.Proofs.Ytdnhekgdpolenaa
