/- The table of the operations (instr.operations) and its reading (instr.of), walked by hand. -/
import Derived.Test.YtdnhekgdpolenaaProg
import Derived.WalkKit
import Derived.WalkSpells
import Derived.WalkLawsBesides
import Derived.Deep.WholeRow
import Derived.Laws.CopyOwn
import Derived.KernelRfl
namespace Go.Proofs.Ytdnhekgdpolenaa
set_option linter.unusedVariables false
set_option linter.unusedSimpArgs false
open Go.RowKit
theorem wpList_runs {P : Program} {ops : Array Oper} {Q : Exit → Act → World → Prop} {a : Act} {w w' : World} {rest : List Oper} {o : Oper} {v : Value} (hg : o.guard = none)
    (h : (execOp a.eval o).run P w = .ok (.value v) w') (hk : wpList P ops Q rest (a.put o.dst v) w') : wpList P ops Q (o :: rest) a w :=
  wpList_plain hg fun _ hK => by
    unfold Oper.wp
    rw [h]
    exact hK _ _ hk
theorem wpList_pure {P : Program} {ops : Array Oper} {Q : Exit → Act → World → Prop} {a : Act} {w : World} {rest : List Oper} {o : Oper} (v : Value) (hg : o.guard = none)
    (h : (execOp a.eval o).run P w = .ok (.value v) w) (hk : wpList P ops Q rest (a.put o.dst v) w) : wpList P ops Q (o :: rest) a w :=
  wpList_runs hg h hk

def opsCells : Array Value := #[.string ⟨#[104, 97, 108, 116]⟩, .int .i64 0, .int .i64 0, .int .i64 0, .string ⟨#[109, 111, 118, 101]⟩, .int .i64 2, .int .i64 0, .int .i64 0, .string ⟨#[115, 101, 116]⟩, .int .i64 4, .int .i64 (-32768), .int .i64 32767, .string ⟨#[104, 105, 103, 104]⟩, .int .i64 4, .int .i64 0, .int .i64 65535, .string ⟨#[97, 100, 100]⟩, .int .i64 3, .int .i64 0, .int .i64 0, .string ⟨#[115, 117, 98]⟩, .int .i64 3, .int .i64 0, .int .i64 0, .string ⟨#[109, 117, 108]⟩, .int .i64 3, .int .i64 0, .int .i64 0, .string ⟨#[100, 105, 118]⟩, .int .i64 3, .int .i64 0, .int .i64 0, .string ⟨#[109, 111, 100]⟩, .int .i64 3, .int .i64 0, .int .i64 0, .string ⟨#[97, 110, 100]⟩, .int .i64 3, .int .i64 0, .int .i64 0, .string ⟨#[111, 114]⟩, .int .i64 3, .int .i64 0, .int .i64 0, .string ⟨#[120, 111, 114]⟩, .int .i64 3, .int .i64 0, .int .i64 0, .string ⟨#[115, 104, 108]⟩, .int .i64 3, .int .i64 0, .int .i64 0, .string ⟨#[115, 104, 114]⟩, .int .i64 3, .int .i64 0, .int .i64 0, .string ⟨#[108, 101, 115, 115]⟩, .int .i64 3, .int .i64 0, .int .i64 0, .string ⟨#[101, 113, 117, 97, 108]⟩, .int .i64 3, .int .i64 0, .int .i64 0, .string ⟨#[97, 100, 100, 105]⟩, .int .i64 5, .int .i64 (-32768), .int .i64 32767, .string ⟨#[108, 111, 97, 100]⟩, .int .i64 5, .int .i64 (-32768), .int .i64 32767, .string ⟨#[115, 116, 111, 114, 101]⟩, .int .i64 5, .int .i64 (-32768), .int .i64 32767, .string ⟨#[108, 111, 97, 100, 98]⟩, .int .i64 5, .int .i64 (-32768), .int .i64 32767, .string ⟨#[115, 116, 111, 114, 101, 98]⟩, .int .i64 5, .int .i64 (-32768), .int .i64 32767, .string ⟨#[106, 117, 109, 112]⟩, .int .i64 6, .int .i64 0, .int .i64 4095, .string ⟨#[106, 117, 109, 112, 122]⟩, .int .i64 4, .int .i64 0, .int .i64 4095, .string ⟨#[106, 117, 109, 112, 110, 122]⟩, .int .i64 4, .int .i64 0, .int .i64 4095, .string ⟨#[99, 97, 108, 108]⟩, .int .i64 4, .int .i64 0, .int .i64 4095, .string ⟨#[98, 97, 99, 107]⟩, .int .i64 1, .int .i64 0, .int .i64 0, .string ⟨#[116, 114, 97, 112]⟩, .int .i64 6, .int .i64 0, .int .i64 255]
/-- An operation's word, form, least and greatest number. -/
def opRow : Nat → ByteArray × Int × Int × Int
  | 0 => (⟨#[104, 97, 108, 116]⟩, 0, 0, 0)
  | 1 => (⟨#[109, 111, 118, 101]⟩, 2, 0, 0)
  | 2 => (⟨#[115, 101, 116]⟩, 4, (-32768), 32767)
  | 3 => (⟨#[104, 105, 103, 104]⟩, 4, 0, 65535)
  | 4 => (⟨#[97, 100, 100]⟩, 3, 0, 0)
  | 5 => (⟨#[115, 117, 98]⟩, 3, 0, 0)
  | 6 => (⟨#[109, 117, 108]⟩, 3, 0, 0)
  | 7 => (⟨#[100, 105, 118]⟩, 3, 0, 0)
  | 8 => (⟨#[109, 111, 100]⟩, 3, 0, 0)
  | 9 => (⟨#[97, 110, 100]⟩, 3, 0, 0)
  | 10 => (⟨#[111, 114]⟩, 3, 0, 0)
  | 11 => (⟨#[120, 111, 114]⟩, 3, 0, 0)
  | 12 => (⟨#[115, 104, 108]⟩, 3, 0, 0)
  | 13 => (⟨#[115, 104, 114]⟩, 3, 0, 0)
  | 14 => (⟨#[108, 101, 115, 115]⟩, 3, 0, 0)
  | 15 => (⟨#[101, 113, 117, 97, 108]⟩, 3, 0, 0)
  | 16 => (⟨#[97, 100, 100, 105]⟩, 5, (-32768), 32767)
  | 17 => (⟨#[108, 111, 97, 100]⟩, 5, (-32768), 32767)
  | 18 => (⟨#[115, 116, 111, 114, 101]⟩, 5, (-32768), 32767)
  | 19 => (⟨#[108, 111, 97, 100, 98]⟩, 5, (-32768), 32767)
  | 20 => (⟨#[115, 116, 111, 114, 101, 98]⟩, 5, (-32768), 32767)
  | 21 => (⟨#[106, 117, 109, 112]⟩, 6, 0, 4095)
  | 22 => (⟨#[106, 117, 109, 112, 122]⟩, 4, 0, 4095)
  | 23 => (⟨#[106, 117, 109, 112, 110, 122]⟩, 4, 0, 4095)
  | 24 => (⟨#[99, 97, 108, 108]⟩, 4, 0, 4095)
  | 25 => (⟨#[98, 97, 99, 107]⟩, 1, 0, 0)
  | 26 => (⟨#[116, 114, 97, 112]⟩, 6, 0, 255)
  | _ => (⟨#[]⟩, 0, 0, 0)

set_option maxHeartbeats 4000000 in
set_option maxRecDepth 100000 in
theorem operations_any (w : World) :
    Calls Try.prog 57 #[] w fun e w' => e = .returned (.agg opsCells) ∧ w' = w.alloc (.cells opsCells 93) := by
  go_enter Try.func57, Try.ntmps57
  go_step
  go_step
  go_step
  go_step; go_step; go_step; go_step
  go_step; go_step; go_step
  go_step
  refine wpList_pure (.agg #[.string ⟨#[104, 97, 108, 116]⟩, .int .i64 0, .int .i64 0, .int .i64 0]) rfl (by kernel_rfl) ?_
  simp only [Act.put, List.setIfInBounds_toArray, List.set_cons_zero, List.set_cons_succ]
  refine wpList_pure (.agg #[.string ⟨#[109, 111, 118, 101]⟩, .int .i64 2, .int .i64 0, .int .i64 0]) rfl (by kernel_rfl) ?_
  simp only [Act.put, List.setIfInBounds_toArray, List.set_cons_zero, List.set_cons_succ]
  refine wpList_pure (.agg #[.string ⟨#[115, 101, 116]⟩, .int .i64 4, .int .i64 (-32768), .int .i64 32767]) rfl (by kernel_rfl) ?_
  simp only [Act.put, List.setIfInBounds_toArray, List.set_cons_zero, List.set_cons_succ]
  refine wpList_pure (.agg #[.string ⟨#[104, 105, 103, 104]⟩, .int .i64 4, .int .i64 0, .int .i64 65535]) rfl (by kernel_rfl) ?_
  simp only [Act.put, List.setIfInBounds_toArray, List.set_cons_zero, List.set_cons_succ]
  refine wpList_pure (.agg #[.string ⟨#[97, 100, 100]⟩, .int .i64 3, .int .i64 0, .int .i64 0]) rfl (by kernel_rfl) ?_
  simp only [Act.put, List.setIfInBounds_toArray, List.set_cons_zero, List.set_cons_succ]
  refine wpList_pure (.agg #[.string ⟨#[115, 117, 98]⟩, .int .i64 3, .int .i64 0, .int .i64 0]) rfl (by kernel_rfl) ?_
  simp only [Act.put, List.setIfInBounds_toArray, List.set_cons_zero, List.set_cons_succ]
  refine wpList_pure (.agg #[.string ⟨#[109, 117, 108]⟩, .int .i64 3, .int .i64 0, .int .i64 0]) rfl (by kernel_rfl) ?_
  simp only [Act.put, List.setIfInBounds_toArray, List.set_cons_zero, List.set_cons_succ]
  refine wpList_pure (.agg #[.string ⟨#[100, 105, 118]⟩, .int .i64 3, .int .i64 0, .int .i64 0]) rfl (by kernel_rfl) ?_
  simp only [Act.put, List.setIfInBounds_toArray, List.set_cons_zero, List.set_cons_succ]
  refine wpList_pure (.agg #[.string ⟨#[109, 111, 100]⟩, .int .i64 3, .int .i64 0, .int .i64 0]) rfl (by kernel_rfl) ?_
  simp only [Act.put, List.setIfInBounds_toArray, List.set_cons_zero, List.set_cons_succ]
  refine wpList_pure (.agg #[.string ⟨#[97, 110, 100]⟩, .int .i64 3, .int .i64 0, .int .i64 0]) rfl (by kernel_rfl) ?_
  simp only [Act.put, List.setIfInBounds_toArray, List.set_cons_zero, List.set_cons_succ]
  refine wpList_pure (.agg #[.string ⟨#[111, 114]⟩, .int .i64 3, .int .i64 0, .int .i64 0]) rfl (by kernel_rfl) ?_
  simp only [Act.put, List.setIfInBounds_toArray, List.set_cons_zero, List.set_cons_succ]
  refine wpList_pure (.agg #[.string ⟨#[120, 111, 114]⟩, .int .i64 3, .int .i64 0, .int .i64 0]) rfl (by kernel_rfl) ?_
  simp only [Act.put, List.setIfInBounds_toArray, List.set_cons_zero, List.set_cons_succ]
  refine wpList_pure (.agg #[.string ⟨#[115, 104, 108]⟩, .int .i64 3, .int .i64 0, .int .i64 0]) rfl (by kernel_rfl) ?_
  simp only [Act.put, List.setIfInBounds_toArray, List.set_cons_zero, List.set_cons_succ]
  refine wpList_pure (.agg #[.string ⟨#[115, 104, 114]⟩, .int .i64 3, .int .i64 0, .int .i64 0]) rfl (by kernel_rfl) ?_
  simp only [Act.put, List.setIfInBounds_toArray, List.set_cons_zero, List.set_cons_succ]
  refine wpList_pure (.agg #[.string ⟨#[108, 101, 115, 115]⟩, .int .i64 3, .int .i64 0, .int .i64 0]) rfl (by kernel_rfl) ?_
  simp only [Act.put, List.setIfInBounds_toArray, List.set_cons_zero, List.set_cons_succ]
  refine wpList_pure (.agg #[.string ⟨#[101, 113, 117, 97, 108]⟩, .int .i64 3, .int .i64 0, .int .i64 0]) rfl (by kernel_rfl) ?_
  simp only [Act.put, List.setIfInBounds_toArray, List.set_cons_zero, List.set_cons_succ]
  refine wpList_pure (.agg #[.string ⟨#[97, 100, 100, 105]⟩, .int .i64 5, .int .i64 (-32768), .int .i64 32767]) rfl (by kernel_rfl) ?_
  simp only [Act.put, List.setIfInBounds_toArray, List.set_cons_zero, List.set_cons_succ]
  refine wpList_pure (.agg #[.string ⟨#[108, 111, 97, 100]⟩, .int .i64 5, .int .i64 (-32768), .int .i64 32767]) rfl (by kernel_rfl) ?_
  simp only [Act.put, List.setIfInBounds_toArray, List.set_cons_zero, List.set_cons_succ]
  refine wpList_pure (.agg #[.string ⟨#[115, 116, 111, 114, 101]⟩, .int .i64 5, .int .i64 (-32768), .int .i64 32767]) rfl (by kernel_rfl) ?_
  simp only [Act.put, List.setIfInBounds_toArray, List.set_cons_zero, List.set_cons_succ]
  refine wpList_pure (.agg #[.string ⟨#[108, 111, 97, 100, 98]⟩, .int .i64 5, .int .i64 (-32768), .int .i64 32767]) rfl (by kernel_rfl) ?_
  simp only [Act.put, List.setIfInBounds_toArray, List.set_cons_zero, List.set_cons_succ]
  refine wpList_pure (.agg #[.string ⟨#[115, 116, 111, 114, 101, 98]⟩, .int .i64 5, .int .i64 (-32768), .int .i64 32767]) rfl (by kernel_rfl) ?_
  simp only [Act.put, List.setIfInBounds_toArray, List.set_cons_zero, List.set_cons_succ]
  refine wpList_pure (.agg #[.string ⟨#[106, 117, 109, 112]⟩, .int .i64 6, .int .i64 0, .int .i64 4095]) rfl (by kernel_rfl) ?_
  simp only [Act.put, List.setIfInBounds_toArray, List.set_cons_zero, List.set_cons_succ]
  refine wpList_pure (.agg #[.string ⟨#[106, 117, 109, 112, 122]⟩, .int .i64 4, .int .i64 0, .int .i64 4095]) rfl (by kernel_rfl) ?_
  simp only [Act.put, List.setIfInBounds_toArray, List.set_cons_zero, List.set_cons_succ]
  refine wpList_pure (.agg #[.string ⟨#[106, 117, 109, 112, 110, 122]⟩, .int .i64 4, .int .i64 0, .int .i64 4095]) rfl (by kernel_rfl) ?_
  simp only [Act.put, List.setIfInBounds_toArray, List.set_cons_zero, List.set_cons_succ]
  refine wpList_pure (.agg #[.string ⟨#[99, 97, 108, 108]⟩, .int .i64 4, .int .i64 0, .int .i64 4095]) rfl (by kernel_rfl) ?_
  simp only [Act.put, List.setIfInBounds_toArray, List.set_cons_zero, List.set_cons_succ]
  refine wpList_pure (.agg #[.string ⟨#[98, 97, 99, 107]⟩, .int .i64 1, .int .i64 0, .int .i64 0]) rfl (by kernel_rfl) ?_
  simp only [Act.put, List.setIfInBounds_toArray, List.set_cons_zero, List.set_cons_succ]
  refine wpList_pure (.agg #[.string ⟨#[116, 114, 97, 112]⟩, .int .i64 6, .int .i64 0, .int .i64 255]) rfl (by kernel_rfl) ?_
  simp only [Act.put, List.setIfInBounds_toArray, List.set_cons_zero, List.set_cons_succ]
  refine wpList_pure (.agg opsCells) rfl (by kernel_rfl) ?_
  simp only [Act.put, List.setIfInBounds_toArray, List.set_cons_zero, List.set_cons_succ]
  refine wpList_store_row rfl 93 _ _ rfl w.heap.size opsCells rfl rfl 93 Try.zeroCells93 (heap_alloc_last w _) (by kernel_rfl) (by kernel_rfl) (by kernel_rfl) ?_
  rw [World.setRow_alloc_new]
  simp only [Act.put]
  go_step; go_step; go_step; go_step
  refine bodyPost_ret (results_cell_row rfl _ _ w.heap.size 93 opsCells (0, 0) _ rfl (heap_alloc_last w _) Try.underlying93 rfl (by kernel_rfl)) rfl ?_
  exact ⟨rfl, rfl⟩

theorem nat_lt_27 {n : Nat} (h : n < 27) : n = 0 ∨ n = 1 ∨ n = 2 ∨ n = 3 ∨ n = 4 ∨ n = 5 ∨ n = 6 ∨ n = 7 ∨ n = 8 ∨ n = 9 ∨ n = 10 ∨ n = 11 ∨ n = 12 ∨ n = 13 ∨ n = 14 ∨ n = 15 ∨ n = 16 ∨ n = 17 ∨ n = 18 ∨ n = 19 ∨ n = 20 ∨ n = 21 ∨ n = 22 ∨ n = 23 ∨ n = 24 ∨ n = 25 ∨ n = 26 := by omega
set_option maxRecDepth 100000 in
theorem index_ops (n : Nat) (h : n < 27) (w : World) : (Instr.index 93 (.agg opsCells) (.int .i64 n)).run Try.prog w = .ok (.agg #[.string (opRow n).1, .int .i64 (opRow n).2.1, .int .i64 (opRow n).2.2.1, .int .i64 (opRow n).2.2.2]) w := by
  rcases nat_lt_27 h with rfl | rfl | rfl | rfl | rfl | rfl | rfl | rfl | rfl | rfl | rfl | rfl | rfl | rfl | rfl | rfl | rfl | rfl | rfl | rfl | rfl | rfl | rfl | rfl | rfl | rfl | rfl <;> kernel_rfl
def instr_of.f (op : Int) : Option (ByteArray × Int × Int × Int × Bool) := if 0 ≤ op ∧ op < 27 then some ((opRow op.toNat).1, (opRow op.toNat).2.1, (opRow op.toNat).2.2.1, (opRow op.toNat).2.2.2, true) else some (⟨#[]⟩, 0, 0, 0, false)
set_option maxHeartbeats 4000000 in
theorem of_in (n : Nat) (h : n < 27) (w : World) :
    Calls Try.prog 46 #[.int .i64 n] w fun e w' => e = .returned (.tuple #[.agg #[.string (opRow n).1, .int .i64 (opRow n).2.1, .int .i64 (opRow n).2.2.1, .int .i64 (opRow n).2.2.2], .bool true]) ∧ Below w.heap.size w w' := by
  have h1 : (n : Int) < 27 := by omega
  have h0 : (0 : Int) ≤ n := by omega
  have hidx := index_ops n h
  generalize (opRow n).1 = r1 at *
  generalize (opRow n).2.1 = r2 at *
  generalize (opRow n).2.2.1 = r3 at *
  generalize (opRow n).2.2.2 = r4 at *
  go_enter Try.func46, Try.ntmps46
  go_wp2_with ((go_at_call 57; refine (operations_any _).mono ?_; rintro e w' ⟨rfl, rfl⟩))
  refine bodyPost_ret (v := .tuple #[.agg #[.string r1, .int .i64 r2, .int .i64 r3, .int .i64 r4], .bool true]) (by simp [results, Try.results46, go_sem]) rfl ⟨rfl, ?_⟩
  exact ((Below.refl _ _).alloc (Nat.le_refl _) _).alloc (by simp) _
set_option maxHeartbeats 4000000 in
theorem of_low (op : Int) (h : op < 0) (w : World) :
    Calls Try.prog 46 #[.int .i64 op] w fun e w' => e = .returned (.tuple #[.agg #[.string ⟨#[]⟩, .int .i64 0, .int .i64 0, .int .i64 0], .bool false]) ∧ Below w.heap.size w w' := by
  go_enter Try.func46, Try.ntmps46
  go_wp2_with fail
  refine bodyPost_ret (v := .tuple #[.agg #[.string ⟨#[]⟩, .int .i64 0, .int .i64 0, .int .i64 0], .bool false]) (by simp [results, Try.results46, go_sem]) rfl ⟨rfl, ?_⟩
  exact (Below.refl _ _).alloc (Nat.le_refl _) _
set_option maxHeartbeats 4000000 in
theorem of_high (op : Int) (h0 : 0 ≤ op) (h : 27 ≤ op) (w : World) :
    Calls Try.prog 46 #[.int .i64 op] w fun e w' => e = .returned (.tuple #[.agg #[.string ⟨#[]⟩, .int .i64 0, .int .i64 0, .int .i64 0], .bool false]) ∧ Below w.heap.size w w' := by
  go_enter Try.func46, Try.ntmps46
  go_wp2_with fail
  refine bodyPost_ret (v := .tuple #[.agg #[.string ⟨#[]⟩, .int .i64 0, .int .i64 0, .int .i64 0], .bool false]) (by simp [results, Try.results46, go_sem]) rfl ⟨rfl, ?_⟩
  exact (Below.refl _ _).alloc (Nat.le_refl _) _
theorem instr_of.calls (a0 : Int) (r1 : ByteArray) (r2 r3 r4 : Int) (r5 : Bool) (w : World) (h : instr_of.f a0 = some (r1, r2, r3, r4, r5)) :
    Calls Try.prog 46 #[.int .i64 a0] w fun e w' => e = .returned (.tuple #[.agg #[.string r1, .int .i64 r2, .int .i64 r3, .int .i64 r4], .bool r5]) ∧ Below w.heap.size w w' := by
  unfold instr_of.f at h
  by_cases c : 0 ≤ a0 ∧ a0 < 27
  · rw [if_pos c] at h
    simp only [Option.some.injEq, Prod.mk.injEq] at h
    obtain ⟨rfl, rfl, rfl, rfl, rfl⟩ := h
    obtain ⟨n, rfl⟩ := Int.eq_ofNat_of_zero_le c.1
    rw [Int.toNat_natCast]
    exact of_in n (by omega) w
  · rw [if_neg c] at h
    simp only [Option.some.injEq, Prod.mk.injEq] at h
    obtain ⟨rfl, rfl, rfl, rfl, rfl⟩ := h
    by_cases h0 : a0 < 0
    · exact of_low a0 h0 w
    · exact of_high a0 (by omega) (by omega) w
end Go.Proofs.Ytdnhekgdpolenaa
