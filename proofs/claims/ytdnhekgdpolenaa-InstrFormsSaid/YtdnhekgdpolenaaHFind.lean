/- instr.Find, walked by hand: slices.IndexFunc over the table of the operations, with a closure that compares words. -/
import Derived.Test.YtdnhekgdpolenaaHOps
import Derived.Lib.Hide
namespace Go.Proofs.Ytdnhekgdpolenaa
set_option linter.unusedVariables false
set_option linter.unusedSimpArgs false
open Go.RowKit
theorem closure_any (s : ByteArray) (f lo hi : Int) (word : ByteArray) (g : Nat) (w : World) (hg : w.cell? ⟨g, 0, none⟩ = some (.string word)) :
    Calls Try.prog 59 #[.agg #[.string s, .int .i64 f, .int .i64 lo, .int .i64 hi], .pointer (some ⟨g, 0, none⟩)] w fun e w' => e = .returned (.bool (s.toList == word.toList)) ∧ Below w.heap.size w w' := by
  have hlt := World.block_lt_of_cell? w _ hg
  have hu83 := Try.underlying83
  go_enter Try.func59, Try.ntmps59
  go_wp2_with fail
  go_ret
  exact ⟨rfl, (Below.refl _ _).alloc (Nat.le_refl _) _⟩
/-- The number of the operation with a word, looked for from number i on, d of them. -/
def lookFrom (word : ByteArray) : Nat → Nat → Option Nat
  | 0, _ => none
  | d + 1, i => if (opRow i).1.toList == word.toList then some i else lookFrom word d (i + 1)
def idxOf (o : Option Nat) : Int := match o with | some n => n | none => -1
theorem opsCells_at (n : Nat) (h : n < 27) : opsCells[n * 4]? = some (.string (opRow n).1) ∧ opsCells[n * 4 + 1]? = some (.int .i64 (opRow n).2.1) ∧ opsCells[n * 4 + 2]? = some (.int .i64 (opRow n).2.2.1) ∧ opsCells[n * 4 + 3]? = some (.int .i64 (opRow n).2.2.2) := by
  rcases nat_lt_27 h with rfl | rfl | rfl | rfl | rfl | rfl | rfl | rfl | rfl | rfl | rfl | rfl | rfl | rfl | rfl | rfl | rfl | rfl | rfl | rfl | rfl | rfl | rfl | rfl | rfl | rfl | rfl <;> exact ⟨rfl, rfl, rfl, rfl⟩
set_option maxHeartbeats 1000000 in
set_option maxRecDepth 100000 in
theorem indexFunc_ops (word : ByteArray) (b g : Nat) (w : World) (hb : w.heap[b]? = some (.cells opsCells 93 (0, 0))) (hg : w.cell? ⟨g, 0, none⟩ = some (.string word)) :
    Calls Try.prog 58 #[.slice (some ⟨b, 0, none⟩) 27 27, .func (.func 59) #[] #[.pointer (some ⟨g, 0, none⟩)]] w fun e w' => e = .returned (.int .i64 (idxOf (lookFrom word 27 0))) ∧ Below w.heap.size w w' := by
  have hlb : b < w.heap.size := (Array.getElem?_eq_some_iff.1 hb).1
  have hlg := World.block_lt_of_cell? w _ hg
  have hu83 := Try.underlying83
  go_enter Try.func58, Try.ntmps58
  go_wp2_with fail
  go_loopw [5, 8] (fun _ v8 wr => ∃ i : Nat, v8 = .int .i64 i ∧ i ≤ 27 ∧ Hid (lookFrom word 27 0 = lookFrom word (27 - i) i) ∧ Below w.heap.size w wr) (fun _ v8 _ => 27 - (intOf v8).toNat)
  case atStart => exact ⟨0, rfl, Nat.zero_le _, rfl, Below.refl _ _⟩
  case round =>
    obtain ⟨i, rfl, hi, hL, hB⟩ := hrel
    by_cases hlt : i < 27
    · obtain ⟨o0, o1, o2, o3⟩ := opsCells_at i hlt
      have hbr : wr.heap[b]? = some (.cells opsCells 93 (0, 0)) := (hB.block b hlb).trans hb
      have c0 := (cell_of_row wr b (i * 4) opsCells 93 (0, 0) hbr).trans o0
      have c1 := (cell_of_row wr b (i * 4 + 1) opsCells 93 (0, 0) hbr).trans o1
      have c2 := (cell_of_row wr b (i * 4 + 2) opsCells 93 (0, 0) hbr).trans o2
      have c3 := (cell_of_row wr b (i * 4 + 3) opsCells 93 (0, 0) hbr).trans o3
      have cg : wr.cell? ⟨g, 0, none⟩ = some (.string word) := (hB.cell hlg).trans hg
      clear o0 o1 o2 o3 hbr
      cases he : ((opRow i).1.toList == word.toList) with
      | true =>
        have hfin : lookFrom word 27 0 = some i := by
          rw [hL.out, show 27 - i = (26 - i) + 1 by omega, lookFrom, if_pos he]
        have HF := Lib.hid hfin
        have HE := Lib.hid he
        clear hfin he hL
        generalize (opRow i).1 = r1 at *
        go_wp2_with (go_at_call 59; refine (closure_any _ _ _ _ word g _ cg).mono ?_; rintro e w' ⟨rfl, hb'⟩; rw [HE.out])
        go_ret
        rw [HF.out]
        exact ⟨rfl, hB.trans (hb'.mono hB.size)⟩
      | false =>
        have hnext : lookFrom word 27 0 = lookFrom word (27 - (i + 1)) (i + 1) := by
          rw [hL.out, show 27 - i = (27 - (i + 1)) + 1 by omega, lookFrom, if_neg (by rw [he]; decide)]
        have HF := Lib.hid hnext
        have HE := Lib.hid he
        clear hnext he hL
        generalize (opRow i).1 = r1 at *
        go_wp2_with (go_at_call 59; refine (closure_any _ _ _ _ word g _ cg).mono ?_; rintro e w' ⟨rfl, hb'⟩; rw [HE.out])
        go_roundw
        case rel => exact ⟨i + 1, by go_num, by omega, HF.out, hB.trans (hb'.mono hB.size)⟩
        case measure => simp [intOf]; omega
    · obtain rfl : i = 27 := by omega
      have HF := Lib.hid hL.out
      clear hL
      go_wp2_with fail
      go_ret
      rw [HF.out]
      exact ⟨rfl, hB⟩
theorem lookFrom_lt (word : ByteArray) : ∀ (d i n : Nat), lookFrom word d i = some n → n < i + d
  | 0, _, _, h => by simp [lookFrom] at h
  | d + 1, i, n, h => by
    rw [lookFrom] at h
    split at h
    · obtain rfl := Option.some.inj h
      omega
    · have := lookFrom_lt word d (i + 1) n h
      omega
/-- What instr.Find answers. -/
def instr_Find.f (word : ByteArray) : Option (Int × Bool) := match lookFrom word 27 0 with | some n => some ((n : Int), true) | none => some (0, false)
set_option maxHeartbeats 1000000 in
set_option maxRecDepth 100000 in
theorem instr_Find.calls (a0 : ByteArray) (r1 : Int) (r2 : Bool) (w : World) (h : instr_Find.f a0 = some (r1, r2)) :
    Calls Try.prog 34 #[.string a0] w fun e w' => e = .returned (.tuple #[.int .i64 r1, .bool r2]) ∧ Below w.heap.size w w' := by
  have HF := indexFunc_ops a0
  unfold instr_Find.f at h
  cases hL : lookFrom a0 27 0 with
  | some n =>
    have hn := lookFrom_lt a0 27 0 n hL
    rw [hL] at h HF
    simp only [Option.some.injEq, Prod.mk.injEq] at h
    obtain ⟨rfl, rfl⟩ := h
    simp only [idxOf] at HF
    have HF' := Lib.hid HF
    clear HF hL
    have hst := run_storeCells_new (P := Try.prog) ((w.alloc (.cells #[.string a0] 9)).alloc (.cells opsCells 93)) 93 Try.zeroCells93 opsCells (by kernel_rfl) (by kernel_rfl) (by kernel_rfl)
    simp only [World.size_alloc] at hst
    have hsz : opsCells.size = 108 := by kernel_rfl
    have hb1 : (((w.alloc (.cells #[.string a0] 9)).alloc (.cells opsCells 93)).alloc (.cells opsCells 93)).heap[w.heap.size + 1 + 1]? = some (.cells opsCells 93 (0, 0)) := by
      have := heap_alloc_last ((w.alloc (.cells #[.string a0] 9)).alloc (.cells opsCells 93)) (.cells opsCells 93)
      simpa only [World.size_alloc] using this
    have hg1 : (((w.alloc (.cells #[.string a0] 9)).alloc (.cells opsCells 93)).alloc (.cells opsCells 93)).cell? ⟨w.heap.size, 0, none⟩ = some (.string a0) := by
      rw [World.cell?_alloc_past _ _ _ (by rw [World.size_alloc, World.size_alloc]; omega), World.cell?_alloc_past _ _ _ (by rw [World.size_alloc]; omega), World.cell?_alloc_at _ _ _ _ rfl]
      rfl
    have hF := HF'.out _ _ _ hb1 hg1
    have hbe : Below w.heap.size w (((w.alloc (.cells #[.string a0] 9)).alloc (.cells opsCells 93)).alloc (.cells opsCells 93)) := (((Below.refl _ _).alloc (Nat.le_refl _) _).alloc (by rw [World.size_alloc]; omega) _).alloc (by rw [World.size_alloc, World.size_alloc]; omega) _
    clear hb1 hg1
    have hF := Lib.hid hF
    go_enter Try.func34, Try.ntmps34
    go_wp2_with (first | (go_at_call 57; refine (operations_any _).mono ?_; rintro e w' ⟨rfl, rfl⟩) | (go_at_call 58; refine hF.out.mono ?_; rintro e w' ⟨rfl, hb'⟩))
    go_ret2
    exact ⟨rfl, hbe.trans (hb'.mono hbe.size)⟩
  | none =>
    rw [hL] at h HF
    simp only [Option.some.injEq, Prod.mk.injEq] at h
    obtain ⟨rfl, rfl⟩ := h
    simp only [idxOf] at HF
    have HF' := Lib.hid HF
    clear HF hL
    have hst := run_storeCells_new (P := Try.prog) ((w.alloc (.cells #[.string a0] 9)).alloc (.cells opsCells 93)) 93 Try.zeroCells93 opsCells (by kernel_rfl) (by kernel_rfl) (by kernel_rfl)
    simp only [World.size_alloc] at hst
    have hsz : opsCells.size = 108 := by kernel_rfl
    have hb1 : (((w.alloc (.cells #[.string a0] 9)).alloc (.cells opsCells 93)).alloc (.cells opsCells 93)).heap[w.heap.size + 1 + 1]? = some (.cells opsCells 93 (0, 0)) := by
      have := heap_alloc_last ((w.alloc (.cells #[.string a0] 9)).alloc (.cells opsCells 93)) (.cells opsCells 93)
      simpa only [World.size_alloc] using this
    have hg1 : (((w.alloc (.cells #[.string a0] 9)).alloc (.cells opsCells 93)).alloc (.cells opsCells 93)).cell? ⟨w.heap.size, 0, none⟩ = some (.string a0) := by
      rw [World.cell?_alloc_past _ _ _ (by rw [World.size_alloc, World.size_alloc]; omega), World.cell?_alloc_past _ _ _ (by rw [World.size_alloc]; omega), World.cell?_alloc_at _ _ _ _ rfl]
      rfl
    have hF := HF'.out _ _ _ hb1 hg1
    have hbe : Below w.heap.size w (((w.alloc (.cells #[.string a0] 9)).alloc (.cells opsCells 93)).alloc (.cells opsCells 93)) := (((Below.refl _ _).alloc (Nat.le_refl _) _).alloc (by rw [World.size_alloc]; omega) _).alloc (by rw [World.size_alloc, World.size_alloc]; omega) _
    clear hb1 hg1
    have hF := Lib.hid hF
    go_enter Try.func34, Try.ntmps34
    go_wp2_with (first | (go_at_call 57; refine (operations_any _).mono ?_; rintro e w' ⟨rfl, rfl⟩) | (go_at_call 58; refine hF.out.mono ?_; rintro e w' ⟨rfl, hb'⟩))
    go_ret2
    exact ⟨rfl, hbe.trans (hb'.mono hbe.size)⟩
end Go.Proofs.Ytdnhekgdpolenaa
