/- graph.New: the first two errors. -/
import Derived.Test.YthkgfmjgilkdeaaHNew
namespace Go.Proofs.Ythkgfmjgilkdeaa
set_option linter.unusedVariables false
set_option linter.unusedSimpArgs false
open Go.RowKit Go.Shelf Go.Sort Go.Proofs.Ythkgfmjgilkdeaa.Q Go.Proofs.YthkgfmjgilkdeaaW.PrintWords Go.Proofs.YthkgfmjgilkdeaaW.PrintLast Go.Proofs.YthkgfmjgilkdeaaW.PrintMore
set_option maxHeartbeats 2000000 in
set_option maxRecDepth 100000 in
theorem New_range (n : Int) (A : Option Addr) (m c : Nat) (w : World) (hn : ¬ (0 ≤ n ∧ n ≤ 4096)) :
    Calls Try.prog 33 #[.int .i64 n, .slice A m c] w fun e w' => e = .returned (.tuple #[.pointer none, .int .i64 2]) ∧ Below w.heap.size w w' := by
  have HB := Aside0.mk (Below.refl w.heap.size w)
  by_cases h : n < 0
  · have c1 := eq_true h
    clear h hn
    go_enter Try.func33, Try.ntmps33
    go_wp2_with fail
    go_ret2
    exact ⟨rfl, by repeat (first | exact HB.out | apply pw_below_drewN | apply below_drew1)⟩
  · have c1 := eq_false h
    have c2 := eq_true (show n > 4096 by omega)
    clear h hn
    go_enter Try.func33, Try.ntmps33
    go_wp2_with fail
    go_ret2
    exact ⟨rfl, by repeat (first | exact HB.out | apply pw_below_drewN | apply below_drew1)⟩
set_option maxHeartbeats 2000000 in
set_option maxRecDepth 100000 in
theorem New_limit (n : Int) (A : Option Addr) (m c : Nat) (w : World) (h0 : 0 ≤ n) (h1 : n ≤ 4096) (hm : 65536 < m) :
    Calls Try.prog 33 #[.int .i64 n, .slice A m c] w fun e w' => e = .returned (.tuple #[.pointer none, .int .i64 9]) ∧ Below w.heap.size w w' := by
  have HB := Aside0.mk (Below.refl w.heap.size w)
  have c1 := eq_false (show ¬ n < 0 by omega)
  have c2 := eq_false (show ¬ n > 4096 by omega)
  have c3 := eq_true (show (m : Int) > 65536 by omega)
  clear h0 h1 hm
  go_enter Try.func33, Try.ntmps33
  go_wp2_with fail
  go_ret2
  exact ⟨rfl, by repeat (first | exact HB.out | apply pw_below_drewN | apply below_drew1)⟩
end Go.Proofs.Ythkgfmjgilkdeaa
