/- Functions of the seat and their walks, written by a program of this session. -/
import Derived.Test.YtdnhekgdpolenaaQx0
namespace Go.Proofs.Ytdnhekgdpolenaa.Q
open Go.RowKit Go.Proofs.YtdnhekgdpolenaaW.PrintWords Go.Proofs.YtdnhekgdpolenaaW.PrintLast Go.Proofs.YtdnhekgdpolenaaW.PrintMore
attribute [local go_sem] max2_int min2_int max_two min_two max_three min_three max_four min_four   -- for this text's walks alone
set_option linter.unusedVariables false
set_option linter.unusedSimpArgs false

/-! ### instr_Signed: function 19 -/
def instr_Signed.f (a0 : Int) : Option (Int) := some (wrap64 (wrap32 (a0)))
set_option maxHeartbeats 8000000 in
set_option maxRecDepth 100000 in
theorem instr_Signed.calls (a0 : Int) (r : Int) (w : World) (h : instr_Signed.f a0 = some r) :
    Calls Try.prog 19 #[.int .u32 a0] w fun e w' => e = .returned (.int .i64 r) ∧ Drawn0 w w' := by
  have H : (some (wrap64 (wrap32 (a0)))) = some r := h
  clear h
  obtain rfl := Option.some.inj H
  go_enter Try.func19, Try.ntmps19
  go_wp2
  go_ret
  exact ⟨by first | rfl | (simp; done) | (simp [*]; done), by repeat (first | exact Drawn0.refl _ | apply Drawn0.step)⟩

/-! ### instr_Unsigned: function 20 -/
def instr_Unsigned.f (a0 : Int) : Option (Int) := some ((a0) % 4294967296)
set_option maxHeartbeats 8000000 in
set_option maxRecDepth 100000 in
theorem instr_Unsigned.calls (a0 : Int) (r : Int) (w : World) (h : instr_Unsigned.f a0 = some r) :
    Calls Try.prog 20 #[.int .i64 a0] w fun e w' => e = .returned (.int .u32 r) ∧ Drawn0 w w' := by
  have H : (some ((a0) % 4294967296)) = some r := h
  clear h
  obtain rfl := Option.some.inj H
  go_enter Try.func20, Try.ntmps20
  go_wp2
  go_ret
  exact ⟨by first | rfl | (simp; done) | (simp [*]; done), by repeat (first | exact Drawn0.refl _ | apply Drawn0.step)⟩

end Go.Proofs.Ytdnhekgdpolenaa.Q
