/- Functions of the seat and their walks, written by a program of this session. -/
import Derived.Test.YtdnhekgdpolenaaProg
import Derived.Below
import Derived.Deep.Draws
import Derived.Deep.AppendLies
import Derived.Maps.AppendAt
import Derived.OwnWalk
import Derived.Laws.BytesArg
import Derived.Laws.MakeOwn
import Derived.Laws.OwnMore
import Derived.Deep.OwnRows
import Derived.Tactics
import Derived.Lib.ConvBytes
import Derived.Laws.Slices
import Derived.WalkKit
import Derived.KernelRfl
import Derived.RowKit3
import Derived.Deep.LoopGhost
import Derived.Deep.QuietTactic
import Derived.BigQuiet
import Derived.WideLaws
import Derived.Deep.DeepCutAuto
import Derived.Deep.CutBlock
import Derived.Deep.RegionHeld3
import Derived.Laws.Rows
import Derived.Lib.AppendStr
import Derived.ArgAppend
import Derived.Laws.IdiomCopy
import Derived.OrdersHeld
import Derived.Laws.BitsLemmas
import Derived.RowKit
import Derived.Test.YtdnhekgdpolenaaWWords
import Derived.Test.YtdnhekgdpolenaaWLast
import Derived.Test.YtdnhekgdpolenaaWTab
import Derived.Test.YtdnhekgdpolenaaWFour
import Derived.Test.YtdnhekgdpolenaaWQPut
import Derived.Test.YtdnhekgdpolenaaWApart
import Derived.Test.YtdnhekgdpolenaaWArr
import Derived.Test.YtdnhekgdpolenaaWZeros
import Derived.Test.YtdnhekgdpolenaaWFoot
import Derived.Test.YtdnhekgdpolenaaWKept
import Derived.Test.YtdnhekgdpolenaaWShare
import Derived.Test.YtdnhekgdpolenaaWN
import Derived.Test.YtdnhekgdpolenaaWFootNe
import Derived.Test.YtdnhekgdpolenaaWAt
import Derived.Test.YtdnhekgdpolenaaWEqStruct
import Derived.Test.YtdnhekgdpolenaaWRepsOne
import Derived.Test.YtdnhekgdpolenaaWInv
import Derived.Test.YtdnhekgdpolenaaWInvWords
import Derived.Test.YtdnhekgdpolenaaWGuard
import Derived.Test.YtdnhekgdpolenaaWNEv
import Derived.Test.YtdnhekgdpolenaaWMore
namespace Go.Proofs.Ytdnhekgdpolenaa.Q
open Go.RowKit Go.Proofs.YtdnhekgdpolenaaW.PrintWords Go.Proofs.YtdnhekgdpolenaaW.PrintLast Go.Proofs.YtdnhekgdpolenaaW.PrintMore
attribute [local go_sem] max2_int min2_int max_two min_two max_three min_three max_four min_four   -- for this text's walks alone
set_option linter.unusedVariables false
set_option linter.unusedSimpArgs false



def errW : Option Int → Value
  | none => .nilIface
  | some c => .iface 0 (.int .i64 c)
theorem errW_none : errW none = .nilIface := rfl
theorem errW_some (c : Int) : errW (some c) = .iface 0 (.int .i64 c) := rfl

-- the values' own types

end Go.Proofs.Ytdnhekgdpolenaa.Q
