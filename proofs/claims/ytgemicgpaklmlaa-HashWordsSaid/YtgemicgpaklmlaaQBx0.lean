/- Functions of the program as Lean functions, and the walks that show it, written by a program of this session on the base of the kit printer; Lean checks all of it. -/
import Derived.Test.YtgemicgpaklmlaaProg
import Derived.Below
import Derived.Deep.Draws
import Derived.Deep.AppendLies
import Derived.Maps.AppendAt
import Derived.OwnWalk
import Derived.Laws.BytesArg
import Derived.Laws.MakeOwn
import Derived.Laws.OwnMore
import Derived.Deep.OwnRows
import Derived.Tactics
import Derived.Lib.ConvBytes
import Derived.Laws.Slices
import Derived.WalkKit
import Derived.KernelRfl
import Derived.RowKit3
import Derived.Deep.LoopGhost
import Derived.Deep.QuietTactic
import Derived.BigQuiet
import Derived.WideLaws
import Derived.Deep.DeepCutAuto
import Derived.Deep.CutBlock
import Derived.Deep.RegionHeld3
import Derived.Laws.Rows
import Derived.Lib.AppendStr
import Derived.ArgAppend
import Derived.Laws.IdiomCopy
import Derived.OrdersHeld
import Derived.Laws.BitsLemmas
import Derived.RowKit
import Derived.Test.YtgemicgpaklmlaaWWords
import Derived.Test.YtgemicgpaklmlaaWLast
import Derived.Test.YtgemicgpaklmlaaWTab
import Derived.Test.YtgemicgpaklmlaaWFour
import Derived.Test.YtgemicgpaklmlaaWQPut
import Derived.Test.YtgemicgpaklmlaaWApart
import Derived.Test.YtgemicgpaklmlaaWArr
import Derived.Test.YtgemicgpaklmlaaWZeros
import Derived.Test.YtgemicgpaklmlaaWFoot
import Derived.Test.YtgemicgpaklmlaaWKept
import Derived.Test.YtgemicgpaklmlaaWShare
import Derived.Test.YtgemicgpaklmlaaWN
import Derived.Test.YtgemicgpaklmlaaWFootNe
import Derived.Test.YtgemicgpaklmlaaWAt
import Derived.Test.YtgemicgpaklmlaaWEqStruct
import Derived.Test.YtgemicgpaklmlaaWRepsOne
import Derived.Test.YtgemicgpaklmlaaWInv
import Derived.Test.YtgemicgpaklmlaaWInvWords
import Derived.Test.YtgemicgpaklmlaaWGuard
import Derived.Test.YtgemicgpaklmlaaWNEv
import Derived.Test.YtgemicgpaklmlaaWMore
namespace Go.Proofs.Ytgemicgpaklmlaa.QB
open Go.RowKit Go.Proofs.YtgemicgpaklmlaaW.PrintWords Go.Proofs.YtgemicgpaklmlaaW.PrintLast Go.Proofs.YtgemicgpaklmlaaW.PrintMore
attribute [local go_sem] max2_int min2_int max_two min_two max_three min_three max_four min_four   -- for this text's walks alone
set_option linter.unusedVariables false
set_option linter.unusedSimpArgs false



def errW : Option Int → Value
  | none => .nilIface
  | some c => .iface 0 (.int .i64 c)
theorem errW_none : errW none = .nilIface := rfl
theorem errW_some (c : Int) : errW (some c) = .iface 0 (.int .i64 c) := rfl

-- the values' own types

end Go.Proofs.Ytgemicgpaklmlaa.QB
