/- Functions of the program as Lean functions, and the walks that show it, written by a program of this session on the base of the kit printer; Lean checks all of it. -/
import Derived.Test.YtihonionnfeagaaProg
import Derived.Below
import Derived.Deep.Draws
import Derived.Deep.AppendLies
import Derived.Maps.AppendAt
import Derived.OwnWalk
import Derived.Laws.BytesArg
import Derived.Laws.MakeOwn
import Derived.Laws.OwnMore
import Derived.Deep.OwnRows
import Derived.Tactics
import Derived.Lib.ConvBytes
import Derived.Laws.Slices
import Derived.WalkKit
import Derived.KernelRfl
import Derived.RowKit3
import Derived.Deep.LoopGhost
import Derived.Deep.QuietTactic
import Derived.BigQuiet
import Derived.WideLaws
import Derived.Deep.DeepCutAuto
import Derived.Deep.CutBlock
import Derived.Deep.RegionHeld3
import Derived.Laws.Rows
import Derived.Lib.AppendStr
import Derived.ArgAppend
import Derived.Laws.IdiomCopy
import Derived.OrdersHeld
import Derived.Laws.BitsLemmas
import Derived.RowKit
import Derived.Test.YtihonionnfeagaaH1
import Derived.Test.YtihonionnfeagaaWWords
import Derived.Test.YtihonionnfeagaaWLast
import Derived.Test.YtihonionnfeagaaWTab
import Derived.Test.YtihonionnfeagaaWFour
import Derived.Test.YtihonionnfeagaaWQPut
import Derived.Test.YtihonionnfeagaaWApart
import Derived.Test.YtihonionnfeagaaWArr
import Derived.Test.YtihonionnfeagaaWZeros
import Derived.Test.YtihonionnfeagaaWFoot
import Derived.Test.YtihonionnfeagaaWKept
import Derived.Test.YtihonionnfeagaaWShare
import Derived.Test.YtihonionnfeagaaWN
import Derived.Test.YtihonionnfeagaaWFootNe
import Derived.Test.YtihonionnfeagaaWAt
import Derived.Test.YtihonionnfeagaaWEqStruct
import Derived.Test.YtihonionnfeagaaWRepsOne
import Derived.Test.YtihonionnfeagaaWInv
import Derived.Test.YtihonionnfeagaaWInvWords
import Derived.Test.YtihonionnfeagaaWGuard
import Derived.Test.YtihonionnfeagaaWNEv
import Derived.Test.YtihonionnfeagaaWMore
namespace Go.Proofs.Ytihonionnfeagaa.QB
open Go.Proofs.Ytihonionnfeagaa.H
open Go.RowKit Go.Proofs.YtihonionnfeagaaW.PrintWords Go.Proofs.YtihonionnfeagaaW.PrintLast Go.Proofs.YtihonionnfeagaaW.PrintMore
attribute [local go_sem] max2_int min2_int max_two min_two max_three min_three max_four min_four   -- for this text's walks alone
set_option linter.unusedVariables false
set_option linter.unusedSimpArgs false



def errW : Option Int → Value
  | none => .nilIface
  | some c => .iface 0 (.int .i64 c)
theorem errW_none : errW none = .nilIface := rfl
theorem errW_some (c : Int) : errW (some c) = .iface 0 (.int .i64 c) := rfl

-- the values' own types

end Go.Proofs.Ytihonionnfeagaa.QB
