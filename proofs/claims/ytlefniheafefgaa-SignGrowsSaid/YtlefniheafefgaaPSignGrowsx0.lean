-- printed by a program of this session (wip/gprint.py, a patched run of the print) out of the translation. Lean checks it.
import Derived.Test.YtlefniheafefgaaProg
import Derived.Test.YtlefniheafefgaaSignGiven
import Derived.Below
import Derived.Deep.Draws
import Derived.Deep.AppendLies
import Derived.Maps.AppendAt
import Derived.OwnWalk
import Derived.Laws.BytesArg
import Derived.Laws.MakeOwn
import Derived.Laws.OwnMore
import Derived.Deep.OwnRows
import Derived.Tactics
import Derived.Lib.ConvBytes
import Derived.Laws.Slices
import Derived.WalkKit
import Derived.KernelRfl
import Derived.RowKit3
import Derived.Deep.LoopGhost
import Derived.Deep.QuietTactic
import Derived.BigQuiet
import Derived.WideLaws
import Derived.Deep.DeepCutAuto
import Derived.Deep.CutBlock
import Derived.Deep.RegionHeld3
import Derived.Laws.Rows
import Derived.Lib.AppendStr
import Derived.ArgAppend
import Derived.Laws.IdiomCopy
import Derived.OrdersHeld
import Derived.Laws.BitsLemmas
import Derived.RowKit
import Derived.Test.YtlefniheafefgaaWWords
import Derived.Test.YtlefniheafefgaaWLast
import Derived.Test.YtlefniheafefgaaWTab
import Derived.Test.YtlefniheafefgaaWFour
import Derived.Test.YtlefniheafefgaaWQPut
import Derived.Test.YtlefniheafefgaaWApart
import Derived.Test.YtlefniheafefgaaWArr
import Derived.Test.YtlefniheafefgaaWZeros
import Derived.Test.YtlefniheafefgaaWFoot
import Derived.Test.YtlefniheafefgaaWKept
import Derived.Test.YtlefniheafefgaaWShare
import Derived.Test.YtlefniheafefgaaWN
import Derived.Test.YtlefniheafefgaaWFootNe
import Derived.Test.YtlefniheafefgaaWAt
import Derived.Test.YtlefniheafefgaaWEqStruct
import Derived.Test.YtlefniheafefgaaWRepsOne
import Derived.Test.YtlefniheafefgaaWInv
import Derived.Test.YtlefniheafefgaaWInvWords
import Derived.Test.YtlefniheafefgaaWGuard
import Derived.Test.YtlefniheafefgaaWNEv
import Derived.Test.YtlefniheafefgaaWMore
namespace Go.Proofs.Ytlefniheafefgaa.PSignGrows
open Go.RowKit Go.Proofs.YtlefniheafefgaaW.PrintWords Go.Proofs.YtlefniheafefgaaW.PrintLast Go.Proofs.YtlefniheafefgaaW.PrintMore
attribute [local go_sem] max2_int min2_int max_two min_two max_three min_three max_four min_four   -- for this text's walks alone
set_option linter.unusedVariables false
set_option linter.unusedSimpArgs false



def errW : Option Int → Value
  | none => .nilIface
  | some c => .iface 0 (.int .i64 c)
theorem errW_none : errW none = .nilIface := rfl
theorem errW_some (c : Int) : errW (some c) = .iface 0 (.int .i64 c) := rfl

-- the values' own types

end Go.Proofs.Ytlefniheafefgaa.PSignGrows
