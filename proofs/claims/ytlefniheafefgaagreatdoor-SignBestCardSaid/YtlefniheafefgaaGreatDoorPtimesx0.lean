-- printed by a program of this session (wip/gprint.py, a patched run of the print) out of the translation. Lean checks it.
import Derived.Test.YtlefniheafefgaaGreatDoorProg
import Derived.Below
import Derived.Deep.Draws
import Derived.Deep.AppendLies
import Derived.Maps.AppendAt
import Derived.OwnWalk
import Derived.Laws.BytesArg
import Derived.Laws.MakeOwn
import Derived.Laws.OwnMore
import Derived.Deep.OwnRows
import Derived.Tactics
import Derived.Lib.ConvBytes
import Derived.Laws.Slices
import Derived.WalkKit
import Derived.KernelRfl
import Derived.RowKit3
import Derived.Deep.LoopGhost
import Derived.Deep.QuietTactic
import Derived.BigQuiet
import Derived.WideLaws
import Derived.Deep.DeepCutAuto
import Derived.Deep.CutBlock
import Derived.Deep.RegionHeld3
import Derived.Laws.Rows
import Derived.Lib.AppendStr
import Derived.ArgAppend
import Derived.Laws.IdiomCopy
import Derived.OrdersHeld
import Derived.Laws.BitsLemmas
import Derived.RowKit
import Derived.Test.YtlefniheafefgaaGreatDoorWWords
import Derived.Test.YtlefniheafefgaaGreatDoorWLast
import Derived.Test.YtlefniheafefgaaGreatDoorWTab
import Derived.Test.YtlefniheafefgaaGreatDoorWFour
import Derived.Test.YtlefniheafefgaaGreatDoorWQPut
import Derived.Test.YtlefniheafefgaaGreatDoorWApart
import Derived.Test.YtlefniheafefgaaGreatDoorWArr
import Derived.Test.YtlefniheafefgaaGreatDoorWZeros
import Derived.Test.YtlefniheafefgaaGreatDoorWFoot
import Derived.Test.YtlefniheafefgaaGreatDoorWKept
import Derived.Test.YtlefniheafefgaaGreatDoorWShare
import Derived.Test.YtlefniheafefgaaGreatDoorWN
import Derived.Test.YtlefniheafefgaaGreatDoorWFootNe
import Derived.Test.YtlefniheafefgaaGreatDoorWAt
import Derived.Test.YtlefniheafefgaaGreatDoorWEqStruct
import Derived.Test.YtlefniheafefgaaGreatDoorWRepsOne
import Derived.Test.YtlefniheafefgaaGreatDoorWInv
import Derived.Test.YtlefniheafefgaaGreatDoorWInvWords
import Derived.Test.YtlefniheafefgaaGreatDoorWGuard
import Derived.Test.YtlefniheafefgaaGreatDoorWNEv
import Derived.Test.YtlefniheafefgaaGreatDoorWMore
namespace Go.Proofs.YtlefniheafefgaaGreatDoor.Ptimes
open Go.RowKit Go.Proofs.YtlefniheafefgaaGreatDoorW.PrintWords Go.Proofs.YtlefniheafefgaaGreatDoorW.PrintLast Go.Proofs.YtlefniheafefgaaGreatDoorW.PrintMore
attribute [local go_sem] max2_int min2_int max_two min_two max_three min_three max_four min_four   -- for this text's walks alone
set_option linter.unusedVariables false
set_option linter.unusedSimpArgs false



def errW : Option Int → Value
  | none => .nilIface
  | some c => .iface 0 (.int .i64 c)
theorem errW_none : errW none = .nilIface := rfl
theorem errW_some (c : Int) : errW (some c) = .iface 0 (.int .i64 c) := rfl

theorem info3 : (Tryz.prog.info? 3).map (fun i => (i.zero, i.size, i.bytes)) = some (some (.int .i64 0), 1, 8) := by kernel_rfl
-- the values' own types

end Go.Proofs.YtlefniheafefgaaGreatDoor.Ptimes
