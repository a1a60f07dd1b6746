-- printed by a program of this session (wip/gprint.py, a patched run of the print) out of the translation. Lean checks it.
import Derived.Test.YtdldoghcbnkkjaaGreatDoorProg
import Derived.Test.YtdldoghcbnkkjaaGreatDoorBigGiven
import Derived.Test.YtdldoghcbnkkjaaGreatDoorOpsAll
import Derived.Test.YtdldoghcbnkkjaaGreatDoorPowAll
import Derived.Test.YtdldoghcbnkkjaaGreatDoorAwake01
import Derived.Below
import Derived.Deep.Draws
import Derived.Deep.AppendLies
import Derived.Maps.AppendAt
import Derived.OwnWalk
import Derived.Laws.BytesArg
import Derived.Laws.MakeOwn
import Derived.Laws.OwnMore
import Derived.Deep.OwnRows
import Derived.Tactics
import Derived.Lib.ConvBytes
import Derived.Laws.Slices
import Derived.WalkKit
import Derived.KernelRfl
import Derived.RowKit3
import Derived.Deep.LoopGhost
import Derived.Deep.QuietTactic
import Derived.BigQuiet
import Derived.WideLaws
import Derived.Deep.DeepCutAuto
import Derived.Deep.CutBlock
import Derived.Deep.RegionHeld3
import Derived.Laws.Rows
import Derived.Lib.AppendStr
import Derived.ArgAppend
import Derived.Laws.IdiomCopy
import Derived.OrdersHeld
import Derived.Laws.BitsLemmas
import Derived.RowKit
import Derived.Test.YtdldoghcbnkkjaaGreatDoorWWords
import Derived.Test.YtdldoghcbnkkjaaGreatDoorWLast
import Derived.Test.YtdldoghcbnkkjaaGreatDoorWTab
import Derived.Test.YtdldoghcbnkkjaaGreatDoorWFour
import Derived.Test.YtdldoghcbnkkjaaGreatDoorWQPut
import Derived.Test.YtdldoghcbnkkjaaGreatDoorWApart
import Derived.Test.YtdldoghcbnkkjaaGreatDoorWArr
import Derived.Test.YtdldoghcbnkkjaaGreatDoorWZeros
import Derived.Test.YtdldoghcbnkkjaaGreatDoorWFoot
import Derived.Test.YtdldoghcbnkkjaaGreatDoorWKept
import Derived.Test.YtdldoghcbnkkjaaGreatDoorWShare
import Derived.Test.YtdldoghcbnkkjaaGreatDoorWN
import Derived.Test.YtdldoghcbnkkjaaGreatDoorWFootNe
import Derived.Test.YtdldoghcbnkkjaaGreatDoorWAt
import Derived.Test.YtdldoghcbnkkjaaGreatDoorWEqStruct
import Derived.Test.YtdldoghcbnkkjaaGreatDoorWRepsOne
import Derived.Test.YtdldoghcbnkkjaaGreatDoorWInv
import Derived.Test.YtdldoghcbnkkjaaGreatDoorWInvWords
import Derived.Test.YtdldoghcbnkkjaaGreatDoorWGuard
import Derived.Test.YtdldoghcbnkkjaaGreatDoorWNEv
import Derived.Test.YtdldoghcbnkkjaaGreatDoorWMore
namespace Go.Proofs.YtdldoghcbnkkjaaGreatDoor.PBigintPowers
open Go.RowKit Go.Proofs.YtdldoghcbnkkjaaGreatDoorW.PrintWords Go.Proofs.YtdldoghcbnkkjaaGreatDoorW.PrintLast Go.Proofs.YtdldoghcbnkkjaaGreatDoorW.PrintMore
attribute [local go_sem] max2_int min2_int max_two min_two max_three min_three max_four min_four   -- for this text's walks alone
set_option linter.unusedVariables false
set_option linter.unusedSimpArgs false



def errW : Option Int → Value
  | none => .nilIface
  | some c => .iface 0 (.int .i64 c)
theorem errW_none : errW none = .nilIface := rfl
theorem errW_some (c : Int) : errW (some c) = .iface 0 (.int .i64 c) := rfl

theorem info3 : (Tryz.prog.info? 3).map (fun i => (i.zero, i.size, i.bytes)) = some (some (.int .i64 0), 1, 8) := by kernel_rfl
theorem info5 : (Tryz.prog.info? 5).map (fun i => (i.zero, i.size, i.bytes)) = some (some (.int .u8 0), 1, 1) := by kernel_rfl
-- the values' own types

end Go.Proofs.YtdldoghcbnkkjaaGreatDoor.PBigintPowers
