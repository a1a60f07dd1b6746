/- Lemmas. -/
import Derived.Test.YtnagmogjhfdmlaaGreatDoorProg
import Derived.Test.YtnagmogjhfdmlaaGreatDoorLBigGiven
import Derived.Below
import Derived.Deep.Draws
import Derived.Deep.AppendLies
import Derived.Maps.AppendAt
import Derived.OwnWalk
import Derived.Laws.BytesArg
import Derived.Laws.MakeOwn
import Derived.Laws.OwnMore
import Derived.Deep.OwnRows
import Derived.Tactics
import Derived.Lib.ConvBytes
import Derived.Laws.Slices
import Derived.WalkKit
import Derived.KernelRfl
import Derived.RowKit3
import Derived.Deep.LoopGhost
import Derived.Deep.QuietTactic
import Derived.BigQuiet
import Derived.WideLaws
import Derived.Deep.DeepCutAuto
import Derived.Deep.CutBlock
import Derived.Deep.RegionHeld3
import Derived.Laws.Rows
import Derived.Lib.AppendStr
import Derived.ArgAppend
import Derived.Laws.IdiomCopy
import Derived.OrdersHeld
import Derived.Laws.BitsLemmas
import Derived.RowKit
import Derived.Test.YtnagmogjhfdmlaaGreatDoorLWWords
import Derived.Test.YtnagmogjhfdmlaaGreatDoorLWLast
import Derived.Test.YtnagmogjhfdmlaaGreatDoorLWTab
import Derived.Test.YtnagmogjhfdmlaaGreatDoorLWApart
import Derived.Test.YtnagmogjhfdmlaaGreatDoorLWKept
import Derived.Test.YtnagmogjhfdmlaaGreatDoorLWShare
import Derived.Test.YtnagmogjhfdmlaaGreatDoorLWN
import Derived.Test.YtnagmogjhfdmlaaGreatDoorLWAt
import Derived.Test.YtnagmogjhfdmlaaGreatDoorLWEqStruct
import Derived.Test.YtnagmogjhfdmlaaGreatDoorLWRepsOne
import Derived.Test.YtnagmogjhfdmlaaGreatDoorLWInv
import Derived.Test.YtnagmogjhfdmlaaGreatDoorLWGuard
import Derived.Test.YtnagmogjhfdmlaaGreatDoorLWMore
namespace Go.Proofs.YtnagmogjhfdmlaaGreatDoor.PIvA
open Go.RowKit Go.Proofs.YtnagmogjhfdmlaaGreatDoorW.PrintWords Go.Proofs.YtnagmogjhfdmlaaGreatDoorW.PrintLast Go.Proofs.YtnagmogjhfdmlaaGreatDoorW.PrintMore
attribute [local go_sem] max2_int -- for this text's walks alone
set_option linter.unusedVariables false
set_option linter.unusedSimpArgs false
def errW : Option Int → Value
  | none => .nilIface
  | some c => .iface 0 (.int .i64 c)
theorem errW_none : errW none = .nilIface := rfl
theorem errW_some (c : Int) : errW (some c) = .iface 0 (.int .i64 c) := rfl
end Go.Proofs.YtnagmogjhfdmlaaGreatDoor.PIvA
