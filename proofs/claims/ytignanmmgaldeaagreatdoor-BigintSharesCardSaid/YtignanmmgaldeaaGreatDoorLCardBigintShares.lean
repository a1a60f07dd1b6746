/- Proved: BigintShares answers true at every input; the tied card of it. No condition but the listed variables, which the card ties. -/
import Derived.Test.YtignanmmgaldeaaGreatDoorLOverBigintShares
import Derived.Test.YtignanmmgaldeaaGreatDoorLFactFBigintShares
import Derived.Test.YtignanmmgaldeaaGreatDoorLFactGBigintShares
import Derived.Test.YtignanmmgaldeaaGreatDoorRows
import Derived.WalkKit
import Derived.ProofKit
import Derived.OpenShut
import Derived.ShutString
import Derived.ChangeOld
import Derived.Below
import Derived.SizedLaws
import Derived.Stop.LaidErr
import Derived.MakeChecks
import Derived.Lay
import Derived.LaidOnce
import Derived.SevenTiedAt
import Derived.Test.YtignanmmgaldeaaGreatDoorTie
import Derived.Test.YtignanmmgaldeaaGreatDoorCards
namespace Go.Proofs.YtignanmmgaldeaaGreatDoor.bigintShares
open Go.ChangeShapes Go.WideShapes Go.ChangeAt Go.RowKit
open Go.ChangeMaps (open_string shut_string)
set_option linter.unusedVariables false
theorem card : Rows.BigintSharesCardSaid :=
  Claim7.holds_tied_plain_at .later [] [.data, .data, .data, .data, .sentinel, .sentinel, .pinned] true (true, "443c61bb84a3c56bf642e836a404d75edae270a3bb895eb25277b22a45e9f845") true proved (fun _ h => by cases h) (by kernel_rfl) (fun _ h => by cases h) bigintShares_row_tie rfl ⟨rfl, rfl⟩ (by kernel_rfl) rfl
    (fun f fn hf hfn => by
      obtain rfl : f = 5 := Option.some.inj ((show Tryz.prog.funcNamed "surveyor/surveyorlaw01.BigintShares" = some 5 by kernel_rfl).symm.trans hf) |>.symm
      obtain rfl : fn = Tryz.f5 := (Option.some.inj (Tryz.func5.symm.trans hfn)).symm
      exact ⟨looksEq, fun j t ht => by
        rw [Tryz.params5] at ht
        have hm : t ∈ [22] := by simpa using Array.mem_of_getElem? ht
        have hall : ([22].all fun u => !Tryz.prog.wantsStandIn u) = true := by kernel_rfl
        exact (show Tryz.prog.wantsStandIn t = false by simpa using List.all_eq_true.1 hall t hm)⟩)
    goesEq
#print axioms card
end Go.Proofs.YtignanmmgaldeaaGreatDoor.bigintShares
namespace Go.Proofs.YtignanmmgaldeaaGreatDoor
/-- The row, under a short name, for the claim. -/
theorem bigintShares_card : Rows.BigintSharesCardSaid := bigintShares.card
end Go.Proofs.YtignanmmgaldeaaGreatDoor
