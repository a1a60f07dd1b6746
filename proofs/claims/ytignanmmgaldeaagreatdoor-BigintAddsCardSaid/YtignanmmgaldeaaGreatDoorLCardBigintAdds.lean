/- Proved: BigintAdds answers true at every input; the tied card of it. No condition but the listed variables, which the card ties. -/
import Derived.Test.YtignanmmgaldeaaGreatDoorLOverBigintAdds
import Derived.Test.YtignanmmgaldeaaGreatDoorLFactFBigintAdds
import Derived.Test.YtignanmmgaldeaaGreatDoorLFactGBigintAdds
import Derived.Test.YtignanmmgaldeaaGreatDoorRows
import Derived.WalkKit
import Derived.ProofKit
import Derived.OpenShut
import Derived.ShutString
import Derived.ChangeOld
import Derived.Below
import Derived.SizedLaws
import Derived.Stop.LaidErr
import Derived.MakeChecks
import Derived.Lay
import Derived.LaidOnce
import Derived.SevenTiedAt
import Derived.Test.YtignanmmgaldeaaGreatDoorTie
import Derived.Test.YtignanmmgaldeaaGreatDoorCards
namespace Go.Proofs.YtignanmmgaldeaaGreatDoor.bigintAdds
open Go.ChangeShapes Go.WideShapes Go.ChangeAt Go.RowKit
open Go.ChangeMaps (open_string shut_string)
set_option linter.unusedVariables false
theorem card : Rows.BigintAddsCardSaid :=
  Claim7.holds_tied_plain_at .later [] [.data, .data, .data, .data, .sentinel, .sentinel, .pinned] true (true, "443c61bb84a3c56bf642e836a404d75edae270a3bb895eb25277b22a45e9f845") true proved (fun _ h => by cases h) (by kernel_rfl) (fun _ h => by cases h) bigintAdds_row_tie rfl ⟨rfl, rfl⟩ (by kernel_rfl) rfl
    (fun f fn hf hfn => by
      obtain rfl : f = 4 := Option.some.inj ((show Tryz.prog.funcNamed "surveyor/surveyorlaw01.BigintAdds" = some 4 by kernel_rfl).symm.trans hf) |>.symm
      obtain rfl : fn = Tryz.f4 := (Option.some.inj (Tryz.func4.symm.trans hfn)).symm
      exact ⟨looksEq, fun j t ht => by
        rw [Tryz.params4] at ht
        have hm : t ∈ [22] := by simpa using Array.mem_of_getElem? ht
        have hall : ([22].all fun u => !Tryz.prog.wantsStandIn u) = true := by kernel_rfl
        exact (show Tryz.prog.wantsStandIn t = false by simpa using List.all_eq_true.1 hall t hm)⟩)
    goesEq
#print axioms card
end Go.Proofs.YtignanmmgaldeaaGreatDoor.bigintAdds
namespace Go.Proofs.YtignanmmgaldeaaGreatDoor
/-- The row, under a short name, for the claim. -/
theorem bigintAdds_card : Rows.BigintAddsCardSaid := bigintAdds.card
end Go.Proofs.YtignanmmgaldeaaGreatDoor
