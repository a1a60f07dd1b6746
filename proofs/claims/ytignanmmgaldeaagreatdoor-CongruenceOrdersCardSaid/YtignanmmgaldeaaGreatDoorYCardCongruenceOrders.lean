/- Proved: CongruenceOrders answers true at every input; the tied card of it. No condition but the listed variables, which the card ties. -/
import Derived.Test.YtignanmmgaldeaaGreatDoorYOverCongruenceOrders
import Derived.Test.YtignanmmgaldeaaGreatDoorYFactFCongruenceOrders
import Derived.Test.YtignanmmgaldeaaGreatDoorYFactGCongruenceOrders
set_option linter.unusedVariables false
namespace Go.Proofs.YtignanmmgaldeaaGreatDoor.congruenceOrders
open Go.ChangeShapes Go.WideShapes Go.ChangeAt Go.RowKit
open Go.ChangeMaps (open_string shut_string)
theorem card:Rows.CongruenceOrdersCardSaid:=
 Claim7.holds_tied_plain_at .later [] [.data,.data,.data,.data,.sentinel,.sentinel,.pinned] true (true,"443c61bb84a3c56bf642e836a404d75edae270a3bb895eb25277b22a45e9f845") true proved (fun _ h=>by cases h) (by kernel_rfl) (fun _ h=>by cases h) congruenceOrders_row_tie rfl ⟨rfl,rfl⟩ (by kernel_rfl) rfl
  (fun f fn hf hfn=>by
    obtain rfl:f=7:=Option.some.inj ((show Tryz.prog.funcNamed "surveyor/surveyorlaw22.CongruenceOrders" =some 7 by kernel_rfl).symm.trans hf) |>.symm
    obtain rfl:fn=Tryz.f7:=(Option.some.inj (Tryz.func7.symm.trans hfn)).symm
    exact⟨zZ,fun j t ht=>by
     rw[Tryz.params7] at ht;have hm:t∈ [36]:=by simpa using Array.mem_of_getElem? ht
     have hall:([36].all fun u=> !Tryz.prog.wantsStandIn u)=true:=by kernel_rfl
     exact(show Tryz.prog.wantsStandIn t=false by simpa using List.all_eq_true.1 hall t hm)⟩)
  aB0
end Go.Proofs.YtignanmmgaldeaaGreatDoor.congruenceOrders
namespace Go.Proofs.YtignanmmgaldeaaGreatDoor
theorem congruenceOrders_card:Rows.CongruenceOrdersCardSaid:=congruenceOrders.card
end Go.Proofs.YtignanmmgaldeaaGreatDoor
