/- Proved: CongruenceSound answers true at every input; the tied card of it. No condition but the listed variables, which the card ties. -/
import Derived.Test.YtignanmmgaldeaaGreatDoorYOverCongruenceSound
import Derived.Test.YtignanmmgaldeaaGreatDoorYFactFCongruenceSound
import Derived.Test.YtignanmmgaldeaaGreatDoorYFactGCongruenceSound
set_option linter.unusedVariables false
namespace Go.Proofs.YtignanmmgaldeaaGreatDoor.congruenceSound
open Go.ChangeShapes Go.WideShapes Go.ChangeAt Go.RowKit
open Go.ChangeMaps (open_string shut_string)
theorem card:Rows.CongruenceSoundCardSaid:=
 Claim7.holds_tied_plain_at .later [] [.data,.data,.data,.data,.sentinel,.sentinel,.pinned] true (true,"443c61bb84a3c56bf642e836a404d75edae270a3bb895eb25277b22a45e9f845") true proved (fun _ h=>by cases h) (by kernel_rfl) (fun _ h=>by cases h) congruenceSound_row_tie rfl ⟨rfl,rfl⟩ (by kernel_rfl) rfl
  (fun f fn hf hfn=>by
    obtain rfl:f=14:=Option.some.inj ((show Tryz.prog.funcNamed "surveyor/surveyorlaw22.CongruenceSound" =some 14 by kernel_rfl).symm.trans hf) |>.symm
    obtain rfl:fn=Tryz.f14:=(Option.some.inj (Tryz.func14.symm.trans hfn)).symm
    exact⟨wG,fun j t ht=>by
     rw[Tryz.params14] at ht;have hm:t∈ [66]:=by simpa using Array.mem_of_getElem? ht
     have hall:([66].all fun u=> !Tryz.prog.wantsStandIn u)=true:=by kernel_rfl
     exact(show Tryz.prog.wantsStandIn t=false by simpa using List.all_eq_true.1 hall t hm)⟩)
  yJ
end Go.Proofs.YtignanmmgaldeaaGreatDoor.congruenceSound
namespace Go.Proofs.YtignanmmgaldeaaGreatDoor
theorem congruenceSound_card:Rows.CongruenceSoundCardSaid:=congruenceSound.card
end Go.Proofs.YtignanmmgaldeaaGreatDoor
