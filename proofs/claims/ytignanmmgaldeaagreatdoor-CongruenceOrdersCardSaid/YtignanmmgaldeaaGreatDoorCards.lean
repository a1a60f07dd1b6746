/-
  DERIVED. GIVEN WITH THE SEED: THE CARDS: each row of YtignanmmgaldeaaGreatDoorRows.lean that lists a variable, with what it lists TIED to the program's text (the seventh form; the later family's looks); each row that meets fmt, with fmt's text TOLD by the authors' own Lean function (tested against real Go, not proved from fmt's source: count such statements apart). THE CARD IS WHAT COUNTS. Prove the row's statement (the work); the ties are given (YtignanmmgaldeaaGreatDoorTie.lean); close each card by the builder's one call (the guide's Derived/Test/ToyasCard.lean, 'card_holds'). Laid BY PROGRAM, IN A SANDBOX (cutbox-door.mjs). By AI agents, Wed Nov 11 2026. No macro, syntax, notation, axiom, sorry.
-/
import Derived.Test.YtignanmmgaldeaaGreatDoorRows
import GoSem.ClaimSeven
namespace Go.Proofs.YtignanmmgaldeaaGreatDoor
namespace Rows

/-- THE TIED CARD OF 'surveyorlaw01.BigintDivides'. -/
def bigintDividesCard : Claim7 := { stood := { row := bigintDividesRow, standIns := [], harness := (true, "443c61bb84a3c56bf642e836a404d75edae270a3bb895eb25277b22a45e9f845"), looks := true }, kinds := [], alts := [], laidByText := true, laidKinds := [.data, .data, .data, .data, .sentinel, .sentinel, .pinned], laidTests := true, laidLooks := .later }
def BigintDividesCardSaid : Prop := Claim7.holds Tryz.pinned (.plain (OpenSpec.ofChange bigintDividesSpec)) bigintDividesCard

/-- THE TIED CARD OF 'surveyorlaw01.BigintAdds'. -/
def bigintAddsCard : Claim7 := { stood := { row := bigintAddsRow, standIns := [], harness := (true, "443c61bb84a3c56bf642e836a404d75edae270a3bb895eb25277b22a45e9f845"), looks := true }, kinds := [], alts := [], laidByText := true, laidKinds := [.data, .data, .data, .data, .sentinel, .sentinel, .pinned], laidTests := true, laidLooks := .later }
def BigintAddsCardSaid : Prop := Claim7.holds Tryz.pinned (.plain (OpenSpec.ofChange bigintAddsSpec)) bigintAddsCard

/-- THE TIED CARD OF 'surveyorlaw01.BigintShares'. -/
def bigintSharesCard : Claim7 := { stood := { row := bigintSharesRow, standIns := [], harness := (true, "443c61bb84a3c56bf642e836a404d75edae270a3bb895eb25277b22a45e9f845"), looks := true }, kinds := [], alts := [], laidByText := true, laidKinds := [.data, .data, .data, .data, .sentinel, .sentinel, .pinned], laidTests := true, laidLooks := .later }
def BigintSharesCardSaid : Prop := Claim7.holds Tryz.pinned (.plain (OpenSpec.ofChange bigintSharesSpec)) bigintSharesCard

/-- THE TIED CARD OF 'surveyorlaw22.CongruenceDivides'. -/
def congruenceDividesCard : Claim7 := { stood := { row := congruenceDividesRow, standIns := [], harness := (true, "443c61bb84a3c56bf642e836a404d75edae270a3bb895eb25277b22a45e9f845"), looks := true }, kinds := [], alts := [], laidByText := true, laidKinds := [.data, .data, .data, .data, .sentinel, .sentinel, .pinned], laidTests := true, laidLooks := .later }
def CongruenceDividesCardSaid : Prop := Claim7.holds Tryz.pinned (.plain (OpenSpec.ofChange congruenceDividesSpec)) congruenceDividesCard

/-- THE TIED CARD OF 'surveyorlaw22.CongruenceOrders'. -/
def congruenceOrdersCard : Claim7 := { stood := { row := congruenceOrdersRow, standIns := [], harness := (true, "443c61bb84a3c56bf642e836a404d75edae270a3bb895eb25277b22a45e9f845"), looks := true }, kinds := [], alts := [], laidByText := true, laidKinds := [.data, .data, .data, .data, .sentinel, .sentinel, .pinned], laidTests := true, laidLooks := .later }
def CongruenceOrdersCardSaid : Prop := Claim7.holds Tryz.pinned (.plain (OpenSpec.ofChange congruenceOrdersSpec)) congruenceOrdersCard

/-- THE TIED CARD OF 'surveyorlaw22.CongruenceLattice'. -/
def congruenceLatticeCard : Claim7 := { stood := { row := congruenceLatticeRow, standIns := [], harness := (true, "443c61bb84a3c56bf642e836a404d75edae270a3bb895eb25277b22a45e9f845"), looks := true }, kinds := [], alts := [], laidByText := true, laidKinds := [.data, .data, .data, .data, .sentinel, .sentinel, .pinned], laidTests := true, laidLooks := .later }
def CongruenceLatticeCardSaid : Prop := Claim7.holds Tryz.pinned (.plain (OpenSpec.ofChange congruenceLatticeSpec)) congruenceLatticeCard

/-- THE TIED CARD OF 'surveyorlaw22.CongruenceComputes'. -/
def congruenceComputesCard : Claim7 := { stood := { row := congruenceComputesRow, standIns := [], harness := (true, "443c61bb84a3c56bf642e836a404d75edae270a3bb895eb25277b22a45e9f845"), looks := true }, kinds := [], alts := [], laidByText := true, laidKinds := [.data, .data, .data, .data, .sentinel, .sentinel, .pinned], laidTests := true, laidLooks := .later }
def CongruenceComputesCardSaid : Prop := Claim7.holds Tryz.pinned (.plain (OpenSpec.ofChange congruenceComputesSpec)) congruenceComputesCard

/-- THE TIED CARD OF 'surveyorlaw22.CongruenceGrows'. -/
def congruenceGrowsCard : Claim7 := { stood := { row := congruenceGrowsRow, standIns := [], harness := (true, "443c61bb84a3c56bf642e836a404d75edae270a3bb895eb25277b22a45e9f845"), looks := true }, kinds := [], alts := [], laidByText := true, laidKinds := [.data, .data, .data, .data, .sentinel, .sentinel, .pinned], laidTests := true, laidLooks := .later }
def CongruenceGrowsCardSaid : Prop := Claim7.holds Tryz.pinned (.plain (OpenSpec.ofChange congruenceGrowsSpec)) congruenceGrowsCard

/-- THE TIED CARD OF 'surveyorlaw22.CongruenceMakes'. -/
def congruenceMakesCard : Claim7 := { stood := { row := congruenceMakesRow, standIns := [], harness := (true, "443c61bb84a3c56bf642e836a404d75edae270a3bb895eb25277b22a45e9f845"), looks := true }, kinds := [], alts := [], laidByText := true, laidKinds := [.data, .data, .data, .data, .sentinel, .sentinel, .pinned], laidTests := true, laidLooks := .later }
def CongruenceMakesCardSaid : Prop := Claim7.holds Tryz.pinned (.plain (OpenSpec.ofChange congruenceMakesSpec)) congruenceMakesCard

/-- THE TIED CARD OF 'surveyorlaw22.CongruenceChecks'. -/
def congruenceChecksCard : Claim7 := { stood := { row := congruenceChecksRow, standIns := [], harness := (true, "443c61bb84a3c56bf642e836a404d75edae270a3bb895eb25277b22a45e9f845"), looks := true }, kinds := [], alts := [], laidByText := true, laidKinds := [.data, .data, .data, .data, .sentinel, .sentinel, .pinned], laidTests := true, laidLooks := .later }
def CongruenceChecksCardSaid : Prop := Claim7.holds Tryz.pinned (.plain (OpenSpec.ofChange congruenceChecksSpec)) congruenceChecksCard

/-- THE TIED CARD OF 'surveyorlaw22.CongruenceEnds'. -/
def congruenceEndsCard : Claim7 := { stood := { row := congruenceEndsRow, standIns := [], harness := (true, "443c61bb84a3c56bf642e836a404d75edae270a3bb895eb25277b22a45e9f845"), looks := true }, kinds := [], alts := [], laidByText := true, laidKinds := [.data, .data, .data, .data, .sentinel, .sentinel, .pinned], laidTests := true, laidLooks := .later }
def CongruenceEndsCardSaid : Prop := Claim7.holds Tryz.pinned (.plain (OpenSpec.ofChange congruenceEndsSpec)) congruenceEndsCard

/-- THE TIED CARD OF 'surveyorlaw22.CongruenceSound'. -/
def congruenceSoundCard : Claim7 := { stood := { row := congruenceSoundRow, standIns := [], harness := (true, "443c61bb84a3c56bf642e836a404d75edae270a3bb895eb25277b22a45e9f845"), looks := true }, kinds := [], alts := [], laidByText := true, laidKinds := [.data, .data, .data, .data, .sentinel, .sentinel, .pinned], laidTests := true, laidLooks := .later }
def CongruenceSoundCardSaid : Prop := Claim7.holds Tryz.pinned (.plain (OpenSpec.ofChange congruenceSoundSpec)) congruenceSoundCard

/-- THE TIED CARD OF 'surveyorlaw22.CongruenceMeets'. -/
def congruenceMeetsCard : Claim7 := { stood := { row := congruenceMeetsRow, standIns := [], harness := (true, "443c61bb84a3c56bf642e836a404d75edae270a3bb895eb25277b22a45e9f845"), looks := true }, kinds := [], alts := [], laidByText := true, laidKinds := [.data, .data, .data, .data, .sentinel, .sentinel, .pinned], laidTests := true, laidLooks := .later }
def CongruenceMeetsCardSaid : Prop := Claim7.holds Tryz.pinned (.plain (OpenSpec.ofChange congruenceMeetsSpec)) congruenceMeetsCard

/-- THE SECOND FORM's CARD OF 'surveyorlaw01.BigintDivides'. -/
def bigintDividesUptoCard : Claim7 := { stood := { row := bigintDividesUptoRow, standIns := [], harness := (true, "443c61bb84a3c56bf642e836a404d75edae270a3bb895eb25277b22a45e9f845"), looks := true }, kinds := [], alts := [], laidByText := true, laidKinds := [.data, .data, .data, .data, .sentinel, .sentinel, .pinned], laidTests := true, laidLooks := .later }
def BigintDividesUptoCardSaid : Prop := Claim7.holds Tryz.pinned (.plain (OpenSpec.upto bigintDividesSpec)) bigintDividesUptoCard

/-- THE SECOND FORM's CARD OF 'surveyorlaw01.BigintAdds'. -/
def bigintAddsUptoCard : Claim7 := { stood := { row := bigintAddsUptoRow, standIns := [], harness := (true, "443c61bb84a3c56bf642e836a404d75edae270a3bb895eb25277b22a45e9f845"), looks := true }, kinds := [], alts := [], laidByText := true, laidKinds := [.data, .data, .data, .data, .sentinel, .sentinel, .pinned], laidTests := true, laidLooks := .later }
def BigintAddsUptoCardSaid : Prop := Claim7.holds Tryz.pinned (.plain (OpenSpec.upto bigintAddsSpec)) bigintAddsUptoCard

/-- THE SECOND FORM's CARD OF 'surveyorlaw01.BigintShares'. -/
def bigintSharesUptoCard : Claim7 := { stood := { row := bigintSharesUptoRow, standIns := [], harness := (true, "443c61bb84a3c56bf642e836a404d75edae270a3bb895eb25277b22a45e9f845"), looks := true }, kinds := [], alts := [], laidByText := true, laidKinds := [.data, .data, .data, .data, .sentinel, .sentinel, .pinned], laidTests := true, laidLooks := .later }
def BigintSharesUptoCardSaid : Prop := Claim7.holds Tryz.pinned (.plain (OpenSpec.upto bigintSharesSpec)) bigintSharesUptoCard

/-- THE SECOND FORM's CARD OF 'surveyorlaw22.CongruenceDivides'. -/
def congruenceDividesUptoCard : Claim7 := { stood := { row := congruenceDividesUptoRow, standIns := [], harness := (true, "443c61bb84a3c56bf642e836a404d75edae270a3bb895eb25277b22a45e9f845"), looks := true }, kinds := [], alts := [], laidByText := true, laidKinds := [.data, .data, .data, .data, .sentinel, .sentinel, .pinned], laidTests := true, laidLooks := .later }
def CongruenceDividesUptoCardSaid : Prop := Claim7.holds Tryz.pinned (.plain (OpenSpec.upto congruenceDividesSpec)) congruenceDividesUptoCard

/-- THE SECOND FORM's CARD OF 'surveyorlaw22.CongruenceOrders'. -/
def congruenceOrdersUptoCard : Claim7 := { stood := { row := congruenceOrdersUptoRow, standIns := [], harness := (true, "443c61bb84a3c56bf642e836a404d75edae270a3bb895eb25277b22a45e9f845"), looks := true }, kinds := [], alts := [], laidByText := true, laidKinds := [.data, .data, .data, .data, .sentinel, .sentinel, .pinned], laidTests := true, laidLooks := .later }
def CongruenceOrdersUptoCardSaid : Prop := Claim7.holds Tryz.pinned (.plain (OpenSpec.upto congruenceOrdersSpec)) congruenceOrdersUptoCard

/-- THE SECOND FORM's CARD OF 'surveyorlaw22.CongruenceLattice'. -/
def congruenceLatticeUptoCard : Claim7 := { stood := { row := congruenceLatticeUptoRow, standIns := [], harness := (true, "443c61bb84a3c56bf642e836a404d75edae270a3bb895eb25277b22a45e9f845"), looks := true }, kinds := [], alts := [], laidByText := true, laidKinds := [.data, .data, .data, .data, .sentinel, .sentinel, .pinned], laidTests := true, laidLooks := .later }
def CongruenceLatticeUptoCardSaid : Prop := Claim7.holds Tryz.pinned (.plain (OpenSpec.upto congruenceLatticeSpec)) congruenceLatticeUptoCard

/-- THE SECOND FORM's CARD OF 'surveyorlaw22.CongruenceComputes'. -/
def congruenceComputesUptoCard : Claim7 := { stood := { row := congruenceComputesUptoRow, standIns := [], harness := (true, "443c61bb84a3c56bf642e836a404d75edae270a3bb895eb25277b22a45e9f845"), looks := true }, kinds := [], alts := [], laidByText := true, laidKinds := [.data, .data, .data, .data, .sentinel, .sentinel, .pinned], laidTests := true, laidLooks := .later }
def CongruenceComputesUptoCardSaid : Prop := Claim7.holds Tryz.pinned (.plain (OpenSpec.upto congruenceComputesSpec)) congruenceComputesUptoCard

/-- THE SECOND FORM's CARD OF 'surveyorlaw22.CongruenceGrows'. -/
def congruenceGrowsUptoCard : Claim7 := { stood := { row := congruenceGrowsUptoRow, standIns := [], harness := (true, "443c61bb84a3c56bf642e836a404d75edae270a3bb895eb25277b22a45e9f845"), looks := true }, kinds := [], alts := [], laidByText := true, laidKinds := [.data, .data, .data, .data, .sentinel, .sentinel, .pinned], laidTests := true, laidLooks := .later }
def CongruenceGrowsUptoCardSaid : Prop := Claim7.holds Tryz.pinned (.plain (OpenSpec.upto congruenceGrowsSpec)) congruenceGrowsUptoCard

/-- THE SECOND FORM's CARD OF 'surveyorlaw22.CongruenceMakes'. -/
def congruenceMakesUptoCard : Claim7 := { stood := { row := congruenceMakesUptoRow, standIns := [], harness := (true, "443c61bb84a3c56bf642e836a404d75edae270a3bb895eb25277b22a45e9f845"), looks := true }, kinds := [], alts := [], laidByText := true, laidKinds := [.data, .data, .data, .data, .sentinel, .sentinel, .pinned], laidTests := true, laidLooks := .later }
def CongruenceMakesUptoCardSaid : Prop := Claim7.holds Tryz.pinned (.plain (OpenSpec.upto congruenceMakesSpec)) congruenceMakesUptoCard

/-- THE SECOND FORM's CARD OF 'surveyorlaw22.CongruenceChecks'. -/
def congruenceChecksUptoCard : Claim7 := { stood := { row := congruenceChecksUptoRow, standIns := [], harness := (true, "443c61bb84a3c56bf642e836a404d75edae270a3bb895eb25277b22a45e9f845"), looks := true }, kinds := [], alts := [], laidByText := true, laidKinds := [.data, .data, .data, .data, .sentinel, .sentinel, .pinned], laidTests := true, laidLooks := .later }
def CongruenceChecksUptoCardSaid : Prop := Claim7.holds Tryz.pinned (.plain (OpenSpec.upto congruenceChecksSpec)) congruenceChecksUptoCard

/-- THE SECOND FORM's CARD OF 'surveyorlaw22.CongruenceEnds'. -/
def congruenceEndsUptoCard : Claim7 := { stood := { row := congruenceEndsUptoRow, standIns := [], harness := (true, "443c61bb84a3c56bf642e836a404d75edae270a3bb895eb25277b22a45e9f845"), looks := true }, kinds := [], alts := [], laidByText := true, laidKinds := [.data, .data, .data, .data, .sentinel, .sentinel, .pinned], laidTests := true, laidLooks := .later }
def CongruenceEndsUptoCardSaid : Prop := Claim7.holds Tryz.pinned (.plain (OpenSpec.upto congruenceEndsSpec)) congruenceEndsUptoCard

/-- THE SECOND FORM's CARD OF 'surveyorlaw22.CongruenceSound'. -/
def congruenceSoundUptoCard : Claim7 := { stood := { row := congruenceSoundUptoRow, standIns := [], harness := (true, "443c61bb84a3c56bf642e836a404d75edae270a3bb895eb25277b22a45e9f845"), looks := true }, kinds := [], alts := [], laidByText := true, laidKinds := [.data, .data, .data, .data, .sentinel, .sentinel, .pinned], laidTests := true, laidLooks := .later }
def CongruenceSoundUptoCardSaid : Prop := Claim7.holds Tryz.pinned (.plain (OpenSpec.upto congruenceSoundSpec)) congruenceSoundUptoCard

/-- THE SECOND FORM's CARD OF 'surveyorlaw22.CongruenceMeets'. -/
def congruenceMeetsUptoCard : Claim7 := { stood := { row := congruenceMeetsUptoRow, standIns := [], harness := (true, "443c61bb84a3c56bf642e836a404d75edae270a3bb895eb25277b22a45e9f845"), looks := true }, kinds := [], alts := [], laidByText := true, laidKinds := [.data, .data, .data, .data, .sentinel, .sentinel, .pinned], laidTests := true, laidLooks := .later }
def CongruenceMeetsUptoCardSaid : Prop := Claim7.holds Tryz.pinned (.plain (OpenSpec.upto congruenceMeetsSpec)) congruenceMeetsUptoCard
end Rows
end Go.Proofs.YtignanmmgaldeaaGreatDoor
