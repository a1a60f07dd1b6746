/-
  DERIVED. GIVEN WITH THE SEED: THE CARDS: each row of YtdldoghcbnkkjaaGreatDoorRows.lean that lists a variable, with what it lists TIED to the program's text (the seventh form; the later family's looks); each row that meets fmt, with fmt's text TOLD by the authors' own Lean function (tested against real Go, not proved from fmt's source: count such statements apart). THE CARD IS WHAT COUNTS. Prove the row's statement (the work); the ties are given (YtdldoghcbnkkjaaGreatDoorTie.lean); close each card by the builder's one call (the guide's Derived/Test/ToyasCard.lean, 'card_holds'). Laid BY PROGRAM, IN A SANDBOX (cutbox-door.mjs). By AI agents, Wed Nov 11 2026. No macro, syntax, notation, axiom, sorry.
-/
import Derived.Test.YtdldoghcbnkkjaaGreatDoorRows
import GoSem.ClaimSeven
namespace Go.Proofs.YtdldoghcbnkkjaaGreatDoor
namespace Rows

/-- THE TIED CARD OF 'surveyorlaw19.SignSound'. -/
def signSoundCard : Claim7 := { stood := { row := signSoundRow, standIns := [], harness := (true, "74d3dcb99d9915f8d39fa5b752f893d1bbe2f91094abc46a06b9bd9e08663ef1"), looks := true }, kinds := [], alts := [], laidByText := true, laidKinds := [.data, .data, .data, .data, .sentinel, .sentinel, .pinned], laidTests := true, laidLooks := .later }
def SignSoundCardSaid : Prop := Claim7.holds Tryz.pinned (.plain (OpenSpec.ofChange signSoundSpec)) signSoundCard

/-- THE TIED CARD OF 'surveyorlaw01.BigintDivides'. -/
def bigintDividesCard : Claim7 := { stood := { row := bigintDividesRow, standIns := [], harness := (true, "74d3dcb99d9915f8d39fa5b752f893d1bbe2f91094abc46a06b9bd9e08663ef1"), looks := true }, kinds := [], alts := [], laidByText := true, laidKinds := [.data, .data, .data, .data, .sentinel, .sentinel, .pinned], laidTests := true, laidLooks := .later }
def BigintDividesCardSaid : Prop := Claim7.holds Tryz.pinned (.plain (OpenSpec.ofChange bigintDividesSpec)) bigintDividesCard

/-- THE TIED CARD OF 'surveyorlaw01.BigintPowers'. -/
def bigintPowersCard : Claim7 := { stood := { row := bigintPowersRow, standIns := [], harness := (true, "74d3dcb99d9915f8d39fa5b752f893d1bbe2f91094abc46a06b9bd9e08663ef1"), looks := true }, kinds := [], alts := [], laidByText := true, laidKinds := [.data, .data, .data, .data, .sentinel, .sentinel, .pinned], laidTests := true, laidLooks := .later }
def BigintPowersCardSaid : Prop := Claim7.holds Tryz.pinned (.plain (OpenSpec.ofChange bigintPowersSpec)) bigintPowersCard

/-- THE TIED CARD OF 'surveyorlaw01.BigintAdds'. -/
def bigintAddsCard : Claim7 := { stood := { row := bigintAddsRow, standIns := [], harness := (true, "74d3dcb99d9915f8d39fa5b752f893d1bbe2f91094abc46a06b9bd9e08663ef1"), looks := true }, kinds := [], alts := [], laidByText := true, laidKinds := [.data, .data, .data, .data, .sentinel, .sentinel, .pinned], laidTests := true, laidLooks := .later }
def BigintAddsCardSaid : Prop := Claim7.holds Tryz.pinned (.plain (OpenSpec.ofChange bigintAddsSpec)) bigintAddsCard

/-- THE TIED CARD OF 'surveyorlaw01.BigintShares'. -/
def bigintSharesCard : Claim7 := { stood := { row := bigintSharesRow, standIns := [], harness := (true, "74d3dcb99d9915f8d39fa5b752f893d1bbe2f91094abc46a06b9bd9e08663ef1"), looks := true }, kinds := [], alts := [], laidByText := true, laidKinds := [.data, .data, .data, .data, .sentinel, .sentinel, .pinned], laidTests := true, laidLooks := .later }
def BigintSharesCardSaid : Prop := Claim7.holds Tryz.pinned (.plain (OpenSpec.ofChange bigintSharesSpec)) bigintSharesCard

/-- THE TIED CARD OF 'surveyorlaw01.BigintRing'. -/
def bigintRingCard : Claim7 := { stood := { row := bigintRingRow, standIns := [], harness := (true, "74d3dcb99d9915f8d39fa5b752f893d1bbe2f91094abc46a06b9bd9e08663ef1"), looks := true }, kinds := [], alts := [], laidByText := true, laidKinds := [.data, .data, .data, .data, .sentinel, .sentinel, .pinned], laidTests := true, laidLooks := .later }
def BigintRingCardSaid : Prop := Claim7.holds Tryz.pinned (.plain (OpenSpec.ofChange bigintRingSpec)) bigintRingCard

/-- THE TIED CARD OF 'surveyorlaw01.BigintDivisors'. -/
def bigintDivisorsCard : Claim7 := { stood := { row := bigintDivisorsRow, standIns := [], harness := (true, "74d3dcb99d9915f8d39fa5b752f893d1bbe2f91094abc46a06b9bd9e08663ef1"), looks := true }, kinds := [], alts := [], laidByText := true, laidKinds := [.data, .data, .data, .data, .sentinel, .sentinel, .pinned], laidTests := true, laidLooks := .later }
def BigintDivisorsCardSaid : Prop := Claim7.holds Tryz.pinned (.plain (OpenSpec.ofChange bigintDivisorsSpec)) bigintDivisorsCard

/-- THE TIED CARD OF 'surveyorlaw01.BigintRests'. -/
def bigintRestsCard : Claim7 := { stood := { row := bigintRestsRow, standIns := [], harness := (true, "74d3dcb99d9915f8d39fa5b752f893d1bbe2f91094abc46a06b9bd9e08663ef1"), looks := true }, kinds := [], alts := [], laidByText := true, laidKinds := [.data, .data, .data, .data, .sentinel, .sentinel, .pinned], laidTests := true, laidLooks := .later }
def BigintRestsCardSaid : Prop := Claim7.holds Tryz.pinned (.plain (OpenSpec.ofChange bigintRestsSpec)) bigintRestsCard

/-- THE TIED CARD OF 'surveyorlaw01.BigintAgrees'. -/
def bigintAgreesCard : Claim7 := { stood := { row := bigintAgreesRow, standIns := [], harness := (true, "74d3dcb99d9915f8d39fa5b752f893d1bbe2f91094abc46a06b9bd9e08663ef1"), looks := true }, kinds := [], alts := [], laidByText := true, laidKinds := [.data, .data, .data, .data, .sentinel, .sentinel, .pinned], laidTests := true, laidLooks := .later }
def BigintAgreesCardSaid : Prop := Claim7.holds Tryz.pinned (.plain (OpenSpec.ofChange bigintAgreesSpec)) bigintAgreesCard

/-- THE TIED CARD OF 'surveyorlaw01.BigintOrders'. -/
def bigintOrdersCard : Claim7 := { stood := { row := bigintOrdersRow, standIns := [], harness := (true, "74d3dcb99d9915f8d39fa5b752f893d1bbe2f91094abc46a06b9bd9e08663ef1"), looks := true }, kinds := [], alts := [], laidByText := true, laidKinds := [.data, .data, .data, .data, .sentinel, .sentinel, .pinned], laidTests := true, laidLooks := .later }
def BigintOrdersCardSaid : Prop := Claim7.holds Tryz.pinned (.plain (OpenSpec.ofChange bigintOrdersSpec)) bigintOrdersCard

/-- THE TIED CARD OF 'surveyorlaw01.BigintChecks'. -/
def bigintChecksCard : Claim7 := { stood := { row := bigintChecksRow, standIns := [], harness := (true, "74d3dcb99d9915f8d39fa5b752f893d1bbe2f91094abc46a06b9bd9e08663ef1"), looks := true }, kinds := [], alts := [], laidByText := true, laidKinds := [.data, .data, .data, .data, .sentinel, .sentinel, .pinned], laidTests := true, laidLooks := .later }
def BigintChecksCardSaid : Prop := Claim7.holds Tryz.pinned (.plain (OpenSpec.ofChange bigintChecksSpec)) bigintChecksCard

/-- THE SECOND FORM's CARD OF 'surveyorlaw19.SignSound'. -/
def signSoundUptoCard : Claim7 := { stood := { row := signSoundUptoRow, standIns := [], harness := (true, "74d3dcb99d9915f8d39fa5b752f893d1bbe2f91094abc46a06b9bd9e08663ef1"), looks := true }, kinds := [], alts := [], laidByText := true, laidKinds := [.data, .data, .data, .data, .sentinel, .sentinel, .pinned], laidTests := true, laidLooks := .later }
def SignSoundUptoCardSaid : Prop := Claim7.holds Tryz.pinned (.plain (OpenSpec.upto signSoundSpec)) signSoundUptoCard

/-- THE SECOND FORM's CARD OF 'surveyorlaw01.BigintDivides'. -/
def bigintDividesUptoCard : Claim7 := { stood := { row := bigintDividesUptoRow, standIns := [], harness := (true, "74d3dcb99d9915f8d39fa5b752f893d1bbe2f91094abc46a06b9bd9e08663ef1"), looks := true }, kinds := [], alts := [], laidByText := true, laidKinds := [.data, .data, .data, .data, .sentinel, .sentinel, .pinned], laidTests := true, laidLooks := .later }
def BigintDividesUptoCardSaid : Prop := Claim7.holds Tryz.pinned (.plain (OpenSpec.upto bigintDividesSpec)) bigintDividesUptoCard

/-- THE SECOND FORM's CARD OF 'surveyorlaw01.BigintPowers'. -/
def bigintPowersUptoCard : Claim7 := { stood := { row := bigintPowersUptoRow, standIns := [], harness := (true, "74d3dcb99d9915f8d39fa5b752f893d1bbe2f91094abc46a06b9bd9e08663ef1"), looks := true }, kinds := [], alts := [], laidByText := true, laidKinds := [.data, .data, .data, .data, .sentinel, .sentinel, .pinned], laidTests := true, laidLooks := .later }
def BigintPowersUptoCardSaid : Prop := Claim7.holds Tryz.pinned (.plain (OpenSpec.upto bigintPowersSpec)) bigintPowersUptoCard

/-- THE SECOND FORM's CARD OF 'surveyorlaw01.BigintAdds'. -/
def bigintAddsUptoCard : Claim7 := { stood := { row := bigintAddsUptoRow, standIns := [], harness := (true, "74d3dcb99d9915f8d39fa5b752f893d1bbe2f91094abc46a06b9bd9e08663ef1"), looks := true }, kinds := [], alts := [], laidByText := true, laidKinds := [.data, .data, .data, .data, .sentinel, .sentinel, .pinned], laidTests := true, laidLooks := .later }
def BigintAddsUptoCardSaid : Prop := Claim7.holds Tryz.pinned (.plain (OpenSpec.upto bigintAddsSpec)) bigintAddsUptoCard

/-- THE SECOND FORM's CARD OF 'surveyorlaw01.BigintShares'. -/
def bigintSharesUptoCard : Claim7 := { stood := { row := bigintSharesUptoRow, standIns := [], harness := (true, "74d3dcb99d9915f8d39fa5b752f893d1bbe2f91094abc46a06b9bd9e08663ef1"), looks := true }, kinds := [], alts := [], laidByText := true, laidKinds := [.data, .data, .data, .data, .sentinel, .sentinel, .pinned], laidTests := true, laidLooks := .later }
def BigintSharesUptoCardSaid : Prop := Claim7.holds Tryz.pinned (.plain (OpenSpec.upto bigintSharesSpec)) bigintSharesUptoCard

/-- THE SECOND FORM's CARD OF 'surveyorlaw01.BigintRing'. -/
def bigintRingUptoCard : Claim7 := { stood := { row := bigintRingUptoRow, standIns := [], harness := (true, "74d3dcb99d9915f8d39fa5b752f893d1bbe2f91094abc46a06b9bd9e08663ef1"), looks := true }, kinds := [], alts := [], laidByText := true, laidKinds := [.data, .data, .data, .data, .sentinel, .sentinel, .pinned], laidTests := true, laidLooks := .later }
def BigintRingUptoCardSaid : Prop := Claim7.holds Tryz.pinned (.plain (OpenSpec.upto bigintRingSpec)) bigintRingUptoCard

/-- THE SECOND FORM's CARD OF 'surveyorlaw01.BigintDivisors'. -/
def bigintDivisorsUptoCard : Claim7 := { stood := { row := bigintDivisorsUptoRow, standIns := [], harness := (true, "74d3dcb99d9915f8d39fa5b752f893d1bbe2f91094abc46a06b9bd9e08663ef1"), looks := true }, kinds := [], alts := [], laidByText := true, laidKinds := [.data, .data, .data, .data, .sentinel, .sentinel, .pinned], laidTests := true, laidLooks := .later }
def BigintDivisorsUptoCardSaid : Prop := Claim7.holds Tryz.pinned (.plain (OpenSpec.upto bigintDivisorsSpec)) bigintDivisorsUptoCard

/-- THE SECOND FORM's CARD OF 'surveyorlaw01.BigintRests'. -/
def bigintRestsUptoCard : Claim7 := { stood := { row := bigintRestsUptoRow, standIns := [], harness := (true, "74d3dcb99d9915f8d39fa5b752f893d1bbe2f91094abc46a06b9bd9e08663ef1"), looks := true }, kinds := [], alts := [], laidByText := true, laidKinds := [.data, .data, .data, .data, .sentinel, .sentinel, .pinned], laidTests := true, laidLooks := .later }
def BigintRestsUptoCardSaid : Prop := Claim7.holds Tryz.pinned (.plain (OpenSpec.upto bigintRestsSpec)) bigintRestsUptoCard

/-- THE SECOND FORM's CARD OF 'surveyorlaw01.BigintAgrees'. -/
def bigintAgreesUptoCard : Claim7 := { stood := { row := bigintAgreesUptoRow, standIns := [], harness := (true, "74d3dcb99d9915f8d39fa5b752f893d1bbe2f91094abc46a06b9bd9e08663ef1"), looks := true }, kinds := [], alts := [], laidByText := true, laidKinds := [.data, .data, .data, .data, .sentinel, .sentinel, .pinned], laidTests := true, laidLooks := .later }
def BigintAgreesUptoCardSaid : Prop := Claim7.holds Tryz.pinned (.plain (OpenSpec.upto bigintAgreesSpec)) bigintAgreesUptoCard

/-- THE SECOND FORM's CARD OF 'surveyorlaw01.BigintOrders'. -/
def bigintOrdersUptoCard : Claim7 := { stood := { row := bigintOrdersUptoRow, standIns := [], harness := (true, "74d3dcb99d9915f8d39fa5b752f893d1bbe2f91094abc46a06b9bd9e08663ef1"), looks := true }, kinds := [], alts := [], laidByText := true, laidKinds := [.data, .data, .data, .data, .sentinel, .sentinel, .pinned], laidTests := true, laidLooks := .later }
def BigintOrdersUptoCardSaid : Prop := Claim7.holds Tryz.pinned (.plain (OpenSpec.upto bigintOrdersSpec)) bigintOrdersUptoCard

/-- THE SECOND FORM's CARD OF 'surveyorlaw01.BigintChecks'. -/
def bigintChecksUptoCard : Claim7 := { stood := { row := bigintChecksUptoRow, standIns := [], harness := (true, "74d3dcb99d9915f8d39fa5b752f893d1bbe2f91094abc46a06b9bd9e08663ef1"), looks := true }, kinds := [], alts := [], laidByText := true, laidKinds := [.data, .data, .data, .data, .sentinel, .sentinel, .pinned], laidTests := true, laidLooks := .later }
def BigintChecksUptoCardSaid : Prop := Claim7.holds Tryz.pinned (.plain (OpenSpec.upto bigintChecksSpec)) bigintChecksUptoCard
end Rows
end Go.Proofs.YtdldoghcbnkkjaaGreatDoor
