/-
  DERIVED. GIVEN WITH THE SEED: THE CARDS: each row of YtlefniheafefgaaGreatDoorRows.lean that lists a variable, with what it lists TIED to the program's text (the seventh form; the later family's looks); each row that meets fmt, with fmt's text TOLD by the authors' own Lean function (tested against real Go, not proved from fmt's source: count such statements apart). THE CARD IS WHAT COUNTS. Prove the row's statement (the work); the ties are given (YtlefniheafefgaaGreatDoorTie.lean); close each card by the builder's one call (the guide's Derived/Test/ToyasCard.lean, 'card_holds'). Laid BY PROGRAM, IN A SANDBOX (cutbox-door.mjs). By AI agents, Wed Nov 11 2026. No macro, syntax, notation, axiom, sorry.
-/
import Derived.Test.YtlefniheafefgaaGreatDoorRows
import GoSem.ClaimSeven
namespace Go.Proofs.YtlefniheafefgaaGreatDoor
namespace Rows

/-- THE TIED CARD OF 'surveyorlaw19.SignKeeps'. -/
def signKeepsCard : Claim7 := { stood := { row := signKeepsRow, standIns := [], harness := (true, "5fed4a8d243bf84c763836c84c64b80e2ca4c2e712f6c414a3c79fdd97283913"), looks := true }, kinds := [], alts := [], laidByText := true, laidKinds := [.data, .data, .data, .data, .sentinel, .sentinel, .pinned], laidTests := true, laidLooks := .later }
def SignKeepsCardSaid : Prop := Claim7.holds Tryz.pinned (.plain (OpenSpec.ofChange signKeepsSpec)) signKeepsCard

/-- THE TIED CARD OF 'surveyorlaw19.SignHolds'. -/
def signHoldsCard : Claim7 := { stood := { row := signHoldsRow, standIns := [], harness := (true, "5fed4a8d243bf84c763836c84c64b80e2ca4c2e712f6c414a3c79fdd97283913"), looks := true }, kinds := [], alts := [], laidByText := true, laidKinds := [.data, .data, .data, .data, .sentinel, .sentinel, .pinned], laidTests := true, laidLooks := .later }
def SignHoldsCardSaid : Prop := Claim7.holds Tryz.pinned (.plain (OpenSpec.ofChange signHoldsSpec)) signHoldsCard

/-- THE TIED CARD OF 'surveyorlaw19.SignSound'. -/
def signSoundCard : Claim7 := { stood := { row := signSoundRow, standIns := [], harness := (true, "5fed4a8d243bf84c763836c84c64b80e2ca4c2e712f6c414a3c79fdd97283913"), looks := true }, kinds := [], alts := [], laidByText := true, laidKinds := [.data, .data, .data, .data, .sentinel, .sentinel, .pinned], laidTests := true, laidLooks := .later }
def SignSoundCardSaid : Prop := Claim7.holds Tryz.pinned (.plain (OpenSpec.ofChange signSoundSpec)) signSoundCard

/-- THE TIED CARD OF 'surveyorlaw19.SignBest'. -/
def signBestCard : Claim7 := { stood := { row := signBestRow, standIns := [], harness := (true, "5fed4a8d243bf84c763836c84c64b80e2ca4c2e712f6c414a3c79fdd97283913"), looks := true }, kinds := [], alts := [], laidByText := true, laidKinds := [.data, .data, .data, .data, .sentinel, .sentinel, .pinned], laidTests := true, laidLooks := .later }
def SignBestCardSaid : Prop := Claim7.holds Tryz.pinned (.plain (OpenSpec.ofChange signBestSpec)) signBestCard

/-- THE SECOND FORM's CARD OF 'surveyorlaw19.SignKeeps'. -/
def signKeepsUptoCard : Claim7 := { stood := { row := signKeepsUptoRow, standIns := [], harness := (true, "5fed4a8d243bf84c763836c84c64b80e2ca4c2e712f6c414a3c79fdd97283913"), looks := true }, kinds := [], alts := [], laidByText := true, laidKinds := [.data, .data, .data, .data, .sentinel, .sentinel, .pinned], laidTests := true, laidLooks := .later }
def SignKeepsUptoCardSaid : Prop := Claim7.holds Tryz.pinned (.plain (OpenSpec.upto signKeepsSpec)) signKeepsUptoCard

/-- THE SECOND FORM's CARD OF 'surveyorlaw19.SignHolds'. -/
def signHoldsUptoCard : Claim7 := { stood := { row := signHoldsUptoRow, standIns := [], harness := (true, "5fed4a8d243bf84c763836c84c64b80e2ca4c2e712f6c414a3c79fdd97283913"), looks := true }, kinds := [], alts := [], laidByText := true, laidKinds := [.data, .data, .data, .data, .sentinel, .sentinel, .pinned], laidTests := true, laidLooks := .later }
def SignHoldsUptoCardSaid : Prop := Claim7.holds Tryz.pinned (.plain (OpenSpec.upto signHoldsSpec)) signHoldsUptoCard

/-- THE SECOND FORM's CARD OF 'surveyorlaw19.SignSound'. -/
def signSoundUptoCard : Claim7 := { stood := { row := signSoundUptoRow, standIns := [], harness := (true, "5fed4a8d243bf84c763836c84c64b80e2ca4c2e712f6c414a3c79fdd97283913"), looks := true }, kinds := [], alts := [], laidByText := true, laidKinds := [.data, .data, .data, .data, .sentinel, .sentinel, .pinned], laidTests := true, laidLooks := .later }
def SignSoundUptoCardSaid : Prop := Claim7.holds Tryz.pinned (.plain (OpenSpec.upto signSoundSpec)) signSoundUptoCard

/-- THE SECOND FORM's CARD OF 'surveyorlaw19.SignBest'. -/
def signBestUptoCard : Claim7 := { stood := { row := signBestUptoRow, standIns := [], harness := (true, "5fed4a8d243bf84c763836c84c64b80e2ca4c2e712f6c414a3c79fdd97283913"), looks := true }, kinds := [], alts := [], laidByText := true, laidKinds := [.data, .data, .data, .data, .sentinel, .sentinel, .pinned], laidTests := true, laidLooks := .later }
def SignBestUptoCardSaid : Prop := Claim7.holds Tryz.pinned (.plain (OpenSpec.upto signBestSpec)) signBestUptoCard
end Rows
end Go.Proofs.YtlefniheafefgaaGreatDoor
