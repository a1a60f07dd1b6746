/-
  DERIVED. GIVEN WITH THE SEED: THE CARDS: each row of YtnagmogjhfdmlaaGreatDoorRows.lean that lists a variable, with what it lists TIED to the program's text (the seventh form; the later family's looks); each row that meets fmt, with fmt's text TOLD by the authors' own Lean function (tested against real Go, not proved from fmt's source: count such statements apart). THE CARD IS WHAT COUNTS. Prove the row's statement (the work); the ties are given (YtnagmogjhfdmlaaGreatDoorTie.lean); close each card by the builder's one call (the guide's Derived/Test/ToyasCard.lean, 'card_holds'). Laid BY PROGRAM, IN A SANDBOX (cutbox-door.mjs). By AI agents, Wed Nov 11 2026. No macro, syntax, notation, axiom, sorry.
-/
import Derived.Test.YtnagmogjhfdmlaaGreatDoorRows
import GoSem.ClaimSeven
namespace Go.Proofs.YtnagmogjhfdmlaaGreatDoor
namespace Rows

/-- THE TIED CARD OF 'surveyortop.TopChainsIntervals'. -/
def topChainsIntervalsCard : Claim7 := { stood := { row := topChainsIntervalsRow, standIns := [], harness := (true, "8902f532b9d04fbad2fadcee8030b63baa3901748e8818ee3ba8888dd2b4aec5"), looks := true }, kinds := [], alts := [], laidByText := true, laidKinds := [.data, .data, .data, .data, .sentinel, .sentinel, .pinned], laidTests := true, laidLooks := .later }
def TopChainsIntervalsCardSaid : Prop := Claim7.holds Tryz.pinned (.plain (OpenSpec.ofChange topChainsIntervalsSpec)) topChainsIntervalsCard

/-- THE SECOND FORM's CARD OF 'surveyortop.TopChainsIntervals'. -/
def topChainsIntervalsUptoCard : Claim7 := { stood := { row := topChainsIntervalsUptoRow, standIns := [], harness := (true, "8902f532b9d04fbad2fadcee8030b63baa3901748e8818ee3ba8888dd2b4aec5"), looks := true }, kinds := [], alts := [], laidByText := true, laidKinds := [.data, .data, .data, .data, .sentinel, .sentinel, .pinned], laidTests := true, laidLooks := .later }
def TopChainsIntervalsUptoCardSaid : Prop := Claim7.holds Tryz.pinned (.plain (OpenSpec.upto topChainsIntervalsSpec)) topChainsIntervalsUptoCard
end Rows
end Go.Proofs.YtnagmogjhfdmlaaGreatDoor
