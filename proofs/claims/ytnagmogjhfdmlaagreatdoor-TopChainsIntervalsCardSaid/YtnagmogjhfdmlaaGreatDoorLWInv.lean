/- Lemmas. -/
import Derived.Test.YtnagmogjhfdmlaaGreatDoorLWTab
namespace Go.Proofs.YtnagmogjhfdmlaaGreatDoorW.PrintLast
/-- Number i is listed too. -/
def up (b : Nat → Bool) (i : Nat) : Nat → Bool := fun j => if j = i then true else b j
end Go.Proofs.YtnagmogjhfdmlaaGreatDoorW.PrintLast
