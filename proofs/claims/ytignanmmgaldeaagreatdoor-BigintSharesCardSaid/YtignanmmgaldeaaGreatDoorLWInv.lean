/- Lemmas. -/
import Derived.Test.YtignanmmgaldeaaGreatDoorLWLast
import Derived.Test.YtignanmmgaldeaaGreatDoorLWWords
namespace Go.Proofs.YtignanmmgaldeaaGreatDoorW.PrintLast
/-- Number i is listed too. -/
def up (b : Nat → Bool) (i : Nat) : Nat → Bool := fun j => if j = i then true else b j
end Go.Proofs.YtignanmmgaldeaaGreatDoorW.PrintLast
