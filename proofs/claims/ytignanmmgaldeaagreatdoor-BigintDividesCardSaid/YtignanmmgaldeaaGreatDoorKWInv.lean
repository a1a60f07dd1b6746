/- Lemmas. -/
import Derived.Test.YtignanmmgaldeaaGreatDoorKWLast
import Derived.Test.YtignanmmgaldeaaGreatDoorKWWords
namespace Go.Proofs.YtignanmmgaldeaaGreatDoorW.PrintLast
/-- Number i is listed too. -/
def up (b : Nat → Bool) (i : Nat) : Nat → Bool := fun j => if j = i then true else b j
end Go.Proofs.YtignanmmgaldeaaGreatDoorW.PrintLast
