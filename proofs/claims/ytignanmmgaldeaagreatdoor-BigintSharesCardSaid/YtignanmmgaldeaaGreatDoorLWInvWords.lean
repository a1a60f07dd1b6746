/- Lemmas. -/
import Derived.Test.YtignanmmgaldeaaGreatDoorLWInv
import Derived.Test.YtignanmmgaldeaaGreatDoorLWN
namespace Go.Proofs.YtignanmmgaldeaaGreatDoorW.PrintLast
section
variable {ops : Array Oper} {a : Act} {o og : Oper} {g : Nat} {t : Tmp} {u : Bool}
/-- An operand out of its slot. -/
theorem eval_of {v : Value} (h : a.tmps[t]? = some v) : a.eval (.tmp t) = v := by simp [Act.eval, h]
end
end Go.Proofs.YtignanmmgaldeaaGreatDoorW.PrintLast
