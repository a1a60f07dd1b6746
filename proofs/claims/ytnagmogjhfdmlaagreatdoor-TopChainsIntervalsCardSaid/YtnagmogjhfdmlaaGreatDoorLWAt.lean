/- Lemmas. -/
import Derived.Test.YtnagmogjhfdmlaaGreatDoorLWN
namespace Go.Proofs.YtnagmogjhfdmlaaGreatDoorW.PrintWords
open Go.RowKit
section
variable {w w' u : World} {m B g : Nat} {o : Obj} {row : Option Nat} {S : Nat → Prop} {a : Addr} {v : Value}
theorem cell_at (hq : w.drewN m = w') (h : w.cell? a = some v) : w'.cell? a = some v := by subst hq; exact h
end
end Go.Proofs.YtnagmogjhfdmlaaGreatDoorW.PrintWords
