/- bigint: Of, Add, Sub, Mul, Quo, Rem as contracts for the print (with the premise GW: Itoa's table). -/
import Derived.Test.YtlefniheafefgaaGreatDoorDivided
set_option linter.unusedVariables false
set_option linter.unusedSimpArgs false
namespace Go.Proofs.YtlefniheafefgaaGreatDoor
open Go.RowKit Go.Shelf Go.Proofs.YtlefniheafefgaaGreatDoorW.PrintWords

/-- What two words may be: of a length that fits. -/
def two63 (a b : ByteArray) : Prop := a.size ≤ 9223372036854775807 ∧ b.size ≤ 9223372036854775807
instance (a b : ByteArray) : Decidable (two63 a b) := by unfold two63; infer_instance
def fits (n : Int) : Prop := -9223372036854775808 ≤ n ∧ n ≤ 9223372036854775807
instance (n : Int) : Decidable (fits n) := by unfold fits; infer_instance
def oneLimb (z : Int) : Prop := z < 1000000000 ∧ -1000000000 < z
instance (n : Int) : Decidable (oneLimb n) := by unfold oneLimb; infer_instance
def bigint_Of.f (a0 : Int) : Option ByteArray := if fits a0 then some (text a0) else none
theorem bigint_Of.calls (a0 : Int) (r0 : ByteArray) (w : World) (hG : GW w) (h : bigint_Of.f a0 = some r0) :
    Calls Tryz.prog 25 #[.int .i64 a0] w fun e w' => e = .returned (.string r0) ∧ Below w.heap.size w w' := by
  unfold bigint_Of.f at h
  split at h
  · rename_i h1
    obtain rfl := Option.some.inj h
    exact of_walk a0 h1.1 h1.2 w hG
  · cases h
def bigint_Add.f (a0 a1 : ByteArray) : Option (ByteArray × Int) := if two63 a0 a1 then (if chk2I a0 a1 = 0 then some (wrS (ivalB a0 + ivalB a1), wrE (ivalB a0 + ivalB a1)) else some (⟨#[]⟩, chk2I a0 a1)) else none
theorem bigint_Add.calls (a0 a1 : ByteArray) (r0 : ByteArray) (r1 : Int) (w : World) (hG : GW w) (h : bigint_Add.f a0 a1 = some (r0, r1)) :
    Calls Tryz.prog 46 #[.string a0, .string a1] w fun e w' => e = .returned (.tuple #[.string r0, .int .i64 r1]) ∧ Below w.heap.size w w' := by
  unfold bigint_Add.f at h
  split at h
  · rename_i h1
    have k := add_walk a0 a1 w h1.1 h1.2 hG
    split at h
    · rename_i h2
      obtain ⟨rfl, rfl⟩ := Prod.mk.inj (Option.some.inj h)
      simp only [if_pos h2] at k
      exact k
    · rename_i h2
      obtain ⟨rfl, rfl⟩ := Prod.mk.inj (Option.some.inj h)
      simp only [if_neg h2] at k
      exact k
  · cases h
def bigint_Sub.f (a0 a1 : ByteArray) : Option (ByteArray × Int) := if two63 a0 a1 then (if chk2I a0 a1 = 0 then some (wrS (ivalB a0 + -ivalB a1), wrE (ivalB a0 + -ivalB a1)) else some (⟨#[]⟩, chk2I a0 a1)) else none
theorem bigint_Sub.calls (a0 a1 : ByteArray) (r0 : ByteArray) (r1 : Int) (w : World) (hG : GW w) (h : bigint_Sub.f a0 a1 = some (r0, r1)) :
    Calls Tryz.prog 47 #[.string a0, .string a1] w fun e w' => e = .returned (.tuple #[.string r0, .int .i64 r1]) ∧ Below w.heap.size w w' := by
  unfold bigint_Sub.f at h
  split at h
  · rename_i h1
    have k := sub_walk a0 a1 w h1.1 h1.2 hG
    split at h
    · rename_i h2
      obtain ⟨rfl, rfl⟩ := Prod.mk.inj (Option.some.inj h)
      simp only [if_pos h2] at k
      exact k
    · rename_i h2
      obtain ⟨rfl, rfl⟩ := Prod.mk.inj (Option.some.inj h)
      simp only [if_neg h2] at k
      exact k
  · cases h
def bigint_Mul.f (a0 a1 : ByteArray) : Option (ByteArray × Int) := if two63 a0 a1 then (if chk2I a0 a1 = 0 then some (wrS (ivalB a0 * ivalB a1), wrE (ivalB a0 * ivalB a1)) else some (⟨#[]⟩, chk2I a0 a1)) else none
theorem bigint_Mul.calls (a0 a1 : ByteArray) (r0 : ByteArray) (r1 : Int) (w : World) (hG : GW w) (h : bigint_Mul.f a0 a1 = some (r0, r1)) :
    Calls Tryz.prog 48 #[.string a0, .string a1] w fun e w' => e = .returned (.tuple #[.string r0, .int .i64 r1]) ∧ Below w.heap.size w w' := by
  unfold bigint_Mul.f at h
  split at h
  · rename_i h1
    have k := mul_walk a0 a1 w h1.1 h1.2 hG
    split at h
    · rename_i h2
      obtain ⟨rfl, rfl⟩ := Prod.mk.inj (Option.some.inj h)
      simp only [if_pos h2] at k
      exact k
    · rename_i h2
      obtain ⟨rfl, rfl⟩ := Prod.mk.inj (Option.some.inj h)
      simp only [if_neg h2] at k
      exact k
  · cases h
def bigint_Quo.f (a0 a1 : ByteArray) : Option (ByteArray × Int) := if two63 a0 a1 ∧ oneLimb (ivalB a1) then some (dvS a0 a1 (Int.fdiv (ivalB a0) (ivalB a1)), dvE a0 a1) else none
theorem bigint_Quo.calls (a0 a1 : ByteArray) (r0 : ByteArray) (r1 : Int) (w : World) (hG : GW w) (h : bigint_Quo.f a0 a1 = some (r0, r1)) :
    Calls Tryz.prog 49 #[.string a0, .string a1] w fun e w' => e = .returned (.tuple #[.string r0, .int .i64 r1]) ∧ Below w.heap.size w w' := by
  unfold bigint_Quo.f at h
  split at h
  · rename_i h1
    obtain ⟨rfl, rfl⟩ := Prod.mk.inj (Option.some.inj h)
    exact quo_walk a0 a1 w h1.1.1 h1.1.2 (divZ_small h1.2) hG
  · cases h
def bigint_Rem.f (a0 a1 : ByteArray) : Option (ByteArray × Int) := if two63 a0 a1 ∧ oneLimb (ivalB a1) then some (dvS a0 a1 (Int.fmod (ivalB a0) (ivalB a1)), dvE a0 a1) else none
theorem bigint_Rem.calls (a0 a1 : ByteArray) (r0 : ByteArray) (r1 : Int) (w : World) (hG : GW w) (h : bigint_Rem.f a0 a1 = some (r0, r1)) :
    Calls Tryz.prog 50 #[.string a0, .string a1] w fun e w' => e = .returned (.tuple #[.string r0, .int .i64 r1]) ∧ Below w.heap.size w w' := by
  unfold bigint_Rem.f at h
  split at h
  · rename_i h1
    obtain ⟨rfl, rfl⟩ := Prod.mk.inj (Option.some.inj h)
    exact rem_walk a0 a1 w h1.1.1 h1.1.2 (divZ_small h1.2) hG
  · cases h
end Go.Proofs.YtlefniheafefgaaGreatDoor
