/- SignBest: the plain law at the small integers. -/
import Derived.Test.YtlefniheafefgaaGreatDoorDivided
import Derived.Test.YtlefniheafefgaaGreatDoorOpsGiven
import Derived.Test.YtlefniheafefgaaGreatDoorSignGivenZ
import Derived.Test.YtlefniheafefgaaGreatDoorPcomputex1
import Derived.Test.YtlefniheafefgaaGreatDoorPapplyx1
import Derived.Test.YtlefniheafefgaaGreatDoorPawakex1
import Derived.Test.YtlefniheafefgaaGreatDoorPHoldsx1
set_option linter.unusedVariables false
set_option linter.unusedSimpArgs false
namespace Go.Proofs.YtlefniheafefgaaGreatDoor.Best
open Go.RowKit Go.Shelf Go.Proofs.YtlefniheafefgaaGreatDoorW.PrintWords
open Go.Proofs.YtlefniheafefgaaGreatDoor.Pcompute (surveyorlaw19_compute.f surveyorlaw19_compute.calls)
open Go.Proofs.YtlefniheafefgaaGreatDoor.Papply (surveyorlaw19_apply.f surveyorlaw19_apply.calls)
open Go.Proofs.YtlefniheafefgaaGreatDoor.Pawake (surveyorlaw19_awake.f surveyorlaw19_awake.calls)
open Go.Proofs.YtlefniheafefgaaGreatDoor.PHolds (sign_Holds.f sign_Holds.calls sign_Of.f sign_Of.calls)

/-- An operation of two integers. -/
def valO (m x y : Int) : Option Int := if m = 0 then some (x + y) else if m = 1 then some (x + -y) else if m = 2 then some (x * y) else if y = 0 then none else if m = 3 then some (Int.fdiv x y) else some (Int.fmod x y)
def setI (z : Int) : Int := if z < 0 then 1 else if z = 0 then 2 else 4
def hb (s z : Int) : Bool := bits .and .i64 s (setI z) != 0
def res (m x y : Int) : ByteArray × Int := match valO m x y with | some z => (text z, 0) | none => (⟨#[]⟩, 19)
def nine (k : Nat) : Int := (k : Int) - 4
theorem compute9 : ∀ (m : Fin 5) (x y : Fin 9), surveyorlaw19_compute.f m.val (text (nine x.val)) (text (nine y.val)) = some (res m.val (nine x.val) (nine y.val)) := by decide +kernel
theorem of9 : ∀ (m : Fin 5) (x y : Fin 9), ((valO m.val (nine x.val) (nine y.val)).all fun z => sign_Of.f (text z) == some (setI z, 0)) = true := by decide +kernel
theorem holds9 : ∀ (s : Fin 8) (x : Fin 9), sign_Holds.f s.val (text (nine x.val)) = some (hb s.val (nine x.val), 0) := by decide +kernel
def stepF (m s t x y f : Int) : Int := if hb s x && hb t y then (match valO m x y with | some z => bits .or .i64 f (setI z) | none => f) else f
def rowF (m s t x : Int) (f : Int) : Nat → Int
  | 0 => f
  | k + 1 => stepF m s t x (nine k) (rowF m s t x f k)
def allF (m s t : Int) : Nat → Int
  | 0 => 0
  | k + 1 => rowF m s t (nine k) (allF m s t k) 9
theorem apply9 : ∀ (m : Fin 5) (s t : Fin 8), surveyorlaw19_apply.f m.val s.val t.val = some (allF m.val s.val t.val 9, 0) := by decide +kernel
theorem awake9 : surveyorlaw19_awake.f 300 = some true := by decide +kernel
theorem five (o : Int) (ho : 0 ≤ o) : ∃ m : Fin 5, Int.tmod o 5 = (m.val : Int) ∧ o % 5 = (m.val : Int) := by
  have e : Int.tmod o 5 = o % 5 := Int.tmod_eq_emod_of_nonneg ho
  refine ⟨⟨(o % 5).toNat, by omega⟩, ?_, ?_⟩
  · rw [e]; show o % 5 = (((o % 5).toNat : Nat) : Int); omega
  · show o % 5 = (((o % 5).toNat : Nat) : Int); omega
theorem eight (s : Int) (h0 : 0 ≤ s) (h8 : s < 8) : ∃ m : Fin 8, s = (m.val : Int) := ⟨⟨s.toNat, by omega⟩, by show s = ((s.toNat : Nat) : Int); omega⟩
theorem tmod5 : ∀ m : Fin 5, Int.tmod (m.val : Int) 5 = (m.val : Int) := by decide
theorem compute_at (o : Int) (ho : 0 ≤ o) (k k2 : Nat) (hk : k < 9) (hk2 : k2 < 9) : surveyorlaw19_compute.f o (text (nine k)) (text (nine k2)) = some (res (o % 5) (nine k) (nine k2)) := by
  obtain ⟨m, h1, h2⟩ := five o ho
  rw [h2, ← compute9 m ⟨k, hk⟩ ⟨k2, hk2⟩]
  unfold surveyorlaw19_compute.f
  rw [h1, tmod5]
theorem apply_at (o s t : Int) (ho : 0 ≤ o) (s0 : 0 ≤ s) (s8 : s < 8) (t0 : 0 ≤ t) (t8 : t < 8) : surveyorlaw19_apply.f o s t = some (allF (o % 5) s t 9, 0) := by
  obtain ⟨m, h1, h2⟩ := five o ho
  obtain ⟨s, rfl⟩ := eight s s0 s8
  obtain ⟨t, rfl⟩ := eight t t0 t8
  rw [h2, ← apply9 m s t]
  unfold surveyorlaw19_apply.f
  rw [h1, tmod5]
theorem holds_at (s : Int) (s0 : 0 ≤ s) (s8 : s < 8) (k : Nat) (hk : k < 9) : sign_Holds.f s (text (nine k)) = some (hb s (nine k), 0) := by
  obtain ⟨s, rfl⟩ := eight s s0 s8
  exact holds9 s ⟨k, hk⟩
theorem of_at (o : Int) (ho : 0 ≤ o) (k k2 : Nat) (hk : k < 9) (hk2 : k2 < 9) (z : Int) (hz : valO (o % 5) (nine k) (nine k2) = some z) : sign_Of.f (text z) = some (setI z, 0) := by
  obtain ⟨m, h1, h2⟩ := five o ho
  have h := of9 m ⟨k, hk⟩ ⟨k2, hk2⟩
  rw [h2] at hz
  rw [show valO (m.val : Int) (nine (⟨k, hk⟩ : Fin 9).val) (nine (⟨k2, hk2⟩ : Fin 9).val) = some z from hz] at h
  simpa using h
theorem of_some (n : Int) (h : fits n) : bigint_Of.f n = some (text n) := if_pos h
theorem nine_fits (k : Nat) (hk : k < 10) : fits (nine k) := by unfold fits nine; omega
theorem nine_le (k : Nat) (hk : k < 9) : decide (nine k ≤ 4) = true := decide_eq_true (by unfold nine; omega)
theorem nine_gt : decide (nine 9 ≤ 4) = false := by decide
theorem nine_next (k : Nat) (hk : k < 9) : wrap64 (nine k + 1) = nine (k + 1) := by unfold wrap64 nine; omega
end Go.Proofs.YtlefniheafefgaaGreatDoor.Best
