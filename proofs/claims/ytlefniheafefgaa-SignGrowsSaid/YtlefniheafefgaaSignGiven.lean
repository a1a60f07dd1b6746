/- The contracts of package sign, in the form in which the printed texts take them. -/
import Derived.Test.YtlefniheafefgaaSignFn
set_option linter.unusedVariables false
set_option linter.unusedSimpArgs false
namespace Go.Proofs.Ytlefniheafefgaa
open Go.RowKit

set_option maxRecDepth 100000 in
set_option maxHeartbeats 2000000 in
theorem refine_op (op s t : Int) (w : World) (h : op < 2 ∨ 5 < op) :
    Calls Try.prog 7 #[.int .i64 op, .int .i64 s, .int .i64 t] w fun e W' => e = .returned (.tuple #[.int .i64 0, .int .i64 0, .int .i64 1]) ∧ Below w.heap.size w W' := by
  rcases h with h | h
  · have e2 : decide (op < 2) = true := by simpa using h
    go_enter Try.func7, Try.ntmps7
    go_wp2
    go_ret3
    exact ⟨rfl, ((Below.refl _ _).alloc (Nat.le_refl _) _).alloc (by simp) _⟩
  · have e2 : decide (op < 2) = false := by simp; omega
    have e5 : decide (5 < op) = true := by simpa using h
    go_enter Try.func7, Try.ntmps7
    go_wp2
    go_ret3
    exact ⟨rfl, ((Below.refl _ _).alloc (Nat.le_refl _) _).alloc (by simp) _⟩

set_option maxRecDepth 100000 in
set_option maxHeartbeats 2000000 in
theorem refine_err (op s t : Int) (w : World) (h2 : 2 ≤ op) (h5 : op ≤ 5) (c : Int) (h : chk2 s t = c) (hc : c ≠ 0) :
    Calls Try.prog 7 #[.int .i64 op, .int .i64 s, .int .i64 t] w fun e W' => e = .returned (.tuple #[.int .i64 0, .int .i64 0, .int .i64 c]) ∧ Below w.heap.size w W' := by
  have hboth := fun w => both_any s t w
  rw [h] at hboth
  have Hboth := Lib.hid hboth
  have e0 : (c == 0) = false := by simpa using hc
  have e1 : (c != 0) = true := by simpa using hc
  have e2 : decide (op < 2) = false := by simp; omega
  have e5 : decide (5 < op) = false := by simp; omega
  clear hboth h hc
  go_enter Try.func7, Try.ntmps7
  go_wp2_with (first | (go_at_call 22; refine (Hboth.out _).mono ?_; rintro e w' ⟨rfl, rfl⟩) | go_in)
  go_ret3
  exact ⟨rfl, ((Below.refl _ _).alloc (Nat.le_refl _) _).alloc (by simp) _⟩

def sign_Refine.f (a0 a1 a2 : Int) : Option (Int × Int × Int) :=
  if 2 ≤ a0 ∧ a0 ≤ 5 then (if chk2 a1 a2 = 0 then some ((refAll a0 (sgl a1 3) (sgl a2 3)).1, (refAll a0 (sgl a1 3) (sgl a2 3)).2, 0) else some (0, 0, chk2 a1 a2)) else some (0, 0, 1)
theorem sign_Refine.calls (a0 a1 a2 r0 r1 r2 : Int) (w : World) (h : sign_Refine.f a0 a1 a2 = some (r0, r1, r2)) :
    Calls Try.prog 7 #[.int .i64 a0, .int .i64 a1, .int .i64 a2] w fun e w' => e = .returned (.tuple #[.int .i64 r0, .int .i64 r1, .int .i64 r2]) ∧ Below w.heap.size w w' := by
  unfold sign_Refine.f at h
  split at h
  · rename_i ho
    split at h
    · rename_i hc
      cases h
      exact refine_ok a0 a1 a2 w ho.1 ho.2 hc
    · rename_i hc
      cases h
      exact refine_err a0 a1 a2 w ho.1 ho.2 _ rfl hc
  · cases h
    exact refine_op a0 a1 a2 w (by omega)

def sign_Add.f (a0 a1 : Int) : Option (Int × Int) := if chk2 a0 a1 = 0 then some (tabOp sumsT a0 a1, 0) else some (0, chk2 a0 a1)
theorem sign_Add.calls (a0 a1 r0 r1 : Int) (w : World) (h : sign_Add.f a0 a1 = some (r0, r1)) :
    Calls Try.prog 29 #[.int .i64 a0, .int .i64 a1] w fun e w' => e = .returned (.tuple #[.int .i64 r0, .int .i64 r1]) ∧ Below w.heap.size w w' := by
  unfold sign_Add.f at h
  split at h
  · rename_i hc
    cases h
    exact sAdd_ok a0 a1 w hc
  · rename_i hc
    cases h
    exact sAdd_err a0 a1 w _ rfl hc

def sign_Sub.f (a0 a1 : Int) : Option (Int × Int) := if chk2 a0 a1 = 0 then some (tabOp sumsT a0 (opp a1), 0) else some (0, chk2 a0 a1)
theorem sign_Sub.calls (a0 a1 r0 r1 : Int) (w : World) (h : sign_Sub.f a0 a1 = some (r0, r1)) :
    Calls Try.prog 33 #[.int .i64 a0, .int .i64 a1] w fun e w' => e = .returned (.tuple #[.int .i64 r0, .int .i64 r1]) ∧ Below w.heap.size w w' := by
  unfold sign_Sub.f at h
  split at h
  · rename_i hc
    cases h
    exact sSub_ok a0 a1 w hc
  · rename_i hc
    cases h
    exact sSub_err a0 a1 w _ rfl hc

def sign_Mul.f (a0 a1 : Int) : Option (Int × Int) := if chk2 a0 a1 = 0 then some (tabOp prodT a0 a1, 0) else some (0, chk2 a0 a1)
theorem sign_Mul.calls (a0 a1 r0 r1 : Int) (w : World) (h : sign_Mul.f a0 a1 = some (r0, r1)) :
    Calls Try.prog 34 #[.int .i64 a0, .int .i64 a1] w fun e w' => e = .returned (.tuple #[.int .i64 r0, .int .i64 r1]) ∧ Below w.heap.size w w' := by
  unfold sign_Mul.f at h
  split at h
  · rename_i hc
    cases h
    exact sMul_ok a0 a1 w hc
  · rename_i hc
    cases h
    exact sMul_err a0 a1 w _ rfl hc

def sign_Quo.f (a0 a1 : Int) : Option (Int × Int) := if chk2 a0 a1 = 0 then some (tabOp quoT a0 a1, 0) else some (0, chk2 a0 a1)
theorem sign_Quo.calls (a0 a1 r0 r1 : Int) (w : World) (h : sign_Quo.f a0 a1 = some (r0, r1)) :
    Calls Try.prog 30 #[.int .i64 a0, .int .i64 a1] w fun e w' => e = .returned (.tuple #[.int .i64 r0, .int .i64 r1]) ∧ Below w.heap.size w w' := by
  unfold sign_Quo.f at h
  split at h
  · rename_i hc
    cases h
    exact sQuo_ok a0 a1 w hc
  · rename_i hc
    cases h
    exact sQuo_err a0 a1 w _ rfl hc

def sign_Rem.f (a0 a1 : Int) : Option (Int × Int) := if chk2 a0 a1 = 0 then some (tabOp remT a0 a1, 0) else some (0, chk2 a0 a1)
theorem sign_Rem.calls (a0 a1 r0 r1 : Int) (w : World) (h : sign_Rem.f a0 a1 = some (r0, r1)) :
    Calls Try.prog 31 #[.int .i64 a0, .int .i64 a1] w fun e w' => e = .returned (.tuple #[.int .i64 r0, .int .i64 r1]) ∧ Below w.heap.size w w' := by
  unfold sign_Rem.f at h
  split at h
  · rename_i hc
    cases h
    exact sRem_ok a0 a1 w hc
  · rename_i hc
    cases h
    exact sRem_err a0 a1 w _ rfl hc

def sign_Join.f (a0 a1 : Int) : Option (Int × Int) := if chk2 a0 a1 = 0 then some (bits BinOp.or IntKind.i64 a0 a1, 0) else some (0, chk2 a0 a1)
theorem sign_Join.calls (a0 a1 r0 r1 : Int) (w : World) (h : sign_Join.f a0 a1 = some (r0, r1)) :
    Calls Try.prog 18 #[.int .i64 a0, .int .i64 a1] w fun e w' => e = .returned (.tuple #[.int .i64 r0, .int .i64 r1]) ∧ Below w.heap.size w w' := by
  unfold sign_Join.f at h
  split at h
  · rename_i hc
    cases h
    exact sJoin_ok a0 a1 w hc
  · rename_i hc
    cases h
    exact sJoin_err a0 a1 w _ rfl hc

def sign_Meet.f (a0 a1 : Int) : Option (Int × Int) := if chk2 a0 a1 = 0 then some (bits BinOp.and IntKind.i64 a0 a1, 0) else some (0, chk2 a0 a1)
theorem sign_Meet.calls (a0 a1 r0 r1 : Int) (w : World) (h : sign_Meet.f a0 a1 = some (r0, r1)) :
    Calls Try.prog 20 #[.int .i64 a0, .int .i64 a1] w fun e w' => e = .returned (.tuple #[.int .i64 r0, .int .i64 r1]) ∧ Below w.heap.size w w' := by
  unfold sign_Meet.f at h
  split at h
  · rename_i hc
    cases h
    exact sMeet_ok a0 a1 w hc
  · rename_i hc
    cases h
    exact sMeet_err a0 a1 w _ rfl hc

def sign_Leq.f (a0 a1 : Int) : Option (Bool × Int) := if chk2 a0 a1 = 0 then some (bits BinOp.andNot IntKind.i64 a0 a1 == 0, 0) else some (false, chk2 a0 a1)
theorem sign_Leq.calls (a0 a1 : Int) (r0 : Bool) (r1 : Int) (w : World) (h : sign_Leq.f a0 a1 = some (r0, r1)) :
    Calls Try.prog 16 #[.int .i64 a0, .int .i64 a1] w fun e w' => e = .returned (.tuple #[.bool r0, .int .i64 r1]) ∧ Below w.heap.size w w' := by
  unfold sign_Leq.f at h
  split at h
  · rename_i hc
    cases h
    exact sLeq_ok a0 a1 w hc
  · rename_i hc
    cases h
    exact sLeq_err a0 a1 w _ rfl hc

def sign_Format.f (a0 : Int) : Option (ByteArray × Int) := if chk a0 = 0 then some (fname a0, 0) else some (ByteArray.empty, chk a0)
theorem sign_Format.calls (a0 : Int) (r0 : ByteArray) (r1 : Int) (w : World) (h : sign_Format.f a0 = some (r0, r1)) :
    Calls Try.prog 32 #[.int .i64 a0] w fun e w' => e = .returned (.tuple #[.string r0, .int .i64 r1]) ∧ Below w.heap.size w w' := by
  unfold sign_Format.f at h
  split at h
  · rename_i hc
    cases h
    have : 0 ≤ a0 ∧ a0 ≤ 7 := by
      unfold chk at hc
      split at hc
      · assumption
      · omega
    exact sFormat_ok a0 w this.1 this.2
  · rename_i hc
    cases h
    exact sFormat_err a0 w _ rfl hc
end Go.Proofs.Ytlefniheafefgaa
