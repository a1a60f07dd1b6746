/- The operations of package sign: contracts. · The contracts of package sign, in the form in which the printed texts take them. -/
import Derived.Test.YtdldoghcbnkkjaaGreatDoorSignRead
set_option linter.unusedVariables false
set_option linter.unusedSimpArgs false
namespace Go.Proofs.YtdldoghcbnkkjaaGreatDoor
open Go.RowKit

def sumsT : ByteArray := ⟨#[1, 1, 7, 1, 2, 4, 7, 4, 4]⟩
def prodT : ByteArray := ⟨#[4, 2, 1, 2, 2, 2, 1, 2, 4]⟩
def quoT : ByteArray := ⟨#[6, 0, 1, 2, 0, 2, 1, 0, 6]⟩
def remT : ByteArray := ⟨#[3, 0, 6, 2, 0, 2, 3, 0, 6]⟩
def tabOp (T : ByteArray) (s t : Int) : Int := ofAll (byteAt T) (sgl s 3) (sgl t 3)
def opp (s : Int) : Int := bits BinOp.or IntKind.i64 (bits BinOp.or IntKind.i64 (bits BinOp.and IntKind.i64 s 2) (s / 4)) (wrap64 (bits BinOp.and IntKind.i64 s 1 * 4))
/-- A guarded result. -/
def g2 (s t r : Int) : Int × Int := if chk2 s t = 0 then (r, 0) else (0, chk2 s t)

theorem of_any (t : Nat → Int) (a b : Int) (w : World) : Calls Tryz.prog 104 #[.agg (tcells t), .int .i64 a, .int .i64 b] w fun e W' => e = .returned (.int .i64 (ofAll t (sgl a 3) (sgl b 3))) ∧ Below w.heap.size w W' :=
  (callsIn_wide (n := 8)).1 (of_in Fence.wide 8 trivial trivial trivial rfl (by omega) t a b w)
theorem of_tab (T : ByteArray) (a b : Int) (w : World) : Calls Tryz.prog 104 #[.agg (tcells (byteAt T)), .int .i64 a, .int .i64 b] w fun e W' => e = .returned (.int .i64 (tabOp T a b)) ∧ Below w.heap.size w W' := of_any _ _ _ _
set_option maxRecDepth 100000 in
set_option maxHeartbeats 2000000 in
theorem sAdd_ok (s t : Int) (w : World) (h : chk2 s t = 0) : Calls Tryz.prog 59 #[.int .i64 s, .int .i64 t] w fun e W' => e = .returned (.tuple #[.int .i64 (tabOp sumsT s t), .int .i64 0]) ∧ Below w.heap.size w W' := by
  have hboth := fun w => both_any s t w
  rw [h] at hboth
  have Hboth := Lib.hid hboth
  have Hread := Lib.hid (fun w => read_any sumsT rfl w)
  clear hboth h
  go_enter Tryz.func59, Tryz.ntmps59
  go_wp2_with (first | (go_at_call 105; refine (Hboth.out _).mono ?_; rintro e w' ⟨rfl, rfl⟩) | (go_at_call 103; refine (Hread.out _).mono ?_; rintro e w1 ⟨rfl, hb1⟩) | (go_at_call 104; refine (of_tab sumsT _ _ _).mono ?_; rintro e w2 ⟨rfl, hb2⟩) | go_in)
  go_ret2
  exact ⟨rfl, below_then' hb1 hb2⟩

set_option maxRecDepth 100000 in
set_option maxHeartbeats 2000000 in
theorem sAdd_err (s t : Int) (w : World) (c : Int) (h : chk2 s t = c) (hc : c ≠ 0) : Calls Tryz.prog 59 #[.int .i64 s, .int .i64 t] w fun e W' => e = .returned (.tuple #[.int .i64 0, .int .i64 c]) ∧ Below w.heap.size w W' := by
  have hboth := fun w => both_any s t w
  rw [h] at hboth
  have Hboth := Lib.hid hboth
  have e0 : (c == 0) = false := by simpa using hc
  have e1 : (c != 0) = true := by simpa using hc
  have Hread := Lib.hid (fun w => read_any sumsT rfl w)
  clear hboth h hc
  go_enter Tryz.func59, Tryz.ntmps59
  go_wp2_with (first | (go_at_call 105; refine (Hboth.out _).mono ?_; rintro e w' ⟨rfl, rfl⟩) | (go_at_call 103; refine (Hread.out _).mono ?_; rintro e w1 ⟨rfl, hb1⟩) | go_in)
  go_ret2
  exact ⟨rfl, hb1⟩

set_option maxRecDepth 100000 in
set_option maxHeartbeats 2000000 in
theorem sMul_ok (s t : Int) (w : World) (h : chk2 s t = 0) : Calls Tryz.prog 67 #[.int .i64 s, .int .i64 t] w fun e W' => e = .returned (.tuple #[.int .i64 (tabOp prodT s t), .int .i64 0]) ∧ Below w.heap.size w W' := by
  have hboth := fun w => both_any s t w
  rw [h] at hboth
  have Hboth := Lib.hid hboth
  have Hread := Lib.hid (fun w => read_any prodT rfl w)
  clear hboth h
  go_enter Tryz.func67, Tryz.ntmps67
  go_wp2_with (first | (go_at_call 105; refine (Hboth.out _).mono ?_; rintro e w' ⟨rfl, rfl⟩) | (go_at_call 103; refine (Hread.out _).mono ?_; rintro e w1 ⟨rfl, hb1⟩) | (go_at_call 104; refine (of_tab prodT _ _ _).mono ?_; rintro e w2 ⟨rfl, hb2⟩) | go_in)
  go_ret2
  exact ⟨rfl, below_then' hb1 hb2⟩

set_option maxRecDepth 100000 in
set_option maxHeartbeats 2000000 in
theorem sMul_err (s t : Int) (w : World) (c : Int) (h : chk2 s t = c) (hc : c ≠ 0) : Calls Tryz.prog 67 #[.int .i64 s, .int .i64 t] w fun e W' => e = .returned (.tuple #[.int .i64 0, .int .i64 c]) ∧ Below w.heap.size w W' := by
  have hboth := fun w => both_any s t w
  rw [h] at hboth
  have Hboth := Lib.hid hboth
  have e0 : (c == 0) = false := by simpa using hc
  have e1 : (c != 0) = true := by simpa using hc
  have Hread := Lib.hid (fun w => read_any prodT rfl w)
  clear hboth h hc
  go_enter Tryz.func67, Tryz.ntmps67
  go_wp2_with (first | (go_at_call 105; refine (Hboth.out _).mono ?_; rintro e w' ⟨rfl, rfl⟩) | (go_at_call 103; refine (Hread.out _).mono ?_; rintro e w1 ⟨rfl, hb1⟩) | go_in)
  go_ret2
  exact ⟨rfl, hb1⟩

set_option maxRecDepth 100000 in
set_option maxHeartbeats 2000000 in
theorem sQuo_ok (s t : Int) (w : World) (h : chk2 s t = 0) : Calls Tryz.prog 60 #[.int .i64 s, .int .i64 t] w fun e W' => e = .returned (.tuple #[.int .i64 (tabOp quoT s t), .int .i64 0]) ∧ Below w.heap.size w W' := by
  have hboth := fun w => both_any s t w
  rw [h] at hboth
  have Hboth := Lib.hid hboth
  have Hread := Lib.hid (fun w => read_any quoT rfl w)
  clear hboth h
  go_enter Tryz.func60, Tryz.ntmps60
  go_wp2_with (first | (go_at_call 105; refine (Hboth.out _).mono ?_; rintro e w' ⟨rfl, rfl⟩) | (go_at_call 103; refine (Hread.out _).mono ?_; rintro e w1 ⟨rfl, hb1⟩) | (go_at_call 104; refine (of_tab quoT _ _ _).mono ?_; rintro e w2 ⟨rfl, hb2⟩) | go_in)
  go_ret2
  exact ⟨rfl, below_then' hb1 hb2⟩

set_option maxRecDepth 100000 in
set_option maxHeartbeats 2000000 in
theorem sQuo_err (s t : Int) (w : World) (c : Int) (h : chk2 s t = c) (hc : c ≠ 0) : Calls Tryz.prog 60 #[.int .i64 s, .int .i64 t] w fun e W' => e = .returned (.tuple #[.int .i64 0, .int .i64 c]) ∧ Below w.heap.size w W' := by
  have hboth := fun w => both_any s t w
  rw [h] at hboth
  have Hboth := Lib.hid hboth
  have e0 : (c == 0) = false := by simpa using hc
  have e1 : (c != 0) = true := by simpa using hc
  have Hread := Lib.hid (fun w => read_any quoT rfl w)
  clear hboth h hc
  go_enter Tryz.func60, Tryz.ntmps60
  go_wp2_with (first | (go_at_call 105; refine (Hboth.out _).mono ?_; rintro e w' ⟨rfl, rfl⟩) | (go_at_call 103; refine (Hread.out _).mono ?_; rintro e w1 ⟨rfl, hb1⟩) | go_in)
  go_ret2
  exact ⟨rfl, hb1⟩

set_option maxRecDepth 100000 in
set_option maxHeartbeats 2000000 in
theorem sRem_ok (s t : Int) (w : World) (h : chk2 s t = 0) : Calls Tryz.prog 61 #[.int .i64 s, .int .i64 t] w fun e W' => e = .returned (.tuple #[.int .i64 (tabOp remT s t), .int .i64 0]) ∧ Below w.heap.size w W' := by
  have hboth := fun w => both_any s t w
  rw [h] at hboth
  have Hboth := Lib.hid hboth
  have Hread := Lib.hid (fun w => read_any remT rfl w)
  clear hboth h
  go_enter Tryz.func61, Tryz.ntmps61
  go_wp2_with (first | (go_at_call 105; refine (Hboth.out _).mono ?_; rintro e w' ⟨rfl, rfl⟩) | (go_at_call 103; refine (Hread.out _).mono ?_; rintro e w1 ⟨rfl, hb1⟩) | (go_at_call 104; refine (of_tab remT _ _ _).mono ?_; rintro e w2 ⟨rfl, hb2⟩) | go_in)
  go_ret2
  exact ⟨rfl, below_then' hb1 hb2⟩

set_option maxRecDepth 100000 in
set_option maxHeartbeats 2000000 in
theorem sRem_err (s t : Int) (w : World) (c : Int) (h : chk2 s t = c) (hc : c ≠ 0) : Calls Tryz.prog 61 #[.int .i64 s, .int .i64 t] w fun e W' => e = .returned (.tuple #[.int .i64 0, .int .i64 c]) ∧ Below w.heap.size w W' := by
  have hboth := fun w => both_any s t w
  rw [h] at hboth
  have Hboth := Lib.hid hboth
  have e0 : (c == 0) = false := by simpa using hc
  have e1 : (c != 0) = true := by simpa using hc
  have Hread := Lib.hid (fun w => read_any remT rfl w)
  clear hboth h hc
  go_enter Tryz.func61, Tryz.ntmps61
  go_wp2_with (first | (go_at_call 105; refine (Hboth.out _).mono ?_; rintro e w' ⟨rfl, rfl⟩) | (go_at_call 103; refine (Hread.out _).mono ?_; rintro e w1 ⟨rfl, hb1⟩) | go_in)
  go_ret2
  exact ⟨rfl, hb1⟩

set_option maxRecDepth 100000 in
set_option maxHeartbeats 2000000 in
theorem sSub_ok (s t : Int) (w : World) (h : chk2 s t = 0) : Calls Tryz.prog 66 #[.int .i64 s, .int .i64 t] w fun e W' => e = .returned (.tuple #[.int .i64 (tabOp sumsT s (opp t)), .int .i64 0]) ∧ Below w.heap.size w W' := by
  have hboth := fun w => both_any s t w
  rw [h] at hboth
  have Hboth := Lib.hid hboth
  have Hread := Lib.hid (fun w => read_any sumsT rfl w)
  clear hboth h
  go_enter Tryz.func66, Tryz.ntmps66
  go_wp2_with (first | (go_at_call 105; refine (Hboth.out _).mono ?_; rintro e w' ⟨rfl, rfl⟩) | (go_at_call 103; refine (Hread.out _).mono ?_; rintro e w1 ⟨rfl, hb1⟩) | (go_at_call 104; refine (of_tab sumsT _ _ _).mono ?_; rintro e w2 ⟨rfl, hb2⟩) | go_in)
  go_ret2
  exact ⟨rfl, below_then' hb1 hb2⟩

set_option maxRecDepth 100000 in
set_option maxHeartbeats 2000000 in
theorem sSub_err (s t : Int) (w : World) (c : Int) (h : chk2 s t = c) (hc : c ≠ 0) : Calls Tryz.prog 66 #[.int .i64 s, .int .i64 t] w fun e W' => e = .returned (.tuple #[.int .i64 0, .int .i64 c]) ∧ Below w.heap.size w W' := by
  have hboth := fun w => both_any s t w
  rw [h] at hboth
  have Hboth := Lib.hid hboth
  have e0 : (c == 0) = false := by simpa using hc
  have e1 : (c != 0) = true := by simpa using hc
  clear hboth h hc
  go_enter Tryz.func66, Tryz.ntmps66
  go_wp2_with (first | (go_at_call 105; refine (Hboth.out _).mono ?_; rintro e w' ⟨rfl, rfl⟩) | go_in)
  go_ret2
  exact ⟨rfl, Below.refl _ _⟩

def fname (s : Int) : ByteArray :=
  if s = 0 then ⟨#[110, 111, 110, 101]⟩ else
  if s = 1 then ⟨#[110, 101, 103, 97, 116, 105, 118, 101]⟩ else
  if s = 2 then ⟨#[122, 101, 114, 111]⟩ else
  if s = 3 then ⟨#[110, 111, 110, 112, 111, 115, 105, 116, 105, 118, 101]⟩ else
  if s = 4 then ⟨#[112, 111, 115, 105, 116, 105, 118, 101]⟩ else
  if s = 5 then ⟨#[110, 111, 110, 122, 101, 114, 111]⟩ else
  if s = 6 then ⟨#[110, 111, 110, 110, 101, 103, 97, 116, 105, 118, 101]⟩ else
  if s = 7 then ⟨#[97, 110, 121]⟩ else
  ByteArray.empty

set_option maxRecDepth 100000 in
set_option maxHeartbeats 8000000 in
theorem sFormat_ok (s : Int) (w : World) (h0 : 0 ≤ s) (h7 : s ≤ 7) : Calls Tryz.prog 63 #[.int .i64 s] w fun e W' => e = .returned (.tuple #[.string (fname s), .int .i64 0]) ∧ Below w.heap.size w W' := by
  have hk : s = 0 ∨ s = 1 ∨ s = 2 ∨ s = 3 ∨ s = 4 ∨ s = 5 ∨ s = 6 ∨ s = 7 := by omega
  rcases hk with rfl | rfl | rfl | rfl | rfl | rfl | rfl | rfl
  all_goals
    go_enter Tryz.func63, Tryz.ntmps63
    go_wp2
    go_ret2
    exact ⟨rfl, (Below.refl _ _).alloc (Nat.le_refl _) _⟩

set_option maxRecDepth 100000 in
set_option maxHeartbeats 2000000 in
theorem sFormat_err (s : Int) (w : World) (c : Int) (h : chk s = c) (hc : c ≠ 0) : Calls Tryz.prog 63 #[.int .i64 s] w fun e W' => e = .returned (.tuple #[.string ByteArray.empty, .int .i64 c]) ∧ Below w.heap.size w W' := by
  have hboth := fun w => check_any s w
  rw [h] at hboth
  have Hboth := Lib.hid hboth
  have e0 : (c == 0) = false := by simpa using hc
  have e1 : (c != 0) = true := by simpa using hc
  clear hboth h hc
  go_enter Tryz.func63, Tryz.ntmps63
  go_wp2_with (first | (go_at_call 64; refine (Hboth.out _).mono ?_; rintro e w' ⟨rfl, rfl⟩) | go_in)
  go_ret2
  exact ⟨rfl, Below.refl _ _⟩

end Go.Proofs.YtdldoghcbnkkjaaGreatDoor

namespace Go.Proofs.YtdldoghcbnkkjaaGreatDoor
open Go.RowKit

set_option maxRecDepth 100000 in
set_option maxHeartbeats 2000000 in
theorem refine_op (op s t : Int) (w : World) (h : op < 2 ∨ 5 < op) :
    Calls Tryz.prog 62 #[.int .i64 op, .int .i64 s, .int .i64 t] w fun e W' => e = .returned (.tuple #[.int .i64 0, .int .i64 0, .int .i64 1]) ∧ Below w.heap.size w W' := by
  rcases h with h | h
  · have e2 : decide (op < 2) = true := by simpa using h
    go_enter Tryz.func62, Tryz.ntmps62
    go_wp2
    go_ret3
    exact ⟨rfl, ((Below.refl _ _).alloc (Nat.le_refl _) _).alloc (by simp) _⟩
  · have e2 : decide (op < 2) = false := by simp; omega
    have e5 : decide (5 < op) = true := by simpa using h
    go_enter Tryz.func62, Tryz.ntmps62
    go_wp2
    go_ret3
    exact ⟨rfl, ((Below.refl _ _).alloc (Nat.le_refl _) _).alloc (by simp) _⟩

set_option maxRecDepth 100000 in
set_option maxHeartbeats 2000000 in
theorem refine_err (op s t : Int) (w : World) (h2 : 2 ≤ op) (h5 : op ≤ 5) (c : Int) (h : chk2 s t = c) (hc : c ≠ 0) :
    Calls Tryz.prog 62 #[.int .i64 op, .int .i64 s, .int .i64 t] w fun e W' => e = .returned (.tuple #[.int .i64 0, .int .i64 0, .int .i64 c]) ∧ Below w.heap.size w W' := by
  have hboth := fun w => both_any s t w
  rw [h] at hboth
  have Hboth := Lib.hid hboth
  have e0 : (c == 0) = false := by simpa using hc
  have e1 : (c != 0) = true := by simpa using hc
  have e2 : decide (op < 2) = false := by simp; omega
  have e5 : decide (5 < op) = false := by simp; omega
  clear hboth h hc
  go_enter Tryz.func62, Tryz.ntmps62
  go_wp2_with (first | (go_at_call 105; refine (Hboth.out _).mono ?_; rintro e w' ⟨rfl, rfl⟩) | go_in)
  go_ret3
  exact ⟨rfl, ((Below.refl _ _).alloc (Nat.le_refl _) _).alloc (by simp) _⟩

def sign_Refine.f (a0 a1 a2 : Int) : Option (Int × Int × Int) :=
  if 2 ≤ a0 ∧ a0 ≤ 5 then (if chk2 a1 a2 = 0 then some ((refAll a0 (sgl a1 3) (sgl a2 3)).1, (refAll a0 (sgl a1 3) (sgl a2 3)).2, 0) else some (0, 0, chk2 a1 a2)) else some (0, 0, 1)
theorem sign_Refine.calls (a0 a1 a2 r0 r1 r2 : Int) (w : World) (h : sign_Refine.f a0 a1 a2 = some (r0, r1, r2)) :
    Calls Tryz.prog 62 #[.int .i64 a0, .int .i64 a1, .int .i64 a2] w fun e w' => e = .returned (.tuple #[.int .i64 r0, .int .i64 r1, .int .i64 r2]) ∧ Below w.heap.size w w' := by
  unfold sign_Refine.f at h
  split at h
  · rename_i ho
    split at h
    · rename_i hc
      cases h
      exact refine_ok a0 a1 a2 w ho.1 ho.2 hc
    · rename_i hc
      cases h
      exact refine_err a0 a1 a2 w ho.1 ho.2 _ rfl hc
  · cases h
    exact refine_op a0 a1 a2 w (by omega)

def sign_Add.f (a0 a1 : Int) : Option (Int × Int) := if chk2 a0 a1 = 0 then some (tabOp sumsT a0 a1, 0) else some (0, chk2 a0 a1)
theorem sign_Add.calls (a0 a1 r0 r1 : Int) (w : World) (h : sign_Add.f a0 a1 = some (r0, r1)) :
    Calls Tryz.prog 59 #[.int .i64 a0, .int .i64 a1] w fun e w' => e = .returned (.tuple #[.int .i64 r0, .int .i64 r1]) ∧ Below w.heap.size w w' := by
  unfold sign_Add.f at h
  split at h
  · rename_i hc
    cases h
    exact sAdd_ok a0 a1 w hc
  · rename_i hc
    cases h
    exact sAdd_err a0 a1 w _ rfl hc

def sign_Sub.f (a0 a1 : Int) : Option (Int × Int) := if chk2 a0 a1 = 0 then some (tabOp sumsT a0 (opp a1), 0) else some (0, chk2 a0 a1)
theorem sign_Sub.calls (a0 a1 r0 r1 : Int) (w : World) (h : sign_Sub.f a0 a1 = some (r0, r1)) :
    Calls Tryz.prog 66 #[.int .i64 a0, .int .i64 a1] w fun e w' => e = .returned (.tuple #[.int .i64 r0, .int .i64 r1]) ∧ Below w.heap.size w w' := by
  unfold sign_Sub.f at h
  split at h
  · rename_i hc
    cases h
    exact sSub_ok a0 a1 w hc
  · rename_i hc
    cases h
    exact sSub_err a0 a1 w _ rfl hc

def sign_Mul.f (a0 a1 : Int) : Option (Int × Int) := if chk2 a0 a1 = 0 then some (tabOp prodT a0 a1, 0) else some (0, chk2 a0 a1)
theorem sign_Mul.calls (a0 a1 r0 r1 : Int) (w : World) (h : sign_Mul.f a0 a1 = some (r0, r1)) :
    Calls Tryz.prog 67 #[.int .i64 a0, .int .i64 a1] w fun e w' => e = .returned (.tuple #[.int .i64 r0, .int .i64 r1]) ∧ Below w.heap.size w w' := by
  unfold sign_Mul.f at h
  split at h
  · rename_i hc
    cases h
    exact sMul_ok a0 a1 w hc
  · rename_i hc
    cases h
    exact sMul_err a0 a1 w _ rfl hc

def sign_Quo.f (a0 a1 : Int) : Option (Int × Int) := if chk2 a0 a1 = 0 then some (tabOp quoT a0 a1, 0) else some (0, chk2 a0 a1)
theorem sign_Quo.calls (a0 a1 r0 r1 : Int) (w : World) (h : sign_Quo.f a0 a1 = some (r0, r1)) :
    Calls Tryz.prog 60 #[.int .i64 a0, .int .i64 a1] w fun e w' => e = .returned (.tuple #[.int .i64 r0, .int .i64 r1]) ∧ Below w.heap.size w w' := by
  unfold sign_Quo.f at h
  split at h
  · rename_i hc
    cases h
    exact sQuo_ok a0 a1 w hc
  · rename_i hc
    cases h
    exact sQuo_err a0 a1 w _ rfl hc

def sign_Rem.f (a0 a1 : Int) : Option (Int × Int) := if chk2 a0 a1 = 0 then some (tabOp remT a0 a1, 0) else some (0, chk2 a0 a1)
theorem sign_Rem.calls (a0 a1 r0 r1 : Int) (w : World) (h : sign_Rem.f a0 a1 = some (r0, r1)) :
    Calls Tryz.prog 61 #[.int .i64 a0, .int .i64 a1] w fun e w' => e = .returned (.tuple #[.int .i64 r0, .int .i64 r1]) ∧ Below w.heap.size w w' := by
  unfold sign_Rem.f at h
  split at h
  · rename_i hc
    cases h
    exact sRem_ok a0 a1 w hc
  · rename_i hc
    cases h
    exact sRem_err a0 a1 w _ rfl hc

def sign_Format.f (a0 : Int) : Option (ByteArray × Int) := if chk a0 = 0 then some (fname a0, 0) else some (ByteArray.empty, chk a0)
theorem sign_Format.calls (a0 : Int) (r0 : ByteArray) (r1 : Int) (w : World) (h : sign_Format.f a0 = some (r0, r1)) :
    Calls Tryz.prog 63 #[.int .i64 a0] w fun e w' => e = .returned (.tuple #[.string r0, .int .i64 r1]) ∧ Below w.heap.size w w' := by
  unfold sign_Format.f at h
  split at h
  · rename_i hc
    cases h
    have : 0 ≤ a0 ∧ a0 ≤ 7 := by
      unfold chk at hc
      split at hc
      · assumption
      · omega
    exact sFormat_ok a0 w this.1 this.2
  · rename_i hc
    cases h
    exact sFormat_err a0 w _ rfl hc

end Go.Proofs.YtdldoghcbnkkjaaGreatDoor
