/- The operations of package sign: contracts. -/
import Derived.Test.YtlefniheafefgaaSignRefine
import Derived.Test.YtlefniheafefgaaSignRead
set_option linter.unusedVariables false
set_option linter.unusedSimpArgs false
namespace Go.Proofs.Ytlefniheafefgaa
open Go.RowKit

def sumsT : ByteArray := ⟨#[1, 1, 7, 1, 2, 4, 7, 4, 4]⟩
def prodT : ByteArray := ⟨#[4, 2, 1, 2, 2, 2, 1, 2, 4]⟩
def quoT : ByteArray := ⟨#[6, 0, 1, 2, 0, 2, 1, 0, 6]⟩
def remT : ByteArray := ⟨#[3, 0, 6, 2, 0, 2, 3, 0, 6]⟩
def tabOp (T : ByteArray) (s t : Int) : Int := ofAll (byteAt T) (sgl s 3) (sgl t 3)
def opp (s : Int) : Int := bits BinOp.or IntKind.i64 (bits BinOp.or IntKind.i64 (bits BinOp.and IntKind.i64 s 2) (s / 4)) (wrap64 (bits BinOp.and IntKind.i64 s 1 * 4))
/-- A guarded result. -/
def g2 (s t r : Int) : Int × Int := if chk2 s t = 0 then (r, 0) else (0, chk2 s t)

theorem of_any (t : Nat → Int) (a b : Int) (w : World) : Calls Try.prog 43 #[.agg (tcells t), .int .i64 a, .int .i64 b] w fun e W' => e = .returned (.int .i64 (ofAll t (sgl a 3) (sgl b 3))) ∧ Below w.heap.size w W' :=
  (callsIn_wide (n := 8)).1 (of_in Fence.wide 8 trivial trivial trivial rfl (by omega) t a b w)
theorem of_tab (T : ByteArray) (a b : Int) (w : World) : Calls Try.prog 43 #[.agg (tcells (byteAt T)), .int .i64 a, .int .i64 b] w fun e W' => e = .returned (.int .i64 (tabOp T a b)) ∧ Below w.heap.size w W' := of_any _ _ _ _
theorem below_then' {w w1 w2 : World} (h : Below w.heap.size w w1) (k : Below w1.heap.size w1 w2) : Below w.heap.size w w2 :=
  h.trans ⟨k.os, k.tape, k.output, k.size, fun i hi => k.block i (Nat.lt_of_lt_of_le hi h.size)⟩

set_option maxRecDepth 100000 in
set_option maxHeartbeats 2000000 in
theorem sAdd_ok (s t : Int) (w : World) (h : chk2 s t = 0) : Calls Try.prog 29 #[.int .i64 s, .int .i64 t] w fun e W' => e = .returned (.tuple #[.int .i64 (tabOp sumsT s t), .int .i64 0]) ∧ Below w.heap.size w W' := by
  have hboth := fun w => both_any s t w
  rw [h] at hboth
  have Hboth := Lib.hid hboth
  have Hread := Lib.hid (fun w => read_any sumsT rfl w)
  clear hboth h
  go_enter Try.func29, Try.ntmps29
  go_wp2_with (first | (go_at_call 22; refine (Hboth.out _).mono ?_; rintro e w' ⟨rfl, rfl⟩) | (go_at_call 42; refine (Hread.out _).mono ?_; rintro e w1 ⟨rfl, hb1⟩) | (go_at_call 43; refine (of_tab sumsT _ _ _).mono ?_; rintro e w2 ⟨rfl, hb2⟩) | go_in)
  go_ret2
  exact ⟨rfl, below_then' hb1 hb2⟩

set_option maxRecDepth 100000 in
set_option maxHeartbeats 2000000 in
theorem sAdd_err (s t : Int) (w : World) (c : Int) (h : chk2 s t = c) (hc : c ≠ 0) : Calls Try.prog 29 #[.int .i64 s, .int .i64 t] w fun e W' => e = .returned (.tuple #[.int .i64 0, .int .i64 c]) ∧ Below w.heap.size w W' := by
  have hboth := fun w => both_any s t w
  rw [h] at hboth
  have Hboth := Lib.hid hboth
  have e0 : (c == 0) = false := by simpa using hc
  have e1 : (c != 0) = true := by simpa using hc
  have Hread := Lib.hid (fun w => read_any sumsT rfl w)
  clear hboth h hc
  go_enter Try.func29, Try.ntmps29
  go_wp2_with (first | (go_at_call 22; refine (Hboth.out _).mono ?_; rintro e w' ⟨rfl, rfl⟩) | (go_at_call 42; refine (Hread.out _).mono ?_; rintro e w1 ⟨rfl, hb1⟩) | go_in)
  go_ret2
  exact ⟨rfl, hb1⟩

set_option maxRecDepth 100000 in
set_option maxHeartbeats 2000000 in
theorem sMul_ok (s t : Int) (w : World) (h : chk2 s t = 0) : Calls Try.prog 34 #[.int .i64 s, .int .i64 t] w fun e W' => e = .returned (.tuple #[.int .i64 (tabOp prodT s t), .int .i64 0]) ∧ Below w.heap.size w W' := by
  have hboth := fun w => both_any s t w
  rw [h] at hboth
  have Hboth := Lib.hid hboth
  have Hread := Lib.hid (fun w => read_any prodT rfl w)
  clear hboth h
  go_enter Try.func34, Try.ntmps34
  go_wp2_with (first | (go_at_call 22; refine (Hboth.out _).mono ?_; rintro e w' ⟨rfl, rfl⟩) | (go_at_call 42; refine (Hread.out _).mono ?_; rintro e w1 ⟨rfl, hb1⟩) | (go_at_call 43; refine (of_tab prodT _ _ _).mono ?_; rintro e w2 ⟨rfl, hb2⟩) | go_in)
  go_ret2
  exact ⟨rfl, below_then' hb1 hb2⟩

set_option maxRecDepth 100000 in
set_option maxHeartbeats 2000000 in
theorem sMul_err (s t : Int) (w : World) (c : Int) (h : chk2 s t = c) (hc : c ≠ 0) : Calls Try.prog 34 #[.int .i64 s, .int .i64 t] w fun e W' => e = .returned (.tuple #[.int .i64 0, .int .i64 c]) ∧ Below w.heap.size w W' := by
  have hboth := fun w => both_any s t w
  rw [h] at hboth
  have Hboth := Lib.hid hboth
  have e0 : (c == 0) = false := by simpa using hc
  have e1 : (c != 0) = true := by simpa using hc
  have Hread := Lib.hid (fun w => read_any prodT rfl w)
  clear hboth h hc
  go_enter Try.func34, Try.ntmps34
  go_wp2_with (first | (go_at_call 22; refine (Hboth.out _).mono ?_; rintro e w' ⟨rfl, rfl⟩) | (go_at_call 42; refine (Hread.out _).mono ?_; rintro e w1 ⟨rfl, hb1⟩) | go_in)
  go_ret2
  exact ⟨rfl, hb1⟩

set_option maxRecDepth 100000 in
set_option maxHeartbeats 2000000 in
theorem sQuo_ok (s t : Int) (w : World) (h : chk2 s t = 0) : Calls Try.prog 30 #[.int .i64 s, .int .i64 t] w fun e W' => e = .returned (.tuple #[.int .i64 (tabOp quoT s t), .int .i64 0]) ∧ Below w.heap.size w W' := by
  have hboth := fun w => both_any s t w
  rw [h] at hboth
  have Hboth := Lib.hid hboth
  have Hread := Lib.hid (fun w => read_any quoT rfl w)
  clear hboth h
  go_enter Try.func30, Try.ntmps30
  go_wp2_with (first | (go_at_call 22; refine (Hboth.out _).mono ?_; rintro e w' ⟨rfl, rfl⟩) | (go_at_call 42; refine (Hread.out _).mono ?_; rintro e w1 ⟨rfl, hb1⟩) | (go_at_call 43; refine (of_tab quoT _ _ _).mono ?_; rintro e w2 ⟨rfl, hb2⟩) | go_in)
  go_ret2
  exact ⟨rfl, below_then' hb1 hb2⟩

set_option maxRecDepth 100000 in
set_option maxHeartbeats 2000000 in
theorem sQuo_err (s t : Int) (w : World) (c : Int) (h : chk2 s t = c) (hc : c ≠ 0) : Calls Try.prog 30 #[.int .i64 s, .int .i64 t] w fun e W' => e = .returned (.tuple #[.int .i64 0, .int .i64 c]) ∧ Below w.heap.size w W' := by
  have hboth := fun w => both_any s t w
  rw [h] at hboth
  have Hboth := Lib.hid hboth
  have e0 : (c == 0) = false := by simpa using hc
  have e1 : (c != 0) = true := by simpa using hc
  have Hread := Lib.hid (fun w => read_any quoT rfl w)
  clear hboth h hc
  go_enter Try.func30, Try.ntmps30
  go_wp2_with (first | (go_at_call 22; refine (Hboth.out _).mono ?_; rintro e w' ⟨rfl, rfl⟩) | (go_at_call 42; refine (Hread.out _).mono ?_; rintro e w1 ⟨rfl, hb1⟩) | go_in)
  go_ret2
  exact ⟨rfl, hb1⟩

set_option maxRecDepth 100000 in
set_option maxHeartbeats 2000000 in
theorem sRem_ok (s t : Int) (w : World) (h : chk2 s t = 0) : Calls Try.prog 31 #[.int .i64 s, .int .i64 t] w fun e W' => e = .returned (.tuple #[.int .i64 (tabOp remT s t), .int .i64 0]) ∧ Below w.heap.size w W' := by
  have hboth := fun w => both_any s t w
  rw [h] at hboth
  have Hboth := Lib.hid hboth
  have Hread := Lib.hid (fun w => read_any remT rfl w)
  clear hboth h
  go_enter Try.func31, Try.ntmps31
  go_wp2_with (first | (go_at_call 22; refine (Hboth.out _).mono ?_; rintro e w' ⟨rfl, rfl⟩) | (go_at_call 42; refine (Hread.out _).mono ?_; rintro e w1 ⟨rfl, hb1⟩) | (go_at_call 43; refine (of_tab remT _ _ _).mono ?_; rintro e w2 ⟨rfl, hb2⟩) | go_in)
  go_ret2
  exact ⟨rfl, below_then' hb1 hb2⟩

set_option maxRecDepth 100000 in
set_option maxHeartbeats 2000000 in
theorem sRem_err (s t : Int) (w : World) (c : Int) (h : chk2 s t = c) (hc : c ≠ 0) : Calls Try.prog 31 #[.int .i64 s, .int .i64 t] w fun e W' => e = .returned (.tuple #[.int .i64 0, .int .i64 c]) ∧ Below w.heap.size w W' := by
  have hboth := fun w => both_any s t w
  rw [h] at hboth
  have Hboth := Lib.hid hboth
  have e0 : (c == 0) = false := by simpa using hc
  have e1 : (c != 0) = true := by simpa using hc
  have Hread := Lib.hid (fun w => read_any remT rfl w)
  clear hboth h hc
  go_enter Try.func31, Try.ntmps31
  go_wp2_with (first | (go_at_call 22; refine (Hboth.out _).mono ?_; rintro e w' ⟨rfl, rfl⟩) | (go_at_call 42; refine (Hread.out _).mono ?_; rintro e w1 ⟨rfl, hb1⟩) | go_in)
  go_ret2
  exact ⟨rfl, hb1⟩

set_option maxRecDepth 100000 in
set_option maxHeartbeats 2000000 in
theorem sSub_ok (s t : Int) (w : World) (h : chk2 s t = 0) : Calls Try.prog 33 #[.int .i64 s, .int .i64 t] w fun e W' => e = .returned (.tuple #[.int .i64 (tabOp sumsT s (opp t)), .int .i64 0]) ∧ Below w.heap.size w W' := by
  have hboth := fun w => both_any s t w
  rw [h] at hboth
  have Hboth := Lib.hid hboth
  have Hread := Lib.hid (fun w => read_any sumsT rfl w)
  clear hboth h
  go_enter Try.func33, Try.ntmps33
  go_wp2_with (first | (go_at_call 22; refine (Hboth.out _).mono ?_; rintro e w' ⟨rfl, rfl⟩) | (go_at_call 42; refine (Hread.out _).mono ?_; rintro e w1 ⟨rfl, hb1⟩) | (go_at_call 43; refine (of_tab sumsT _ _ _).mono ?_; rintro e w2 ⟨rfl, hb2⟩) | go_in)
  go_ret2
  exact ⟨rfl, below_then' hb1 hb2⟩

set_option maxRecDepth 100000 in
set_option maxHeartbeats 2000000 in
theorem sSub_err (s t : Int) (w : World) (c : Int) (h : chk2 s t = c) (hc : c ≠ 0) : Calls Try.prog 33 #[.int .i64 s, .int .i64 t] w fun e W' => e = .returned (.tuple #[.int .i64 0, .int .i64 c]) ∧ Below w.heap.size w W' := by
  have hboth := fun w => both_any s t w
  rw [h] at hboth
  have Hboth := Lib.hid hboth
  have e0 : (c == 0) = false := by simpa using hc
  have e1 : (c != 0) = true := by simpa using hc
  clear hboth h hc
  go_enter Try.func33, Try.ntmps33
  go_wp2_with (first | (go_at_call 22; refine (Hboth.out _).mono ?_; rintro e w' ⟨rfl, rfl⟩) | go_in)
  go_ret2
  exact ⟨rfl, Below.refl _ _⟩

set_option maxRecDepth 100000 in
set_option maxHeartbeats 2000000 in
theorem sJoin_ok (s t : Int) (w : World) (h : chk2 s t = 0) : Calls Try.prog 18 #[.int .i64 s, .int .i64 t] w fun e W' => e = .returned (.tuple #[.int .i64 (bits BinOp.or IntKind.i64 s t), .int .i64 0]) ∧ Below w.heap.size w W' := by
  have hboth := fun w => both_any s t w
  rw [h] at hboth
  have Hboth := Lib.hid hboth
  clear hboth h
  go_enter Try.func18, Try.ntmps18
  go_wp2_with (first | (go_at_call 22; refine (Hboth.out _).mono ?_; rintro e w' ⟨rfl, rfl⟩) | go_in)
  go_ret2
  exact ⟨rfl, Below.refl _ _⟩

set_option maxRecDepth 100000 in
set_option maxHeartbeats 2000000 in
theorem sJoin_err (s t : Int) (w : World) (c : Int) (h : chk2 s t = c) (hc : c ≠ 0) : Calls Try.prog 18 #[.int .i64 s, .int .i64 t] w fun e W' => e = .returned (.tuple #[.int .i64 0, .int .i64 c]) ∧ Below w.heap.size w W' := by
  have hboth := fun w => both_any s t w
  rw [h] at hboth
  have Hboth := Lib.hid hboth
  have e0 : (c == 0) = false := by simpa using hc
  have e1 : (c != 0) = true := by simpa using hc
  clear hboth h hc
  go_enter Try.func18, Try.ntmps18
  go_wp2_with (first | (go_at_call 22; refine (Hboth.out _).mono ?_; rintro e w' ⟨rfl, rfl⟩) | go_in)
  go_ret2
  exact ⟨rfl, Below.refl _ _⟩

set_option maxRecDepth 100000 in
set_option maxHeartbeats 2000000 in
theorem sMeet_ok (s t : Int) (w : World) (h : chk2 s t = 0) : Calls Try.prog 20 #[.int .i64 s, .int .i64 t] w fun e W' => e = .returned (.tuple #[.int .i64 (bits BinOp.and IntKind.i64 s t), .int .i64 0]) ∧ Below w.heap.size w W' := by
  have hboth := fun w => both_any s t w
  rw [h] at hboth
  have Hboth := Lib.hid hboth
  clear hboth h
  go_enter Try.func20, Try.ntmps20
  go_wp2_with (first | (go_at_call 22; refine (Hboth.out _).mono ?_; rintro e w' ⟨rfl, rfl⟩) | go_in)
  go_ret2
  exact ⟨rfl, Below.refl _ _⟩

set_option maxRecDepth 100000 in
set_option maxHeartbeats 2000000 in
theorem sMeet_err (s t : Int) (w : World) (c : Int) (h : chk2 s t = c) (hc : c ≠ 0) : Calls Try.prog 20 #[.int .i64 s, .int .i64 t] w fun e W' => e = .returned (.tuple #[.int .i64 0, .int .i64 c]) ∧ Below w.heap.size w W' := by
  have hboth := fun w => both_any s t w
  rw [h] at hboth
  have Hboth := Lib.hid hboth
  have e0 : (c == 0) = false := by simpa using hc
  have e1 : (c != 0) = true := by simpa using hc
  clear hboth h hc
  go_enter Try.func20, Try.ntmps20
  go_wp2_with (first | (go_at_call 22; refine (Hboth.out _).mono ?_; rintro e w' ⟨rfl, rfl⟩) | go_in)
  go_ret2
  exact ⟨rfl, Below.refl _ _⟩

set_option maxRecDepth 100000 in
set_option maxHeartbeats 2000000 in
theorem sLeq_ok (s t : Int) (w : World) (h : chk2 s t = 0) : Calls Try.prog 16 #[.int .i64 s, .int .i64 t] w fun e W' => e = .returned (.tuple #[.bool (bits BinOp.andNot IntKind.i64 s t == 0), .int .i64 0]) ∧ Below w.heap.size w W' := by
  have hboth := fun w => both_any s t w
  rw [h] at hboth
  have Hboth := Lib.hid hboth
  clear hboth h
  go_enter Try.func16, Try.ntmps16
  go_wp2_with (first | (go_at_call 22; refine (Hboth.out _).mono ?_; rintro e w' ⟨rfl, rfl⟩) | go_in)
  go_ret2
  exact ⟨rfl, Below.refl _ _⟩

set_option maxRecDepth 100000 in
set_option maxHeartbeats 2000000 in
theorem sLeq_err (s t : Int) (w : World) (c : Int) (h : chk2 s t = c) (hc : c ≠ 0) : Calls Try.prog 16 #[.int .i64 s, .int .i64 t] w fun e W' => e = .returned (.tuple #[.bool false, .int .i64 c]) ∧ Below w.heap.size w W' := by
  have hboth := fun w => both_any s t w
  rw [h] at hboth
  have Hboth := Lib.hid hboth
  have e0 : (c == 0) = false := by simpa using hc
  have e1 : (c != 0) = true := by simpa using hc
  clear hboth h hc
  go_enter Try.func16, Try.ntmps16
  go_wp2_with (first | (go_at_call 22; refine (Hboth.out _).mono ?_; rintro e w' ⟨rfl, rfl⟩) | go_in)
  go_ret2
  exact ⟨rfl, Below.refl _ _⟩

/-- The name of a set. -/
def fname (s : Int) : ByteArray :=
  if s = 0 then ⟨#[110, 111, 110, 101]⟩ else
  if s = 1 then ⟨#[110, 101, 103, 97, 116, 105, 118, 101]⟩ else
  if s = 2 then ⟨#[122, 101, 114, 111]⟩ else
  if s = 3 then ⟨#[110, 111, 110, 112, 111, 115, 105, 116, 105, 118, 101]⟩ else
  if s = 4 then ⟨#[112, 111, 115, 105, 116, 105, 118, 101]⟩ else
  if s = 5 then ⟨#[110, 111, 110, 122, 101, 114, 111]⟩ else
  if s = 6 then ⟨#[110, 111, 110, 110, 101, 103, 97, 116, 105, 118, 101]⟩ else
  if s = 7 then ⟨#[97, 110, 121]⟩ else
  ByteArray.empty

set_option maxRecDepth 100000 in
set_option maxHeartbeats 8000000 in
theorem sFormat_ok (s : Int) (w : World) (h0 : 0 ≤ s) (h7 : s ≤ 7) : Calls Try.prog 32 #[.int .i64 s] w fun e W' => e = .returned (.tuple #[.string (fname s), .int .i64 0]) ∧ Below w.heap.size w W' := by
  have hk : s = 0 ∨ s = 1 ∨ s = 2 ∨ s = 3 ∨ s = 4 ∨ s = 5 ∨ s = 6 ∨ s = 7 := by omega
  rcases hk with rfl | rfl | rfl | rfl | rfl | rfl | rfl | rfl
  all_goals
    go_enter Try.func32, Try.ntmps32
    go_wp2
    go_ret2
    exact ⟨rfl, (Below.refl _ _).alloc (Nat.le_refl _) _⟩

set_option maxRecDepth 100000 in
set_option maxHeartbeats 2000000 in
theorem sFormat_err (s : Int) (w : World) (c : Int) (h : chk s = c) (hc : c ≠ 0) : Calls Try.prog 32 #[.int .i64 s] w fun e W' => e = .returned (.tuple #[.string ByteArray.empty, .int .i64 c]) ∧ Below w.heap.size w W' := by
  have hboth := fun w => check_any s w
  rw [h] at hboth
  have Hboth := Lib.hid hboth
  have e0 : (c == 0) = false := by simpa using hc
  have e1 : (c != 0) = true := by simpa using hc
  clear hboth h hc
  go_enter Try.func32, Try.ntmps32
  go_wp2_with (first | (go_at_call 39; refine (Hboth.out _).mono ?_; rintro e w' ⟨rfl, rfl⟩) | go_in)
  go_ret2
  exact ⟨rfl, Below.refl _ _⟩
end Go.Proofs.Ytlefniheafefgaa
