/- sign.Refine: the sets that a comparison leaves. -/
import Derived.Test.YtlefniheafefgaaSignOf
set_option linter.unusedVariables false
set_option linter.unusedSimpArgs false
namespace Go.Proofs.Ytlefniheafefgaa
open Go.RowKit Go.Shelf

theorem ret_bool {a b : Bool} (h : a = b) : Ending.returned (.bool a) = .returned (.bool b) := by rw [h]
theorem ret_int {k : IntKind} {a b : Int} (h : a = b) : Ending.returned (.int k a) = .returned (.int k b) := by rw [h]

/-- Can the comparison be true for numbers of two signs? -/
def poss (op i j : Int) : Bool := if op = 2 then i == j else if op = 3 then i != j || i != 1 else if op = 4 then decide (i < j) || (i == j && i != 1) else decide (i ≤ j)

set_option maxHeartbeats 2000000 in
theorem possible_any (op i j : Int) (w : World) : Calls Try.prog 24 #[.int .i64 op, .int .i64 i, .int .i64 j] w fun e w' => e = .returned (.bool (poss op i j)) ∧ w' = w := by
  obtain ⟨r, hr⟩ : ∃ r, poss op i j = r := ⟨_, rfl⟩
  rw [hr]
  have Hr := Lib.hid hr
  clear hr
  by_cases h2 : op = 2
  · have e2 : (op == 2) = true := by simpa using h2
    have hq : Hid (poss op i j = (i == j)) := Lib.hid (by simp [poss, h2])
    clear h2
    go_enter Try.func24, Try.ntmps24
    go_wp2
    go_ret
    exact ⟨ret_bool (hq.out.symm.trans Hr.out), rfl⟩
  · have e2 : (op == 2) = false := by simpa using h2
    by_cases h3 : op = 3
    · have e3 : (op == 3) = true := by simpa using h3
      by_cases hij : i = j
      · have eij : (i != j) = false := by simpa using hij
        have hq : Hid (poss op i j = (i != 1)) := Lib.hid (by simp [poss, h2, h3, hij])
        clear h2 h3 hij
        go_enter Try.func24, Try.ntmps24
        go_wp2
        go_ret
        exact ⟨ret_bool (hq.out.symm.trans Hr.out), rfl⟩
      · have eij : (i != j) = true := by simpa using hij
        have hq : Hid (poss op i j = true) := Lib.hid (by simp [poss, h2, h3, hij])
        clear h2 h3 hij
        go_enter Try.func24, Try.ntmps24
        go_wp2
        go_ret
        exact ⟨ret_bool (hq.out.symm.trans Hr.out), rfl⟩
    · have e3 : (op == 3) = false := by simpa using h3
      by_cases h4 : op = 4
      · have e4 : (op == 4) = true := by simpa using h4
        by_cases hlt : i < j
        · have elt : decide (i < j) = true := by simpa using hlt
          have hq : Hid (poss op i j = true) := Lib.hid (by simp [poss, h4, hlt])
          clear h2 h3 h4 hlt
          go_enter Try.func24, Try.ntmps24
          go_wp2
          go_ret
          exact ⟨ret_bool (hq.out.symm.trans Hr.out), rfl⟩
        · have elt : decide (i < j) = false := by simpa using hlt
          by_cases hij : i = j
          · have eij : (i == j) = true := by simpa using hij
            have hq : Hid (poss op i j = (i != 1)) := Lib.hid (by simp [poss, h4, hij])
            clear h2 h3 h4 hlt hij
            go_enter Try.func24, Try.ntmps24
            go_wp2
            go_ret
            exact ⟨ret_bool (hq.out.symm.trans Hr.out), rfl⟩
          · have eij : (i == j) = false := by simpa using hij
            have hq : Hid (poss op i j = false) := Lib.hid (by simp [poss, h4, hlt, hij])
            clear h2 h3 h4 hlt hij
            go_enter Try.func24, Try.ntmps24
            go_wp2
            go_ret
            exact ⟨ret_bool (hq.out.symm.trans Hr.out), rfl⟩
      · have e4 : (op == 4) = false := by simpa using h4
        have hq : Hid (poss op i j = decide (i ≤ j)) := Lib.hid (by simp [poss, h2, h3, h4])
        clear h2 h3 h4
        go_enter Try.func24, Try.ntmps24
        go_wp2
        go_ret
        exact ⟨ret_bool (hq.out.symm.trans Hr.out), rfl⟩

/-- What the rows leave of the first set, and of the second. -/
def refRow (op : Int) (x : Fin 3) (s : Int × Int) (ys : List (Fin 3)) : Int × Int :=
  ys.foldl (fun s y => if poss op x.val y.val = true then (bits BinOp.or IntKind.i64 s.1 (IntKind.i64.wrap (2 ^ x.val)), bits BinOp.or IntKind.i64 s.2 (IntKind.i64.wrap (2 ^ y.val))) else s) s
def refAll (op : Int) (xs ys : List (Fin 3)) : Int × Int := xs.foldl (fun s x => refRow op x s ys) (0, 0)
theorem refRow_snoc (op : Int) (x : Fin 3) (s : Int × Int) (pre : List (Fin 3)) (y : Fin 3) : refRow op x s (pre ++ [y]) = if poss op x.val y.val = true then (bits BinOp.or IntKind.i64 (refRow op x s pre).1 (IntKind.i64.wrap (2 ^ x.val)), bits BinOp.or IntKind.i64 (refRow op x s pre).2 (IntKind.i64.wrap (2 ^ y.val))) else refRow op x s pre := by simp [refRow]
theorem refAll_snoc (op : Int) (pre : List (Fin 3)) (x : Fin 3) (ys : List (Fin 3)) : refAll op (pre ++ [x]) ys = refRow op x (refAll op pre ys) ys := by simp [refAll]
def chk (s : Int) : Int := if 0 ≤ s ∧ s ≤ 7 then 0 else 2

set_option maxHeartbeats 1000000 in
theorem check_any (s : Int) (w : World) : Calls Try.prog 39 #[.int .i64 s] w fun e w' => e = .returned (.int .i64 (chk s)) ∧ w' = w := by
  obtain ⟨r, hr⟩ : ∃ r, chk s = r := ⟨_, rfl⟩
  rw [hr]
  by_cases h0 : s < 0
  · obtain rfl : r = 2 := by rw [← hr, chk, if_neg (by omega)]
    clear hr
    go_enter Try.func39, Try.ntmps39
    go_wp2
    go_ret
    exact ⟨rfl, rfl⟩
  · by_cases h7 : 7 < s
    · obtain rfl : r = 2 := by rw [← hr, chk, if_neg (by omega)]
      clear hr
      go_enter Try.func39, Try.ntmps39
      go_wp2
      go_ret
      exact ⟨rfl, rfl⟩
    · obtain rfl : r = 0 := by rw [← hr, chk, if_pos (by omega)]
      clear hr
      go_enter Try.func39, Try.ntmps39
      go_wp2
      go_ret
      exact ⟨rfl, rfl⟩
def chk2 (s t : Int) : Int := if chk s = 0 then chk t else chk s

set_option maxHeartbeats 1000000 in
theorem both_any (s t : Int) (w : World) : Calls Try.prog 22 #[.int .i64 s, .int .i64 t] w fun e w' => e = .returned (.int .i64 (chk2 s t)) ∧ w' = w := by
  unfold chk2
  have h1 := check_any s w
  have h2 := check_any t w
  generalize chk s = c at *
  generalize chk t = d at *
  by_cases h0 : c = 0
  · rw [if_pos h0]
    have e0 : (c == 0) = true := by simpa using h0
    have e1 : (c != 0) = false := by simpa using h0
    clear h0
    have H1 := Lib.hid h1
    have H2 := Lib.hid h2
    clear h1 h2
    go_enter Try.func22, Try.ntmps22
    go_wp2_with fail
    refine H1.out.mono ?_
    rintro e w' ⟨rfl, rfl⟩
    go_wp2_with fail
    refine H2.out.mono ?_
    rintro e w' ⟨rfl, rfl⟩
    go_wp2_with fail
    go_ret
    exact ⟨rfl, rfl⟩
  · rw [if_neg h0]
    have e0 : (c == 0) = false := by simpa using h0
    have e1 : (c != 0) = true := by simpa using h0
    clear h0 h2
    have H1 := Lib.hid h1
    clear h1
    go_enter Try.func22, Try.ntmps22
    go_wp2_with fail
    refine H1.out.mono ?_
    rintro e w' ⟨rfl, rfl⟩
    go_wp2_with fail
    go_ret
    exact ⟨rfl, rfl⟩

end Go.Proofs.Ytlefniheafefgaa
