/- bigint.quotient: the quotient, rounded down, and the remainder. -/
import Derived.Test.YtlefniheafefgaaGreatDoorDivide
set_option linter.unusedVariables false
set_option linter.unusedSimpArgs false
namespace Go.Proofs.YtlefniheafefgaaGreatDoor
open Go.RowKit Go.Shelf Go.Proofs.YtlefniheafefgaaGreatDoorW.PrintWords

/-- What divide is asked to do with two magnitudes. -/
def DivH (xs ys : List Int) (K : Nat) : Prop := ∀ (A B : Option Addr) (n m c e : Nat) (w : World), RI w.heap.size w A n xs → RI w.heap.size w B m ys → n ≤ c → m ≤ e →
  Calls Tryz.prog 94 #[.slice A n c, .slice B m e] w fun e w' => ∃ A' n' c' B' m' c2, e = .returned (.tuple #[.slice A' n' c', .slice B' m' c2]) ∧ Mag w' (.slice A' n' c') (lval xs / lval ys) K ∧ Mag w' (.slice B' m' c2) (lval xs % lval ys) K ∧ Below w.heap.size w w'
/-- A divisor of one limb, or a greater one. -/
theorem div_small {xs ys : List Int} (hx : limbs xs) (hy : limbs ys) (tx : topped xs) (ty : topped ys) (hn : xs.length ≤ 1000000) (h0 : 0 < lval ys) (hs : lval xs < lval ys ∨ lval ys < 1000000000) : DivH xs ys (xs.length + 1) := by
  intro A B n m c e w hX hY hnc hme
  have ho := (ordL_val hx hy tx ty).1
  have hp := lval_nonneg hx
  by_cases h : lval xs < lval ys
  · refine (divide_less A B n m c e xs ys w hX hY (ho.2 h)).mono ?_
    rintro E w' ⟨rfl, hB⟩
    refine ⟨_, _, _, _, _, _, rfl, ?_, ?_, hB⟩
    · rw [Int.ediv_eq_zero_of_lt hp h]; exact mag_nil w' _
    · rw [Int.emod_eq_of_lt hp h]
      exact ⟨A, n, c, xs, rfl, (hX.below hB).mono hB.size, hx, tx, hnc, trivial, by rw [← hX.1]; omega, rfl⟩
  · have hy1 : lval ys < 1000000000 := by omega
    have hm1 : m = 1 := by
      have hl := hY.1
      rcases Nat.lt_or_ge 1 m with h2 | h2
      · have := topped_ge hy ty (by omega)
        have := base_mono (m := 1) (n := ys.length - 1) (by omega)
        omega
      · rcases Nat.eq_zero_or_pos m with e | e
        · have := (lval_zero hy ty).2 (by omega); omega
        · omega
    subst hm1
    have hl := hY.1
    have hd : lval ys = ys[0]?.getD 0 := by rw [lval, hl]; simp [pval]
    have hb := hy 0
    refine (divide_one A B n c e xs ys (ys[0]?.getD 0) w hX hY hx (by rw [← hX.1]; exact hn) rfl (by omega) (by omega) (fun e => h (ho.1 e))).mono ?_
    rintro E w' ⟨A', n', c', B', m', c2, rfl, h1, h2, hB⟩
    rw [← hd] at h1 h2
    exact ⟨_, _, _, _, _, _, rfl, h1.more (by rw [← hX.1]; omega), h2.more (by omega), hB⟩

theorem fdiv_same (b : Bool) (X Y : Int) (hX : 0 ≤ X) (hY : 0 < Y) : Int.fdiv (if b = true then -X else X) (if b = true then -Y else Y) = X / Y ∧ Int.fmod (if b = true then -X else X) (if b = true then -Y else Y) = (if b = true then -(X % Y) else X % Y) := by
  cases b
  · simp only [Bool.false_eq_true, if_false]
    exact ⟨Int.fdiv_eq_ediv_of_nonneg X (by omega), Int.fmod_eq_emod_of_nonneg X (by omega)⟩
  · simp only [if_true]
    rw [Int.neg_fdiv_neg, Int.neg_fmod_neg, Int.fdiv_eq_ediv_of_nonneg X (by omega), Int.fmod_eq_emod_of_nonneg X (by omega)]
    exact ⟨rfl, rfl⟩
theorem neg_ediv (X Y : Int) (hY : 0 < Y) : (-X) / Y = (if X % Y = 0 then -(X / Y) else -(X / Y + 1)) ∧ (-X) % Y = (if X % Y = 0 then 0 else Y - X % Y) := by
  have h := Int.emod_add_mul_ediv X Y
  have h1 := Int.emod_nonneg X (show Y ≠ 0 by omega)
  have h2 := Int.emod_lt_of_pos X hY
  split
  · rename_i h0
    have := (Int.ediv_emod_unique (a := -X) (b := Y) (r := 0) (q := -(X / Y)) hY).2 ⟨by rw [Int.mul_neg]; omega, by omega, hY⟩
    exact this
  · rename_i h0
    have := (Int.ediv_emod_unique (a := -X) (b := Y) (r := Y - X % Y) (q := -(X / Y + 1)) hY).2 ⟨by rw [Int.mul_neg, Int.mul_add]; omega, by omega, by omega⟩
    exact this
theorem fdiv_other (b : Bool) (X Y : Int) (hX : 0 ≤ X) (hY : 0 < Y) : Int.fdiv (if b = true then -X else X) (if (!b) = true then -Y else Y) = (if X % Y = 0 then -(X / Y) else -(X / Y + 1)) ∧ Int.fmod (if b = true then -X else X) (if (!b) = true then -Y else Y) = (if (!b) = true then -(if X % Y = 0 then 0 else Y - X % Y) else (if X % Y = 0 then 0 else Y - X % Y)) := by
  obtain ⟨h1, h2⟩ := neg_ediv X Y hY
  cases b
  · simp only [Bool.not_false, if_true, Bool.false_eq_true, if_false]
    rw [show X = - -X from (Int.neg_neg X).symm, Int.neg_fdiv_neg, Int.neg_fmod_neg, Int.fdiv_eq_ediv_of_nonneg _ (by omega), Int.fmod_eq_emod_of_nonneg _ (by omega), Int.neg_neg, h1, h2]
    exact ⟨rfl, rfl⟩
  · simp only [Bool.not_true, if_true, Bool.false_eq_true, if_false]
    rw [Int.fdiv_eq_ediv_of_nonneg _ (by omega), Int.fmod_eq_emod_of_nonneg _ (by omega), h1, h2]
    exact ⟨rfl, rfl⟩
theorem results_c2 {P : Program} {fn : Func} {p q : Tmp} {ty : TypeId} (h : fn.results = #[.cell p ty, .cell q ty]) (tmps : Array Value) (w : World) (g g2 : Nat) (t : TypeId) (cs cs2 : Array Value) (fr fr2 : Nat × Nat) (d : TypeDesc)
    (hp : tmps.getD p undef = .pointer (some ⟨g, 0, none⟩)) (hg : w.heap[g]? = some (.cells cs t fr)) (hq : tmps.getD q undef = .pointer (some ⟨g2, 0, none⟩)) (hg2 : w.heap[g2]? = some (.cells cs2 t fr2))
    (hu : P.underlying ty = some d) (hd : (match d with | .struct _ | .array _ _ => true | _ => false) = true) (hi : (P.info? ty).map (·.size) = some cs.size) (hi2 : (P.info? ty).map (·.size) = some cs2.size) :
    (results fn tmps).run P w = .ok (.tuple #[.agg cs, .agg cs2]) w := by
  have hp' : tmps[p]?.getD undef = .pointer (some ⟨g, 0, none⟩) := by simpa using hp
  have hq' : tmps[q]?.getD undef = .pointer (some ⟨g2, 0, none⟩) := by simpa using hq
  simp [results, h, hp', hq', asAddr, run_loadVar_row w g t ty cs fr d hg hu hd hi, run_loadVar_row w g2 t ty cs2 fr2 d hg2 hu hd hi2]

theorem alloc4 (w : World) (o0 o1 o2 o3 : Obj) : ((((w.alloc o0).alloc o1).alloc o2).alloc o3).heap[w.heap.size]? = some o0 ∧ ((((w.alloc o0).alloc o1).alloc o2).alloc o3).heap[w.heap.size + 1]? = some o1 ∧ ((((w.alloc o0).alloc o1).alloc o2).alloc o3).heap[w.heap.size + 1 + 1]? = some o2 ∧ ((((w.alloc o0).alloc o1).alloc o2).alloc o3).heap[w.heap.size + 1 + 1 + 1]? = some o3 ∧ ((((w.alloc o0).alloc o1).alloc o2).alloc o3).heap.size = w.heap.size + 4 ∧ Below w.heap.size w ((((w.alloc o0).alloc o1).alloc o2).alloc o3) := by
  have h0 := World.alloc_heap_new w o0
  have h1 := World.alloc_heap_new (w.alloc o0) o1
  have h2 := World.alloc_heap_new ((w.alloc o0).alloc o1) o2
  have h3 := World.alloc_heap_new (((w.alloc o0).alloc o1).alloc o2) o3
  simp only [World.size_alloc] at h1 h2 h3
  refine ⟨?_, ?_, ?_, h3, by simp, ((((Below.refl _ w).alloc (Nat.le_refl _) _).alloc (by simp only [World.size_alloc]; omega) _).alloc (by simp only [World.size_alloc]; omega) _).alloc (by simp only [World.size_alloc]; omega) _⟩
  · exact (Below.heap_alloc _ _ _ (by simp only [World.size_alloc]; omega)).trans ((Below.heap_alloc _ _ _ (by simp only [World.size_alloc]; omega)).trans ((Below.heap_alloc _ _ _ (by simp only [World.size_alloc]; omega)).trans h0))
  · exact (Below.heap_alloc _ _ _ (by simp only [World.size_alloc]; omega)).trans ((Below.heap_alloc _ _ _ (by simp only [World.size_alloc]; omega)).trans h1)
  · exact (Below.heap_alloc _ _ _ (by simp only [World.size_alloc]; omega)).trans h2
/-- A magnitude lies apart from two blocks of numbers that are stored into. -/
theorem mag_set2 {w : World} {v : Value} {x : Int} {L : Nat} (h : Mag w v x L) {g : Nat} {b : Bool} {A : Option Addr} {n c : Nat} {t : TypeId} (hg : w.heap[g]? = some (.cells #[.bool b, .slice A n c] t (0, 0))) (d : Bool) (B : Option Addr) (m e : Nat) : Mag ((w.setCell ⟨g, 0, none⟩ (.bool d)).setCell ⟨g, 1, none⟩ (.slice B m e)) v x L :=
  (h.set hg (no_ints b A n c) 0 _).set (blk_put (cs := #[.bool b, .slice A n c]) hg 0 (.bool d) rfl) (no_ints d A n c) 1 _
theorem mag_drew {w : World} {v : Value} {x : Int} {L : Nat} (h : Mag w v x L) : Mag w.drew v x L := h
set_option maxRecDepth 100000 in
set_option maxHeartbeats 4000000 in
theorem quot_same (A B : Option Addr) (n m c e : Nat) (xs ys : List Int) (b : Bool) (K : Nat) (w : World) (hx : RI w.heap.size w A n xs) (hy : RI w.heap.size w B m ys) (hc : n ≤ c) (he : m ≤ e) (hD : DivH xs ys K) :
    Calls Tryz.prog 81 #[.agg #[.bool b, .slice A n c], .agg #[.bool b, .slice B m e]] w fun e w' => ∃ A1 n1 c1 A2 n2 c2, e = .returned (.tuple #[.agg #[.bool false, .slice A1 n1 c1], .agg #[.bool b, .slice A2 n2 c2]]) ∧ Mag w' (.slice A1 n1 c1) (lval xs / lval ys) K ∧ Mag w' (.slice A2 n2 c2) (lval xs % lval ys) K ∧ Below w.heap.size w w' := by
  have HX := Lib.hid hx
  have HY := Lib.hid hy
  have HD := Lib.hid hD
  clear hx hy hD
  obtain ⟨x0, x1, x2, x3, xz, xB⟩ := alloc4 w (.cells #[.bool b, .slice A n c] 65) (.cells #[.bool b, .slice B m e] 65) (.cells #[.bool false, .slice none 0 0] 65) (.cells #[.bool false, .slice none 0 0] 65)
  have HDV : Hid (Calls Tryz.prog 94 #[.slice A n c, .slice B m e] ((((w.alloc (.cells #[.bool b, .slice A n c] 65)).alloc (.cells #[.bool b, .slice B m e] 65)).alloc (.cells #[.bool false, .slice none 0 0] 65)).alloc (.cells #[.bool false, .slice none 0 0] 65)) fun E w' => ∃ A' n' c' B' m' c2, E = .returned (.tuple #[.slice A' n' c', .slice B' m' c2]) ∧ Mag w' (.slice A' n' c') (lval xs / lval ys) K ∧ Mag w' (.slice B' m' c2) (lval xs % lval ys) K ∧ Below ((((w.alloc (.cells #[.bool b, .slice A n c] 65)).alloc (.cells #[.bool b, .slice B m e] 65)).alloc (.cells #[.bool false, .slice none 0 0] 65)).alloc (.cells #[.bool false, .slice none 0 0] 65)).heap.size ((((w.alloc (.cells #[.bool b, .slice A n c] 65)).alloc (.cells #[.bool b, .slice B m e] 65)).alloc (.cells #[.bool false, .slice none 0 0] 65)).alloc (.cells #[.bool false, .slice none 0 0] 65)) w') := Lib.hid (HD.out A B n m c e _ ((HX.out.below xB).mono (by rw [xz]; omega)) ((HY.out.below xB).mono (by rw [xz]; omega)) hc he)
  have X0 := Lib.hid x0
  have X1 := Lib.hid x1
  have X2 := Lib.hid x2
  have X3 := Lib.hid x3
  have XZ := Lib.hid xz
  have XB := Lib.hid xB
  clear x0 x1 x2 x3 xz xB
  have HKG : Hid (∀ (g : Nat) (v1 : World) (u v : Value), g ≠ w.heap.size → g ≠ w.heap.size + 1 → (v1.cell? ⟨w.heap.size, 0, none⟩ = some (.bool b) ∧ v1.cell? ⟨w.heap.size, 1, none⟩ = some (.slice A n c) ∧ v1.cell? ⟨w.heap.size + 1, 0, none⟩ = some (.bool b) ∧ v1.cell? ⟨w.heap.size + 1, 1, none⟩ = some (.slice B m e)) → ((v1.setCell ⟨g, 0, none⟩ u).setCell ⟨g, 1, none⟩ v).cell? ⟨w.heap.size, 0, none⟩ = some (.bool b) ∧ ((v1.setCell ⟨g, 0, none⟩ u).setCell ⟨g, 1, none⟩ v).cell? ⟨w.heap.size, 1, none⟩ = some (.slice A n c) ∧ ((v1.setCell ⟨g, 0, none⟩ u).setCell ⟨g, 1, none⟩ v).cell? ⟨w.heap.size + 1, 0, none⟩ = some (.bool b) ∧ ((v1.setCell ⟨g, 0, none⟩ u).setCell ⟨g, 1, none⟩ v).cell? ⟨w.heap.size + 1, 1, none⟩ = some (.slice B m e)) := Lib.hid fun g v1 u v hg0 hg1 ⟨a1, a2, a3, a4⟩ =>
    have h (q : Addr) (hq : g ≠ q.block) : ((v1.setCell ⟨g, 0, none⟩ u).setCell ⟨g, 1, none⟩ v).cell? q = v1.cell? q := (cell_far _ hq).trans (cell_far _ hq)
    ⟨(h _ hg0).trans a1, (h _ hg0).trans a2, (h _ hg1).trans a3, (h _ hg1).trans a4⟩
  go_enter Tryz.func81, Tryz.ntmps81
  go_wp2_with (go_at_call 94; refine HDV.out.mono ?_; rintro E w1 ⟨A1, n1, c1, A2, n2, c2, rfl, hM1, hM2, hB⟩; have y0 := (hB.block w.heap.size (by rw [XZ.out]; omega)).trans X0.out; have y1 := (hB.block (w.heap.size + 1) (by rw [XZ.out]; omega)).trans X1.out; have y2 := (hB.block (w.heap.size + 1 + 1) (by rw [XZ.out]; omega)).trans X2.out; have y3 := (hB.block (w.heap.size + 1 + 1 + 1) (by rw [XZ.out]; omega)).trans X3.out; have kx0 := cellA y0 0 _ rfl; have kx1 := cellA y0 1 _ rfl; have ky0 := cellA y1 0 _ rfl; have ky1 := cellA y1 1 _ rfl; have z0 := cellA y2 0 _ rfl; have z1 := cellA y2 1 _ rfl; have z2 := frozen_at y2 0; have z3 := frozen_at y2 1; have r0 := cellA y3 0 _ rfl; have r1 := cellA y3 1 _ rfl; have r2 := frozen_at y3 0; have r3 := frozen_at y3 1; have Y1 := Lib.hid y1; have Y2 := Lib.hid y2; have Y3 := Lib.hid y3; have HM1 := Lib.hid hM1; have HM2 := Lib.hid hM2; have hbw := XB.out.trans (hB.mono (by rw [XZ.out]; omega)); have hzw := hB.size; rw [XZ.out] at hzw; have HBW := Lib.hid hbw; clear y0 y1 y2 y3 hM1 hM2 hB hbw HDV)
  have kd : w1.drew.cell? ⟨w.heap.size, 0, none⟩ = some (.bool b) ∧ w1.drew.cell? ⟨w.heap.size, 1, none⟩ = some (.slice A n c) ∧ w1.drew.cell? ⟨w.heap.size + 1, 0, none⟩ = some (.bool b) ∧ w1.drew.cell? ⟨w.heap.size + 1, 1, none⟩ = some (.slice B m e) := ⟨kx0, kx1, ky0, ky1⟩
  clear kx0 kx1 ky0 ky1 X0 X1 X2 X3 XZ XB HX HY HD
  go_region_held3 (fun w' => w'.cell? ⟨w.heap.size, 0, none⟩ = some (.bool b) ∧ w'.cell? ⟨w.heap.size, 1, none⟩ = some (.slice A n c) ∧ w'.cell? ⟨w.heap.size + 1, 0, none⟩ = some (.bool b) ∧ w'.cell? ⟨w.heap.size + 1, 1, none⟩ = some (.slice B m e)) (first | assumption | exact HKG.out _ _ _ _ (by omega) (by omega) (by assumption)) (fail)
  go_wp2
  have s1 := (blk_far2 (w := w1) (g := w.heap.size + 1 + 1) (k := w.heap.size + 1 + 1 + 1) (by omega) (.bool false) (.slice A1 n1 c1)).trans Y3.out
  have s2 := (blk_far2 (w := (w1.setCell ⟨w.heap.size + 1 + 1, 0, none⟩ (.bool false)).setCell ⟨w.heap.size + 1 + 1, 1, none⟩ (.slice A1 n1 c1)) (g := w.heap.size + 1 + 1 + 1) (k := w.heap.size + 1 + 1) (by omega) (.bool b) (.slice A2 n2 c2)).trans (blk_put2 Y2.out false A1 n1 c1)
  have s3 := blk_put2 s1 b A2 n2 c2
  refine bodyPost_ret (results_c2 rfl _ _ (w.heap.size + 1 + 1) (w.heap.size + 1 + 1 + 1) 65 _ _ (0, 0) (0, 0) _ rfl s2 rfl s3 Tryz.underlying65 rfl (by kernel_rfl) (by kernel_rfl)) rfl ?_
  exact ⟨_, _, _, _, _, _, rfl, mag_drew (mag_set2 (mag_set2 HM1.out Y2.out _ _ _ _) s1 _ _ _ _), mag_drew (mag_set2 (mag_set2 HM2.out Y2.out _ _ _ _) s1 _ _ _ _), (below_set2 (below_set2 HBW.out (by omega) _ _) (by omega) _ _).drew⟩
end Go.Proofs.YtlefniheafefgaaGreatDoor
