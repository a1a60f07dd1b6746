/- bigint.divide: by less than the divisor, and by a divisor of one limb. · bigint.quotient: the quotient, rounded down, and the remainder. · bigint.quotient: different signs; all together. · bigint.quotient: different signs and a rest; all together. -/
import Derived.Test.YtignanmmgaldeaaGreatDoorLTimesAll
set_option linter.unusedVariables false
set_option linter.unusedSimpArgs false
namespace Go.Proofs.YtignanmmgaldeaaGreatDoor
open Go.RowKit Go.Shelf Go.Proofs.YtignanmmgaldeaaGreatDoorW.PrintWords
theorem shF_low (d : Int) (xs : List Int) (n : Nat) : ∀ k, k ≤ n → ∀ i, i < n - k → (shF d xs (bwl n k)).1[i]?.getD 0 = 0
  | 0, _, i, hi => by
    rw [Nat.sub_zero] at hi
    simp [shF, bwl, List.getElem?_replicate, hi]
  | k + 1, hk, i, hi => by
    rw [bwl_step n k (by omega), shF_snoc]
    dsimp only
    rw [List.getElem?_set_ne (by omega)]
    exact shF_low d xs n k (by omega) i (by omega)
theorem shF_val (d : Int) (hd : 1 ≤ d) (xs : List Int) (n : Nat) (hn : xs.length = n) : ∀ k, k ≤ n → pval (shF d xs (bwl n k)).1 n * d + (shF d xs (bwl n k)).2 * 1000000000 ^ (n - k) + pval xs (n - k) = lval xs
  | 0, _ => by
    have : pval (shF d xs (bwl n 0)).1 n = 0 := zeros_pval n n
    rw [this]; simp [shF, bwl, lval, hn]
  | k + 1, hk => by
    have ih := shF_val d hd xs n hn k (by omega)
    have hl := shF_len d xs (bwl n k)
    have hz := shF_low d xs n k (by omega) (n - 1 - k) (by omega)
    rw [show n - k = (n - (k + 1)) + 1 from by omega, base_succ, pval] at ih
    rw [show n - (k + 1) = n - 1 - k from by omega] at ih ⊢
    rw [bwl_step n k (by omega), shF_snoc]
    dsimp only
    rw [pval_set_any _ _ _ (by rw [hl]; omega) n (by omega), hz, Int.sub_zero]
    generalize (shF d xs (bwl n k)).2 = rest at ih ⊢
    generalize pval (shF d xs (bwl n k)).1 n = P at ih ⊢
    generalize xs[n - 1 - k]?.getD 0 = x at ih ⊢
    generalize (1000000000 : Int) ^ (n - 1 - k) = p at ih ⊢
    have h := Int.emod_add_mul_ediv (rest * 1000000000 + x) d
    have h2 := congrArg (· * p) h
    simp only [Int.add_mul] at h2
    have e1 : d * ((rest * 1000000000 + x) / d) * p = (rest * 1000000000 + x) / d * p * d := by rw [Int.mul_comm d, Int.mul_assoc, Int.mul_assoc, Int.mul_comm d p]
    have e2 : rest * (1000000000 * p) = rest * 1000000000 * p := (Int.mul_assoc _ _ _).symm
    rw [Int.add_mul]
    omega
theorem shF_limbs (d : Int) (hd : 1 ≤ d) {xs : List Int} (hx : limbs xs) (n : Nat) : ∀ k, k ≤ n → limbs (shF d xs (bwl n k)).1
  | 0, _ => fun i => by by_cases h : i < n <;> simp [shF, bwl, List.getElem?_replicate, h]
  | k + 1, hk => by
    have ih := shF_limbs d hd hx n k (by omega)
    have hr := shF_rest d hd xs (bwl n k)
    have h1 := hx (n - 1 - k)
    rw [bwl_step n k (by omega), shF_snoc]
    dsimp only
    refine limbs_set ih _ _ ⟨Int.ediv_nonneg (by omega) (by omega), ?_⟩
    refine Int.ediv_lt_of_lt_mul (by omega) ?_
    have : ((shF d xs (bwl n k)).2 + 1) * 1000000000 ≤ d * 1000000000 := Int.mul_le_mul_of_nonneg_right (by omega) (by omega)
    rw [Int.mul_comm 1000000000 d]
    omega
/-- Division by one limb. -/
theorem short_val (d : Int) (hd : 1 ≤ d) {xs : List Int} (hx : limbs xs) (n : Nat) (hn : xs.length = n) : lval (shF d xs (bwl n n)).1 = lval xs / d ∧ (shF d xs (bwl n n)).2 = lval xs % d := by
  have hv := shF_val d hd xs n hn n (Nat.le_refl _)
  have hr := shF_rest d hd xs (bwl n n)
  have hl := shF_len d xs (bwl n n)
  rw [Nat.sub_self] at hv
  simp only [Int.pow_zero, Int.mul_one, pval, Int.add_zero] at hv
  have e : lval (shF d xs (bwl n n)).1 = pval (shF d xs (bwl n n)).1 n := by rw [lval, hl]
  rw [e]
  have hu := Int.ediv_emod_unique (a := lval xs) (b := d) (r := (shF d xs (bwl n n)).2) (q := pval (shF d xs (bwl n n)).1 n) (by omega)
  have := hu.2 ⟨by rw [Int.mul_comm d]; omega, hr.1, hr.2⟩
  exact ⟨this.1.symm, this.2.symm⟩
theorem mag_nil (w : World) (L : Nat) : Mag w (.slice none 0 0) 0 L := ⟨none, 0, 0, [], rfl, ⟨rfl, by omega, fun h => by omega⟩, fun i => by simp, Or.inl rfl, Nat.le_refl _, trivial, Nat.zero_le _, rfl⟩
set_option maxRecDepth 100000 in
set_option maxHeartbeats 2000000 in
theorem divide_less (A B : Option Addr) (n m c e : Nat) (xs ys : List Int) (w : World) (hx : RI w.heap.size w A n xs) (hy : RI w.heap.size w B m ys) (h : ordL xs ys < 0) :
    Calls Tryz.prog 90 #[.slice A n c, .slice B m e] w fun e w' => e = .returned (.tuple #[.slice none 0 0, .slice A n c]) ∧ Below w.heap.size w w' := by
  have HO := Lib.hid (order_any A B n m c e xs ys w hx hy)
  have h1 : decide (ordL xs ys < 0) = true := by simpa using h
  generalize ordL xs ys = o at HO h1
  clear hx hy h
  go_enter Tryz.func90, Tryz.ntmps90
  go_wp2_with (go_at_call 145; refine HO.out.mono ?_; rintro e w1 ⟨rfl, hB⟩; have HB := Lib.hid hB; clear hB HO)
  go_ret2
  exact ⟨rfl, HB.out⟩
set_option maxRecDepth 100000 in
set_option maxHeartbeats 4000000 in
theorem divide_one (A B : Option Addr) (n c e : Nat) (xs ys : List Int) (d : Int) (w : World) (hx : RI w.heap.size w A n xs) (hy : RI w.heap.size w B 1 ys) (hxl : limbs xs) (hn : n ≤ 1000000) (hd : ys[0]?.getD 0 = d) (hd1 : 1 ≤ d) (hd2 : d < 1000000000) (h : ¬ ordL xs ys < 0) :
    Calls Tryz.prog 90 #[.slice A n c, .slice B 1 e] w fun e w' => ∃ A' n' c' B' m' c2, e = .returned (.tuple #[.slice A' n' c', .slice B' m' c2]) ∧ Mag w' (.slice A' n' c') (lval xs / d) n ∧ Mag w' (.slice B' m' c2) (lval xs % d) 1 ∧ Below w.heap.size w w' := by
  have HO := Lib.hid (order_any A B n 1 c e xs ys w hx hy)
  have h1 : decide (ordL xs ys < 0) = false := by simpa using h
  generalize ordL xs ys = o at HO h1
  obtain ⟨ad, rfl, hb, hc⟩ := hy.2.2 (by omega)
  have hcell := hc 0 (by omega)
  rw [hd, show ad.add 0 = ad from by simp [Addr.add]] at hcell
  have HC := Lib.hid hcell
  have HX := Lib.hid hx
  have HL := Lib.hid hxl
  have HSV := Lib.hid (short_val d hd1 hxl n hx.1)
  have HSL := Lib.hid (shF_limbs d hd1 hxl n n (Nat.le_refl _))
  have hrest := shF_rest d hd1 xs (bwl n n)
  have hlen := shF_len d xs (bwl n n)
  have HSW := Lib.hid (fun w1 h => short_walk A n c xs d w1 h (by omega) hd1 (by omega) (fun i => hxl i.val))
  generalize (shF d xs (bwl n n)).2 = r0 at HSV hrest HSW
  generalize (shF d xs (bwl n n)).1 = q0 at HSV HSL hlen HSW
  clear hx hy h hd hc hcell hxl
  go_enter Tryz.func90, Tryz.ntmps90
  go_wp2_with (first
    | (go_at_call 145; refine HO.out.mono ?_; rintro e w1 ⟨rfl, hB⟩; have hz1 := hB.size; have cw := (hB.cell (p := ad) hb).trans HC.out; have HB := Lib.hid hB; clear hB HO)
    | (go_at_call 171; refine (HSW.out w1 ((HX.out.below HB.out).mono hz1)).mono ?_; rintro e w2 ⟨rfl, hR, hB2⟩; have HR := Lib.hid hR; have HB2 := Lib.hid hB2; have hz2 := hB2.size; clear hR hB2 cw)
    | (go_at_call 172; refine (trim_any _ _ _ [r0] _ (rowd_reads (World.alloc_heap_new w2 _) (by simp)) (by simp) (by omega)).mono ?_; rintro e w3 ⟨rfl, rfl⟩))
  go_ret2
  have hW3 : Below w2.heap.size w2 (w2.alloc (.cells #[.int .i64 r0] 3)) := (Below.refl _ w2).alloc (Nat.le_refl _) _
  have hq := rowd_reads HR.out (by omega)
  rw [hlen] at hq
  have hM1 : Mag w2 (.slice (some ⟨w1.heap.size + 1, 0, none⟩) (tlen q0 q0.length) n) (lval xs / d) n := mag_of_reads (rowd_reads HR.out (by omega)) (fun ad e => by cases e; exact HR.out.lt) HSL.out (by omega) (by omega) (Nat.le_trans (tlen_le _ _) (by omega)) HSV.out.1
  rw [hlen] at hM1
  have hlr : limbs [r0] := fun i => by
    match i with
    | 0 => simp; omega
    | i + 1 => simp
  have hM2 : Mag (w2.alloc (.cells #[.int .i64 r0] 3)) (.slice (some ⟨w2.heap.size, 0, none⟩) (tlen [r0] [r0].length) 1) (lval xs % d) 1 := mag_of_reads (l := [r0]) (rowd_reads (World.alloc_heap_new w2 _) (by simp)) (fun ad e => by cases e; simp) hlr (by simp) (by omega) (tlen_le _ _) (by rw [← HSV.out.2]; simp [lval, pval])
  exact ⟨_, _, _, _, _, _, rfl, hM1.below hW3, hM2, (HB.out.trans (HB2.out.mono hz1)).trans (hW3.mono (by omega))⟩
end Go.Proofs.YtignanmmgaldeaaGreatDoor
namespace Go.Proofs.YtignanmmgaldeaaGreatDoor
open Go.RowKit Go.Shelf Go.Proofs.YtignanmmgaldeaaGreatDoorW.PrintWords
/-- What divide is asked to do with two magnitudes. -/
def DivH (xs ys : List Int) (K : Nat) : Prop := ∀ (A B : Option Addr) (n m c e : Nat) (w : World), RI w.heap.size w A n xs → RI w.heap.size w B m ys → n ≤ c → m ≤ e →
  Calls Tryz.prog 90 #[.slice A n c, .slice B m e] w fun e w' => ∃ A' n' c' B' m' c2, e = .returned (.tuple #[.slice A' n' c', .slice B' m' c2]) ∧ Mag w' (.slice A' n' c') (lval xs / lval ys) K ∧ Mag w' (.slice B' m' c2) (lval xs % lval ys) K ∧ Below w.heap.size w w'
/-- A divisor of one limb, or a greater one. -/
theorem div_small {xs ys : List Int} (hx : limbs xs) (hy : limbs ys) (tx : topped xs) (ty : topped ys) (hn : xs.length ≤ 1000000) (h0 : 0 < lval ys) (hs : lval xs < lval ys ∨ lval ys < 1000000000) : DivH xs ys (xs.length + 1) := by
  intro A B n m c e w hX hY hnc hme
  have ho := (ordL_val hx hy tx ty).1
  have hp := lval_nonneg hx
  by_cases h : lval xs < lval ys
  · refine (divide_less A B n m c e xs ys w hX hY (ho.2 h)).mono ?_
    rintro E w' ⟨rfl, hB⟩
    refine ⟨_, _, _, _, _, _, rfl, ?_, ?_, hB⟩
    · rw [Int.ediv_eq_zero_of_lt hp h]; exact mag_nil w' _
    · rw [Int.emod_eq_of_lt hp h]
      exact ⟨A, n, c, xs, rfl, (hX.below hB).mono hB.size, hx, tx, hnc, trivial, by rw [← hX.1]; omega, rfl⟩
  · have hy1 : lval ys < 1000000000 := by omega
    have hm1 : m = 1 := by
      have hl := hY.1
      rcases Nat.lt_or_ge 1 m with h2 | h2
      · have := topped_ge hy ty (by omega)
        have := base_mono (m := 1) (n := ys.length - 1) (by omega)
        omega
      · rcases Nat.eq_zero_or_pos m with e | e
        · have := (lval_zero hy ty).2 (by omega); omega
        · omega
    subst hm1
    have hl := hY.1
    have hd : lval ys = ys[0]?.getD 0 := by rw [lval, hl]; simp [pval]
    have hb := hy 0
    refine (divide_one A B n c e xs ys (ys[0]?.getD 0) w hX hY hx (by rw [← hX.1]; exact hn) rfl (by omega) (by omega) (fun e => h (ho.1 e))).mono ?_
    rintro E w' ⟨A', n', c', B', m', c2, rfl, h1, h2, hB⟩
    rw [← hd] at h1 h2
    exact ⟨_, _, _, _, _, _, rfl, h1.more (by rw [← hX.1]; omega), h2.more (by omega), hB⟩
theorem fdiv_same (b : Bool) (X Y : Int) (hX : 0 ≤ X) (hY : 0 < Y) : Int.fdiv (if b = true then -X else X) (if b = true then -Y else Y) = X / Y ∧ Int.fmod (if b = true then -X else X) (if b = true then -Y else Y) = (if b = true then -(X % Y) else X % Y) := by
  cases b
  · simp only [Bool.false_eq_true, if_false]
    exact ⟨Int.fdiv_eq_ediv_of_nonneg X (by omega), Int.fmod_eq_emod_of_nonneg X (by omega)⟩
  · simp only [if_true]
    rw [Int.neg_fdiv_neg, Int.neg_fmod_neg, Int.fdiv_eq_ediv_of_nonneg X (by omega), Int.fmod_eq_emod_of_nonneg X (by omega)]
    exact ⟨rfl, rfl⟩
theorem neg_ediv (X Y : Int) (hY : 0 < Y) : (-X) / Y = (if X % Y = 0 then -(X / Y) else -(X / Y + 1)) ∧ (-X) % Y = (if X % Y = 0 then 0 else Y - X % Y) := by
  have h := Int.emod_add_mul_ediv X Y
  have h1 := Int.emod_nonneg X (show Y ≠ 0 by omega)
  have h2 := Int.emod_lt_of_pos X hY
  split
  · rename_i h0
    have := (Int.ediv_emod_unique (a := -X) (b := Y) (r := 0) (q := -(X / Y)) hY).2 ⟨by rw [Int.mul_neg]; omega, by omega, hY⟩
    exact this
  · rename_i h0
    have := (Int.ediv_emod_unique (a := -X) (b := Y) (r := Y - X % Y) (q := -(X / Y + 1)) hY).2 ⟨by rw [Int.mul_neg, Int.mul_add]; omega, by omega, by omega⟩
    exact this
theorem fdiv_other (b : Bool) (X Y : Int) (hX : 0 ≤ X) (hY : 0 < Y) : Int.fdiv (if b = true then -X else X) (if (!b) = true then -Y else Y) = (if X % Y = 0 then -(X / Y) else -(X / Y + 1)) ∧ Int.fmod (if b = true then -X else X) (if (!b) = true then -Y else Y) = (if (!b) = true then -(if X % Y = 0 then 0 else Y - X % Y) else (if X % Y = 0 then 0 else Y - X % Y)) := by
  obtain ⟨h1, h2⟩ := neg_ediv X Y hY
  cases b
  · simp only [Bool.not_false, if_true, Bool.false_eq_true, if_false]
    rw [show X = - -X from (Int.neg_neg X).symm, Int.neg_fdiv_neg, Int.neg_fmod_neg, Int.fdiv_eq_ediv_of_nonneg _ (by omega), Int.fmod_eq_emod_of_nonneg _ (by omega), Int.neg_neg, h1, h2]
    exact ⟨rfl, rfl⟩
  · simp only [Bool.not_true, if_true, Bool.false_eq_true, if_false]
    rw [Int.fdiv_eq_ediv_of_nonneg _ (by omega), Int.fmod_eq_emod_of_nonneg _ (by omega), h1, h2]
    exact ⟨rfl, rfl⟩
theorem results_c2 {P : Program} {fn : Func} {p q : Tmp} {ty : TypeId} (h : fn.results = #[.cell p ty, .cell q ty]) (tmps : Array Value) (w : World) (g g2 : Nat) (t : TypeId) (cs cs2 : Array Value) (fr fr2 : Nat × Nat) (d : TypeDesc)
    (hp : tmps.getD p undef = .pointer (some ⟨g, 0, none⟩)) (hg : w.heap[g]? = some (.cells cs t fr)) (hq : tmps.getD q undef = .pointer (some ⟨g2, 0, none⟩)) (hg2 : w.heap[g2]? = some (.cells cs2 t fr2))
    (hu : P.underlying ty = some d) (hd : (match d with | .struct _ | .array _ _ => true | _ => false) = true) (hi : (P.info? ty).map (·.size) = some cs.size) (hi2 : (P.info? ty).map (·.size) = some cs2.size) :
    (results fn tmps).run P w = .ok (.tuple #[.agg cs, .agg cs2]) w := by
  have hp' : tmps[p]?.getD undef = .pointer (some ⟨g, 0, none⟩) := by simpa using hp
  have hq' : tmps[q]?.getD undef = .pointer (some ⟨g2, 0, none⟩) := by simpa using hq
  simp [results, h, hp', hq', asAddr, run_loadVar_row w g t ty cs fr d hg hu hd hi, run_loadVar_row w g2 t ty cs2 fr2 d hg2 hu hd hi2]
theorem alloc4 (w : World) (o0 o1 o2 o3 : Obj) : ((((w.alloc o0).alloc o1).alloc o2).alloc o3).heap[w.heap.size]? = some o0 ∧ ((((w.alloc o0).alloc o1).alloc o2).alloc o3).heap[w.heap.size + 1]? = some o1 ∧ ((((w.alloc o0).alloc o1).alloc o2).alloc o3).heap[w.heap.size + 1 + 1]? = some o2 ∧ ((((w.alloc o0).alloc o1).alloc o2).alloc o3).heap[w.heap.size + 1 + 1 + 1]? = some o3 ∧ ((((w.alloc o0).alloc o1).alloc o2).alloc o3).heap.size = w.heap.size + 4 ∧ Below w.heap.size w ((((w.alloc o0).alloc o1).alloc o2).alloc o3) := by
  have h0 := World.alloc_heap_new w o0
  have h1 := World.alloc_heap_new (w.alloc o0) o1
  have h2 := World.alloc_heap_new ((w.alloc o0).alloc o1) o2
  have h3 := World.alloc_heap_new (((w.alloc o0).alloc o1).alloc o2) o3
  simp only [World.size_alloc] at h1 h2 h3
  refine ⟨?_, ?_, ?_, h3, by simp, ((((Below.refl _ w).alloc (Nat.le_refl _) _).alloc (by simp only [World.size_alloc]; omega) _).alloc (by simp only [World.size_alloc]; omega) _).alloc (by simp only [World.size_alloc]; omega) _⟩
  · exact (Below.heap_alloc _ _ _ (by simp only [World.size_alloc]; omega)).trans ((Below.heap_alloc _ _ _ (by simp only [World.size_alloc]; omega)).trans ((Below.heap_alloc _ _ _ (by simp only [World.size_alloc]; omega)).trans h0))
  · exact (Below.heap_alloc _ _ _ (by simp only [World.size_alloc]; omega)).trans ((Below.heap_alloc _ _ _ (by simp only [World.size_alloc]; omega)).trans h1)
  · exact (Below.heap_alloc _ _ _ (by simp only [World.size_alloc]; omega)).trans h2
/-- A magnitude lies apart from two blocks of numbers that are stored into. -/
theorem mag_set2 {w : World} {v : Value} {x : Int} {L : Nat} (h : Mag w v x L) {g : Nat} {b : Bool} {A : Option Addr} {n c : Nat} {t : TypeId} (hg : w.heap[g]? = some (.cells #[.bool b, .slice A n c] t (0, 0))) (d : Bool) (B : Option Addr) (m e : Nat) : Mag ((w.setCell ⟨g, 0, none⟩ (.bool d)).setCell ⟨g, 1, none⟩ (.slice B m e)) v x L :=
  (h.set hg (no_ints b A n c) 0 _).set (blk_put (cs := #[.bool b, .slice A n c]) hg 0 (.bool d) rfl) (no_ints d A n c) 1 _
theorem mag_drew {w : World} {v : Value} {x : Int} {L : Nat} (h : Mag w v x L) : Mag w.drew v x L := h
set_option maxRecDepth 100000 in
set_option maxHeartbeats 4000000 in
theorem quot_same (A B : Option Addr) (n m c e : Nat) (xs ys : List Int) (b : Bool) (K : Nat) (w : World) (hx : RI w.heap.size w A n xs) (hy : RI w.heap.size w B m ys) (hc : n ≤ c) (he : m ≤ e) (hD : DivH xs ys K) :
    Calls Tryz.prog 95 #[.agg #[.bool b, .slice A n c], .agg #[.bool b, .slice B m e]] w fun e w' => ∃ A1 n1 c1 A2 n2 c2, e = .returned (.tuple #[.agg #[.bool false, .slice A1 n1 c1], .agg #[.bool b, .slice A2 n2 c2]]) ∧ Mag w' (.slice A1 n1 c1) (lval xs / lval ys) K ∧ Mag w' (.slice A2 n2 c2) (lval xs % lval ys) K ∧ Below w.heap.size w w' := by
  have HX := Lib.hid hx
  have HY := Lib.hid hy
  have HD := Lib.hid hD
  clear hx hy hD
  obtain ⟨x0, x1, x2, x3, xz, xB⟩ := alloc4 w (.cells #[.bool b, .slice A n c] 81) (.cells #[.bool b, .slice B m e] 81) (.cells #[.bool false, .slice none 0 0] 81) (.cells #[.bool false, .slice none 0 0] 81)
  have HDV : Hid (Calls Tryz.prog 90 #[.slice A n c, .slice B m e] ((((w.alloc (.cells #[.bool b, .slice A n c] 81)).alloc (.cells #[.bool b, .slice B m e] 81)).alloc (.cells #[.bool false, .slice none 0 0] 81)).alloc (.cells #[.bool false, .slice none 0 0] 81)) fun E w' => ∃ A' n' c' B' m' c2, E = .returned (.tuple #[.slice A' n' c', .slice B' m' c2]) ∧ Mag w' (.slice A' n' c') (lval xs / lval ys) K ∧ Mag w' (.slice B' m' c2) (lval xs % lval ys) K ∧ Below ((((w.alloc (.cells #[.bool b, .slice A n c] 81)).alloc (.cells #[.bool b, .slice B m e] 81)).alloc (.cells #[.bool false, .slice none 0 0] 81)).alloc (.cells #[.bool false, .slice none 0 0] 81)).heap.size ((((w.alloc (.cells #[.bool b, .slice A n c] 81)).alloc (.cells #[.bool b, .slice B m e] 81)).alloc (.cells #[.bool false, .slice none 0 0] 81)).alloc (.cells #[.bool false, .slice none 0 0] 81)) w') := Lib.hid (HD.out A B n m c e _ ((HX.out.below xB).mono (by rw [xz]; omega)) ((HY.out.below xB).mono (by rw [xz]; omega)) hc he)
  have X0 := Lib.hid x0
  have X1 := Lib.hid x1
  have X2 := Lib.hid x2
  have X3 := Lib.hid x3
  have XZ := Lib.hid xz
  have XB := Lib.hid xB
  clear x0 x1 x2 x3 xz xB
  have HKG : Hid (∀ (g : Nat) (v1 : World) (u v : Value), g ≠ w.heap.size → g ≠ w.heap.size + 1 → (v1.cell? ⟨w.heap.size, 0, none⟩ = some (.bool b) ∧ v1.cell? ⟨w.heap.size, 1, none⟩ = some (.slice A n c) ∧ v1.cell? ⟨w.heap.size + 1, 0, none⟩ = some (.bool b) ∧ v1.cell? ⟨w.heap.size + 1, 1, none⟩ = some (.slice B m e)) → ((v1.setCell ⟨g, 0, none⟩ u).setCell ⟨g, 1, none⟩ v).cell? ⟨w.heap.size, 0, none⟩ = some (.bool b) ∧ ((v1.setCell ⟨g, 0, none⟩ u).setCell ⟨g, 1, none⟩ v).cell? ⟨w.heap.size, 1, none⟩ = some (.slice A n c) ∧ ((v1.setCell ⟨g, 0, none⟩ u).setCell ⟨g, 1, none⟩ v).cell? ⟨w.heap.size + 1, 0, none⟩ = some (.bool b) ∧ ((v1.setCell ⟨g, 0, none⟩ u).setCell ⟨g, 1, none⟩ v).cell? ⟨w.heap.size + 1, 1, none⟩ = some (.slice B m e)) := Lib.hid fun g v1 u v hg0 hg1 ⟨a1, a2, a3, a4⟩ =>
    have h (q : Addr) (hq : g ≠ q.block) : ((v1.setCell ⟨g, 0, none⟩ u).setCell ⟨g, 1, none⟩ v).cell? q = v1.cell? q := (cell_far _ hq).trans (cell_far _ hq)
    ⟨(h _ hg0).trans a1, (h _ hg0).trans a2, (h _ hg1).trans a3, (h _ hg1).trans a4⟩
  go_enter Tryz.func95, Tryz.ntmps95
  go_wp2_with (go_at_call 90; refine HDV.out.mono ?_; rintro E w1 ⟨A1, n1, c1, A2, n2, c2, rfl, hM1, hM2, hB⟩; have y0 := (hB.block w.heap.size (by rw [XZ.out]; omega)).trans X0.out; have y1 := (hB.block (w.heap.size + 1) (by rw [XZ.out]; omega)).trans X1.out; have y2 := (hB.block (w.heap.size + 1 + 1) (by rw [XZ.out]; omega)).trans X2.out; have y3 := (hB.block (w.heap.size + 1 + 1 + 1) (by rw [XZ.out]; omega)).trans X3.out; have kx0 := cellA y0 0 _ rfl; have kx1 := cellA y0 1 _ rfl; have ky0 := cellA y1 0 _ rfl; have ky1 := cellA y1 1 _ rfl; have z0 := cellA y2 0 _ rfl; have z1 := cellA y2 1 _ rfl; have z2 := frozen_at y2 0; have z3 := frozen_at y2 1; have r0 := cellA y3 0 _ rfl; have r1 := cellA y3 1 _ rfl; have r2 := frozen_at y3 0; have r3 := frozen_at y3 1; have Y1 := Lib.hid y1; have Y2 := Lib.hid y2; have Y3 := Lib.hid y3; have HM1 := Lib.hid hM1; have HM2 := Lib.hid hM2; have hbw := XB.out.trans (hB.mono (by rw [XZ.out]; omega)); have hzw := hB.size; rw [XZ.out] at hzw; have HBW := Lib.hid hbw; clear y0 y1 y2 y3 hM1 hM2 hB hbw HDV)
  have kd : w1.drew.cell? ⟨w.heap.size, 0, none⟩ = some (.bool b) ∧ w1.drew.cell? ⟨w.heap.size, 1, none⟩ = some (.slice A n c) ∧ w1.drew.cell? ⟨w.heap.size + 1, 0, none⟩ = some (.bool b) ∧ w1.drew.cell? ⟨w.heap.size + 1, 1, none⟩ = some (.slice B m e) := ⟨kx0, kx1, ky0, ky1⟩
  clear kx0 kx1 ky0 ky1 X0 X1 X2 X3 XZ XB HX HY HD
  go_region_held3 (fun w' => w'.cell? ⟨w.heap.size, 0, none⟩ = some (.bool b) ∧ w'.cell? ⟨w.heap.size, 1, none⟩ = some (.slice A n c) ∧ w'.cell? ⟨w.heap.size + 1, 0, none⟩ = some (.bool b) ∧ w'.cell? ⟨w.heap.size + 1, 1, none⟩ = some (.slice B m e)) (first | assumption | exact HKG.out _ _ _ _ (by omega) (by omega) (by assumption)) (fail)
  go_wp2
  have s1 := (blk_far2 (w := w1) (g := w.heap.size + 1 + 1) (k := w.heap.size + 1 + 1 + 1) (by omega) (.bool false) (.slice A1 n1 c1)).trans Y3.out
  have s2 := (blk_far2 (w := (w1.setCell ⟨w.heap.size + 1 + 1, 0, none⟩ (.bool false)).setCell ⟨w.heap.size + 1 + 1, 1, none⟩ (.slice A1 n1 c1)) (g := w.heap.size + 1 + 1 + 1) (k := w.heap.size + 1 + 1) (by omega) (.bool b) (.slice A2 n2 c2)).trans (blk_put2 Y2.out false A1 n1 c1)
  have s3 := blk_put2 s1 b A2 n2 c2
  refine bodyPost_ret (results_c2 rfl _ _ (w.heap.size + 1 + 1) (w.heap.size + 1 + 1 + 1) 81 _ _ (0, 0) (0, 0) _ rfl s2 rfl s3 Tryz.underlying81 rfl (by kernel_rfl) (by kernel_rfl)) rfl ?_
  exact ⟨_, _, _, _, _, _, rfl, mag_drew (mag_set2 (mag_set2 HM1.out Y2.out _ _ _ _) s1 _ _ _ _), mag_drew (mag_set2 (mag_set2 HM2.out Y2.out _ _ _ _) s1 _ _ _ _), (below_set2 (below_set2 HBW.out (by omega) _ _) (by omega) _ _).drew⟩
end Go.Proofs.YtignanmmgaldeaaGreatDoor
namespace Go.Proofs.YtignanmmgaldeaaGreatDoor
open Go.RowKit Go.Shelf Go.Proofs.YtignanmmgaldeaaGreatDoorW.PrintWords
theorem plus_mag (u v : Value) (x y : Int) (L : Nat) (w : World) (hu : Mag w u x L) (hv : Mag w v y L) (hL : L ≤ 1000000) :
    Calls Tryz.prog 174 #[u, v] w fun E w' => ∃ A n c, E = .returned (.slice A n c) ∧ Mag w' (.slice A n c) (x + y) (L + 1) ∧ Below w.heap.size w w' := by
  obtain ⟨A, n, c, xs, rfl, h1, h2, h3, h4, h5, h6, rfl⟩ := hu
  obtain ⟨B, m, e, ys, rfl, k1, k2, k3, k4, k5, k6, rfl⟩ := hv
  have hpl := plL_le xs ys L (by rw [h1.1]; exact h6) (by rw [k1.1]; exact k6)
  refine (plus_walk A B n m c e xs ys w h1 k1 h2 k2 (by omega) (by omega)).mono ?_
  rintro E w' ⟨rfl, hR, hB⟩
  exact ⟨_, _, _, rfl, mag_of_reads (rowd_reads hR (by omega)) (fun ad e => by cases e; exact hR.lt) (plL_limbs xs ys) (Nat.le_refl _) (by omega) (Nat.le_trans (tlen_le _ _) hpl) (plL_val h2 k2), hB⟩
theorem minus_mag (u v : Value) (x y : Int) (L : Nat) (w : World) (hu : Mag w u x L) (hv : Mag w v y L) (hL : L ≤ 1000000) (hxy : y ≤ x) :
    Calls Tryz.prog 175 #[u, v] w fun E w' => ∃ A n c, E = .returned (.slice A n c) ∧ Mag w' (.slice A n c) (x - y) L ∧ Below w.heap.size w w' := by
  obtain ⟨A, n, c, xs, rfl, h1, h2, h3, h4, h5, h6, rfl⟩ := hu
  obtain ⟨B, m, e, ys, rfl, k1, k2, k3, k4, k5, k6, rfl⟩ := hv
  have hml : (mnL xs ys).length = n := by rw [mnL, mnF_len]; exact h1.1
  refine (minus_walk A B n m c e xs ys w h1 k1 h2 k2 (by omega) (by omega)).mono ?_
  rintro E w' ⟨rfl, hR, hB⟩
  exact ⟨_, _, _, rfl, mag_of_reads (rowd_reads hR (by omega)) (fun ad e => by cases e; exact hR.lt) (mnL_limbs h2 k2) (Nat.le_refl _) (by omega) (Nat.le_trans (tlen_le _ _) (by omega)) (mnL_val h2 k2 k3 hxy), hB⟩
theorem mag_zero {w : World} {A : Option Addr} {n c : Nat} {x : Int} {L : Nat} (h : Mag w (.slice A n c) x L) : x = 0 ↔ n = 0 := by
  obtain ⟨A', n', c', xs, he, h1, h2, h3, h4, h5, h6, rfl⟩ := h
  cases he
  rw [lval_zero h2 h3, h1.1]
theorem mag_one (w : World) (L : Nat) (hL : 1 ≤ L) : Mag (w.alloc (.cells #[.int .i64 1] 3)) (.slice (some ⟨w.heap.size, 0, none⟩) 1 1) 1 L :=
  ⟨_, 1, 1, [1], rfl, ⟨rfl, by omega, fun _ => ⟨_, rfl, by simp, fun j hj => by
    obtain rfl : j = 0 := by omega
    rw [show (Addr.add ⟨w.heap.size, 0, none⟩ 0) = ⟨w.heap.size, 0, none⟩ from by simp [Addr.add]]
    exact cellA (World.alloc_heap_new w _) 0 _ rfl⟩⟩, fun i => by
    match i with
    | 0 => simp
    | i + 1 => simp, Or.inr (by simp), Nat.le_refl _, trivial, hL, by simp [lval, pval]⟩
set_option maxRecDepth 100000 in
set_option maxHeartbeats 4000000 in
theorem quot_zero (A B : Option Addr) (n m c e : Nat) (xs ys : List Int) (b : Bool) (K : Nat) (w : World) (hx : RI w.heap.size w A n xs) (hy : RI w.heap.size w B m ys) (hc : n ≤ c) (he : m ≤ e) (hD : DivH xs ys K) (hz : lval xs % lval ys = 0) :
    Calls Tryz.prog 95 #[.agg #[.bool b, .slice A n c], .agg #[.bool (!b), .slice B m e]] w fun e w' => ∃ A1 n1 c1 A2 n2 c2, e = .returned (.tuple #[.agg #[.bool true, .slice A1 n1 c1], .agg #[.bool (!b), .slice A2 n2 c2]]) ∧ Mag w' (.slice A1 n1 c1) (lval xs / lval ys) K ∧ Mag w' (.slice A2 n2 c2) (lval xs % lval ys) K ∧ Below w.heap.size w w' := by
  have HX := Lib.hid hx
  have HY := Lib.hid hy
  have HD := Lib.hid hD
  clear hx hy hD
  obtain ⟨x0, x1, x2, x3, xz, xB⟩ := alloc4 w (.cells #[.bool b, .slice A n c] 81) (.cells #[.bool (!b), .slice B m e] 81) (.cells #[.bool false, .slice none 0 0] 81) (.cells #[.bool false, .slice none 0 0] 81)
  have HDV : Hid (Calls Tryz.prog 90 #[.slice A n c, .slice B m e] ((((w.alloc (.cells #[.bool b, .slice A n c] 81)).alloc (.cells #[.bool (!b), .slice B m e] 81)).alloc (.cells #[.bool false, .slice none 0 0] 81)).alloc (.cells #[.bool false, .slice none 0 0] 81)) fun E w' => ∃ A' n' c' B' m' c2, E = .returned (.tuple #[.slice A' n' c', .slice B' m' c2]) ∧ Mag w' (.slice A' n' c') (lval xs / lval ys) K ∧ Mag w' (.slice B' m' c2) (lval xs % lval ys) K ∧ Below ((((w.alloc (.cells #[.bool b, .slice A n c] 81)).alloc (.cells #[.bool (!b), .slice B m e] 81)).alloc (.cells #[.bool false, .slice none 0 0] 81)).alloc (.cells #[.bool false, .slice none 0 0] 81)).heap.size ((((w.alloc (.cells #[.bool b, .slice A n c] 81)).alloc (.cells #[.bool (!b), .slice B m e] 81)).alloc (.cells #[.bool false, .slice none 0 0] 81)).alloc (.cells #[.bool false, .slice none 0 0] 81)) w') := Lib.hid (HD.out A B n m c e _ ((HX.out.below xB).mono (by rw [xz]; omega)) ((HY.out.below xB).mono (by rw [xz]; omega)) hc he)
  have X0 := Lib.hid x0
  have X1 := Lib.hid x1
  have X2 := Lib.hid x2
  have X3 := Lib.hid x3
  have XZ := Lib.hid xz
  have XB := Lib.hid xB
  clear x0 x1 x2 x3 xz xB
  have HKG : Hid (∀ (g : Nat) (v1 : World) (u v : Value), g ≠ w.heap.size → g ≠ w.heap.size + 1 → (v1.cell? ⟨w.heap.size, 0, none⟩ = some (.bool b) ∧ v1.cell? ⟨w.heap.size, 1, none⟩ = some (.slice A n c) ∧ v1.cell? ⟨w.heap.size + 1, 0, none⟩ = some (.bool (!b)) ∧ v1.cell? ⟨w.heap.size + 1, 1, none⟩ = some (.slice B m e)) → ((v1.setCell ⟨g, 0, none⟩ u).setCell ⟨g, 1, none⟩ v).cell? ⟨w.heap.size, 0, none⟩ = some (.bool b) ∧ ((v1.setCell ⟨g, 0, none⟩ u).setCell ⟨g, 1, none⟩ v).cell? ⟨w.heap.size, 1, none⟩ = some (.slice A n c) ∧ ((v1.setCell ⟨g, 0, none⟩ u).setCell ⟨g, 1, none⟩ v).cell? ⟨w.heap.size + 1, 0, none⟩ = some (.bool (!b)) ∧ ((v1.setCell ⟨g, 0, none⟩ u).setCell ⟨g, 1, none⟩ v).cell? ⟨w.heap.size + 1, 1, none⟩ = some (.slice B m e)) := Lib.hid fun g v1 u v hg0 hg1 ⟨a1, a2, a3, a4⟩ =>
    have h (q : Addr) (hq : g ≠ q.block) : ((v1.setCell ⟨g, 0, none⟩ u).setCell ⟨g, 1, none⟩ v).cell? q = v1.cell? q := (cell_far _ hq).trans (cell_far _ hq)
    ⟨(h _ hg0).trans a1, (h _ hg0).trans a2, (h _ hg1).trans a3, (h _ hg1).trans a4⟩
  go_enter Tryz.func95, Tryz.ntmps95
  go_wp2_with (go_at_call 90; refine HDV.out.mono ?_; rintro E w1 ⟨A1, n1, c1, A2, n2, c2, rfl, hM1, hM2, hB⟩; have y0 := (hB.block w.heap.size (by rw [XZ.out]; omega)).trans X0.out; have y1 := (hB.block (w.heap.size + 1) (by rw [XZ.out]; omega)).trans X1.out; have y2 := (hB.block (w.heap.size + 1 + 1) (by rw [XZ.out]; omega)).trans X2.out; have y3 := (hB.block (w.heap.size + 1 + 1 + 1) (by rw [XZ.out]; omega)).trans X3.out; have kx0 := cellA y0 0 _ rfl; have kx1 := cellA y0 1 _ rfl; have ky0 := cellA y1 0 _ rfl; have ky1 := cellA y1 1 _ rfl; have z0 := cellA y2 0 _ rfl; have z1 := cellA y2 1 _ rfl; have z2 := frozen_at y2 0; have z3 := frozen_at y2 1; have r0 := cellA y3 0 _ rfl; have r1 := cellA y3 1 _ rfl; have r2 := frozen_at y3 0; have r3 := frozen_at y3 1; have Y1 := Lib.hid y1; have Y2 := Lib.hid y2; have Y3 := Lib.hid y3; obtain rfl : n2 = 0 := (mag_zero hM2).1 hz; have HM1 := Lib.hid hM1; have HM2 := Lib.hid hM2; have hbw := XB.out.trans (hB.mono (by rw [XZ.out]; omega)); have hzw := hB.size; rw [XZ.out] at hzw; have HBW := Lib.hid hbw; clear y0 y1 y2 y3 hM1 hM2 hB hbw HDV)
  have kd : w1.drew.cell? ⟨w.heap.size, 0, none⟩ = some (.bool b) ∧ w1.drew.cell? ⟨w.heap.size, 1, none⟩ = some (.slice A n c) ∧ w1.drew.cell? ⟨w.heap.size + 1, 0, none⟩ = some (.bool (!b)) ∧ w1.drew.cell? ⟨w.heap.size + 1, 1, none⟩ = some (.slice B m e) := ⟨kx0, kx1, ky0, ky1⟩
  clear kx0 kx1 ky0 ky1 X0 X1 X2 X3 XZ XB HX HY HD
  go_region_held3 (fun w' => w'.cell? ⟨w.heap.size, 0, none⟩ = some (.bool b) ∧ w'.cell? ⟨w.heap.size, 1, none⟩ = some (.slice A n c) ∧ w'.cell? ⟨w.heap.size + 1, 0, none⟩ = some (.bool (!b)) ∧ w'.cell? ⟨w.heap.size + 1, 1, none⟩ = some (.slice B m e)) (first | assumption | exact HKG.out _ _ _ _ (by omega) (by omega) (by assumption)) (fail)
  go_wp2
  have s1 := (blk_far2 (w := w1) (g := w.heap.size + 1 + 1) (k := w.heap.size + 1 + 1 + 1) (by omega) (.bool true) (.slice A1 n1 c1)).trans Y3.out
  have s2 := (blk_far2 (w := (w1.setCell ⟨w.heap.size + 1 + 1, 0, none⟩ (.bool true)).setCell ⟨w.heap.size + 1 + 1, 1, none⟩ (.slice A1 n1 c1)) (g := w.heap.size + 1 + 1 + 1) (k := w.heap.size + 1 + 1) (by omega) (.bool (!b)) (.slice A2 0 c2)).trans (blk_put2 Y2.out true A1 n1 c1)
  have s3 := blk_put2 s1 (!b) A2 0 c2
  refine bodyPost_ret (results_c2 rfl _ _ (w.heap.size + 1 + 1) (w.heap.size + 1 + 1 + 1) 81 _ _ (0, 0) (0, 0) _ rfl s2 rfl s3 Tryz.underlying81 rfl (by kernel_rfl) (by kernel_rfl)) rfl ?_
  exact ⟨_, _, _, _, _, _, rfl, mag_drew (mag_set2 (mag_set2 HM1.out Y2.out _ _ _ _) s1 _ _ _ _), mag_drew (mag_set2 (mag_set2 HM2.out Y2.out _ _ _ _) s1 _ _ _ _), (below_set2 (below_set2 HBW.out (by omega) _ _) (by omega) _ _).drew⟩
end Go.Proofs.YtignanmmgaldeaaGreatDoor
namespace Go.Proofs.YtignanmmgaldeaaGreatDoor
open Go.RowKit Go.Shelf Go.Proofs.YtignanmmgaldeaaGreatDoorW.PrintWords
set_option maxRecDepth 100000 in
set_option maxHeartbeats 4000000 in
theorem quot_rest (A B : Option Addr) (n m c e : Nat) (xs ys : List Int) (b : Bool) (K : Nat) (w : World) (hx : RI w.heap.size w A n xs) (hy : RI w.heap.size w B m ys) (hc : n ≤ c) (he : m ≤ e) (hD : DivH xs ys K) (hz : lval xs % lval ys ≠ 0) (hyl : limbs ys) (hyt : topped ys) (hK : K ≤ 999999) (hmK : m ≤ K) (hK1 : 1 ≤ K) (hY0 : 0 < lval ys) :
    Calls Tryz.prog 95 #[.agg #[.bool b, .slice A n c], .agg #[.bool (!b), .slice B m e]] w fun e w' => ∃ A1 n1 c1 A2 n2 c2, e = .returned (.tuple #[.agg #[.bool true, .slice A1 n1 c1], .agg #[.bool (!b), .slice A2 n2 c2]]) ∧ Mag w' (.slice A1 n1 c1) (lval xs / lval ys + 1) (K + 1) ∧ Mag w' (.slice A2 n2 c2) (lval ys - lval xs % lval ys) (K + 1) ∧ Below w.heap.size w w' := by
  have HX := Lib.hid hx
  have HY := Lib.hid hy
  have HD := Lib.hid hD
  clear hx hy hD
  obtain ⟨x0, x1, x2, x3, xz, xB⟩ := alloc4 w (.cells #[.bool b, .slice A n c] 81) (.cells #[.bool (!b), .slice B m e] 81) (.cells #[.bool false, .slice none 0 0] 81) (.cells #[.bool false, .slice none 0 0] 81)
  have HDV : Hid (Calls Tryz.prog 90 #[.slice A n c, .slice B m e] ((((w.alloc (.cells #[.bool b, .slice A n c] 81)).alloc (.cells #[.bool (!b), .slice B m e] 81)).alloc (.cells #[.bool false, .slice none 0 0] 81)).alloc (.cells #[.bool false, .slice none 0 0] 81)) fun E w' => ∃ A' n' c' B' m' c2, E = .returned (.tuple #[.slice A' n' c', .slice B' m' c2]) ∧ Mag w' (.slice A' n' c') (lval xs / lval ys) K ∧ Mag w' (.slice B' m' c2) (lval xs % lval ys) K ∧ Below ((((w.alloc (.cells #[.bool b, .slice A n c] 81)).alloc (.cells #[.bool (!b), .slice B m e] 81)).alloc (.cells #[.bool false, .slice none 0 0] 81)).alloc (.cells #[.bool false, .slice none 0 0] 81)).heap.size ((((w.alloc (.cells #[.bool b, .slice A n c] 81)).alloc (.cells #[.bool (!b), .slice B m e] 81)).alloc (.cells #[.bool false, .slice none 0 0] 81)).alloc (.cells #[.bool false, .slice none 0 0] 81)) w') := Lib.hid (HD.out A B n m c e _ ((HX.out.below xB).mono (by rw [xz]; omega)) ((HY.out.below xB).mono (by rw [xz]; omega)) hc he)
  have X0 := Lib.hid x0
  have X1 := Lib.hid x1
  have X2 := Lib.hid x2
  have X3 := Lib.hid x3
  have XZ := Lib.hid xz
  have XB := Lib.hid xB
  clear x0 x1 x2 x3 xz xB
  have HKG : Hid (∀ (g : Nat) (v1 : World) (u v : Value), g ≠ w.heap.size → g ≠ w.heap.size + 1 → (v1.cell? ⟨w.heap.size, 0, none⟩ = some (.bool b) ∧ v1.cell? ⟨w.heap.size, 1, none⟩ = some (.slice A n c) ∧ v1.cell? ⟨w.heap.size + 1, 0, none⟩ = some (.bool (!b)) ∧ v1.cell? ⟨w.heap.size + 1, 1, none⟩ = some (.slice B m e)) → ((v1.setCell ⟨g, 0, none⟩ u).setCell ⟨g, 1, none⟩ v).cell? ⟨w.heap.size, 0, none⟩ = some (.bool b) ∧ ((v1.setCell ⟨g, 0, none⟩ u).setCell ⟨g, 1, none⟩ v).cell? ⟨w.heap.size, 1, none⟩ = some (.slice A n c) ∧ ((v1.setCell ⟨g, 0, none⟩ u).setCell ⟨g, 1, none⟩ v).cell? ⟨w.heap.size + 1, 0, none⟩ = some (.bool (!b)) ∧ ((v1.setCell ⟨g, 0, none⟩ u).setCell ⟨g, 1, none⟩ v).cell? ⟨w.heap.size + 1, 1, none⟩ = some (.slice B m e)) := Lib.hid fun g v1 u v hg0 hg1 ⟨a1, a2, a3, a4⟩ =>
    have h (q : Addr) (hq : g ≠ q.block) : ((v1.setCell ⟨g, 0, none⟩ u).setCell ⟨g, 1, none⟩ v).cell? q = v1.cell? q := (cell_far _ hq).trans (cell_far _ hq)
    ⟨(h _ hg0).trans a1, (h _ hg0).trans a2, (h _ hg1).trans a3, (h _ hg1).trans a4⟩
  go_enter Tryz.func95, Tryz.ntmps95
  go_wp2_with fail
  refine HDV.out.mono ?_
  rintro E w1 ⟨A1, n1, c1, A2, n2, c2, rfl, hM1, hM2, hB⟩
  have y0 := (hB.block w.heap.size (by rw [XZ.out]; omega)).trans X0.out
  have y1 := (hB.block (w.heap.size + 1) (by rw [XZ.out]; omega)).trans X1.out
  have y2 := (hB.block (w.heap.size + 1 + 1) (by rw [XZ.out]; omega)).trans X2.out
  have y3 := (hB.block (w.heap.size + 1 + 1 + 1) (by rw [XZ.out]; omega)).trans X3.out
  have kx0 := cellA y0 0 _ rfl
  have kx1 := cellA y0 1 _ rfl
  have ky0 := cellA y1 0 _ rfl
  have ky1 := cellA y1 1 _ rfl
  have z0 := cellA y2 0 _ rfl
  have z1 := cellA y2 1 _ rfl
  have z2 := frozen_at y2 0
  have z3 := frozen_at y2 1
  have r0 := cellA y3 0 _ rfl
  have r1 := cellA y3 1 _ rfl
  have r2 := frozen_at y3 0
  have r3 := frozen_at y3 1
  have Y1 := Lib.hid y1
  have Y2 := Lib.hid y2
  have Y3 := Lib.hid y3
  have hn2 : n2 ≠ 0 := fun e0 => hz ((mag_zero hM2).2 e0)
  have hn4 : (0 : Int) < (n2 : Int) := by omega
  have hn3 : decide ((0 : Int) < (n2 : Int)) = true := decide_eq_true hn4
  have HM1 := Lib.hid hM1
  have HM2 := Lib.hid hM2
  have hbw := XB.out.trans (hB.mono (by rw [XZ.out]; omega))
  have hzw := hB.size
  rw [XZ.out] at hzw
  have HBW := Lib.hid hbw
  clear y0 y1 y2 y3 hM1 hM2 hB hbw HDV
  go_wp2
  have kd0 : w1.cell? ⟨w.heap.size, 0, none⟩ = some (.bool b) ∧ w1.cell? ⟨w.heap.size, 1, none⟩ = some (.slice A n c) ∧ w1.cell? ⟨w.heap.size + 1, 0, none⟩ = some (.bool (!b)) ∧ w1.cell? ⟨w.heap.size + 1, 1, none⟩ = some (.slice B m e) := ⟨kx0, kx1, ky0, ky1⟩
  have kd : w1.drew.cell? ⟨w.heap.size, 0, none⟩ = some (.bool b) ∧ w1.drew.cell? ⟨w.heap.size, 1, none⟩ = some (.slice A n c) ∧ w1.drew.cell? ⟨w.heap.size + 1, 0, none⟩ = some (.bool (!b)) ∧ w1.drew.cell? ⟨w.heap.size + 1, 1, none⟩ = some (.slice B m e) := kd0
  have HKL : Hid (∀ o : Obj, (w1.alloc o).cell? ⟨w.heap.size, 0, none⟩ = some (.bool b) ∧ (w1.alloc o).cell? ⟨w.heap.size, 1, none⟩ = some (.slice A n c) ∧ (w1.alloc o).cell? ⟨w.heap.size + 1, 0, none⟩ = some (.bool (!b)) ∧ (w1.alloc o).cell? ⟨w.heap.size + 1, 1, none⟩ = some (.slice B m e)) := Lib.hid fun o => by
    have hB := (Below.refl w1.heap.size w1).alloc (Nat.le_refl _) o
    exact ⟨(hB.cell (p := ⟨w.heap.size, 0, none⟩) (by show w.heap.size < _; omega)).trans kx0, (hB.cell (p := ⟨w.heap.size, 1, none⟩) (by show w.heap.size < _; omega)).trans kx1, (hB.cell (p := ⟨w.heap.size + 1, 0, none⟩) (by show w.heap.size + 1 < _; omega)).trans ky0, (hB.cell (p := ⟨w.heap.size + 1, 1, none⟩) (by show w.heap.size + 1 < _; omega)).trans ky1⟩
  have HKB : Hid (∀ v1 v2 : World, w.heap.size + 1 < v1.heap.size → Below v1.heap.size v1 v2 → (v1.cell? ⟨w.heap.size, 0, none⟩ = some (.bool b) ∧ v1.cell? ⟨w.heap.size, 1, none⟩ = some (.slice A n c) ∧ v1.cell? ⟨w.heap.size + 1, 0, none⟩ = some (.bool (!b)) ∧ v1.cell? ⟨w.heap.size + 1, 1, none⟩ = some (.slice B m e)) → v2.cell? ⟨w.heap.size, 0, none⟩ = some (.bool b) ∧ v2.cell? ⟨w.heap.size, 1, none⟩ = some (.slice A n c) ∧ v2.cell? ⟨w.heap.size + 1, 0, none⟩ = some (.bool (!b)) ∧ v2.cell? ⟨w.heap.size + 1, 1, none⟩ = some (.slice B m e)) := Lib.hid fun v1 v2 hl hB ⟨a1, a2, a3, a4⟩ =>
    ⟨(hB.cell (p := ⟨w.heap.size, 0, none⟩) (by show w.heap.size < _; omega)).trans a1, (hB.cell (p := ⟨w.heap.size, 1, none⟩) (by show w.heap.size < _; omega)).trans a2, (hB.cell (p := ⟨w.heap.size + 1, 0, none⟩) hl).trans a3, (hB.cell (p := ⟨w.heap.size + 1, 1, none⟩) hl).trans a4⟩
  have hmy : Mag w (.slice B m e) (lval ys) K := ⟨B, m, e, ys, rfl, HY.out, hyl, hyt, he, trivial, hmK, rfl⟩
  have hal : Below w1.heap.size w1 (w1.alloc (.cells #[.int .i64 1] 3)).drew := ((Below.refl _ w1).alloc (Nat.le_refl _) _).drew
  have HAL := Lib.hid hal
  have HZ1 := Lib.hid (show (w1.alloc (.cells #[.int .i64 1] 3)).drew.heap.size = w1.heap.size + 1 from World.size_alloc _ _)
  have HP := Lib.hid (plus_mag (.slice A1 n1 c1) (.slice (some ⟨w1.heap.size, 0, none⟩) 1 1) (lval xs / lval ys) 1 K (w1.alloc (.cells #[.int .i64 1] 3)).drew (HM1.out.below hal) (mag_drew (mag_one w1 K hK1)) (by omega))
  have hrY := Int.emod_lt_of_pos (lval xs) hY0
  have HMI : Hid (∀ v : World, Below w1.heap.size w1 v → Calls Tryz.prog 175 #[.slice B m e, .slice A2 n2 c2] v fun E w' => ∃ A n c, E = .returned (.slice A n c) ∧ Mag w' (.slice A n c) (lval ys - lval xs % lval ys) K ∧ Below v.heap.size v w') := Lib.hid fun v hv => minus_mag _ _ _ _ K v ((hmy.below HBW.out).below hv) (HM2.out.below hv) (by omega) (by omega)
  clear kx0 kx1 ky0 ky1 X0 X1 X2 X3 XZ XB HX HY HD hmy hal hyl hyt hz hrY
  go_region_held3 (fun w' => w'.cell? ⟨w.heap.size, 0, none⟩ = some (.bool b) ∧ w'.cell? ⟨w.heap.size, 1, none⟩ = some (.slice A n c) ∧ w'.cell? ⟨w.heap.size + 1, 0, none⟩ = some (.bool (!b)) ∧ w'.cell? ⟨w.heap.size + 1, 1, none⟩ = some (.slice B m e)) (first | assumption | exact HKL.out _) (first
    | (go_at_call 174; refine HP.out.mono ?_; rintro E w2 ⟨A3, n3, c3, rfl, hM3, hB2⟩; have k2 := HKB.out _ _ (by rw [HZ1.out]; omega) hB2 (HKL.out _); have hb2 := HAL.out.trans (hB2.mono (by rw [HZ1.out]; omega)); have hz2 := hb2.size; have HM3 := Lib.hid hM3; have HB2 := Lib.hid hb2; clear hM3 hb2 hB2 HP)
    | (go_at_call 175; refine (HMI.out w2 HB2.out).mono ?_; rintro E w3 ⟨A4, n4, c4, rfl, hM4, hB3⟩; have k3 := HKB.out _ _ (by omega) hB3 k2; have hb3 := HB2.out.trans (hB3.mono hz2); have hz3 := hb3.size; have HM4 := Lib.hid hM4; have HM5 := Lib.hid (HM3.out.below hB3); have HB3 := Lib.hid hb3; clear hM4 hb3 hB3 HMI))
  have y2 := (HB3.out.block (w.heap.size + 1 + 1) (by omega)).trans Y2.out
  have y3 := (HB3.out.block (w.heap.size + 1 + 1 + 1) (by omega)).trans Y3.out
  have z0 := cellA y2 0 _ rfl
  have z1 := cellA y2 1 _ rfl
  have z2 := frozen_at y2 0
  have z3 := frozen_at y2 1
  have r0 := cellA y3 0 _ rfl
  have r1 := cellA y3 1 _ rfl
  have r2 := frozen_at y3 0
  have r3 := frozen_at y3 1
  have Z2 := Lib.hid y2
  have Z3 := Lib.hid y3
  have HBZ := Lib.hid (HBW.out.trans (HB3.out.mono (by omega)))
  have k3' := k3
  obtain ⟨kx0, kx1, ky0, ky1⟩ := k3'
  have hz9 : w.heap.size + 4 ≤ w3.heap.size := by omega
  clear y2 y3 k2 HKL HKB HAL HZ1 HM1 HM2 HM3 HB2 HB3 HBW Y1 Y2 Y3
  go_wp2
  have kd : w3.drew.cell? ⟨w.heap.size, 0, none⟩ = some (.bool b) ∧ w3.drew.cell? ⟨w.heap.size, 1, none⟩ = some (.slice A n c) ∧ w3.drew.cell? ⟨w.heap.size + 1, 0, none⟩ = some (.bool (!b)) ∧ w3.drew.cell? ⟨w.heap.size + 1, 1, none⟩ = some (.slice B m e) := k3
  clear k3 kx0 kx1 ky0 ky1
  go_region_held3 (fun w' => w'.cell? ⟨w.heap.size, 0, none⟩ = some (.bool b) ∧ w'.cell? ⟨w.heap.size, 1, none⟩ = some (.slice A n c) ∧ w'.cell? ⟨w.heap.size + 1, 0, none⟩ = some (.bool (!b)) ∧ w'.cell? ⟨w.heap.size + 1, 1, none⟩ = some (.slice B m e)) (first | assumption | exact HKG.out _ _ _ _ (by omega) (by omega) (by assumption)) (fail)
  go_wp2
  have s1 := (blk_far2 (w := w3) (g := w.heap.size + 1 + 1) (k := w.heap.size + 1 + 1 + 1) (by omega) (.bool true) (.slice A3 n3 c3)).trans Z3.out
  have s2 := (blk_far2 (w := (w3.setCell ⟨w.heap.size + 1 + 1, 0, none⟩ (.bool true)).setCell ⟨w.heap.size + 1 + 1, 1, none⟩ (.slice A3 n3 c3)) (g := w.heap.size + 1 + 1 + 1) (k := w.heap.size + 1 + 1) (by omega) (.bool (!b)) (.slice A4 n4 c4)).trans (blk_put2 Z2.out true A3 n3 c3)
  have s3 := blk_put2 s1 (!b) A4 n4 c4
  refine bodyPost_ret (results_c2 rfl _ _ (w.heap.size + 1 + 1) (w.heap.size + 1 + 1 + 1) 81 _ _ (0, 0) (0, 0) _ rfl s2 rfl s3 Tryz.underlying81 rfl (by kernel_rfl) (by kernel_rfl)) rfl ?_
  exact ⟨_, _, _, _, _, _, rfl, mag_drew (mag_set2 (mag_set2 HM5.out Z2.out _ _ _ _) s1 _ _ _ _), mag_drew (mag_set2 (mag_set2 (HM4.out.more (Nat.le_succ K)) Z2.out _ _ _ _) s1 _ _ _ _), (below_set2 (below_set2 HBZ.out (by omega) _ _) (by omega) _ _).drew⟩
/-- The quotient of two numbers, rounded down, and the remainder. -/
theorem quotient_num (A B : Option Addr) (n m c e : Nat) (xs ys : List Int) (b b2 : Bool) (K : Nat) (w : World) (hx : RI w.heap.size w A n xs) (hy : RI w.heap.size w B m ys) (hc : n ≤ c) (he : m ≤ e) (hD : DivH xs ys K) (hxl : limbs xs) (hyl : limbs ys) (hyt : topped ys) (hK : K ≤ 999999) (hmK : m ≤ K) (hK1 : 1 ≤ K) (hY0 : 0 < lval ys) :
    Calls Tryz.prog 95 #[.agg #[.bool b, .slice A n c], .agg #[.bool b2, .slice B m e]] w fun E w' => ∃ d1 A1 n1 c1 d2 A2 n2 c2, E = .returned (.tuple #[.agg #[.bool d1, .slice A1 n1 c1], .agg #[.bool d2, .slice A2 n2 c2]]) ∧ NumV w' (.agg #[.bool d1, .slice A1 n1 c1]) (Int.fdiv (if b = true then -lval xs else lval xs) (if b2 = true then -lval ys else lval ys)) (K + 1) ∧ NumV w' (.agg #[.bool d2, .slice A2 n2 c2]) (Int.fmod (if b = true then -lval xs else lval xs) (if b2 = true then -lval ys else lval ys)) (K + 1) ∧ Below w.heap.size w w' := by
  have hX0 := lval_nonneg hxl
  by_cases hb : b2 = b
  · subst hb
    obtain ⟨q1, q2⟩ := fdiv_same b2 (lval xs) (lval ys) hX0 hY0
    rw [q1, q2]
    refine (quot_same A B n m c e xs ys b2 K w hx hy hc he hD).mono ?_
    rintro E w' ⟨A1, n1, c1, A2, n2, c2, rfl, h1, h2, hB⟩
    exact ⟨_, _, _, _, _, _, _, _, rfl, ⟨_, _, _, rfl, h1.more (Nat.le_succ K), rfl⟩, ⟨_, _, _, rfl, h2.more (Nat.le_succ K), rfl⟩, hB⟩
  · obtain rfl : b2 = !b := by cases b <;> cases b2 <;> simp_all
    obtain ⟨q1, q2⟩ := fdiv_other b (lval xs) (lval ys) hX0 hY0
    rw [q1, q2]
    by_cases hz : lval xs % lval ys = 0
    · rw [if_pos hz, if_pos hz]
      refine (quot_zero A B n m c e xs ys b K w hx hy hc he hD hz).mono ?_
      rintro E w' ⟨A1, n1, c1, A2, n2, c2, rfl, h1, h2, hB⟩
      rw [hz] at h2
      exact ⟨_, _, _, _, _, _, _, _, rfl, ⟨_, _, _, rfl, h1.more (Nat.le_succ K), rfl⟩, ⟨_, _, _, rfl, h2.more (Nat.le_succ K), rfl⟩, hB⟩
    · rw [if_neg hz, if_neg hz]
      refine (quot_rest A B n m c e xs ys b K w hx hy hc he hD hz hyl hyt hK hmK hK1 hY0).mono ?_
      rintro E w' ⟨A1, n1, c1, A2, n2, c2, rfl, h1, h2, hB⟩
      exact ⟨_, _, _, _, _, _, _, _, rfl, ⟨_, _, _, rfl, h1, rfl⟩, ⟨_, _, _, rfl, h2, rfl⟩, hB⟩
end Go.Proofs.YtignanmmgaldeaaGreatDoor
