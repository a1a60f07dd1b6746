/- strings.Builder: copyCheck, WriteByte, WriteString, as this program bears them. · bigint.text: the canonical integer of a number. · bigint.size and bigint.written. -/
import Derived.Test.YtignanmmgaldeaaGreatDoorLBase
import Derived.Shelf.Strings.BuilderK
import Derived.Shelf.Strings.Repeat
import Derived.Test.YtignanmmgaldeaaGreatDoorLLays2
import Derived.Test.YtignanmmgaldeaaGreatDoorLBigGiven
import Derived.Lib.AppendIntMem
set_option linter.unusedVariables false
set_option linter.unusedSimpArgs false
namespace Go.Proofs.YtignanmmgaldeaaGreatDoor
open Go.RowKit Go.Shelf Go.Proofs.YtignanmmgaldeaaGreatDoorW.PrintWords
theorem size_builder : (Tryz.prog.info? 131).map (·.size) = some 2 := by kernel_rfl
theorem lies_builder : liesAt Tryz.prog Tryz.prog.depth 131 (2 / Tryz.prog.cellsOf 131) 0 131 1 = true := by kernel_rfl
theorem info_byte : (Tryz.prog.info? 5).map (fun i => (i.zero, i.size, i.bytes)) = some (some (.int .u8 0), 1, 1) := by kernel_rfl
set_option maxHeartbeats 1000000 in
set_option maxRecDepth 100000 in
theorem copyCheck_used (b : Nat) (w : World) (h0 : w.cell? ⟨b, 0, none⟩ = some (.pointer (some ⟨b, 0, none⟩))) :
    Calls Tryz.prog 196 #[.pointer (some ⟨b, 0, none⟩)] w fun e w' => e = .returned (.tuple #[]) ∧ w' = w := by
  obtain ⟨j, hj, _⟩ := Option.map_eq_some_iff.1 size_builder
  go_enter Tryz.func196, Tryz.ntmps196
  go_wp2
  rw [Lib.run_neq_ptr_same w _ Tryz.underlying128 hj]
  go_wp2
  go_end0
  exact ⟨rfl, rfl⟩
set_option maxHeartbeats 1000000 in
set_option maxRecDepth 100000 in
theorem copyCheck_fresh (b : Nat) (w : World) (h0 : w.cell? ⟨b, 0, none⟩ = some (.pointer none)) (hsh : w.shape? b = some (131, 2)) (hfz : w.frozen? ⟨b, 0, none⟩ = false) :
    Calls Tryz.prog 196 #[.pointer (some ⟨b, 0, none⟩)] w fun e w' => e = .returned (.tuple #[]) ∧ w' = w.setCell ⟨b, 0, none⟩ (.pointer (some ⟨b, 0, none⟩)) := by
  obtain ⟨j, hj, hjs⟩ := Option.map_eq_some_iff.1 size_builder
  go_enter Tryz.func196, Tryz.ntmps196
  go_wp2
  rw [Lib.run_to_unsafe w ⟨b, 0, none⟩ Tryz.underlying128 Tryz.underlying171 hj (by rw [hjs]; decide) hsh (Nat.zero_lt_succ 1)]
  simp only [Result.andThen]
  rw [Oper.upon_value]
  go_wp2
  rw [run_callFunc_extern Tryz.func216 (by kernel_rfl) (by kernel_rfl) (by kernel_rfl) (e := Extern.AbiNoEscape.same) (by kernel_rfl)]
  rw [Lib.run_noEscape]
  simp only [Result.andThen]
  rw [Oper.upon_value]
  go_wp2
  rw [Lib.run_from_unsafe w ⟨b, 0, none⟩ Tryz.underlying171 Tryz.underlying128 hj hsh lies_builder]
  simp only [Result.andThen]
  rw [Oper.upon_value]
  go_wp2
  go_end0
  exact ⟨rfl, rfl⟩
theorem heap_lt {w : World} {b : Nat} {o : Obj} (h : w.heap[b]? = some o) : b < w.heap.size := (Array.getElem?_eq_some_iff.1 h).1
/-- A builder at block b, its bytes in a row that lies from R on. -/
def Buf (R b : Nat) (bs : List Value) (W : World) : Prop :=
  ∃ p v, W.heap[b]? = some (.cells #[p, v] 131 (0, 0)) ∧ (p = .pointer none ∨ p = .pointer (some ⟨b, 0, none⟩)) ∧ W.ownsRow R 5 1 v bs.length bs ∧ v.ownBlock ≠ some b
/-- What a writing leaves: all but block b and the rows of cells from R on. -/
structure Touch (R b : Nat) (W W' : World) : Prop where
  os : W'.os = W.os
  tape : W'.tape = W.tape
  output : W'.output = W.output
  size : W.heap.size ≤ W'.heap.size
  same : ∀ (k : Nat) (o : Obj), W.heap[k]? = some o → k ≠ b → (k < R ∨ ∀ cs, o ≠ .cells cs 5 (0, 0)) → W'.heap[k]? = some o
theorem Touch.refl (R b : Nat) (W : World) : Touch R b W W := ⟨rfl, rfl, rfl, Nat.le_refl _, fun _ _ h _ _ => h⟩
theorem Touch.trans {R b : Nat} {X Y Z : World} (h : Touch R b X Y) (k : Touch R b Y Z) : Touch R b X Z :=
  ⟨k.os.trans h.os, k.tape.trans h.tape, k.output.trans h.output, Nat.le_trans h.size k.size, fun i o hi hb hc => k.same i o (h.same i o hi hb hc) hb hc⟩
theorem Touch.of_below {R b : Nat} {X Y : World} (h : Below X.heap.size X Y) : Touch R b X Y := ⟨h.os, h.tape, h.output, h.size, fun k o hk _ _ => (h.block k (heap_lt hk)).trans hk⟩
theorem Touch.setCell {R b : Nat} (X : World) (o : Nat) (v : Value) : Touch R b X (X.setCell ⟨b, o, none⟩ v) :=
  ⟨rfl, rfl, rfl, by simp [World.setCell], fun k ob hk hb _ => (Below.heap_setCell X ⟨b, o, none⟩ v k hb).trans hk⟩
theorem Touch.alloc {R b : Nat} (X : World) (o : Obj) : Touch R b X (X.alloc o) := ⟨rfl, rfl, rfl, by simp, fun k ob hk _ _ => (Below.heap_alloc X o k (heap_lt hk)).trans hk⟩
theorem Touch.grown {R b : Nat} {X Y : World} {row : Option Nat} (hg : X.grownBy Y row) (hrow : ∀ k, row = some k → R ≤ k ∧ ∃ cs, X.heap[k]? = some (.cells cs 5 (0, 0))) : Touch R b X Y :=
  ⟨hg.os, hg.tape, hg.output, hg.size, fun k o hk _ hc => (hg.block k (heap_lt hk) (fun e => by
    obtain ⟨h1, cs, h2⟩ := hrow k e.symm
    rcases hc with h | h
    · omega
    · rw [hk] at h2; cases h2; exact h _ rfl)).trans hk⟩
theorem Touch.below {R b B : Nat} {X Y : World} (h : Touch R b X Y) (hb : B ≤ b) (hR : B ≤ R) (hX : B ≤ X.heap.size) : Below B X Y :=
  ⟨h.os, h.tape, h.output, h.size, fun k hk => by
    obtain ⟨o, ho⟩ : ∃ o, X.heap[k]? = some o := ⟨_, Array.getElem?_eq_getElem (by omega)⟩
    rw [ho]; exact h.same k o ho (by omega) (Or.inl (by omega))⟩
theorem Touch.others {R b : Nat} {X Y : World} (h : Touch R b X Y) {cs : Array Value} {t : TypeId} {fr : Nat × Nat} (hb : X.heap[b]? = some (.cells cs t fr)) : KeepsOthers X Y :=
  ⟨h.size, fun k o hk hc => h.same k o hk (fun e => by subst e; rw [hb] at hk; cases hk; simp [Obj.isCells] at hc) (Or.inr fun cs e => by subst e; simp [Obj.isCells] at hc)⟩
theorem Touch.keep {R b B : Nat} {X Y : World} (h : Touch R b X Y) (hb : B ≠ b) {cs : Array Value} {t : TypeId} {fr : Nat × Nat} (hc : X.heap[B]? = some (.cells cs t fr)) (ht : t ≠ 5) : Y.heap[B]? = some (.cells cs t fr) := h.same B _ hc hb (Or.inr fun cs' e => by cases e; exact ht rfl)
theorem Touch.keepB {R b B : Nat} {X Y : World} (h : Touch R b X Y) (hb : B ≠ b) {cs : Array Value} {t : TypeId} {fr : Nat × Nat} (hc : X.heap[B]? = some (.cells cs t fr)) (ht : t ≠ 5) : KeepB B X Y := ⟨fun o ho => by rw [hc] at ho; cases ho; exact h.keep hb hc ht⟩
theorem cells_grown {X Y : World} {row : Option Nat} {B : Nat} {cs : Array Value} {t : TypeId} {fr : Nat × Nat} (hc : X.heap[B]? = some (.cells cs t fr)) (hg : X.grownBy Y row) (hr : ∀ r, row = some r → ∃ o : Obj, X.heap[r]? = some o ∧ o.isCells = false) : Y.heap[B]? = some (.cells cs t fr) :=
  (hg.block B (heap_lt hc) (fun e => by
    obtain ⟨o, ho, hf⟩ := hr B e.symm
    rw [hc] at ho; cases ho; simp [Obj.isCells] at hf)).trans hc
theorem Buf.lt {R b : Nat} {bs : List Value} {W : World} (h : Buf R b bs W) : b < W.heap.size := by
  obtain ⟨p, v, h1, _⟩ := h; exact heap_lt h1
theorem Buf.others {R b : Nat} {bs : List Value} {X Y : World} (h : Buf R b bs X) (k : Touch R b X Y) : KeepsOthers X Y := by
  obtain ⟨p, v, h1, _⟩ := h; exact k.others h1
theorem own_row {R : Nat} {v : Value} {n : Nat} {xs : List Value} {W : World} (h : W.ownsRow R 5 1 v n xs) (k : Nat) (hk : v.ownBlock = some k) : R ≤ k ∧ ∃ cs, W.heap[k]? = some (.cells cs 5 (0, 0)) := by
  obtain ⟨cells, hc⟩ := own_typed h k hk
  exact ⟨own_base h k hk, _, hc⟩
theorem Buf.below {R b : Nat} {bs : List Value} {X Y : World} (h : Buf R b bs X) (k : Below X.heap.size X Y) : Buf R b bs Y := by
  obtain ⟨p, v, h1, h2, h3, h4⟩ := h
  refine ⟨p, v, (k.block b (heap_lt h1)).trans h1, h2, own_move h3 (fun j hj => ?_), h4⟩
  obtain ⟨_, cs, hc⟩ := own_row h3 j hj
  exact k.block j (heap_lt hc)
theorem Buf.grown {R b : Nat} {bs : List Value} {X Y : World} {row : Option Nat} (h : Buf R b bs X) (hg : X.grownBy Y row) (hr : ∀ r, row = some r → ∃ o : Obj, X.heap[r]? = some o ∧ o.isCells = false) : Buf R b bs Y := by
  obtain ⟨p, v, h1, h2, h3, h4⟩ := h
  have keep : ∀ (j : Nat) (cs : Array Value) (t : TypeId) (fr : Nat × Nat), X.heap[j]? = some (.cells cs t fr) → Y.heap[j]? = X.heap[j]? := fun j cs t fr hc => hg.block j (heap_lt hc) (fun e => by
    obtain ⟨o, ho, hf⟩ := hr j e.symm
    rw [hc] at ho; cases ho; simp [Obj.isCells] at hf)
  refine ⟨p, v, (keep b _ _ _ h1).trans h1, h2, own_move h3 (fun j hj => ?_), h4⟩
  obtain ⟨_, cs, hc⟩ := own_row h3 j hj
  exact keep j _ _ _ hc
/-- A builder whose new row has been stored. -/
theorem Buf.put {R b : Nat} {bs : List Value} {v v' : Value} {W : World} {n : Nat} (hb : W.heap[b]? = some (.cells #[.pointer (some ⟨b, 0, none⟩), v] 131 (0, 0))) (ho : W.ownsRow R 5 1 v' n bs) (hn : n = bs.length) : Buf R b bs (W.setCell ⟨b, 1, none⟩ v') := by
  subst hn
  have hne : v'.ownBlock ≠ some b := fun e => by
    obtain ⟨cells, hc⟩ := own_typed ho b e
    rw [hb] at hc
    injection hc with hc
    injection hc with _ hc
    exact absurd hc (by decide)
  exact ⟨_, v', blk_put (cs := #[.pointer (some ⟨b, 0, none⟩), v]) hb 1 v' rfl, Or.inr rfl, own_move ho (fun k hk => Below.heap_setCell W ⟨b, 1, none⟩ v' k (fun e => hne (by rw [hk]; exact congrArg some e))), hne⟩
theorem copyCheck_walk (R b : Nat) (bs : List Value) (w : World) (h : Buf R b bs w) :
    Calls Tryz.prog 196 #[.pointer (some ⟨b, 0, none⟩)] w fun e w' => e = .returned (.tuple #[]) ∧ ∃ v, w'.heap[b]? = some (.cells #[.pointer (some ⟨b, 0, none⟩), v] 131 (0, 0)) ∧ w'.ownsRow R 5 1 v bs.length bs ∧ v.ownBlock ≠ some b ∧ Touch R b w w' := by
  obtain ⟨p, v, h1, h2, h3, h4⟩ := h
  have c0 : w.cell? ⟨b, 0, none⟩ = some p := by rw [Lib.cell_of_heap h1]; rfl
  rcases h2 with rfl | rfl
  · refine (copyCheck_fresh b w c0 (by simp [World.shape?, h1]) (Lib.frozen_of_heap h1 0)).mono ?_
    rintro e w' ⟨rfl, rfl⟩
    exact ⟨rfl, v, blk_put (cs := #[.pointer none, v]) h1 0 _ rfl, own_move h3 (fun k hk => Below.heap_setCell w ⟨b, 0, none⟩ _ k (fun e => h4 (by rw [hk]; exact congrArg some e))), h4, Touch.setCell _ _ _⟩
  · refine (copyCheck_used b w c0).mono ?_
    rintro e w' ⟨rfl, rfl⟩
    exact ⟨rfl, v, h1, h3, h4, Touch.refl _ _ _⟩
theorem row_slice {R n : Nat} {v : Value} {w : World} {xs : List Value} (h : w.ownsRow R 5 1 v n xs) : ∃ ao m cap, v = .slice ao m cap := by
  rcases h.2 with ⟨rfl, _⟩ | ⟨g, cap, cur, rfl, _⟩
  · exact ⟨_, _, _, rfl⟩
  · exact ⟨_, _, _, rfl⟩
set_option maxHeartbeats 2000000 in
set_option maxRecDepth 100000 in
theorem writeByte_walk (R b : Nat) (bs : List Value) (c : Int) (w : World) (h : Buf R b bs w) (hlen : bs.length + 1 ≤ 140737488355328) (hR : R ≤ w.heap.size) :
    Calls Tryz.prog 165 #[.pointer (some ⟨b, 0, none⟩), .int .u8 c] w fun e w' => e = .returned .nilIface ∧ (Buf R b (bs ++ [.int .u8 c]) w' ∧ Touch R b w w') := by
  obtain ⟨ib, hi, hz0, hz1, hz2⟩ := info_parts info_byte
  have HC := Lib.hid (fun w h => copyCheck_walk R b bs w h)
  have Hh := Lib.hid h
  clear h
  go_enter Tryz.func165, Tryz.ntmps165
  go_wp2_with (go_at_call 196; refine (HC.out _ Hh.out).mono ?_)
  rintro e w1 ⟨rfl, v, hbk, hown, hne, hb1⟩
  have c0 : w1.cell? ⟨b, 0, none⟩ = some (.pointer (some ⟨b, 0, none⟩)) := by rw [Lib.cell_of_heap hbk]; rfl
  have c1 : w1.cell? ⟨b, 1, none⟩ = some v := by rw [Lib.cell_of_heap hbk]; rfl
  have hs1 := hb1.size
  have hlt := heap_lt hbk
  go_wp2_with (at_builtin; refine wpList_append_own _ rfl _ _ 129 rfl R 5 ib (.int .u8 0) 1 1 Tryz.underlying129 hi hz0 hz1 hz2 rfl (by decide) _ _ _ rfl (hown.alloc _) ⟨w1.heap.size, 0, none⟩ 1 1 [.int .u8 c] rfl rfl ?cells ?one ?fits ?bytes ?base ?_)
  case cells =>
    intro j u hj
    match j, hj with
    | 0, hj => simp at hj; subst hj; simp [Addr.add]
  case one => intro u hu; simp at hu; subst hu; rfl
  case fits => unfold maxLen; omega
  case bytes => omega
  case base => simp; omega
  intro v' w2 hown' hgrow _
  have hb2 : w2.heap[b]? = some (.cells #[.pointer (some ⟨b, 0, none⟩), v] 131 (0, 0)) := by
    rw [hgrow.block b (by simp; omega) (fun e => hne e.symm), Lib.alloc_old w1 _ b hlt]
    exact hbk
  have d0 : w2.cell? ⟨b, 0, none⟩ = some (.pointer (some ⟨b, 0, none⟩)) := by rw [Lib.cell_of_heap hb2]; rfl
  have d1 : w2.cell? ⟨b, 1, none⟩ = some v := by rw [Lib.cell_of_heap hb2]; rfl
  have f1 : w2.frozen? ⟨b, 1, none⟩ = false := Lib.frozen_of_heap hb2 1
  obtain ⟨ao, m, cap, rfl⟩ := row_slice hown'
  go_wp2
  go_ret
  refine ⟨rfl, Buf.put hb2 hown' (by simp), ((hb1.trans (Touch.alloc _ _)).trans (Touch.grown hgrow (fun k hk => ?_))).trans (Touch.setCell _ _ _)⟩
  obtain ⟨h1, cs, h2⟩ := own_row hown k hk
  exact ⟨h1, cs, (Below.heap_alloc _ _ _ (heap_lt h2)).trans h2⟩
set_option maxHeartbeats 2000000 in
set_option maxRecDepth 100000 in
theorem writeString_walk (R b : Nat) (bs : List Value) (s : ByteArray) (w : World) (h : Buf R b bs w) (hlen : bs.length + s.size ≤ 140737488355328) (hR : R ≤ w.heap.size) :
    Calls Tryz.prog 168 #[.pointer (some ⟨b, 0, none⟩), .string s] w fun e w' => e = .returned (.tuple #[.int .i64 s.size, .nilIface]) ∧ (Buf R b (bs ++ Lib.strCells s) w' ∧ Touch R b w w') := by
  obtain ⟨ib, hi, hz0, hz1, hz2⟩ := info_parts info_byte
  have HC := Lib.hid (fun w h => copyCheck_walk R b bs w h)
  have Hh := Lib.hid h
  clear h
  go_enter Tryz.func168, Tryz.ntmps168
  go_wp2_with (go_at_call 196; refine (HC.out _ Hh.out).mono ?_)
  rintro e w1 ⟨rfl, v, hbk, hown, hne, hb1⟩
  have c0 : w1.cell? ⟨b, 0, none⟩ = some (.pointer (some ⟨b, 0, none⟩)) := by rw [Lib.cell_of_heap hbk]; rfl
  have c1 : w1.cell? ⟨b, 1, none⟩ = some v := by rw [Lib.cell_of_heap hbk]; rfl
  have hs1 := hb1.size
  have hlt := heap_lt hbk
  go_wp2_with (at_builtin; refine Lib.wpList_append_own_string _ rfl _ _ 129 9 rfl R 5 ib Tryz.underlying129 Tryz.underlying9 hi hz0 hz1 hz2 _ _ _ rfl hown s rfl ?fits ?bytes ?base ?_)
  case fits => unfold maxLen; omega
  case bytes => omega
  case base => omega
  intro v' w2 hown' hgrow _
  have hb2 : w2.heap[b]? = some (.cells #[.pointer (some ⟨b, 0, none⟩), v] 131 (0, 0)) := by
    rw [hgrow.block b hlt (fun e => hne e.symm)]
    exact hbk
  have d0 : w2.cell? ⟨b, 0, none⟩ = some (.pointer (some ⟨b, 0, none⟩)) := by rw [Lib.cell_of_heap hb2]; rfl
  have d1 : w2.cell? ⟨b, 1, none⟩ = some v := by rw [Lib.cell_of_heap hb2]; rfl
  have f1 : w2.frozen? ⟨b, 1, none⟩ = false := Lib.frozen_of_heap hb2 1
  obtain ⟨ao, m, cap, rfl⟩ := row_slice hown'
  go_wp2
  go_ret2
  exact ⟨rfl, Buf.put hb2 hown' (by simp [Lib.strCells_length]), (hb1.trans (Touch.grown hgrow (fun k hk => own_row hown k hk))).trans (Touch.setCell _ _ _)⟩
/-- What is left when the builder has been read: a builder in the shelf's words. -/
theorem Buf.is {R b B : Nat} {bs : List Value} {W : World} (h : Buf R b bs W) (hb : B ≤ b) (hR : B ≤ R) : Lib.IsBuilder 131 5 B b bs W := by
  obtain ⟨p, v, h1, h2, h3, h4⟩ := h
  rcases h2 with rfl | rfl
  · exact .inl ⟨hb, v, h1, own_weaken h3 hR, h4⟩
  · exact .inr ⟨hb, v, h1, own_weaken h3 hR, h4⟩
theorem Buf.fresh {R b : Nat} {W : World} (h : W.heap[b]? = some (.cells #[.pointer none, .slice none 0 0] 131 (0, 0))) : Buf R b [] W :=
  ⟨_, _, h, Or.inl rfl, ⟨by simp, .inl ⟨rfl, rfl⟩⟩, by simp [Value.ownBlock]⟩
end Go.Proofs.YtignanmmgaldeaaGreatDoor
namespace Go.Proofs.YtignanmmgaldeaaGreatDoor
open Go.RowKit Go.Shelf Go.Proofs.YtignanmmgaldeaaGreatDoorW.PrintWords
attribute [local go_sem] Oper.semAt_some
/-- The one table that the library's Itoa reads. -/
def GW (w : World) : Prop := Lib.TabIs Tryz.prog w "internal/strconv.uint64pow10" .u64 Lib.pow10Tab
theorem GW.below {w w' : World} (h : GW w) (hb : Below w.heap.size w w') : GW w' := Lib.tabBelow_of_tabIs h w' hb
theorem itoa_walk (n : Int) (h0 : -9223372036854775808 ≤ n) (h1 : n ≤ 9223372036854775807) (w : World) (hG : GW w) :
    Calls Tryz.prog 167 #[.int .i64 n] w fun e w' => e = .returned (.string ⟨(Lib.itoa n).toArray⟩) ∧ Below w.heap.size w w' :=
  (Any.strconv_Itoa layM171 n h0 h1 w hG).mono fun e w' ⟨he, k, os, hw⟩ => ⟨he, by rw [hw]; exact Lib.below_grow _ w (Nat.le_refl _) k os⟩
/-- m digits of a number, the last ones. -/
def lastD : Nat → Nat → List UInt8
  | 0, _ => []
  | m + 1, x => lastD m (x / 10) ++ [UInt8.ofNat (48 + x % 10)]
theorem lastD_zero : ∀ m, lastD m 0 = List.replicate m 48
  | 0 => rfl
  | m + 1 => by rw [lastD, lastD_zero m, List.replicate_succ']; rfl
theorem dec_lastD (v : Nat) (hv : v ≠ 0) : ∀ m x, x < 10 ^ m → Lib.decDigits (v * 10 ^ m + x) = Lib.decDigits v ++ lastD m x
  | 0, x, h => by
    have : x = 0 := by simpa using h
    subst this; simp [lastD]
  | m + 1, x, h => by
    have hx : x / 10 < 10 ^ m := by rw [Nat.pow_succ] at h; omega
    have e : v * 10 ^ (m + 1) + x = (v * 10 ^ m + x / 10) * 10 + x % 10 := by
      rw [Nat.pow_succ, ← Nat.mul_assoc]; omega
    have hp : 0 < 10 ^ m := Nat.pow_pos (by omega)
    have hne : v * 10 ^ m + x / 10 ≠ 0 := by
      have : 1 * 10 ^ m ≤ v * 10 ^ m := Nat.mul_le_mul_right _ (by omega)
      omega
    rw [e, decDigits_snoc _ _ hne (Nat.mod_lt _ (by omega)), dec_lastD v hv m _ hx, lastD, List.append_assoc]
theorem dec_len_le : ∀ m x, x < 10 ^ m → 0 < m → (Lib.decDigits x).length ≤ m
  | 0, _, _, h => by omega
  | m + 1, x, hx, _ => by
    by_cases h : x < 10
    · rw [decDigits_small h]; simp
    · have h1 : x / 10 < 10 ^ m := by rw [Nat.pow_succ] at hx; omega
      have h2 : 0 < m := by
        rcases Nat.eq_zero_or_pos m with e | e
        · subst e; simp at h1; omega
        · exact e
      have := dec_len_le m _ h1 h2
      rw [decDigits_big h]; simp; omega
theorem lastD_pad : ∀ m x, x < 10 ^ m → 0 < m → lastD m x = List.replicate (m - (Lib.decDigits x).length) 48 ++ Lib.decDigits x
  | 0, _, _, h => by omega
  | m + 1, x, hx, _ => by
    by_cases h : x < 10
    · rw [decDigits_small h, lastD, show x / 10 = 0 from by omega, lastD_zero, show x % 10 = x from by omega]; rfl
    · have h1 : x / 10 < 10 ^ m := by rw [Nat.pow_succ] at hx; omega
      have h2 : 0 < m := by
        rcases Nat.eq_zero_or_pos m with e | e
        · subst e; simp at h1; omega
        · exact e
      have hl := dec_len_le m _ h1 h2
      rw [decDigits_big h, lastD, lastD_pad m _ h1 h2, List.append_assoc]
      congr 2
      simp
theorem itoa_nat (x : Int) (h : 0 ≤ x) : Lib.itoa x = Lib.decDigits x.toNat := by unfold Lib.itoa; rw [if_neg (by omega)]
/-- What is written of limb i of n. -/
def padT (xs : List Int) (n i : Nat) : List UInt8 := (if i + 1 < n then List.replicate (9 - (Lib.itoa (xs[i]?.getD 0)).length) 48 else []) ++ Lib.itoa (xs[i]?.getD 0)
/-- What is written before the limbs. -/
def sgnT (d : Bool) : List UInt8 := if d = true then [45] else []
/-- What has been written behind some rounds. -/
def cont (d : Bool) (xs : List Int) (n : Nat) (pre : List (Fin n)) : List UInt8 := sgnT d ++ pre.flatMap fun i => padT xs n i.val
theorem cont_snoc (d : Bool) (xs : List Int) (n : Nat) (pre : List (Fin n)) (x : Fin n) : cont d xs n (pre ++ [x]) = cont d xs n pre ++ padT xs n x.val := by simp [cont]
theorem limb_len {xs : List Int} (hx : limbs xs) (i : Nat) : (Lib.itoa (xs[i]?.getD 0)).length ≤ 9 := by
  have h := hx i
  rw [itoa_nat _ h.1]
  exact dec_len_le 9 _ (by rw [show (10 : Nat) ^ 9 = 1000000000 from by decide]; omega) (by omega)
theorem padT_len {xs : List Int} (hx : limbs xs) (n i : Nat) : (padT xs n i).length ≤ 9 := by
  have := limb_len hx i
  unfold padT
  split <;> simp <;> omega
theorem cont_len {xs : List Int} (hx : limbs xs) (d : Bool) (n : Nat) : ∀ pre : List (Fin n), (cont d xs n pre).length ≤ 1 + 9 * pre.length := by
  intro pre
  unfold cont sgnT
  rw [List.length_append]
  have h1 : (if d = true then [(45 : UInt8)] else []).length ≤ 1 := by split <;> simp
  have h2 : (pre.flatMap fun i => padT xs n i.val).length ≤ 9 * pre.length := by
    induction pre with
    | nil => simp
    | cons i l ih =>
      have := padT_len hx n i.val
      rw [List.flatMap_cons, List.length_append, List.length_cons]; omega
  omega
/-- The value of the k highest of n limbs. -/
def topV (xs : List Int) (n : Nat) : Nat → Nat
  | 0 => 0
  | k + 1 => topV xs n k * 1000000000 + (xs[n - 1 - k]?.getD 0).toNat
theorem topV_val {xs : List Int} (hx : limbs xs) (n : Nat) (hn : xs.length = n) : ∀ k, k ≤ n → (topV xs n k : Int) * 1000000000 ^ (n - k) + pval xs (n - k) = lval xs
  | 0, _ => by simp [topV, lval, hn]
  | k + 1, h => by
    have ih := topV_val hx n hn k (by omega)
    have h1 := hx (n - 1 - k)
    rw [show n - k = (n - (k + 1)) + 1 from by omega, base_succ, pval] at ih
    rw [show n - (k + 1) = n - 1 - k from by omega] at ih ⊢
    rw [topV]
    have e : (((topV xs n k * 1000000000 + (xs[n - 1 - k]?.getD 0).toNat : Nat)) : Int) = (topV xs n k : Int) * 1000000000 + xs[n - 1 - k]?.getD 0 := by
      rw [Int.natCast_add, Int.natCast_mul, Int.toNat_of_nonneg h1.1]; rfl
    rw [e, Int.add_mul, Int.mul_assoc]
    omega
theorem top_digits {xs : List Int} (hx : limbs xs) (ht : topped xs) (n : Nat) (hn : xs.length = n) : ∀ k, 0 < k → k ≤ n → topV xs n k ≠ 0 ∧ (bwl n k).flatMap (fun i => padT xs n i.val) = Lib.decDigits (topV xs n k)
  | 0, h, _ => by omega
  | k + 1, _, hk => by
    have h1 := hx (n - 1 - k)
    rw [bwl_step n k (by omega), List.flatMap_append]
    rcases Nat.eq_zero_or_pos k with e | e
    · subst e
      have h2 : xs[n - 1]?.getD 0 ≠ 0 := by
        rcases ht with h | h
        · omega
        · rwa [hn] at h
      simp only [bwl, List.flatMap_nil, List.nil_append, List.flatMap_cons, List.append_nil, topV, Nat.zero_mul, Nat.zero_add, Nat.sub_zero] at h1 ⊢
      refine ⟨by omega, ?_⟩
      rw [padT, if_neg (by omega), List.nil_append, itoa_nat _ h1.1]
    · obtain ⟨i1, i2⟩ := top_digits hx ht n hn k e (by omega)
      have hlt : (xs[n - 1 - k]?.getD 0).toNat < 10 ^ 9 := by rw [show (10 : Nat) ^ 9 = 1000000000 from by decide]; omega
      refine ⟨by rw [topV]; omega, ?_⟩
      rw [i2, topV, show (1000000000 : Nat) = 10 ^ 9 from by decide, dec_lastD _ i1 9 _ hlt, lastD_pad 9 _ hlt (by omega)]
      congr 1
      simp only [List.flatMap_cons, List.flatMap_nil, List.append_nil]
      rw [padT, if_pos (by omega), itoa_nat _ h1.1]
/-- All that is written: the number's canonical integer. -/
theorem cont_all {xs : List Int} (hx : limbs xs) (ht : topped xs) (n : Nat) (hn : xs.length = n) (h0 : 0 < n) (d : Bool) : cont d xs n (bwl n n) = Lib.itoa (if d = true then -lval xs else lval xs) := by
  obtain ⟨h1, h2⟩ := top_digits hx ht n hn n h0 (Nat.le_refl _)
  have hv := topV_val hx n hn n (Nat.le_refl _)
  rw [Nat.sub_self] at hv
  simp only [Int.pow_zero, Int.mul_one, pval, Int.add_zero] at hv
  rw [cont, h2, ← hv]
  unfold Lib.itoa sgnT
  cases d
  · simp only [Bool.false_eq_true, if_false]; rw [if_neg (by omega)]; rfl
  · simp only [if_true]; rw [if_pos (by omega)]; simp
theorem rep_zero : ∀ c, Lib.repeatL [48] c = List.replicate c 48
  | 0 => rfl
  | c + 1 => by rw [Lib.repeatL, rep_zero c]; rfl
set_option maxRecDepth 100000 in
set_option maxHeartbeats 2000000 in
theorem text_zero (d : Bool) (A : Option Addr) (c : Nat) (w : World) :
    Calls Tryz.prog 88 #[.agg #[.bool d, .slice A 0 c]] w fun e w' => e = .returned (.string ⟨#[48]⟩) ∧ Below w.heap.size w w' := by
  go_enter Tryz.func88, Tryz.ntmps88
  go_wp2
  go_ret
  exact ⟨rfl, (Below.refl _ w).alloc (Nat.le_refl _) _⟩
set_option maxRecDepth 100000 in
set_option maxHeartbeats 4000000 in
theorem text_pos (A : Option Addr) (n c : Nat) (xs : List Int) (w : World) (hx : RI w.heap.size w A n xs) (hxl : limbs xs) (hn : n ≤ 1000000) (h0 : 0 < n) (hG : GW w) :
    Calls Tryz.prog 88 #[.agg #[.bool false, .slice A n c]] w fun e w' => e = .returned (.string ⟨(cont false xs n (bwl n n)).toArray⟩) ∧ Below w.heap.size w w' := by
  have hmax := hx.2.1
  refine (callsIn_wide (n := 8)).1 ?_
  have hro : Fence.wide.round = none := rfl
  have h1 : 1 ≤ 8 := by omega
  refine callsIn_of_wp_marks Tryz.func88 rfl trivial ?_ hro
  simp only [Tryz.ntmps88, List.size_toArray, List.length_cons, List.length_nil, Nat.reduceAdd, Nat.reduceSub, Array.replicate_succ, Array.replicate_zero, List.push_toArray, List.append_toArray, List.nil_append, List.cons_append]
  have HX := Lib.hid hx
  have HL := Lib.hid hxl
  have HG := Lib.hid hG
  have hn1 : ((n : Int) == 0) = false := by simp; omega
  have hn2 : ¬ (n : Int) = 0 := by omega
  clear hx hxl hG
  gi_wp2_with (refine ⟨trivial, ?_⟩; gi_at_call 166; refine (bwd_in Fence.wide (8 - 1) trivial hro _ _ _ _).mono ?_; rintro e w' ⟨rfl, rfl⟩)
  have bX : (((w.alloc (.cells #[.bool false, .slice A n c] 81)).alloc (.cells #[.pointer none, .slice none 0 0] 131)).alloc (.cells #[.slice A n c] 79)).heap[w.heap.size]? = some (.cells #[.bool false, .slice A n c] 81) := (Below.heap_alloc _ _ _ (by simp; omega)).trans ((Below.heap_alloc _ _ _ (by simp)).trans (World.alloc_heap_new w _))
  have bB : (((w.alloc (.cells #[.bool false, .slice A n c] 81)).alloc (.cells #[.pointer none, .slice none 0 0] 131)).alloc (.cells #[.slice A n c] 79)).heap[w.heap.size + 1]? = some (.cells #[.pointer none, .slice none 0 0] 131) := (Below.heap_alloc _ _ _ (by simp)).trans (by
    have := World.alloc_heap_new (w.alloc (.cells #[.bool false, .slice A n c] 81)) (.cells #[.pointer none, .slice none 0 0] 131)
    rwa [World.size_alloc] at this)
  have bS := Boxed.new ((w.alloc (.cells #[.bool false, .slice A n c] 81)).alloc (.cells #[.pointer none, .slice none 0 0] 131)) 79 (.slice A n c)
  simp only [World.size_alloc] at bS
  have hB0 : Below w.heap.size w (((w.alloc (.cells #[.bool false, .slice A n c] 81)).alloc (.cells #[.pointer none, .slice none 0 0] 131)).alloc (.cells #[.slice A n c] 79)) := (((Below.refl _ w).alloc (Nat.le_refl _) _).alloc (by simp) _).alloc (by simp; omega) _
  have hsz : (((w.alloc (.cells #[.bool false, .slice A n c] 81)).alloc (.cells #[.pointer none, .slice none 0 0] 131)).alloc (.cells #[.slice A n c] 79)).heap.size = w.heap.size + 3 := by simp
  obtain ⟨W0, hW0⟩ : ∃ W0, (((w.alloc (.cells #[.bool false, .slice A n c] 81)).alloc (.cells #[.pointer none, .slice none 0 0] 131)).alloc (.cells #[.slice A n c] 79)) = W0 := ⟨_, rfl⟩
  rw [hW0] at bX bB bS hB0 hsz ⊢
  clear hW0
  have bF : Buf (w.heap.size + 2) (w.heap.size + 1) (Lib.byteCells (cont false xs n [])) W0 := Buf.fresh bB
  refine wpIn_rangeFunc_ownF hro h1 (gf := 197) (lb := #[.pointer (some ⟨w.heap.size + 1 + 1, 0, none⟩)]) rfl trivial (enters_of Tryz.func197 (by kernel_rfl) rfl)
    (bwd_stops Fence.wide (8 - 1) trivial hro (by omega) (w.heap.size + 1 + 1) w.heap.size A n c xs W0 (by omega) (by omega) bS.cell (HX.out.below hB0)) kpB_t (kpB_b (by omega) (by omega)) (Below.refl _ _) (fun _ => rfl)
    (fun pre W => ((Buf (w.heap.size + 2) (w.heap.size + 1) (Lib.byteCells (cont false xs n pre)) W ∧ W.heap[w.heap.size]? = some (.cells #[.bool false, .slice A n c] 81 (0, 0))) ∧ Boxed W (w.heap.size + 1 + 1) 79 (.slice A n c)) ∧ Below w.heap.size w W)
    (fun _ _ _ => False)
    (OwnFrom.and (OwnFrom.and (OwnFrom.and (fun s X Y row hs hg hr => Buf.grown hs hg (fun r e => (hr r e).2)) (fun s X Y row hs hg hr => cells_grown hs hg (fun r e => (hr r e).2))) (Own.from (boxed_own _ _ _) _)) (ownFrom_below (Nat.le_refl _) (by omega)))
    (fun _ _ _ _ _ hs _ _ => hs)
    ⟨⟨⟨bF, bX⟩, bS⟩, hB0⟩
    (fun x => { tmps := #[.agg #[.bool false, .slice A n c], .pointer (some ⟨w.heap.size, 0, none⟩), .string ⟨#[]⟩, .pointer (some ⟨w.heap.size + 1, 0, none⟩), .int .i64 (x.val : Int), .int .i64 (xs[x.val]?.getD 0), undef, .pointer (some ⟨w.heap.size, 1, none⟩), .slice A n c, .int .i64 (n : Int), .bool false, .pointer (some ⟨w.heap.size, 0, none⟩), .bool false, undef, .pointer (some ⟨w.heap.size, 1, none⟩), .slice A n c, .func (.func 197) #[] #[.pointer (some ⟨w.heap.size + 1 + 1, 0, none⟩)], .int .i64 (x.val : Int), .int .i64 (xs[x.val]?.getD 0), undef, undef, undef, undef, undef, undef, undef, undef, undef, undef, undef, undef, undef, undef, undef, undef], defers := [] }) ?assign ?body ?done ?stop
  case assign =>
    intro l x W K hK
    gi_wp2
    exact hK
  case body =>
    rintro l pre x W ⟨⟨⟨hbuf, hxb⟩, hsb⟩, hBw⟩ hlt
    have hgw : GW W := Lib.tabBelow_of_tabIs HG.out W hBw
    have hlm := HL.out x.val
    have hlen := limb_len HL.out x.val
    have hclen := cont_len HL.out false n pre
    have hsz2 := hBw.size
    have hbl := hbuf.lt
    have hxl := x.isLt
    have hit := fun w h => itoa_walk (xs[x.val]?.getD 0) (by omega) (by omega) w h
    have hsb2 : (ByteArray.mk (Lib.itoa (xs[x.val]?.getD 0)).toArray).size = (Lib.itoa (xs[x.val]?.getD 0)).length := by rw [Lib.size_eq]
    have hcs := cont_snoc false xs n pre x
    have hpt : padT xs n x.val = (if x.val + 1 < n then List.replicate (9 - (Lib.itoa (xs[x.val]?.getD 0)).length) 48 else []) ++ Lib.itoa (xs[x.val]?.getD 0) := rfl
    rw [hpt] at hcs
    clear hpt
    have hstr : Lib.strCells (ByteArray.mk (Lib.itoa (xs[x.val]?.getD 0)).toArray) = Lib.byteCells (Lib.itoa (xs[x.val]?.getD 0)) := rfl
    generalize ByteArray.mk (Lib.itoa (xs[x.val]?.getD 0)).toArray = sb at hit hsb2 hstr
    generalize Lib.itoa (xs[x.val]?.getD 0) = ll at hlen hsb2 hcs hstr
    generalize xs[x.val]?.getD 0 = v at hlm hit ⊢
    have hkeep : ∀ W1, Below W.heap.size W W1 → W1.cell? ⟨w.heap.size, 1, none⟩ = some (.slice A n c) := fun W1 k => cellA ((k.block w.heap.size (by omega)).trans hxb) 1 _ rfl
    have HKp := Lib.hid hkeep
    have HIT := Lib.hid hit
    have HGW := Lib.hid hgw
    have HBUF := Lib.hid hbuf
    have HXB := Lib.hid hxb
    have HSB := Lib.hid hsb
    have HBW := Lib.hid hBw
    have HCS := Lib.hid hcs
    have HST := Lib.hid hstr
    have hsl : sb.size ≤ 9 := by omega
    have HS2 := Lib.hid hsb2
    have hbl2 : (Lib.byteCells (cont false xs n pre)).length ≤ 9000001 := by rw [Lib.byteCells_length]; omega
    clear hkeep hit hgw hbuf hxb hsb hBw hcs hstr hsb2
    by_cases hlast : x.val + 1 < n
    · have q1 : decide ((x.val : Int) < (n : Int) - 1) = true := by simp; omega
      have hrp : ∀ w : World, Calls Tryz.prog 169 #[.string ⟨#[48]⟩, .int .i64 (9 - (sb.size : Int))] w fun e w' => e = .returned (.string ⟨(List.replicate (9 - sb.size) 48).toArray⟩) ∧ Below w.heap.size w w' := fun w => by
        have := Any.strings_Repeat lay105 layBuilder_Extra_105 ⟨#[48]⟩ (9 - sb.size) w (by omega) (by rw [show (ByteArray.mk #[48]).size = 1 from rfl]; omega)
        rw [show (ByteArray.mk #[48]).data.toList = [48] from rfl, rep_zero, show ((9 - sb.size : Nat) : Int) = 9 - (sb.size : Int) from by omega] at this
        exact this
      have hrl : (ByteArray.mk (List.replicate (9 - sb.size) (48 : UInt8)).toArray).size ≤ 9 := by rw [Lib.size_eq]; simp
      have hrc : Lib.strCells (ByteArray.mk (List.replicate (9 - sb.size) (48 : UInt8)).toArray) = Lib.byteCells (List.replicate (9 - sb.size) 48) := rfl
      generalize ByteArray.mk (List.replicate (9 - sb.size) (48 : UInt8)).toArray = rp at hrp hrl hrc
      have HRP := Lib.hid hrp
      have HRC := Lib.hid hrc
      clear hrp hrc
      gi_wp2_with (first
        | (refine ⟨trivial, ?_⟩; gi_at_call 167; refine (CallsIn.inRound l (callsIn_wide.2 (HIT.out _ HGW.out))).mono ?_; rintro e W1 ⟨rfl, k1⟩; have hbA := HBUF.out.below k1; have cx := HKp.out _ k1; have hz1 := k1.size; have K1 := Lib.hid k1; clear k1 HIT)
        | (refine ⟨trivial, ?_⟩; gi_at_call 169; refine (CallsIn.inRound l (callsIn_wide.2 (HRP.out _))).mono ?_; rintro e W2 ⟨rfl, k2⟩; have hbB := hbA.below k2; have hz2 := k2.size; have K2 := Lib.hid k2; clear k2 hbA HRP cx)
        | (refine ⟨trivial, ?_⟩; gi_at_call 168; refine (CallsIn.inRound l (callsIn_wide.2 (writeString_walk (w.heap.size + 2) (w.heap.size + 1) _ rp W2 hbB (by omega) (by omega)))).mono ?_; rintro e W3 ⟨rfl, hbC, k3⟩; have hz3 := k3.size; have K3 := Lib.hid k3; clear k3 hbB)
        | (refine ⟨trivial, ?_⟩; gi_at_call 168; refine (CallsIn.inRound l (callsIn_wide.2 (writeString_walk (w.heap.size + 2) (w.heap.size + 1) _ sb W3 hbC (by rw [List.length_append, Lib.strCells_length]; omega) (by omega)))).mono ?_; rintro e W4 ⟨rfl, hbD, k4⟩; have K4 := Lib.hid k4; clear k4 hbC))
      have T : Touch (w.heap.size + 2) (w.heap.size + 1) W W4 := (((Touch.of_below K1.out).trans (Touch.of_below K2.out)).trans K3.out).trans K4.out
      have hbytes : Lib.byteCells (cont false xs n pre) ++ Lib.strCells rp ++ Lib.strCells sb = Lib.byteCells (cont false xs n (pre ++ [x])) := by
        rw [HCS.out, if_pos hlast, HRC.out, HST.out, HS2.out]; simp [Lib.byteCells]
      rw [hbytes] at hbD
      exact ⟨HBUF.out.others T, ⟨T.keepB (by omega) HSB.out (by decide), T.below (by omega) (by omega) (by omega)⟩, ⟨⟨hbD, T.keep (by omega) HXB.out (by decide)⟩, T.keep (by omega) HSB.out (by decide)⟩, HBW.out.trans (T.below (by omega) (by omega) (by omega))⟩
    · have q1 : decide ((x.val : Int) < (n : Int) - 1) = false := by simp; omega
      gi_wp2_with (first
        | (refine ⟨trivial, ?_⟩; gi_at_call 167; refine (CallsIn.inRound l (callsIn_wide.2 (HIT.out _ HGW.out))).mono ?_; rintro e W1 ⟨rfl, k1⟩; have hbA := HBUF.out.below k1; have cx := HKp.out _ k1; have hz1 := k1.size; have K1 := Lib.hid k1; clear k1 HIT)
        | (refine ⟨trivial, ?_⟩; gi_at_call 168; refine (CallsIn.inRound l (callsIn_wide.2 (writeString_walk (w.heap.size + 2) (w.heap.size + 1) _ sb W1 hbA (by omega) (by omega)))).mono ?_; rintro e W4 ⟨rfl, hbD, k4⟩; have K4 := Lib.hid k4; clear k4 hbA))
      have T : Touch (w.heap.size + 2) (w.heap.size + 1) W W4 := (Touch.of_below K1.out).trans K4.out
      have hbytes : Lib.byteCells (cont false xs n pre) ++ Lib.strCells sb = Lib.byteCells (cont false xs n (pre ++ [x])) := by
        rw [HCS.out, if_neg hlast, HST.out]; simp [Lib.byteCells]
      rw [hbytes] at hbD
      exact ⟨HBUF.out.others T, ⟨T.keepB (by omega) HSB.out (by decide), T.below (by omega) (by omega) (by omega)⟩, ⟨⟨hbD, T.keep (by omega) HXB.out (by decide)⟩, T.keep (by omega) HSB.out (by decide)⟩, HBW.out.trans (T.below (by omega) (by omega) (by omega))⟩
  case done =>
    rintro D zs W hD rfl ⟨⟨⟨hbuf, hxb⟩, hsb⟩, hBw⟩ hK
    have hisb := Lib.IsBuilderF.of (hbuf.is (B := w.heap.size) (by omega) (by omega))
    have hs2 := hBw.size
    have hbl := hbuf.lt
    obtain ⟨cl, hl⟩ : ∃ cl, cont false xs n (bwl n n) = cl := ⟨_, rfl⟩
    rw [hl] at hisb
    have HS := Lib.hid (Any.Builder_String_any_k lay169 layBuilder_Extra_169 w.heap.size (w.heap.size + 1) cl W hisb (by omega))
    have HL2 := Lib.hid hl
    have HBW := Lib.hid hBw
    have HK := Lib.hid hK
    clear hisb hl hbuf hxb hsb hBw hK
    gi_wp2_with (refine ⟨trivial, ?_⟩; gi_at_call 170; refine (callsIn_wide.2 HS.out).mono ?_; rintro e W2 ⟨rfl, _, k2, ok2⟩)
    have hK2 : W2.heap[D]? = some (.deferred (some [])) := ok2 D _ HK.out (fun e => by have : D = w.heap.size + 1 := Option.some.inj e; omega) (fun _ _ e => by cases e)
    refine ⟨by simp, .inl ⟨_, _, rfl, run_takeDeferred hK2, ?_⟩⟩
    exact ⟨_, by simp [results, Tryz.results88, go_sem]; rfl, by rw [HL2.out], (HBW.out.trans k2).trans (belowK_b (w := w) (Nat.le_refl _) _ D _ _ (by omega) hK2 rfl rfl)⟩
  case stop =>
    rintro D c pre W hD hpre h hK
    exact h.elim
set_option maxRecDepth 100000 in
set_option maxHeartbeats 4000000 in
theorem text_neg (A : Option Addr) (n c : Nat) (xs : List Int) (w : World) (hx : RI w.heap.size w A n xs) (hxl : limbs xs) (hn : n ≤ 1000000) (h0 : 0 < n) (hG : GW w) :
    Calls Tryz.prog 88 #[.agg #[.bool true, .slice A n c]] w fun e w' => e = .returned (.string ⟨(cont true xs n (bwl n n)).toArray⟩) ∧ Below w.heap.size w w' := by
  have hmax := hx.2.1
  refine (callsIn_wide (n := 8)).1 ?_
  have hro : Fence.wide.round = none := rfl
  have h1 : 1 ≤ 8 := by omega
  refine callsIn_of_wp_marks Tryz.func88 rfl trivial ?_ hro
  simp only [Tryz.ntmps88, List.size_toArray, List.length_cons, List.length_nil, Nat.reduceAdd, Nat.reduceSub, Array.replicate_succ, Array.replicate_zero, List.push_toArray, List.append_toArray, List.nil_append, List.cons_append]
  have HX := Lib.hid hx
  have HL := Lib.hid hxl
  have HG := Lib.hid hG
  have hn1 : ((n : Int) == 0) = false := by simp; omega
  have hn2 : ¬ (n : Int) = 0 := by omega
  clear hx hxl hG
  have hb0 : ((w.alloc (.cells #[.bool true, .slice A n c] 81)).alloc (.cells #[.pointer none, .slice none 0 0] 131)).heap[w.heap.size + 1]? = some (.cells #[.pointer none, .slice none 0 0] 131) := by
    have := World.alloc_heap_new (w.alloc (.cells #[.bool true, .slice A n c] 81)) (.cells #[.pointer none, .slice none 0 0] 131)
    rwa [World.size_alloc] at this
  have hx0 : ((w.alloc (.cells #[.bool true, .slice A n c] 81)).alloc (.cells #[.pointer none, .slice none 0 0] 131)).heap[w.heap.size]? = some (.cells #[.bool true, .slice A n c] 81) := (Below.heap_alloc _ _ _ (by simp)).trans (World.alloc_heap_new w _)
  have hba : Below w.heap.size w ((w.alloc (.cells #[.bool true, .slice A n c] 81)).alloc (.cells #[.pointer none, .slice none 0 0] 131)) := ((Below.refl _ w).alloc (Nat.le_refl _) _).alloc (by simp) _
  have hza : ((w.alloc (.cells #[.bool true, .slice A n c] 81)).alloc (.cells #[.pointer none, .slice none 0 0] 131)).heap.size = w.heap.size + 2 := by simp
  have HFR : Hid (Buf (w.heap.size + 2) (w.heap.size + 1) [] ((w.alloc (.cells #[.bool true, .slice A n c] 81)).alloc (.cells #[.pointer none, .slice none 0 0] 131))) := Lib.hid (Buf.fresh hb0)
  have HX0 := Lib.hid hx0
  have HBA := Lib.hid hba
  have HZA := Lib.hid hza
  clear hb0 hx0 hba hza
  gi_wp2_with (first
    | (refine ⟨trivial, ?_⟩; gi_at_call 165; refine (callsIn_wide.2 (writeByte_walk (w.heap.size + 2) (w.heap.size + 1) [] 45 _ HFR.out (by decide) (by rw [HZA.out]; exact Nat.le_refl _))).mono ?_; rintro e w1 ⟨rfl, hbf, ht⟩; have hx1 := ht.keep (by omega) HX0.out (by decide); have hb1 := HBA.out.trans (ht.below (Nat.le_succ _) (by omega) (by rw [HZA.out]; omega)); have hz1 := ht.size; rw [HZA.out] at hz1; have cxa := cellA hx1 0 _ rfl; have cxb := cellA hx1 1 _ rfl; have HBF := Lib.hid hbf; have HX1 := Lib.hid hx1; have HB1 := Lib.hid hb1; clear hbf ht hx1 hb1 HFR)
    | (refine ⟨trivial, ?_⟩; gi_at_call 166; refine (bwd_in Fence.wide (8 - 1) trivial hro _ _ _ _).mono ?_; rintro e w' ⟨rfl, rfl⟩))
  clear cxa cxb
  have bX : (w1.alloc (.cells #[.slice A n c] 79)).heap[w.heap.size]? = some (.cells #[.bool true, .slice A n c] 81 (0, 0)) := (Below.heap_alloc _ _ _ (by omega)).trans HX1.out
  have bS := Boxed.new w1 79 (.slice A n c)
  have hB0 : Below w.heap.size w (w1.alloc (.cells #[.slice A n c] 79)) := HB1.out.alloc (by omega) _
  have hsz : (w1.alloc (.cells #[.slice A n c] 79)).heap.size = w1.heap.size + 1 := by simp
  have bF : Buf (w.heap.size + 2) (w.heap.size + 1) (Lib.byteCells (cont true xs n [])) (w1.alloc (.cells #[.slice A n c] 79)) := HBF.out.below ((Below.refl _ w1).alloc (Nat.le_refl _) _)
  obtain ⟨W0, hW0⟩ : ∃ W0, w1.alloc (.cells #[.slice A n c] 79) = W0 := ⟨_, rfl⟩
  rw [hW0] at bX bS hB0 hsz bF ⊢
  clear hW0
  refine wpIn_rangeFunc_ownF hro h1 (gf := 197) (lb := #[.pointer (some ⟨w1.heap.size, 0, none⟩)]) rfl trivial (enters_of Tryz.func197 (by kernel_rfl) rfl)
    (bwd_stops Fence.wide (8 - 1) trivial hro (by omega) (w1.heap.size) w.heap.size A n c xs W0 (by omega) (by omega) bS.cell (HX.out.below hB0)) kpB_t (kpB_b (by omega) (by omega)) (Below.refl _ _) (fun _ => rfl)
    (fun pre W => ((Buf (w.heap.size + 2) (w.heap.size + 1) (Lib.byteCells (cont true xs n pre)) W ∧ W.heap[w.heap.size]? = some (.cells #[.bool true, .slice A n c] 81 (0, 0))) ∧ Boxed W (w1.heap.size) 79 (.slice A n c)) ∧ Below w.heap.size w W)
    (fun _ _ _ => False)
    (OwnFrom.and (OwnFrom.and (OwnFrom.and (fun s X Y row hs hg hr => Buf.grown hs hg (fun r e => (hr r e).2)) (fun s X Y row hs hg hr => cells_grown hs hg (fun r e => (hr r e).2))) (Own.from (boxed_own _ _ _) _)) (ownFrom_below (Nat.le_refl _) (by omega)))
    (fun _ _ _ _ _ hs _ _ => hs)
    ⟨⟨⟨bF, bX⟩, bS⟩, hB0⟩
    (fun x => { tmps := #[.agg #[.bool true, .slice A n c], .pointer (some ⟨w.heap.size, 0, none⟩), .string ⟨#[]⟩, .pointer (some ⟨w.heap.size + 1, 0, none⟩), .int .i64 (x.val : Int), .int .i64 (xs[x.val]?.getD 0), undef, .pointer (some ⟨w.heap.size, 1, none⟩), .slice A n c, .int .i64 (n : Int), .bool false, .pointer (some ⟨w.heap.size, 0, none⟩), .bool true, .nilIface, .pointer (some ⟨w.heap.size, 1, none⟩), .slice A n c, .func (.func 197) #[] #[.pointer (some ⟨w1.heap.size, 0, none⟩)], .int .i64 (x.val : Int), .int .i64 (xs[x.val]?.getD 0), undef, undef, undef, undef, undef, undef, undef, undef, undef, undef, undef, undef, undef, undef, undef, undef], defers := [] }) ?assign ?body ?done ?stop
  case assign =>
    intro l x W K hK
    gi_wp2
    exact hK
  case body =>
    rintro l pre x W ⟨⟨⟨hbuf, hxb⟩, hsb⟩, hBw⟩ hlt
    have hgw : GW W := Lib.tabBelow_of_tabIs HG.out W hBw
    have hlm := HL.out x.val
    have hlen := limb_len HL.out x.val
    have hclen := cont_len HL.out true n pre
    have hsz2 := hBw.size
    have hbl := hbuf.lt
    have hxl := x.isLt
    have hit := fun w h => itoa_walk (xs[x.val]?.getD 0) (by omega) (by omega) w h
    have hsb2 : (ByteArray.mk (Lib.itoa (xs[x.val]?.getD 0)).toArray).size = (Lib.itoa (xs[x.val]?.getD 0)).length := by rw [Lib.size_eq]
    have hcs := cont_snoc true xs n pre x
    have hpt : padT xs n x.val = (if x.val + 1 < n then List.replicate (9 - (Lib.itoa (xs[x.val]?.getD 0)).length) 48 else []) ++ Lib.itoa (xs[x.val]?.getD 0) := rfl
    rw [hpt] at hcs
    clear hpt
    have hstr : Lib.strCells (ByteArray.mk (Lib.itoa (xs[x.val]?.getD 0)).toArray) = Lib.byteCells (Lib.itoa (xs[x.val]?.getD 0)) := rfl
    generalize ByteArray.mk (Lib.itoa (xs[x.val]?.getD 0)).toArray = sb at hit hsb2 hstr
    generalize Lib.itoa (xs[x.val]?.getD 0) = ll at hlen hsb2 hcs hstr
    generalize xs[x.val]?.getD 0 = v at hlm hit ⊢
    have hkeep : ∀ W1, Below W.heap.size W W1 → W1.cell? ⟨w.heap.size, 1, none⟩ = some (.slice A n c) := fun W1 k => cellA ((k.block w.heap.size (by omega)).trans hxb) 1 _ rfl
    have HKp := Lib.hid hkeep
    have HIT := Lib.hid hit
    have HGW := Lib.hid hgw
    have HBUF := Lib.hid hbuf
    have HXB := Lib.hid hxb
    have HSB := Lib.hid hsb
    have HBW := Lib.hid hBw
    have HCS := Lib.hid hcs
    have HST := Lib.hid hstr
    have hsl : sb.size ≤ 9 := by omega
    have HS2 := Lib.hid hsb2
    have hbl2 : (Lib.byteCells (cont true xs n pre)).length ≤ 9000001 := by rw [Lib.byteCells_length]; omega
    clear hkeep hit hgw hbuf hxb hsb hBw hcs hstr hsb2
    by_cases hlast : x.val + 1 < n
    · have q1 : decide ((x.val : Int) < (n : Int) - 1) = true := by simp; omega
      have hrp : ∀ w : World, Calls Tryz.prog 169 #[.string ⟨#[48]⟩, .int .i64 (9 - (sb.size : Int))] w fun e w' => e = .returned (.string ⟨(List.replicate (9 - sb.size) 48).toArray⟩) ∧ Below w.heap.size w w' := fun w => by
        have := Any.strings_Repeat lay105 layBuilder_Extra_105 ⟨#[48]⟩ (9 - sb.size) w (by omega) (by rw [show (ByteArray.mk #[48]).size = 1 from rfl]; omega)
        rw [show (ByteArray.mk #[48]).data.toList = [48] from rfl, rep_zero, show ((9 - sb.size : Nat) : Int) = 9 - (sb.size : Int) from by omega] at this
        exact this
      have hrl : (ByteArray.mk (List.replicate (9 - sb.size) (48 : UInt8)).toArray).size ≤ 9 := by rw [Lib.size_eq]; simp
      have hrc : Lib.strCells (ByteArray.mk (List.replicate (9 - sb.size) (48 : UInt8)).toArray) = Lib.byteCells (List.replicate (9 - sb.size) 48) := rfl
      generalize ByteArray.mk (List.replicate (9 - sb.size) (48 : UInt8)).toArray = rp at hrp hrl hrc
      have HRP := Lib.hid hrp
      have HRC := Lib.hid hrc
      clear hrp hrc
      gi_wp2_with (first
        | (refine ⟨trivial, ?_⟩; gi_at_call 167; refine (CallsIn.inRound l (callsIn_wide.2 (HIT.out _ HGW.out))).mono ?_; rintro e W1 ⟨rfl, k1⟩; have hbA := HBUF.out.below k1; have cx := HKp.out _ k1; have hz1 := k1.size; have K1 := Lib.hid k1; clear k1 HIT)
        | (refine ⟨trivial, ?_⟩; gi_at_call 169; refine (CallsIn.inRound l (callsIn_wide.2 (HRP.out _))).mono ?_; rintro e W2 ⟨rfl, k2⟩; have hbB := hbA.below k2; have hz2 := k2.size; have K2 := Lib.hid k2; clear k2 hbA HRP cx)
        | (refine ⟨trivial, ?_⟩; gi_at_call 168; refine (CallsIn.inRound l (callsIn_wide.2 (writeString_walk (w.heap.size + 2) (w.heap.size + 1) _ rp W2 hbB (by omega) (by omega)))).mono ?_; rintro e W3 ⟨rfl, hbC, k3⟩; have hz3 := k3.size; have K3 := Lib.hid k3; clear k3 hbB)
        | (refine ⟨trivial, ?_⟩; gi_at_call 168; refine (CallsIn.inRound l (callsIn_wide.2 (writeString_walk (w.heap.size + 2) (w.heap.size + 1) _ sb W3 hbC (by rw [List.length_append, Lib.strCells_length]; omega) (by omega)))).mono ?_; rintro e W4 ⟨rfl, hbD, k4⟩; have K4 := Lib.hid k4; clear k4 hbC))
      have T : Touch (w.heap.size + 2) (w.heap.size + 1) W W4 := (((Touch.of_below K1.out).trans (Touch.of_below K2.out)).trans K3.out).trans K4.out
      have hbytes : Lib.byteCells (cont true xs n pre) ++ Lib.strCells rp ++ Lib.strCells sb = Lib.byteCells (cont true xs n (pre ++ [x])) := by
        rw [HCS.out, if_pos hlast, HRC.out, HST.out, HS2.out]; simp [Lib.byteCells]
      rw [hbytes] at hbD
      exact ⟨HBUF.out.others T, ⟨T.keepB (by omega) HSB.out (by decide), T.below (by omega) (by omega) (by omega)⟩, ⟨⟨hbD, T.keep (by omega) HXB.out (by decide)⟩, T.keep (by omega) HSB.out (by decide)⟩, HBW.out.trans (T.below (by omega) (by omega) (by omega))⟩
    · have q1 : decide ((x.val : Int) < (n : Int) - 1) = false := by simp; omega
      gi_wp2_with (first
        | (refine ⟨trivial, ?_⟩; gi_at_call 167; refine (CallsIn.inRound l (callsIn_wide.2 (HIT.out _ HGW.out))).mono ?_; rintro e W1 ⟨rfl, k1⟩; have hbA := HBUF.out.below k1; have cx := HKp.out _ k1; have hz1 := k1.size; have K1 := Lib.hid k1; clear k1 HIT)
        | (refine ⟨trivial, ?_⟩; gi_at_call 168; refine (CallsIn.inRound l (callsIn_wide.2 (writeString_walk (w.heap.size + 2) (w.heap.size + 1) _ sb W1 hbA (by omega) (by omega)))).mono ?_; rintro e W4 ⟨rfl, hbD, k4⟩; have K4 := Lib.hid k4; clear k4 hbA))
      have T : Touch (w.heap.size + 2) (w.heap.size + 1) W W4 := (Touch.of_below K1.out).trans K4.out
      have hbytes : Lib.byteCells (cont true xs n pre) ++ Lib.strCells sb = Lib.byteCells (cont true xs n (pre ++ [x])) := by
        rw [HCS.out, if_neg hlast, HST.out]; simp [Lib.byteCells]
      rw [hbytes] at hbD
      exact ⟨HBUF.out.others T, ⟨T.keepB (by omega) HSB.out (by decide), T.below (by omega) (by omega) (by omega)⟩, ⟨⟨hbD, T.keep (by omega) HXB.out (by decide)⟩, T.keep (by omega) HSB.out (by decide)⟩, HBW.out.trans (T.below (by omega) (by omega) (by omega))⟩
  case done =>
    rintro D zs W hD rfl ⟨⟨⟨hbuf, hxb⟩, hsb⟩, hBw⟩ hK
    have hisb := Lib.IsBuilderF.of (hbuf.is (B := w.heap.size) (by omega) (by omega))
    have hs2 := hBw.size
    have hbl := hbuf.lt
    obtain ⟨cl, hl⟩ : ∃ cl, cont true xs n (bwl n n) = cl := ⟨_, rfl⟩
    rw [hl] at hisb
    have HS := Lib.hid (Any.Builder_String_any_k lay169 layBuilder_Extra_169 w.heap.size (w.heap.size + 1) cl W hisb (by omega))
    have HL2 := Lib.hid hl
    have HBW := Lib.hid hBw
    have HK := Lib.hid hK
    clear hisb hl hbuf hxb hsb hBw hK
    gi_wp2_with (refine ⟨trivial, ?_⟩; gi_at_call 170; refine (callsIn_wide.2 HS.out).mono ?_; rintro e W2 ⟨rfl, _, k2, ok2⟩)
    have hK2 : W2.heap[D]? = some (.deferred (some [])) := ok2 D _ HK.out (fun e => by have : D = w.heap.size + 1 := Option.some.inj e; omega) (fun _ _ e => by cases e)
    refine ⟨by simp, .inl ⟨_, _, rfl, run_takeDeferred hK2, ?_⟩⟩
    exact ⟨_, by simp [results, Tryz.results88, go_sem]; rfl, by rw [HL2.out], (HBW.out.trans k2).trans (belowK_b (w := w) (Nat.le_refl _) _ D _ _ (by omega) hK2 rfl rfl)⟩
  case stop =>
    rintro D c pre W hD hpre h hK
    exact h.elim
theorem text_0 : text 0 = ⟨#[48]⟩ := by
  unfold text Lib.itoa
  rw [if_neg (by omega), show (0 : Int).toNat = 0 from rfl, decDigits_small (by omega)]; rfl
theorem text_num (v : Value) (z : Int) (L : Nat) (w : World) (hv : NumV w v z L) (hL : L ≤ 1000000) (hG : GW w) :
    Calls Tryz.prog 88 #[v] w fun e w' => e = .returned (.string (text z)) ∧ Below w.heap.size w w' := by
  obtain ⟨d, u, x, rfl, ⟨A, n, c, xs, rfl, h1, h2, h3, h4, h5, h6, rfl⟩, rfl⟩ := hv
  by_cases h0 : n = 0
  · subst h0
    have hz := (lval_zero h2 h3).2 h1.1
    have e : text (if d = true then -lval xs else lval xs) = ⟨#[48]⟩ := by rw [hz]; cases d <;> exact text_0
    rw [e]
    exact text_zero d A c w
  · have e : text (if d = true then -lval xs else lval xs) = ⟨(cont d xs n (bwl n n)).toArray⟩ := by rw [cont_all h2 h3 n h1.1 (by omega) d]; rfl
    rw [e]
    cases d
    · exact text_pos A n c xs w h1 h2 (by omega) (by omega) hG
    · exact text_neg A n c xs w h1 h2 (by omega) (by omega) hG
end Go.Proofs.YtignanmmgaldeaaGreatDoor
namespace Go.Proofs.YtignanmmgaldeaaGreatDoor
open Go.RowKit Go.Shelf Go.Proofs.YtignanmmgaldeaaGreatDoorW.PrintWords
/-- The digits of an integer, 0 for 0. -/
def sizeN (z : Int) : Nat := if z = 0 then 0 else (Lib.decDigits z.natAbs).length
theorem flat_len {xs : List Int} (hx : limbs xs) (n : Nat) : ∀ k, 0 < k → k ≤ n → ((bwl n k).flatMap fun i => padT xs n i.val).length = (Lib.itoa (xs[n - 1]?.getD 0)).length + 9 * (k - 1)
  | 0, h, _ => by omega
  | k + 1, _, hk => by
    rw [bwl_step n k (by omega), List.flatMap_append, List.length_append]
    have hl := limb_len hx (n - 1 - k)
    rcases Nat.eq_zero_or_pos k with e | e
    · subst e
      simp only [bwl, List.flatMap_nil, List.length_nil, List.flatMap_cons, List.append_nil, Nat.sub_zero]
      rw [padT, if_neg (by omega), List.nil_append]; omega
    · rw [flat_len hx n k e (by omega)]
      simp only [List.flatMap_cons, List.flatMap_nil, List.append_nil]
      rw [padT, if_pos (by omega), List.length_append, List.length_replicate]
      omega
theorem size_val {xs : List Int} (hx : limbs xs) (ht : topped xs) (n : Nat) (hn : xs.length = n) (h0 : 0 < n) (d : Bool) : sizeN (if d = true then -lval xs else lval xs) = (Lib.itoa (xs[n - 1]?.getD 0)).length + 9 * (n - 1) := by
  obtain ⟨h1, h2⟩ := top_digits hx ht n hn n h0 (Nat.le_refl _)
  have hv := topV_val hx n hn n (Nat.le_refl _)
  have hl := flat_len hx n n h0 (Nat.le_refl _)
  rw [h2] at hl
  rw [Nat.sub_self] at hv
  simp only [Int.pow_zero, Int.mul_one, pval, Int.add_zero] at hv
  rw [← hl, ← hv]
  unfold sizeN
  cases d
  · simp only [Bool.false_eq_true, if_false]; rw [if_neg (by omega), show ((topV xs n n : Nat) : Int).natAbs = topV xs n n from by omega]
  · simp only [if_true]; rw [if_neg (by omega), show (-((topV xs n n : Nat) : Int)).natAbs = topV xs n n from by omega]
set_option maxRecDepth 100000 in
set_option maxHeartbeats 2000000 in
theorem size_zero (d : Bool) (A : Option Addr) (c : Nat) (w : World) :
    Calls Tryz.prog 146 #[.agg #[.bool d, .slice A 0 c]] w fun e w' => e = .returned (.int .i64 0) ∧ Below w.heap.size w w' := by
  go_enter Tryz.func146, Tryz.ntmps146
  go_wp2
  go_ret
  exact ⟨rfl, (Below.refl _ w).alloc (Nat.le_refl _) _⟩
set_option maxRecDepth 100000 in
set_option maxHeartbeats 2000000 in
theorem size_pos (d : Bool) (A : Option Addr) (n c : Nat) (xs : List Int) (w : World) (hx : RI w.heap.size w A n xs) (hxl : limbs xs) (hn : n ≤ 1000000) (h0 : 0 < n) (hG : GW w) :
    Calls Tryz.prog 146 #[.agg #[.bool d, .slice A n c]] w fun e w' => e = .returned (.int .i64 (((Lib.itoa (xs[n - 1]?.getD 0)).length + 9 * (n - 1) : Nat) : Int)) ∧ Below w.heap.size w w' := by
  have hl := hxl (n - 1)
  have hlen := limb_len hxl (n - 1)
  have hn1 : ((n : Int) == 0) = false := by simp; omega
  have hn2 : ¬ (n : Int) = 0 := by omega
  obtain ⟨ad, rfl, hb, hc⟩ := hx.2.2 h0
  have HG := Lib.hid hG
  have hcell : ∀ o, (w.alloc o).cell? (ad.add (n - 1)) = some (.int .i64 (xs[n - 1]?.getD 0)) := fun o => ((Below.refl w.heap.size w).alloc (Nat.le_refl _) o).cell (p := ad.add (n - 1)) (by rw [add_block]; exact hb) |>.trans (hc (n - 1) (by omega))
  have hit := fun w h => itoa_walk (xs[n - 1]?.getD 0) (by omega) (by omega) w h
  have hsz : (ByteArray.mk (Lib.itoa (xs[n - 1]?.getD 0)).toArray).size = (Lib.itoa (xs[n - 1]?.getD 0)).length := by rw [Lib.size_eq]
  generalize ByteArray.mk (Lib.itoa (xs[n - 1]?.getD 0)).toArray = sb at hit hsz
  generalize (Lib.itoa (xs[n - 1]?.getD 0)).length = k at hsz hlen ⊢
  generalize xs[n - 1]?.getD 0 = v at hit hcell hl
  have HIT := Lib.hid hit
  obtain ⟨m, rfl⟩ : ∃ m, n = m + 1 := ⟨n - 1, by omega⟩
  rw [Nat.add_sub_cancel] at hcell ⊢
  have HS := Lib.hid hsz
  have hsl : sb.size ≤ 9 := by omega
  clear hx hxl hG hc hit hsz
  go_enter Tryz.func146, Tryz.ntmps146
  go_wp2_with (go_at_call 167; refine (HIT.out _ (HG.out.below ((Below.refl _ w).alloc (Nat.le_refl _) _))).mono ?_; rintro e w' ⟨rfl, hB⟩; have HB := Lib.hid hB; clear hB HIT)
  go_ret
  exact ⟨by rw [show (m : Int) * 9 + (sb.size : Int) = ((k + 9 * m : Nat) : Int) from by rw [HS.out]; omega]; rfl, (((Below.refl _ w).alloc (Nat.le_refl _) _).trans (HB.out.mono (by simp)))⟩
theorem size_num (v : Value) (z : Int) (L : Nat) (w : World) (hv : NumV w v z L) (hL : L ≤ 1000000) (hG : GW w) :
    Calls Tryz.prog 146 #[v] w fun e w' => e = .returned (.int .i64 (sizeN z : Int)) ∧ Below w.heap.size w w' := by
  obtain ⟨d, u, x, rfl, ⟨A, n, c, xs, rfl, h1, h2, h3, h4, h5, h6, rfl⟩, rfl⟩ := hv
  by_cases h0 : n = 0
  · subst h0
    have hz := (lval_zero h2 h3).2 h1.1
    have e : sizeN (if d = true then -lval xs else lval xs) = 0 := by rw [hz]; cases d <;> rfl
    rw [e]
    exact size_zero d A c w
  · rw [size_val h2 h3 n h1.1 (by omega) d]
    exact size_pos d A n c xs w h1 h2 (by omega) (by omega) hG
/-- What written returns. -/
def wrS (z : Int) : ByteArray := if 4096 < sizeN z then ⟨#[]⟩ else text z
def wrE (z : Int) : Int := if 4096 < sizeN z then 10 else 0
theorem num_open {w : World} {v : Value} {z : Int} {L : Nat} (h : NumV w v z L) : ∃ d A n c, v = .agg #[.bool d, .slice A n c] ∧ NumV w (.agg #[.bool d, .slice A n c]) z L := by
  have k := h
  obtain ⟨d, u, x, rfl, ⟨A, n, c, xs, rfl, h'⟩, hz⟩ := h
  exact ⟨d, A, n, c, rfl, k⟩
set_option maxRecDepth 100000 in
set_option maxHeartbeats 2000000 in
theorem written_num (v : Value) (z : Int) (L : Nat) (w : World) (hv : NumV w v z L) (hL : L ≤ 1000000) (hG : GW w) :
    Calls Tryz.prog 80 #[v] w fun e w' => e = .returned (.tuple #[.string (wrS z), .int .i64 (wrE z)]) ∧ Below w.heap.size w w' := by
  obtain ⟨d, A, n, c, rfl, hv⟩ := num_open hv
  have hsn := fun w (h : NumV w (.agg #[.bool d, .slice A n c]) z L) hg => size_num _ z L w h hL hg
  have htn := fun w (h : NumV w (.agg #[.bool d, .slice A n c]) z L) hg => text_num _ z L w h hL hg
  have hbx : (w.alloc (.cells #[.bool d, .slice A n c] 81)).heap[w.heap.size]? = some (.cells #[.bool d, .slice A n c] 81) := World.alloc_heap_new w _
  have hba : Below w.heap.size w (w.alloc (.cells #[.bool d, .slice A n c] 81)) := (Below.refl _ w).alloc (Nat.le_refl _) _
  have hsz : (w.alloc (.cells #[.bool d, .slice A n c] 81)).heap.size = w.heap.size + 1 := by simp
  have HSN := Lib.hid (hsn _ (hv.below hba) (hG.below hba))
  have HT := Lib.hid htn
  have HV := Lib.hid (hv.below hba)
  have HG := Lib.hid (hG.below hba)
  have HX := Lib.hid hbx
  have HB := Lib.hid hba
  have HZ := Lib.hid hsz
  clear hsn htn hv hG hbx hba hsz
  by_cases h : 4096 < sizeN z
  · rw [wrS, if_pos h, wrE, if_pos h]
    generalize sizeN z = s at HSN h
    have q : decide ((4096 : Int) < (s : Int)) = true := by simp; omega
    go_enter Tryz.func80, Tryz.ntmps80
    go_wp2_with (go_at_call 146; refine HSN.out.mono ?_; rintro e w1 ⟨rfl, k1⟩; have K1 := Lib.hid k1; clear k1 HSN)
    go_ret2
    exact ⟨rfl, HB.out.trans (K1.out.mono (by rw [HZ.out]; omega))⟩
  · rw [wrS, if_neg h, wrE, if_neg h]
    generalize sizeN z = s at HSN h
    have q : decide ((4096 : Int) < (s : Int)) = false := by simp; omega
    go_enter Tryz.func80, Tryz.ntmps80
    go_wp2_with (first
      | (go_at_call 146; refine HSN.out.mono ?_; rintro e w1 ⟨rfl, k1⟩; have hx1 := (k1.block w.heap.size (by rw [HZ.out]; omega)).trans HX.out; have c0 := cellA hx1 0 _ rfl; have c1 := cellA hx1 1 _ rfl; have K1 := Lib.hid k1; clear k1 hx1 HSN)
      | (go_at_call 88; refine (HT.out w1 (HV.out.below K1.out) (HG.out.below K1.out)).mono ?_; rintro e w2 ⟨rfl, k2⟩; have K2 := Lib.hid k2; clear k2 c0 c1))
    go_ret2
    exact ⟨rfl, HB.out.trans ((K1.out.trans (K2.out.mono K1.out.size)).mono (by rw [HZ.out]; omega))⟩
end Go.Proofs.YtignanmmgaldeaaGreatDoor
