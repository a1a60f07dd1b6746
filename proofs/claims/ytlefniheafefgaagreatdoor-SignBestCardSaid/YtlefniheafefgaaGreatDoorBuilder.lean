/- strings.Builder: copyCheck, WriteByte, WriteString, as this program bears them. -/
import Derived.Test.YtlefniheafefgaaGreatDoorFound
import Derived.Shelf.Strings.BuilderK
import Derived.Shelf.Strings.Repeat
set_option linter.unusedVariables false
set_option linter.unusedSimpArgs false
namespace Go.Proofs.YtlefniheafefgaaGreatDoor
open Go.RowKit Go.Shelf Go.Proofs.YtlefniheafefgaaGreatDoorW.PrintWords

theorem size_builder : (Tryz.prog.info? 118).map (·.size) = some 2 := by kernel_rfl
theorem lies_builder : liesAt Tryz.prog Tryz.prog.depth 118 (2 / Tryz.prog.cellsOf 118) 0 118 1 = true := by kernel_rfl
theorem info_byte : (Tryz.prog.info? 5).map (fun i => (i.zero, i.size, i.bytes)) = some (some (.int .u8 0), 1, 1) := by kernel_rfl

set_option maxHeartbeats 1000000 in
set_option maxRecDepth 100000 in
theorem copyCheck_used (b : Nat) (w : World) (h0 : w.cell? ⟨b, 0, none⟩ = some (.pointer (some ⟨b, 0, none⟩))) :
    Calls Tryz.prog 111 #[.pointer (some ⟨b, 0, none⟩)] w fun e w' => e = .returned (.tuple #[]) ∧ w' = w := by
  obtain ⟨j, hj, _⟩ := Option.map_eq_some_iff.1 size_builder
  go_enter Tryz.func111, Tryz.ntmps111
  go_wp2
  rw [Lib.run_neq_ptr_same w _ Tryz.underlying115 hj]
  go_wp2
  go_end0
  exact ⟨rfl, rfl⟩

set_option maxHeartbeats 1000000 in
set_option maxRecDepth 100000 in
theorem copyCheck_fresh (b : Nat) (w : World) (h0 : w.cell? ⟨b, 0, none⟩ = some (.pointer none)) (hsh : w.shape? b = some (118, 2)) (hfz : w.frozen? ⟨b, 0, none⟩ = false) :
    Calls Tryz.prog 111 #[.pointer (some ⟨b, 0, none⟩)] w fun e w' => e = .returned (.tuple #[]) ∧ w' = w.setCell ⟨b, 0, none⟩ (.pointer (some ⟨b, 0, none⟩)) := by
  obtain ⟨j, hj, hjs⟩ := Option.map_eq_some_iff.1 size_builder
  go_enter Tryz.func111, Tryz.ntmps111
  go_wp2
  rw [Lib.run_to_unsafe w ⟨b, 0, none⟩ Tryz.underlying115 Tryz.underlying160 hj (by rw [hjs]; decide) hsh (Nat.zero_lt_succ 1)]
  simp only [Result.andThen]
  rw [Oper.upon_value]
  go_wp2
  rw [run_callFunc_extern Tryz.func132 (by kernel_rfl) (by kernel_rfl) (by kernel_rfl) (e := Extern.AbiNoEscape.same) (by kernel_rfl)]
  rw [Lib.run_noEscape]
  simp only [Result.andThen]
  rw [Oper.upon_value]
  go_wp2
  rw [Lib.run_from_unsafe w ⟨b, 0, none⟩ Tryz.underlying160 Tryz.underlying115 hj hsh lies_builder]
  simp only [Result.andThen]
  rw [Oper.upon_value]
  go_wp2
  go_end0
  exact ⟨rfl, rfl⟩

theorem heap_lt {w : World} {b : Nat} {o : Obj} (h : w.heap[b]? = some o) : b < w.heap.size := (Array.getElem?_eq_some_iff.1 h).1
/-- A builder at block b, its bytes in a row that lies from R on. -/
def Buf (R b : Nat) (bs : List Value) (W : World) : Prop :=
  ∃ p v, W.heap[b]? = some (.cells #[p, v] 118 (0, 0)) ∧ (p = .pointer none ∨ p = .pointer (some ⟨b, 0, none⟩)) ∧ W.ownsRow R 5 1 v bs.length bs ∧ v.ownBlock ≠ some b
/-- What a writing leaves: all but block b and the rows of cells from R on. -/
structure Touch (R b : Nat) (W W' : World) : Prop where
  os : W'.os = W.os
  tape : W'.tape = W.tape
  output : W'.output = W.output
  size : W.heap.size ≤ W'.heap.size
  same : ∀ (k : Nat) (o : Obj), W.heap[k]? = some o → k ≠ b → (k < R ∨ ∀ cs, o ≠ .cells cs 5 (0, 0)) → W'.heap[k]? = some o
theorem Touch.refl (R b : Nat) (W : World) : Touch R b W W := ⟨rfl, rfl, rfl, Nat.le_refl _, fun _ _ h _ _ => h⟩
theorem Touch.trans {R b : Nat} {X Y Z : World} (h : Touch R b X Y) (k : Touch R b Y Z) : Touch R b X Z :=
  ⟨k.os.trans h.os, k.tape.trans h.tape, k.output.trans h.output, Nat.le_trans h.size k.size, fun i o hi hb hc => k.same i o (h.same i o hi hb hc) hb hc⟩
theorem Touch.of_below {R b : Nat} {X Y : World} (h : Below X.heap.size X Y) : Touch R b X Y := ⟨h.os, h.tape, h.output, h.size, fun k o hk _ _ => (h.block k (heap_lt hk)).trans hk⟩
theorem Touch.setCell {R b : Nat} (X : World) (o : Nat) (v : Value) : Touch R b X (X.setCell ⟨b, o, none⟩ v) :=
  ⟨rfl, rfl, rfl, by simp [World.setCell], fun k ob hk hb _ => (Below.heap_setCell X ⟨b, o, none⟩ v k hb).trans hk⟩
theorem Touch.alloc {R b : Nat} (X : World) (o : Obj) : Touch R b X (X.alloc o) := ⟨rfl, rfl, rfl, by simp, fun k ob hk _ _ => (Below.heap_alloc X o k (heap_lt hk)).trans hk⟩
theorem Touch.grown {R b : Nat} {X Y : World} {row : Option Nat} (hg : X.grownBy Y row) (hrow : ∀ k, row = some k → R ≤ k ∧ ∃ cs, X.heap[k]? = some (.cells cs 5 (0, 0))) : Touch R b X Y :=
  ⟨hg.os, hg.tape, hg.output, hg.size, fun k o hk _ hc => (hg.block k (heap_lt hk) (fun e => by
    obtain ⟨h1, cs, h2⟩ := hrow k e.symm
    rcases hc with h | h
    · omega
    · rw [hk] at h2; cases h2; exact h _ rfl)).trans hk⟩
theorem Touch.below {R b B : Nat} {X Y : World} (h : Touch R b X Y) (hb : B ≤ b) (hR : B ≤ R) (hX : B ≤ X.heap.size) : Below B X Y :=
  ⟨h.os, h.tape, h.output, h.size, fun k hk => by
    obtain ⟨o, ho⟩ : ∃ o, X.heap[k]? = some o := ⟨_, Array.getElem?_eq_getElem (by omega)⟩
    rw [ho]; exact h.same k o ho (by omega) (Or.inl (by omega))⟩
theorem Touch.others {R b : Nat} {X Y : World} (h : Touch R b X Y) {cs : Array Value} {t : TypeId} {fr : Nat × Nat} (hb : X.heap[b]? = some (.cells cs t fr)) : KeepsOthers X Y :=
  ⟨h.size, fun k o hk hc => h.same k o hk (fun e => by subst e; rw [hb] at hk; cases hk; simp [Obj.isCells] at hc) (Or.inr fun cs e => by subst e; simp [Obj.isCells] at hc)⟩
theorem Touch.keep {R b B : Nat} {X Y : World} (h : Touch R b X Y) (hb : B ≠ b) {cs : Array Value} {t : TypeId} {fr : Nat × Nat} (hc : X.heap[B]? = some (.cells cs t fr)) (ht : t ≠ 5) : Y.heap[B]? = some (.cells cs t fr) := h.same B _ hc hb (Or.inr fun cs' e => by cases e; exact ht rfl)
theorem Touch.keepB {R b B : Nat} {X Y : World} (h : Touch R b X Y) (hb : B ≠ b) {cs : Array Value} {t : TypeId} {fr : Nat × Nat} (hc : X.heap[B]? = some (.cells cs t fr)) (ht : t ≠ 5) : KeepB B X Y := ⟨fun o ho => by rw [hc] at ho; cases ho; exact h.keep hb hc ht⟩
theorem cells_grown {X Y : World} {row : Option Nat} {B : Nat} {cs : Array Value} {t : TypeId} {fr : Nat × Nat} (hc : X.heap[B]? = some (.cells cs t fr)) (hg : X.grownBy Y row) (hr : ∀ r, row = some r → ∃ o : Obj, X.heap[r]? = some o ∧ o.isCells = false) : Y.heap[B]? = some (.cells cs t fr) :=
  (hg.block B (heap_lt hc) (fun e => by
    obtain ⟨o, ho, hf⟩ := hr B e.symm
    rw [hc] at ho; cases ho; simp [Obj.isCells] at hf)).trans hc
theorem Buf.lt {R b : Nat} {bs : List Value} {W : World} (h : Buf R b bs W) : b < W.heap.size := by
  obtain ⟨p, v, h1, _⟩ := h; exact heap_lt h1
theorem Buf.others {R b : Nat} {bs : List Value} {X Y : World} (h : Buf R b bs X) (k : Touch R b X Y) : KeepsOthers X Y := by
  obtain ⟨p, v, h1, _⟩ := h; exact k.others h1
theorem own_row {R : Nat} {v : Value} {n : Nat} {xs : List Value} {W : World} (h : W.ownsRow R 5 1 v n xs) (k : Nat) (hk : v.ownBlock = some k) : R ≤ k ∧ ∃ cs, W.heap[k]? = some (.cells cs 5 (0, 0)) := by
  obtain ⟨cells, hc⟩ := own_typed h k hk
  exact ⟨own_base h k hk, _, hc⟩
theorem Buf.below {R b : Nat} {bs : List Value} {X Y : World} (h : Buf R b bs X) (k : Below X.heap.size X Y) : Buf R b bs Y := by
  obtain ⟨p, v, h1, h2, h3, h4⟩ := h
  refine ⟨p, v, (k.block b (heap_lt h1)).trans h1, h2, own_move h3 (fun j hj => ?_), h4⟩
  obtain ⟨_, cs, hc⟩ := own_row h3 j hj
  exact k.block j (heap_lt hc)
theorem Buf.grown {R b : Nat} {bs : List Value} {X Y : World} {row : Option Nat} (h : Buf R b bs X) (hg : X.grownBy Y row) (hr : ∀ r, row = some r → ∃ o : Obj, X.heap[r]? = some o ∧ o.isCells = false) : Buf R b bs Y := by
  obtain ⟨p, v, h1, h2, h3, h4⟩ := h
  have keep : ∀ (j : Nat) (cs : Array Value) (t : TypeId) (fr : Nat × Nat), X.heap[j]? = some (.cells cs t fr) → Y.heap[j]? = X.heap[j]? := fun j cs t fr hc => hg.block j (heap_lt hc) (fun e => by
    obtain ⟨o, ho, hf⟩ := hr j e.symm
    rw [hc] at ho; cases ho; simp [Obj.isCells] at hf)
  refine ⟨p, v, (keep b _ _ _ h1).trans h1, h2, own_move h3 (fun j hj => ?_), h4⟩
  obtain ⟨_, cs, hc⟩ := own_row h3 j hj
  exact keep j _ _ _ hc
/-- A builder whose new row has been stored. -/
theorem Buf.put {R b : Nat} {bs : List Value} {v v' : Value} {W : World} {n : Nat} (hb : W.heap[b]? = some (.cells #[.pointer (some ⟨b, 0, none⟩), v] 118 (0, 0))) (ho : W.ownsRow R 5 1 v' n bs) (hn : n = bs.length) : Buf R b bs (W.setCell ⟨b, 1, none⟩ v') := by
  subst hn
  have hne : v'.ownBlock ≠ some b := fun e => by
    obtain ⟨cells, hc⟩ := own_typed ho b e
    rw [hb] at hc
    injection hc with hc
    injection hc with _ hc
    exact absurd hc (by decide)
  exact ⟨_, v', blk_put (cs := #[.pointer (some ⟨b, 0, none⟩), v]) hb 1 v' rfl, Or.inr rfl, own_move ho (fun k hk => Below.heap_setCell W ⟨b, 1, none⟩ v' k (fun e => hne (by rw [hk]; exact congrArg some e))), hne⟩

theorem copyCheck_walk (R b : Nat) (bs : List Value) (w : World) (h : Buf R b bs w) :
    Calls Tryz.prog 111 #[.pointer (some ⟨b, 0, none⟩)] w fun e w' => e = .returned (.tuple #[]) ∧ ∃ v, w'.heap[b]? = some (.cells #[.pointer (some ⟨b, 0, none⟩), v] 118 (0, 0)) ∧ w'.ownsRow R 5 1 v bs.length bs ∧ v.ownBlock ≠ some b ∧ Touch R b w w' := by
  obtain ⟨p, v, h1, h2, h3, h4⟩ := h
  have c0 : w.cell? ⟨b, 0, none⟩ = some p := by rw [Lib.cell_of_heap h1]; rfl
  rcases h2 with rfl | rfl
  · refine (copyCheck_fresh b w c0 (by simp [World.shape?, h1]) (Lib.frozen_of_heap h1 0)).mono ?_
    rintro e w' ⟨rfl, rfl⟩
    exact ⟨rfl, v, blk_put (cs := #[.pointer none, v]) h1 0 _ rfl, own_move h3 (fun k hk => Below.heap_setCell w ⟨b, 0, none⟩ _ k (fun e => h4 (by rw [hk]; exact congrArg some e))), h4, Touch.setCell _ _ _⟩
  · refine (copyCheck_used b w c0).mono ?_
    rintro e w' ⟨rfl, rfl⟩
    exact ⟨rfl, v, h1, h3, h4, Touch.refl _ _ _⟩
theorem row_slice {R n : Nat} {v : Value} {w : World} {xs : List Value} (h : w.ownsRow R 5 1 v n xs) : ∃ ao m cap, v = .slice ao m cap := by
  rcases h.2 with ⟨rfl, _⟩ | ⟨g, cap, cur, rfl, _⟩
  · exact ⟨_, _, _, rfl⟩
  · exact ⟨_, _, _, rfl⟩

set_option maxHeartbeats 2000000 in
set_option maxRecDepth 100000 in
theorem writeByte_walk (R b : Nat) (bs : List Value) (c : Int) (w : World) (h : Buf R b bs w) (hlen : bs.length + 1 ≤ 140737488355328) (hR : R ≤ w.heap.size) :
    Calls Tryz.prog 90 #[.pointer (some ⟨b, 0, none⟩), .int .u8 c] w fun e w' => e = .returned .nilIface ∧ (Buf R b (bs ++ [.int .u8 c]) w' ∧ Touch R b w w') := by
  obtain ⟨ib, hi, hz0, hz1, hz2⟩ := info_parts info_byte
  have HC := Lib.hid (fun w h => copyCheck_walk R b bs w h)
  have Hh := Lib.hid h
  clear h
  go_enter Tryz.func90, Tryz.ntmps90
  go_wp2_with (go_at_call 111; refine (HC.out _ Hh.out).mono ?_)
  rintro e w1 ⟨rfl, v, hbk, hown, hne, hb1⟩
  have c0 : w1.cell? ⟨b, 0, none⟩ = some (.pointer (some ⟨b, 0, none⟩)) := by rw [Lib.cell_of_heap hbk]; rfl
  have c1 : w1.cell? ⟨b, 1, none⟩ = some v := by rw [Lib.cell_of_heap hbk]; rfl
  have hs1 := hb1.size
  have hlt := heap_lt hbk
  go_wp2_with (at_builtin; refine wpList_append_own _ rfl _ _ 116 rfl R 5 ib (.int .u8 0) 1 1 Tryz.underlying116 hi hz0 hz1 hz2 rfl (by decide) _ _ _ rfl (hown.alloc _) ⟨w1.heap.size, 0, none⟩ 1 1 [.int .u8 c] rfl rfl ?cells ?one ?fits ?bytes ?base ?_)
  case cells =>
    intro j u hj
    match j, hj with
    | 0, hj => simp at hj; subst hj; simp [Addr.add]
  case one => intro u hu; simp at hu; subst hu; rfl
  case fits => unfold maxLen; omega
  case bytes => omega
  case base => simp; omega
  intro v' w2 hown' hgrow _
  have hb2 : w2.heap[b]? = some (.cells #[.pointer (some ⟨b, 0, none⟩), v] 118 (0, 0)) := by
    rw [hgrow.block b (by simp; omega) (fun e => hne e.symm), Lib.alloc_old w1 _ b hlt]
    exact hbk
  have d0 : w2.cell? ⟨b, 0, none⟩ = some (.pointer (some ⟨b, 0, none⟩)) := by rw [Lib.cell_of_heap hb2]; rfl
  have d1 : w2.cell? ⟨b, 1, none⟩ = some v := by rw [Lib.cell_of_heap hb2]; rfl
  have f1 : w2.frozen? ⟨b, 1, none⟩ = false := Lib.frozen_of_heap hb2 1
  obtain ⟨ao, m, cap, rfl⟩ := row_slice hown'
  go_wp2
  go_ret
  refine ⟨rfl, Buf.put hb2 hown' (by simp), ((hb1.trans (Touch.alloc _ _)).trans (Touch.grown hgrow (fun k hk => ?_))).trans (Touch.setCell _ _ _)⟩
  obtain ⟨h1, cs, h2⟩ := own_row hown k hk
  exact ⟨h1, cs, (Below.heap_alloc _ _ _ (heap_lt h2)).trans h2⟩

set_option maxHeartbeats 2000000 in
set_option maxRecDepth 100000 in
theorem writeString_walk (R b : Nat) (bs : List Value) (s : ByteArray) (w : World) (h : Buf R b bs w) (hlen : bs.length + s.size ≤ 140737488355328) (hR : R ≤ w.heap.size) :
    Calls Tryz.prog 91 #[.pointer (some ⟨b, 0, none⟩), .string s] w fun e w' => e = .returned (.tuple #[.int .i64 s.size, .nilIface]) ∧ (Buf R b (bs ++ Lib.strCells s) w' ∧ Touch R b w w') := by
  obtain ⟨ib, hi, hz0, hz1, hz2⟩ := info_parts info_byte
  have HC := Lib.hid (fun w h => copyCheck_walk R b bs w h)
  have Hh := Lib.hid h
  clear h
  go_enter Tryz.func91, Tryz.ntmps91
  go_wp2_with (go_at_call 111; refine (HC.out _ Hh.out).mono ?_)
  rintro e w1 ⟨rfl, v, hbk, hown, hne, hb1⟩
  have c0 : w1.cell? ⟨b, 0, none⟩ = some (.pointer (some ⟨b, 0, none⟩)) := by rw [Lib.cell_of_heap hbk]; rfl
  have c1 : w1.cell? ⟨b, 1, none⟩ = some v := by rw [Lib.cell_of_heap hbk]; rfl
  have hs1 := hb1.size
  have hlt := heap_lt hbk
  go_wp2_with (at_builtin; refine Lib.wpList_append_own_string _ rfl _ _ 116 9 rfl R 5 ib Tryz.underlying116 Tryz.underlying9 hi hz0 hz1 hz2 _ _ _ rfl hown s rfl ?fits ?bytes ?base ?_)
  case fits => unfold maxLen; omega
  case bytes => omega
  case base => omega
  intro v' w2 hown' hgrow _
  have hb2 : w2.heap[b]? = some (.cells #[.pointer (some ⟨b, 0, none⟩), v] 118 (0, 0)) := by
    rw [hgrow.block b hlt (fun e => hne e.symm)]
    exact hbk
  have d0 : w2.cell? ⟨b, 0, none⟩ = some (.pointer (some ⟨b, 0, none⟩)) := by rw [Lib.cell_of_heap hb2]; rfl
  have d1 : w2.cell? ⟨b, 1, none⟩ = some v := by rw [Lib.cell_of_heap hb2]; rfl
  have f1 : w2.frozen? ⟨b, 1, none⟩ = false := Lib.frozen_of_heap hb2 1
  obtain ⟨ao, m, cap, rfl⟩ := row_slice hown'
  go_wp2
  go_ret2
  exact ⟨rfl, Buf.put hb2 hown' (by simp [Lib.strCells_length]), (hb1.trans (Touch.grown hgrow (fun k hk => own_row hown k hk))).trans (Touch.setCell _ _ _)⟩
/-- What is left when the builder has been read: a builder in the shelf's words. -/
theorem Buf.is {R b B : Nat} {bs : List Value} {W : World} (h : Buf R b bs W) (hb : B ≤ b) (hR : B ≤ R) : Lib.IsBuilder 118 5 B b bs W := by
  obtain ⟨p, v, h1, h2, h3, h4⟩ := h
  rcases h2 with rfl | rfl
  · exact .inl ⟨hb, v, h1, own_weaken h3 hR, h4⟩
  · exact .inr ⟨hb, v, h1, own_weaken h3 hR, h4⟩
theorem Buf.fresh {R b : Nat} {W : World} (h : W.heap[b]? = some (.cells #[.pointer none, .slice none 0 0] 118 (0, 0))) : Buf R b [] W :=
  ⟨_, _, h, Or.inl rfl, ⟨by simp, .inl ⟨rfl, rfl⟩⟩, by simp [Value.ownBlock]⟩
end Go.Proofs.YtlefniheafefgaaGreatDoor
