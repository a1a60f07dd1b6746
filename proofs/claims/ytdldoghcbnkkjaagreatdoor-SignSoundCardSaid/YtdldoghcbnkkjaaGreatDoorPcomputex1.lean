-- printed by programs of this session (wip/gprint.py, wip/flat.py: a patched run of the print) out of the translation. Lean checks it.
import Derived.Test.YtdldoghcbnkkjaaGreatDoorProg
import Derived.Test.YtdldoghcbnkkjaaGreatDoorBigGiven
import Derived.Test.YtdldoghcbnkkjaaGreatDoorSignGivenZ
import Derived.Test.YtdldoghcbnkkjaaGreatDoorOpsAll
import Derived.Below
import Derived.Deep.Draws
import Derived.Deep.AppendLies
import Derived.Maps.AppendAt
import Derived.OwnWalk
import Derived.Laws.BytesArg
import Derived.Laws.MakeOwn
import Derived.Laws.OwnMore
import Derived.Deep.OwnRows
import Derived.Tactics
import Derived.Lib.ConvBytes
import Derived.Laws.Slices
import Derived.WalkKit
import Derived.KernelRfl
import Derived.RowKit3
import Derived.Deep.LoopGhost
import Derived.Deep.QuietTactic
import Derived.BigQuiet
import Derived.WideLaws
import Derived.Deep.DeepCutAuto
import Derived.Deep.CutBlock
import Derived.Deep.RegionHeld3
import Derived.Laws.Rows
import Derived.Lib.AppendStr
import Derived.ArgAppend
import Derived.Laws.IdiomCopy
import Derived.OrdersHeld
import Derived.Laws.BitsLemmas
import Derived.RowKit
import Derived.Test.YtdldoghcbnkkjaaGreatDoorWWords
import Derived.Test.YtdldoghcbnkkjaaGreatDoorWLast
import Derived.Test.YtdldoghcbnkkjaaGreatDoorWTab
import Derived.Test.YtdldoghcbnkkjaaGreatDoorWFour
import Derived.Test.YtdldoghcbnkkjaaGreatDoorWQPut
import Derived.Test.YtdldoghcbnkkjaaGreatDoorWApart
import Derived.Test.YtdldoghcbnkkjaaGreatDoorWArr
import Derived.Test.YtdldoghcbnkkjaaGreatDoorWZeros
import Derived.Test.YtdldoghcbnkkjaaGreatDoorWFoot
import Derived.Test.YtdldoghcbnkkjaaGreatDoorWKept
import Derived.Test.YtdldoghcbnkkjaaGreatDoorWShare
import Derived.Test.YtdldoghcbnkkjaaGreatDoorWN
import Derived.Test.YtdldoghcbnkkjaaGreatDoorWFootNe
import Derived.Test.YtdldoghcbnkkjaaGreatDoorWAt
import Derived.Test.YtdldoghcbnkkjaaGreatDoorWEqStruct
import Derived.Test.YtdldoghcbnkkjaaGreatDoorWRepsOne
import Derived.Test.YtdldoghcbnkkjaaGreatDoorWInv
import Derived.Test.YtdldoghcbnkkjaaGreatDoorWInvWords
import Derived.Test.YtdldoghcbnkkjaaGreatDoorWGuard
import Derived.Test.YtdldoghcbnkkjaaGreatDoorWNEv
import Derived.Test.YtdldoghcbnkkjaaGreatDoorWMore
namespace Go.Proofs.YtdldoghcbnkkjaaGreatDoor.Pcompute
open Go.RowKit Go.Proofs.YtdldoghcbnkkjaaGreatDoorW.PrintWords Go.Proofs.YtdldoghcbnkkjaaGreatDoorW.PrintLast Go.Proofs.YtdldoghcbnkkjaaGreatDoorW.PrintMore
attribute [local go_sem] max2_int min2_int max_two min_two max_three min_three max_four min_four   -- for this text's walks alone
set_option linter.unusedVariables false
set_option linter.unusedSimpArgs false



def errW : Option Int → Value
  | none => .nilIface
  | some c => .iface 0 (.int .i64 c)
theorem errW_none : errW none = .nilIface := rfl
theorem errW_some (c : Int) : errW (some c) = .iface 0 (.int .i64 c) := rfl

-- the values' own types

end Go.Proofs.YtdldoghcbnkkjaaGreatDoor.Pcompute

namespace Go.Proofs.YtdldoghcbnkkjaaGreatDoor.Pcompute
open Go.RowKit Go.Proofs.YtdldoghcbnkkjaaGreatDoorW.PrintWords Go.Proofs.YtdldoghcbnkkjaaGreatDoorW.PrintLast Go.Proofs.YtdldoghcbnkkjaaGreatDoorW.PrintMore
attribute [local go_sem] max2_int min2_int max_two min_two max_three min_three max_four min_four   -- for this text's walks alone
set_option linter.unusedVariables false
set_option linter.unusedSimpArgs false

/-! ### surveyorlaw19_compute: function 18 -/
def surveyorlaw19_compute.f (a0 : Int) (a1 : ByteArray) (a2 : ByteArray) : Option (ByteArray × Int) := if (Int.tmod a0 5) = 0 then ((bigint_Add.f a1 a2).bind fun bt101 => (some (bt101.1, bt101.2))) else (if (Int.tmod a0 5) = 1 then ((bigint_Sub.f a1 a2).bind fun bt103 => (some (bt103.1, bt103.2))) else (if (Int.tmod a0 5) = 2 then ((bigint_Mul.f a1 a2).bind fun bt105 => (some (bt105.1, bt105.2))) else (if (Int.tmod a0 5) = 3 then ((bigint_Quo.f a1 a2).bind fun bt107 => (some (bt107.1, bt107.2))) else ((bigint_Rem.f a1 a2).bind fun bt109 => (some (bt109.1, bt109.2))))))
set_option maxHeartbeats 8000000 in
set_option maxRecDepth 100000 in
theorem surveyorlaw19_compute.calls (a0 : Int) (a1 : ByteArray) (a2 : ByteArray) (r1 : ByteArray) (r2 : Int) (w : World) (hG : GW w) (h : surveyorlaw19_compute.f a0 a1 a2 = some (r1, r2)) :
    Calls Tryz.prog 18 #[.int .u8 a0, .string a1, .string a2] w fun e w' => e = .returned (.tuple #[.string r1, .int .i64 r2]) ∧ Below w.heap.size w w' := by
  have HG := Aside0.mk hG
  clear hG
  have HB := Aside0.mk (Below.refl w.heap.size w)
  have H : (if (Int.tmod a0 5) = 0 then ((bigint_Add.f a1 a2).bind fun bt101 => (some (bt101.1, bt101.2))) else (if (Int.tmod a0 5) = 1 then ((bigint_Sub.f a1 a2).bind fun bt103 => (some (bt103.1, bt103.2))) else (if (Int.tmod a0 5) = 2 then ((bigint_Mul.f a1 a2).bind fun bt105 => (some (bt105.1, bt105.2))) else (if (Int.tmod a0 5) = 3 then ((bigint_Quo.f a1 a2).bind fun bt107 => (some (bt107.1, bt107.2))) else ((bigint_Rem.f a1 a2).bind fun bt109 => (some (bt109.1, bt109.2))))))) = some (r1, r2) := h
  clear h
  by_cases c4 : (Int.tmod a0 5) = 0
  · rw [if_pos c4] at H
    have c4b0 : ((Int.tmod a0 5) == 0) = true := beq_iff_eq.mpr c4
    have c4b1 : ((Int.tmod a0 5) != 0) = false := bne_eq_false_iff_eq.mpr c4
    clear c4
    replace H := Option.bind_eq_some_iff.mp H
    obtain ⟨⟨t101, t102⟩, A50, H⟩ := H
    replace H : (some (t101, t102)) = some (r1, r2) := H
    have A5 := Aside0.mk A50
    clear A50
    simp only [Option.some.injEq, Prod.mk.injEq] at H
    obtain ⟨rfl, rfl⟩ := H
    go_enter Tryz.func18, Tryz.ntmps18
    go_wp2_with (first | ((with_reducible refine gate_callee (f := 29) rfl ?_); refine goesL_ (some 14) rfl rfl Tryz.func29 (by kernel_rfl) rfl #[.string a1, .string a2] rfl (by (try simp only [List.map_toArray, List.map_cons, List.map_nil]); first | done | rfl | (simp only [List.length_drop, List.length_take]; rfl)) ?_; (with_reducible refine (bigint_Add.calls (hG := HG.out.below (by repeat (first | (with_reducible first | exact HB.out | apply below_alloc | apply pw_below_drewN | apply below_drew1) | exact HB.out))) a1 a2 t101 t102 _ A5.out).mono ?_); rintro e w6 ⟨rfl, hb⟩; refine ⟨_, rfl, ?_⟩; have n0_ := Aside0.mk (below_step (by repeat (first | (with_reducible first | exact HB.out | apply below_alloc | apply pw_below_drewN | apply below_drew1) | exact HB.out)) hb); clear HB; have HB := n0_; clear n0_; (try clear hb); (try clear hb2); (try clear hk); (try clear hi)))
    go_ret2
    exact ⟨by first | rfl | (simp [errW_none, errW_some] <;> rfl) | (simp [*, errW_none, errW_some] <;> rfl), by repeat (first | (with_reducible first | exact HB.out | apply below_alloc | apply pw_below_drewN | apply below_drew1) | exact HB.out)⟩
  · rw [if_neg c4] at H
    have c4b0 : ((Int.tmod a0 5) == 0) = false := beq_eq_false_iff_ne.mpr c4
    have c4b1 : ((Int.tmod a0 5) != 0) = true := bne_iff_ne.mpr c4
    by_cases c7 : (Int.tmod a0 5) = 1
    · rw [if_pos c7] at H
      have c7b0 : ((Int.tmod a0 5) == 1) = true := beq_iff_eq.mpr c7
      have c7b1 : ((Int.tmod a0 5) != 1) = false := bne_eq_false_iff_eq.mpr c7
      clear c7
      replace H := Option.bind_eq_some_iff.mp H
      obtain ⟨⟨t103, t104⟩, A80, H⟩ := H
      replace H : (some (t103, t104)) = some (r1, r2) := H
      have A8 := Aside0.mk A80
      clear A80
      simp only [Option.some.injEq, Prod.mk.injEq] at H
      obtain ⟨rfl, rfl⟩ := H
      go_enter Tryz.func18, Tryz.ntmps18
      go_wp2_with (first | ((with_reducible refine gate_callee (f := 31) rfl ?_); refine goesL_ (some 21) rfl rfl Tryz.func31 (by kernel_rfl) rfl #[.string a1, .string a2] rfl (by (try simp only [List.map_toArray, List.map_cons, List.map_nil]); first | done | rfl | (simp only [List.length_drop, List.length_take]; rfl)) ?_; (with_reducible refine (bigint_Sub.calls (hG := HG.out.below (by repeat (first | (with_reducible first | exact HB.out | apply below_alloc | apply pw_below_drewN | apply below_drew1) | exact HB.out))) a1 a2 t103 t104 _ A8.out).mono ?_); rintro e w9 ⟨rfl, hb⟩; refine ⟨_, rfl, ?_⟩; have n0_ := Aside0.mk (below_step (by repeat (first | (with_reducible first | exact HB.out | apply below_alloc | apply pw_below_drewN | apply below_drew1) | exact HB.out)) hb); clear HB; have HB := n0_; clear n0_; (try clear hb); (try clear hb2); (try clear hk); (try clear hi)))
      go_ret2
      exact ⟨by first | rfl | (simp [errW_none, errW_some] <;> rfl) | (simp [*, errW_none, errW_some] <;> rfl), by repeat (first | (with_reducible first | exact HB.out | apply below_alloc | apply pw_below_drewN | apply below_drew1) | exact HB.out)⟩
    · rw [if_neg c7] at H
      have c7b0 : ((Int.tmod a0 5) == 1) = false := beq_eq_false_iff_ne.mpr c7
      have c7b1 : ((Int.tmod a0 5) != 1) = true := bne_iff_ne.mpr c7
      by_cases c10 : (Int.tmod a0 5) = 2
      · rw [if_pos c10] at H
        have c10b0 : ((Int.tmod a0 5) == 2) = true := beq_iff_eq.mpr c10
        have c10b1 : ((Int.tmod a0 5) != 2) = false := bne_eq_false_iff_eq.mpr c10
        clear c10
        replace H := Option.bind_eq_some_iff.mp H
        obtain ⟨⟨t105, t106⟩, A110, H⟩ := H
        replace H : (some (t105, t106)) = some (r1, r2) := H
        have A11 := Aside0.mk A110
        clear A110
        simp only [Option.some.injEq, Prod.mk.injEq] at H
        obtain ⟨rfl, rfl⟩ := H
        go_enter Tryz.func18, Tryz.ntmps18
        go_wp2_with (first | ((with_reducible refine gate_callee (f := 33) rfl ?_); refine goesL_ (some 28) rfl rfl Tryz.func33 (by kernel_rfl) rfl #[.string a1, .string a2] rfl (by (try simp only [List.map_toArray, List.map_cons, List.map_nil]); first | done | rfl | (simp only [List.length_drop, List.length_take]; rfl)) ?_; (with_reducible refine (bigint_Mul.calls (hG := HG.out.below (by repeat (first | (with_reducible first | exact HB.out | apply below_alloc | apply pw_below_drewN | apply below_drew1) | exact HB.out))) a1 a2 t105 t106 _ A11.out).mono ?_); rintro e w12 ⟨rfl, hb⟩; refine ⟨_, rfl, ?_⟩; have n0_ := Aside0.mk (below_step (by repeat (first | (with_reducible first | exact HB.out | apply below_alloc | apply pw_below_drewN | apply below_drew1) | exact HB.out)) hb); clear HB; have HB := n0_; clear n0_; (try clear hb); (try clear hb2); (try clear hk); (try clear hi)))
        go_ret2
        exact ⟨by first | rfl | (simp [errW_none, errW_some] <;> rfl) | (simp [*, errW_none, errW_some] <;> rfl), by repeat (first | (with_reducible first | exact HB.out | apply below_alloc | apply pw_below_drewN | apply below_drew1) | exact HB.out)⟩
      · rw [if_neg c10] at H
        have c10b0 : ((Int.tmod a0 5) == 2) = false := beq_eq_false_iff_ne.mpr c10
        have c10b1 : ((Int.tmod a0 5) != 2) = true := bne_iff_ne.mpr c10
        by_cases c13 : (Int.tmod a0 5) = 3
        · rw [if_pos c13] at H
          have c13b0 : ((Int.tmod a0 5) == 3) = true := beq_iff_eq.mpr c13
          have c13b1 : ((Int.tmod a0 5) != 3) = false := bne_eq_false_iff_eq.mpr c13
          clear c13
          replace H := Option.bind_eq_some_iff.mp H
          obtain ⟨⟨t107, t108⟩, A140, H⟩ := H
          replace H : (some (t107, t108)) = some (r1, r2) := H
          have A14 := Aside0.mk A140
          clear A140
          simp only [Option.some.injEq, Prod.mk.injEq] at H
          obtain ⟨rfl, rfl⟩ := H
          go_enter Tryz.func18, Tryz.ntmps18
          go_wp2_with (first | ((with_reducible refine gate_callee (f := 21) rfl ?_); refine goesL_ (some 35) rfl rfl Tryz.func21 (by kernel_rfl) rfl #[.string a1, .string a2] rfl (by (try simp only [List.map_toArray, List.map_cons, List.map_nil]); first | done | rfl | (simp only [List.length_drop, List.length_take]; rfl)) ?_; (with_reducible refine (bigint_Quo.calls (hG := HG.out.below (by repeat (first | (with_reducible first | exact HB.out | apply below_alloc | apply pw_below_drewN | apply below_drew1) | exact HB.out))) a1 a2 t107 t108 _ A14.out).mono ?_); rintro e w15 ⟨rfl, hb⟩; refine ⟨_, rfl, ?_⟩; have n0_ := Aside0.mk (below_step (by repeat (first | (with_reducible first | exact HB.out | apply below_alloc | apply pw_below_drewN | apply below_drew1) | exact HB.out)) hb); clear HB; have HB := n0_; clear n0_; (try clear hb); (try clear hb2); (try clear hk); (try clear hi)))
          go_ret2
          exact ⟨by first | rfl | (simp [errW_none, errW_some] <;> rfl) | (simp [*, errW_none, errW_some] <;> rfl), by repeat (first | (with_reducible first | exact HB.out | apply below_alloc | apply pw_below_drewN | apply below_drew1) | exact HB.out)⟩
        · rw [if_neg c13] at H
          have c13b0 : ((Int.tmod a0 5) == 3) = false := beq_eq_false_iff_ne.mpr c13
          have c13b1 : ((Int.tmod a0 5) != 3) = true := bne_iff_ne.mpr c13
          replace H := Option.bind_eq_some_iff.mp H
          obtain ⟨⟨t109, t110⟩, A160, H⟩ := H
          replace H : (some (t109, t110)) = some (r1, r2) := H
          have A16 := Aside0.mk A160
          clear A160
          simp only [Option.some.injEq, Prod.mk.injEq] at H
          obtain ⟨rfl, rfl⟩ := H
          go_enter Tryz.func18, Tryz.ntmps18
          go_wp2_with (first | ((with_reducible refine gate_callee (f := 23) rfl ?_); refine goesL_ (some 40) rfl rfl Tryz.func23 (by kernel_rfl) rfl #[.string a1, .string a2] rfl (by (try simp only [List.map_toArray, List.map_cons, List.map_nil]); first | done | rfl | (simp only [List.length_drop, List.length_take]; rfl)) ?_; (with_reducible refine (bigint_Rem.calls (hG := HG.out.below (by repeat (first | (with_reducible first | exact HB.out | apply below_alloc | apply pw_below_drewN | apply below_drew1) | exact HB.out))) a1 a2 t109 t110 _ A16.out).mono ?_); rintro e w17 ⟨rfl, hb⟩; refine ⟨_, rfl, ?_⟩; have n0_ := Aside0.mk (below_step (by repeat (first | (with_reducible first | exact HB.out | apply below_alloc | apply pw_below_drewN | apply below_drew1) | exact HB.out)) hb); clear HB; have HB := n0_; clear n0_; (try clear hb); (try clear hb2); (try clear hk); (try clear hi)))
          go_ret2
          exact ⟨by first | rfl | (simp [errW_none, errW_some] <;> rfl) | (simp [*, errW_none, errW_some] <;> rfl), by repeat (first | (with_reducible first | exact HB.out | apply below_alloc | apply pw_below_drewN | apply below_drew1) | exact HB.out)⟩

end Go.Proofs.YtdldoghcbnkkjaaGreatDoor.Pcompute
