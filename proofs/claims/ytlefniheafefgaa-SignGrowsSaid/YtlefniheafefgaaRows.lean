/-
  No cell of these rows narrows 'for every input' (looked for: loops, veiled, ifaces, maps, wideKeys, modest, calm, conditions, laid).
  DERIVED. THE GIVEN ROWS OF THIS SEAT. 4 by the template 'for every input the law returns true; each argument reads behind the call as it read before'; 0 by the template 'total and deterministic' (their statements: YtlefniheafefgaaTotals.lean).
  GIVEN WITH THE SEED: the statements are not yours to turn. If you find one false, say at which input.
  Laid BY PROGRAM, IN A SANDBOX (cutbox-rows.mjs): the forced cells as the released guide's own fill.sh prints them over the translation 15fa35267172c80c… (all of the seat's roots in one cut). By AI agents, Wed Nov 11 2026. No macro, syntax, notation, axiom, sorry.
-/
import Derived.Test.YtlefniheafefgaaChecked
import GoSem.Claim
import GoSem.ClaimJoined
import GoSem.ClaimMapViews
import Derived.JoinedTies
import Derived.KernelRfl
namespace Go.Proofs.Ytlefniheafefgaa
/- THE CELL 'sum', in the pinned program and in every row, IS THE sha256 OF THE DUMP (.gsa) THAT YtlefniheafefgaaProg.lean LOADS. Nothing in Lean hashes anything: it is a label: what it is worth is what the hold of that sum in a sandbox is worth. -/
noncomputable def Try.pinned : Pinned := { name := "ytlefniheafefgaa", sum := "15fa35267172c80c44b6e521f92a9182fdf6fd51184cb6173d2c4f6530b72a3c", checked := Try.checked }
namespace Rows
def none {H : Type} : Left H := { results := [], args := [] }

/-- 'surveyorlaw19.SignRefines': WHATEVER THE INPUT: true; the input reads as it did. -/
def signRefinesSpec : ChangeSpec := { name := "signRefines", fn := fun _ => fun
  | [d1, d2, d3] => { results := [.lit (.bool true)], args := [d1, d2, d3] }
  | _ => none }
def signRefinesRow : OpenClaim := { program := "ytlefniheafefgaa", sum := "15fa35267172c80c44b6e521f92a9182fdf6fd51184cb6173d2c4f6530b72a3c", func := "surveyor/surveyorlaw19.SignRefines", spec := "signRefines", unfollowed := true, recurses := true, apart := false }
def SignRefinesSaid : Prop := signRefinesRow.holds Try.pinned (OpenSpec.ofChange signRefinesSpec)

/-- ITS FALSE NEIGHBOUR: 'it returns false'. Refute it at one input. -/
def signRefinesWrong : ChangeSpec := { name := "signRefines", fn := fun _ => fun
  | [d1, d2, d3] => { results := [.lit (.bool false)], args := [d1, d2, d3] }
  | _ => none }
def SignRefinesWrongFalsely : Prop := signRefinesRow.holds Try.pinned (OpenSpec.ofChange signRefinesWrong)

/-- 'surveyorlaw19.SignComputes': WHATEVER THE INPUT: true; the input reads as it did. -/
def signComputesSpec : ChangeSpec := { name := "signComputes", fn := fun _ => fun
  | [d1, d2] => { results := [.lit (.bool true)], args := [d1, d2] }
  | _ => none }
def signComputesRow : OpenClaim := { program := "ytlefniheafefgaa", sum := "15fa35267172c80c44b6e521f92a9182fdf6fd51184cb6173d2c4f6530b72a3c", func := "surveyor/surveyorlaw19.SignComputes", spec := "signComputes", unfollowed := true, recurses := true, apart := false }
def SignComputesSaid : Prop := signComputesRow.holds Try.pinned (OpenSpec.ofChange signComputesSpec)

/-- ITS FALSE NEIGHBOUR: 'it returns false'. Refute it at one input. -/
def signComputesWrong : ChangeSpec := { name := "signComputes", fn := fun _ => fun
  | [d1, d2] => { results := [.lit (.bool false)], args := [d1, d2] }
  | _ => none }
def SignComputesWrongFalsely : Prop := signComputesRow.holds Try.pinned (OpenSpec.ofChange signComputesWrong)

/-- 'surveyorlaw19.SignOrders': WHATEVER THE INPUT: true; the input reads as it did. -/
def signOrdersSpec : ChangeSpec := { name := "signOrders", fn := fun _ => fun
  | [d1, d2] => { results := [.lit (.bool true)], args := [d1, d2] }
  | _ => none }
def signOrdersRow : OpenClaim := { program := "ytlefniheafefgaa", sum := "15fa35267172c80c44b6e521f92a9182fdf6fd51184cb6173d2c4f6530b72a3c", func := "surveyor/surveyorlaw19.SignOrders", spec := "signOrders", unfollowed := true, recurses := true, apart := false }
def SignOrdersSaid : Prop := signOrdersRow.holds Try.pinned (OpenSpec.ofChange signOrdersSpec)

/-- ITS FALSE NEIGHBOUR: 'it returns false'. Refute it at one input. -/
def signOrdersWrong : ChangeSpec := { name := "signOrders", fn := fun _ => fun
  | [d1, d2] => { results := [.lit (.bool false)], args := [d1, d2] }
  | _ => none }
def SignOrdersWrongFalsely : Prop := signOrdersRow.holds Try.pinned (OpenSpec.ofChange signOrdersWrong)

/-- 'surveyorlaw19.SignGrows': WHATEVER THE INPUT: true; the input reads as it did. -/
def signGrowsSpec : ChangeSpec := { name := "signGrows", fn := fun _ => fun
  | [d1, d2] => { results := [.lit (.bool true)], args := [d1, d2] }
  | _ => none }
def signGrowsRow : OpenClaim := { program := "ytlefniheafefgaa", sum := "15fa35267172c80c44b6e521f92a9182fdf6fd51184cb6173d2c4f6530b72a3c", func := "surveyor/surveyorlaw19.SignGrows", spec := "signGrows", unfollowed := true, recurses := true, apart := false }
def SignGrowsSaid : Prop := signGrowsRow.holds Try.pinned (OpenSpec.ofChange signGrowsSpec)

/-- ITS FALSE NEIGHBOUR: 'it returns false'. Refute it at one input. -/
def signGrowsWrong : ChangeSpec := { name := "signGrows", fn := fun _ => fun
  | [d1, d2] => { results := [.lit (.bool false)], args := [d1, d2] }
  | _ => none }
def SignGrowsWrongFalsely : Prop := signGrowsRow.holds Try.pinned (OpenSpec.ofChange signGrowsWrong)

/- THE SECOND FORM. 'bulk': how many values and letters a reading holds, each counted each time it is reached (what is shared counts as often as it is met; a slice's spare places count too). A statement '..UptoSaid' is the law's where the arguments, and the package variables that the reading takes, are together of bulk at most 1048576: NARROWER than '..Said'. Prove '..Said' where nothing that the law and all that it calls make is longer than what came in: it says more and counts as full. Else prove '..UptoSaid'. A law counts once. -/
mutual
def uptoBulk {H : Type} : DataW H → Nat
  | .lit (.string bytes) => bytes.length + 1
  | .lit _ => 1
  | .nil => 1
  | .ptr d => uptoBulk d + 1
  | .slice elems spare => uptoBulkAll elems + uptoBulkAll spare + 1
  | .agg parts => uptoBulkAll parts + 1
  | .iface _ d => uptoBulk d + 1
  | .map entries => uptoBulkEntries entries + 1
  | .held _ => 1
def uptoBulkAll {H : Type} : List (DataW H) → Nat
  | [] => 0
  | d :: r => uptoBulk d + uptoBulkAll r
def uptoBulkEntries {H : Type} : List (Lit × DataW H) → Nat
  | [] => 0
  | x :: r => uptoBulkEntry x + uptoBulkEntries r
def uptoBulkEntry {H : Type} : Lit × DataW H → Nat
  | (.string bytes, d) => bytes.length + uptoBulk d + 1
  | (_, d) => uptoBulk d + 1
 end
def uptoSmall : (H : Type) → List (DataW H) → Bool := fun _ ds => decide (uptoBulkAll ds ≤ 1048576)
def OpenSpec.upto (s : _root_.Go.ChangeSpec) : _root_.Go.OpenSpec := { _root_.Go.OpenSpec.ofChange s with cond := some uptoSmall }

/-- 'surveyorlaw19.SignRefines', WHERE WHAT IT READS IS OF BULK AT MOST 1048576: true; the input reads as it did. -/
def signRefinesUptoRow : OpenClaim := { program := "ytlefniheafefgaa", sum := "15fa35267172c80c44b6e521f92a9182fdf6fd51184cb6173d2c4f6530b72a3c", func := "surveyor/surveyorlaw19.SignRefines", spec := "signRefines", unfollowed := true, recurses := true, apart := false, narrowed := true }
def SignRefinesUptoSaid : Prop := signRefinesUptoRow.holds Try.pinned (OpenSpec.upto signRefinesSpec)

/-- 'surveyorlaw19.SignComputes', WHERE WHAT IT READS IS OF BULK AT MOST 1048576: true; the input reads as it did. -/
def signComputesUptoRow : OpenClaim := { program := "ytlefniheafefgaa", sum := "15fa35267172c80c44b6e521f92a9182fdf6fd51184cb6173d2c4f6530b72a3c", func := "surveyor/surveyorlaw19.SignComputes", spec := "signComputes", unfollowed := true, recurses := true, apart := false, narrowed := true }
def SignComputesUptoSaid : Prop := signComputesUptoRow.holds Try.pinned (OpenSpec.upto signComputesSpec)

/-- 'surveyorlaw19.SignOrders', WHERE WHAT IT READS IS OF BULK AT MOST 1048576: true; the input reads as it did. -/
def signOrdersUptoRow : OpenClaim := { program := "ytlefniheafefgaa", sum := "15fa35267172c80c44b6e521f92a9182fdf6fd51184cb6173d2c4f6530b72a3c", func := "surveyor/surveyorlaw19.SignOrders", spec := "signOrders", unfollowed := true, recurses := true, apart := false, narrowed := true }
def SignOrdersUptoSaid : Prop := signOrdersUptoRow.holds Try.pinned (OpenSpec.upto signOrdersSpec)

/-- 'surveyorlaw19.SignGrows', WHERE WHAT IT READS IS OF BULK AT MOST 1048576: true; the input reads as it did. -/
def signGrowsUptoRow : OpenClaim := { program := "ytlefniheafefgaa", sum := "15fa35267172c80c44b6e521f92a9182fdf6fd51184cb6173d2c4f6530b72a3c", func := "surveyor/surveyorlaw19.SignGrows", spec := "signGrows", unfollowed := true, recurses := true, apart := false, narrowed := true }
def SignGrowsUptoSaid : Prop := signGrowsUptoRow.holds Try.pinned (OpenSpec.upto signGrowsSpec)

end Rows
end Go.Proofs.Ytlefniheafefgaa
