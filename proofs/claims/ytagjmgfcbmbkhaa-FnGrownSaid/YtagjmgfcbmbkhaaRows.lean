/-
  No cell of these rows narrows 'for every input' (looked for: loops, veiled, ifaces, maps, wideKeys, modest, calm, conditions, laid).
  DERIVED. THE GIVEN ROWS OF THIS SEAT. 5 by the template 'for every input the law returns true; each argument reads behind the call as it read before'; 0 by the template 'total and deterministic' (their statements: YtagjmgfcbmbkhaaTotals.lean).
  GIVEN WITH THE SEED: the statements are not yours to turn. If you find one false, say at which input.
  Laid BY PROGRAM, IN A SANDBOX (cutbox-rows.mjs): the forced cells as the released guide's own fill.sh prints them over the translation 9312e0fa3263f017… (all of the seat's roots in one cut). By AI agents, Wed Nov 11 2026. No macro, syntax, notation, axiom, sorry.
-/
import Derived.Test.YtagjmgfcbmbkhaaChecked
import GoSem.Claim
import GoSem.ClaimJoined
import GoSem.ClaimMapViews
import Derived.JoinedTies
import Derived.KernelRfl
namespace Go.Proofs.Ytagjmgfcbmbkhaa
/- THE CELL 'sum', in the pinned program and in every row, IS THE sha256 OF THE DUMP (.gsa) THAT YtagjmgfcbmbkhaaProg.lean LOADS. Nothing in Lean hashes anything: it is a label: what it is worth is what the hold of that sum in a sandbox is worth. -/
noncomputable def Try.pinned : Pinned := { name := "ytagjmgfcbmbkhaa", sum := "9312e0fa3263f017208f89cd05d8472c51b6bf64a31466a098607145b71b14ca", checked := Try.checked }
namespace Rows
def none {H : Type} : Left H := { results := [], args := [] }

/-- 'laws.FnWalkIsRoute': WHATEVER THE INPUT: true; the input reads as it did. -/
def fnWalkIsRouteSpec : ChangeSpec := { name := "fnWalkIsRoute", fn := fun _ => fun
  | [d] => { results := [.lit (.bool true)], args := [d] }
  | _ => none }
def fnWalkIsRouteRow : OpenClaim := { program := "ytagjmgfcbmbkhaa", sum := "9312e0fa3263f017208f89cd05d8472c51b6bf64a31466a098607145b71b14ca", func := "loop.example/g03311/laws.FnWalkIsRoute", spec := "fnWalkIsRoute", apart := false }
def FnWalkIsRouteSaid : Prop := fnWalkIsRouteRow.holds Try.pinned (OpenSpec.ofChange fnWalkIsRouteSpec)

/-- ITS FALSE NEIGHBOUR: 'it returns false'. Refute it at one input. -/
def fnWalkIsRouteWrong : ChangeSpec := { name := "fnWalkIsRoute", fn := fun _ => fun
  | [d] => { results := [.lit (.bool false)], args := [d] }
  | _ => none }
def FnWalkIsRouteWrongFalsely : Prop := fnWalkIsRouteRow.holds Try.pinned (OpenSpec.ofChange fnWalkIsRouteWrong)

/-- 'laws.FnRoutesApart': WHATEVER THE INPUT: true; the input reads as it did. -/
def fnRoutesApartSpec : ChangeSpec := { name := "fnRoutesApart", fn := fun _ => fun
  | [d] => { results := [.lit (.bool true)], args := [d] }
  | _ => none }
def fnRoutesApartRow : OpenClaim := { program := "ytagjmgfcbmbkhaa", sum := "9312e0fa3263f017208f89cd05d8472c51b6bf64a31466a098607145b71b14ca", func := "loop.example/g03311/laws.FnRoutesApart", spec := "fnRoutesApart", apart := false }
def FnRoutesApartSaid : Prop := fnRoutesApartRow.holds Try.pinned (OpenSpec.ofChange fnRoutesApartSpec)

/-- ITS FALSE NEIGHBOUR: 'it returns false'. Refute it at one input. -/
def fnRoutesApartWrong : ChangeSpec := { name := "fnRoutesApart", fn := fun _ => fun
  | [d] => { results := [.lit (.bool false)], args := [d] }
  | _ => none }
def FnRoutesApartWrongFalsely : Prop := fnRoutesApartRow.holds Try.pinned (OpenSpec.ofChange fnRoutesApartWrong)

/-- 'laws.FnDistancesRelaxed': WHATEVER THE INPUT: true; the input reads as it did. -/
def fnDistancesRelaxedSpec : ChangeSpec := { name := "fnDistancesRelaxed", fn := fun _ => fun
  | [d] => { results := [.lit (.bool true)], args := [d] }
  | _ => none }
def fnDistancesRelaxedRow : OpenClaim := { program := "ytagjmgfcbmbkhaa", sum := "9312e0fa3263f017208f89cd05d8472c51b6bf64a31466a098607145b71b14ca", func := "loop.example/g03311/laws.FnDistancesRelaxed", spec := "fnDistancesRelaxed", apart := false }
def FnDistancesRelaxedSaid : Prop := fnDistancesRelaxedRow.holds Try.pinned (OpenSpec.ofChange fnDistancesRelaxedSpec)

/-- ITS FALSE NEIGHBOUR: 'it returns false'. Refute it at one input. -/
def fnDistancesRelaxedWrong : ChangeSpec := { name := "fnDistancesRelaxed", fn := fun _ => fun
  | [d] => { results := [.lit (.bool false)], args := [d] }
  | _ => none }
def FnDistancesRelaxedWrongFalsely : Prop := fnDistancesRelaxedRow.holds Try.pinned (OpenSpec.ofChange fnDistancesRelaxedWrong)

/-- 'laws.FnPathLeast': WHATEVER THE INPUT: true; the input reads as it did. -/
def fnPathLeastSpec : ChangeSpec := { name := "fnPathLeast", fn := fun _ => fun
  | [d] => { results := [.lit (.bool true)], args := [d] }
  | _ => none }
def fnPathLeastRow : OpenClaim := { program := "ytagjmgfcbmbkhaa", sum := "9312e0fa3263f017208f89cd05d8472c51b6bf64a31466a098607145b71b14ca", func := "loop.example/g03311/laws.FnPathLeast", spec := "fnPathLeast", apart := false }
def FnPathLeastSaid : Prop := fnPathLeastRow.holds Try.pinned (OpenSpec.ofChange fnPathLeastSpec)

/-- ITS FALSE NEIGHBOUR: 'it returns false'. Refute it at one input. -/
def fnPathLeastWrong : ChangeSpec := { name := "fnPathLeast", fn := fun _ => fun
  | [d] => { results := [.lit (.bool false)], args := [d] }
  | _ => none }
def FnPathLeastWrongFalsely : Prop := fnPathLeastRow.holds Try.pinned (OpenSpec.ofChange fnPathLeastWrong)

/-- 'laws.FnGrown': WHATEVER THE INPUT: true; the input reads as it did. -/
def fnGrownSpec : ChangeSpec := { name := "fnGrown", fn := fun _ => fun
  | [d] => { results := [.lit (.bool true)], args := [d] }
  | _ => none }
def fnGrownRow : OpenClaim := { program := "ytagjmgfcbmbkhaa", sum := "9312e0fa3263f017208f89cd05d8472c51b6bf64a31466a098607145b71b14ca", func := "loop.example/g03311/laws.FnGrown", spec := "fnGrown", apart := false }
def FnGrownSaid : Prop := fnGrownRow.holds Try.pinned (OpenSpec.ofChange fnGrownSpec)

/-- ITS FALSE NEIGHBOUR: 'it returns false'. Refute it at one input. -/
def fnGrownWrong : ChangeSpec := { name := "fnGrown", fn := fun _ => fun
  | [d] => { results := [.lit (.bool false)], args := [d] }
  | _ => none }
def FnGrownWrongFalsely : Prop := fnGrownRow.holds Try.pinned (OpenSpec.ofChange fnGrownWrong)

/- THE SECOND FORM. 'bulk': how many values and letters a reading holds, each counted each time it is reached (what is shared counts as often as it is met; a slice's spare places count too). A statement '..UptoSaid' is the law's where the arguments, and the package variables that the reading takes, are together of bulk at most 1048576: NARROWER than '..Said'. Prove '..Said' where nothing that the law and all that it calls make is longer than what came in: it says more and counts as full. Else prove '..UptoSaid'. A law counts once. -/
mutual
def uptoBulk {H : Type} : DataW H → Nat
  | .lit (.string bytes) => bytes.length + 1
  | .lit _ => 1
  | .nil => 1
  | .ptr d => uptoBulk d + 1
  | .slice elems spare => uptoBulkAll elems + uptoBulkAll spare + 1
  | .agg parts => uptoBulkAll parts + 1
  | .iface _ d => uptoBulk d + 1
  | .map entries => uptoBulkEntries entries + 1
  | .held _ => 1
def uptoBulkAll {H : Type} : List (DataW H) → Nat
  | [] => 0
  | d :: r => uptoBulk d + uptoBulkAll r
def uptoBulkEntries {H : Type} : List (Lit × DataW H) → Nat
  | [] => 0
  | x :: r => uptoBulkEntry x + uptoBulkEntries r
def uptoBulkEntry {H : Type} : Lit × DataW H → Nat
  | (.string bytes, d) => bytes.length + uptoBulk d + 1
  | (_, d) => uptoBulk d + 1
 end
def uptoSmall : (H : Type) → List (DataW H) → Bool := fun _ ds => decide (uptoBulkAll ds ≤ 1048576)
def OpenSpec.upto (s : _root_.Go.ChangeSpec) : _root_.Go.OpenSpec := { _root_.Go.OpenSpec.ofChange s with cond := some uptoSmall }

/-- 'laws.FnWalkIsRoute', WHERE WHAT IT READS IS OF BULK AT MOST 1048576: true; the input reads as it did. -/
def fnWalkIsRouteUptoRow : OpenClaim := { program := "ytagjmgfcbmbkhaa", sum := "9312e0fa3263f017208f89cd05d8472c51b6bf64a31466a098607145b71b14ca", func := "loop.example/g03311/laws.FnWalkIsRoute", spec := "fnWalkIsRoute", apart := false, narrowed := true }
def FnWalkIsRouteUptoSaid : Prop := fnWalkIsRouteUptoRow.holds Try.pinned (OpenSpec.upto fnWalkIsRouteSpec)

/-- 'laws.FnRoutesApart', WHERE WHAT IT READS IS OF BULK AT MOST 1048576: true; the input reads as it did. -/
def fnRoutesApartUptoRow : OpenClaim := { program := "ytagjmgfcbmbkhaa", sum := "9312e0fa3263f017208f89cd05d8472c51b6bf64a31466a098607145b71b14ca", func := "loop.example/g03311/laws.FnRoutesApart", spec := "fnRoutesApart", apart := false, narrowed := true }
def FnRoutesApartUptoSaid : Prop := fnRoutesApartUptoRow.holds Try.pinned (OpenSpec.upto fnRoutesApartSpec)

/-- 'laws.FnDistancesRelaxed', WHERE WHAT IT READS IS OF BULK AT MOST 1048576: true; the input reads as it did. -/
def fnDistancesRelaxedUptoRow : OpenClaim := { program := "ytagjmgfcbmbkhaa", sum := "9312e0fa3263f017208f89cd05d8472c51b6bf64a31466a098607145b71b14ca", func := "loop.example/g03311/laws.FnDistancesRelaxed", spec := "fnDistancesRelaxed", apart := false, narrowed := true }
def FnDistancesRelaxedUptoSaid : Prop := fnDistancesRelaxedUptoRow.holds Try.pinned (OpenSpec.upto fnDistancesRelaxedSpec)

/-- 'laws.FnPathLeast', WHERE WHAT IT READS IS OF BULK AT MOST 1048576: true; the input reads as it did. -/
def fnPathLeastUptoRow : OpenClaim := { program := "ytagjmgfcbmbkhaa", sum := "9312e0fa3263f017208f89cd05d8472c51b6bf64a31466a098607145b71b14ca", func := "loop.example/g03311/laws.FnPathLeast", spec := "fnPathLeast", apart := false, narrowed := true }
def FnPathLeastUptoSaid : Prop := fnPathLeastUptoRow.holds Try.pinned (OpenSpec.upto fnPathLeastSpec)

/-- 'laws.FnGrown', WHERE WHAT IT READS IS OF BULK AT MOST 1048576: true; the input reads as it did. -/
def fnGrownUptoRow : OpenClaim := { program := "ytagjmgfcbmbkhaa", sum := "9312e0fa3263f017208f89cd05d8472c51b6bf64a31466a098607145b71b14ca", func := "loop.example/g03311/laws.FnGrown", spec := "fnGrown", apart := false, narrowed := true }
def FnGrownUptoSaid : Prop := fnGrownUptoRow.holds Try.pinned (OpenSpec.upto fnGrownSpec)

end Rows
end Go.Proofs.Ytagjmgfcbmbkhaa
