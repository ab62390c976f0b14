/-
  No cell of these rows narrows 'for every input' (looked for: loops, veiled, ifaces, maps, wideKeys, modest, calm, conditions, laid).
  DERIVED. THE GIVEN ROWS OF THIS SEAT. 8 by the template 'for every input the law returns true; each argument reads behind the call as it read before'; 0 by the template 'total and deterministic' (their statements: YtakbbebpimlnpaaTotals.lean).
  GIVEN WITH THE SEED: the statements are not yours to turn. If you find one false, say at which input.
  Laid BY PROGRAM, IN A SANDBOX (cutbox-rows.mjs): the forced cells as the released guide's own fill.sh prints them over the translation 181fd25b9bdb973b… (all of the seat's roots in one cut). By AI agents, Wed Nov 11 2026. No macro, syntax, notation, axiom, sorry.
-/
import Derived.Test.YtakbbebpimlnpaaChecked
import GoSem.Claim
import GoSem.ClaimJoined
import GoSem.ClaimMapViews
import Derived.JoinedTies
import Derived.KernelRfl
namespace Go.Proofs.Ytakbbebpimlnpaa
/- THE CELL 'sum', in the pinned program and in every row, IS THE sha256 OF THE DUMP (.gsa) THAT YtakbbebpimlnpaaProg.lean LOADS. Nothing in Lean hashes anything: it is a label: what it is worth is what the hold of that sum in a sandbox is worth. -/
noncomputable def Try.pinned : Pinned := { name := "ytakbbebpimlnpaa", sum := "181fd25b9bdb973b8f83360e61eea7d698cea9133042256d10eb8006bdff8bc7", checked := Try.checked }
namespace Rows
def none {H : Type} : Left H := { results := [], args := [] }

/-- 'laws.FnConjuncts': WHATEVER THE INPUT: true; the input reads as it did. -/
def fnConjunctsSpec : ChangeSpec := { name := "fnConjuncts", fn := fun _ => fun
  | [d] => { results := [.lit (.bool true)], args := [d] }
  | _ => none }
def fnConjunctsRow : OpenClaim := { program := "ytakbbebpimlnpaa", sum := "181fd25b9bdb973b8f83360e61eea7d698cea9133042256d10eb8006bdff8bc7", func := "loop.example/g03311/laws.FnConjuncts", spec := "fnConjuncts", plainKeys := false, apart := false }
def FnConjunctsSaid : Prop := fnConjunctsRow.holds Try.pinned (OpenSpec.ofChange fnConjunctsSpec)

/-- ITS FALSE NEIGHBOUR: 'it returns false'. Refute it at one input. -/
def fnConjunctsWrong : ChangeSpec := { name := "fnConjuncts", fn := fun _ => fun
  | [d] => { results := [.lit (.bool false)], args := [d] }
  | _ => none }
def FnConjunctsWrongFalsely : Prop := fnConjunctsRow.holds Try.pinned (OpenSpec.ofChange fnConjunctsWrong)

/-- 'laws.FnGates': WHATEVER THE INPUT: true; the input reads as it did. -/
def fnGatesSpec : ChangeSpec := { name := "fnGates", fn := fun _ => fun
  | [d] => { results := [.lit (.bool true)], args := [d] }
  | _ => none }
def fnGatesRow : OpenClaim := { program := "ytakbbebpimlnpaa", sum := "181fd25b9bdb973b8f83360e61eea7d698cea9133042256d10eb8006bdff8bc7", func := "loop.example/g03311/laws.FnGates", spec := "fnGates", unfollowed := true, recurses := true, plainKeys := false, apart := false }
def FnGatesSaid : Prop := fnGatesRow.holds Try.pinned (OpenSpec.ofChange fnGatesSpec)

/-- ITS FALSE NEIGHBOUR: 'it returns false'. Refute it at one input. -/
def fnGatesWrong : ChangeSpec := { name := "fnGates", fn := fun _ => fun
  | [d] => { results := [.lit (.bool false)], args := [d] }
  | _ => none }
def FnGatesWrongFalsely : Prop := fnGatesRow.holds Try.pinned (OpenSpec.ofChange fnGatesWrong)

/-- 'laws.FnClausesMean': WHATEVER THE INPUT: true; the input reads as it did. -/
def fnClausesMeanSpec : ChangeSpec := { name := "fnClausesMean", fn := fun _ => fun
  | [d] => { results := [.lit (.bool true)], args := [d] }
  | _ => none }
def fnClausesMeanRow : OpenClaim := { program := "ytakbbebpimlnpaa", sum := "181fd25b9bdb973b8f83360e61eea7d698cea9133042256d10eb8006bdff8bc7", func := "loop.example/g03311/laws.FnClausesMean", spec := "fnClausesMean", recurses := true, plainKeys := false, apart := false }
def FnClausesMeanSaid : Prop := fnClausesMeanRow.holds Try.pinned (OpenSpec.ofChange fnClausesMeanSpec)

/-- ITS FALSE NEIGHBOUR: 'it returns false'. Refute it at one input. -/
def fnClausesMeanWrong : ChangeSpec := { name := "fnClausesMean", fn := fun _ => fun
  | [d] => { results := [.lit (.bool false)], args := [d] }
  | _ => none }
def FnClausesMeanWrongFalsely : Prop := fnClausesMeanRow.holds Try.pinned (OpenSpec.ofChange fnClausesMeanWrong)

/-- 'laws.FnSolveLit': WHATEVER THE INPUT: true; the input reads as it did. -/
def fnSolveLitSpec : ChangeSpec := { name := "fnSolveLit", fn := fun _ => fun
  | [d] => { results := [.lit (.bool true)], args := [d] }
  | _ => none }
def fnSolveLitRow : OpenClaim := { program := "ytakbbebpimlnpaa", sum := "181fd25b9bdb973b8f83360e61eea7d698cea9133042256d10eb8006bdff8bc7", func := "loop.example/g03311/laws.FnSolveLit", spec := "fnSolveLit", recurses := true, plainKeys := false, apart := false }
def FnSolveLitSaid : Prop := fnSolveLitRow.holds Try.pinned (OpenSpec.ofChange fnSolveLitSpec)

/-- ITS FALSE NEIGHBOUR: 'it returns false'. Refute it at one input. -/
def fnSolveLitWrong : ChangeSpec := { name := "fnSolveLit", fn := fun _ => fun
  | [d] => { results := [.lit (.bool false)], args := [d] }
  | _ => none }
def FnSolveLitWrongFalsely : Prop := fnSolveLitRow.holds Try.pinned (OpenSpec.ofChange fnSolveLitWrong)

/-- 'laws.FnCutMeans': WHATEVER THE INPUT: true; the input reads as it did. -/
def fnCutMeansSpec : ChangeSpec := { name := "fnCutMeans", fn := fun _ => fun
  | [d] => { results := [.lit (.bool true)], args := [d] }
  | _ => none }
def fnCutMeansRow : OpenClaim := { program := "ytakbbebpimlnpaa", sum := "181fd25b9bdb973b8f83360e61eea7d698cea9133042256d10eb8006bdff8bc7", func := "loop.example/g03311/laws.FnCutMeans", spec := "fnCutMeans", unfollowed := true, recurses := true, plainKeys := false, apart := false }
def FnCutMeansSaid : Prop := fnCutMeansRow.holds Try.pinned (OpenSpec.ofChange fnCutMeansSpec)

/-- ITS FALSE NEIGHBOUR: 'it returns false'. Refute it at one input. -/
def fnCutMeansWrong : ChangeSpec := { name := "fnCutMeans", fn := fun _ => fun
  | [d] => { results := [.lit (.bool false)], args := [d] }
  | _ => none }
def FnCutMeansWrongFalsely : Prop := fnCutMeansRow.holds Try.pinned (OpenSpec.ofChange fnCutMeansWrong)

/-- 'laws.FnCoverLogic': WHATEVER THE INPUT: true; the input reads as it did. -/
def fnCoverLogicSpec : ChangeSpec := { name := "fnCoverLogic", fn := fun _ => fun
  | [d] => { results := [.lit (.bool true)], args := [d] }
  | _ => none }
def fnCoverLogicRow : OpenClaim := { program := "ytakbbebpimlnpaa", sum := "181fd25b9bdb973b8f83360e61eea7d698cea9133042256d10eb8006bdff8bc7", func := "loop.example/g03311/laws.FnCoverLogic", spec := "fnCoverLogic", unfollowed := true, recurses := true, plainKeys := false, apart := false }
def FnCoverLogicSaid : Prop := fnCoverLogicRow.holds Try.pinned (OpenSpec.ofChange fnCoverLogicSpec)

/-- ITS FALSE NEIGHBOUR: 'it returns false'. Refute it at one input. -/
def fnCoverLogicWrong : ChangeSpec := { name := "fnCoverLogic", fn := fun _ => fun
  | [d] => { results := [.lit (.bool false)], args := [d] }
  | _ => none }
def FnCoverLogicWrongFalsely : Prop := fnCoverLogicRow.holds Try.pinned (OpenSpec.ofChange fnCoverLogicWrong)

/-- 'laws.FnClassesSound': WHATEVER THE INPUT: true; the input reads as it did. -/
def fnClassesSoundSpec : ChangeSpec := { name := "fnClassesSound", fn := fun _ => fun
  | [d] => { results := [.lit (.bool true)], args := [d] }
  | _ => none }
def fnClassesSoundRow : OpenClaim := { program := "ytakbbebpimlnpaa", sum := "181fd25b9bdb973b8f83360e61eea7d698cea9133042256d10eb8006bdff8bc7", func := "loop.example/g03311/laws.FnClassesSound", spec := "fnClassesSound", plainKeys := false, apart := false }
def FnClassesSoundSaid : Prop := fnClassesSoundRow.holds Try.pinned (OpenSpec.ofChange fnClassesSoundSpec)

/-- ITS FALSE NEIGHBOUR: 'it returns false'. Refute it at one input. -/
def fnClassesSoundWrong : ChangeSpec := { name := "fnClassesSound", fn := fun _ => fun
  | [d] => { results := [.lit (.bool false)], args := [d] }
  | _ => none }
def FnClassesSoundWrongFalsely : Prop := fnClassesSoundRow.holds Try.pinned (OpenSpec.ofChange fnClassesSoundWrong)

/-- 'laws.FnHeightCut': WHATEVER THE INPUT: true; the input reads as it did. -/
def fnHeightCutSpec : ChangeSpec := { name := "fnHeightCut", fn := fun _ => fun
  | [d] => { results := [.lit (.bool true)], args := [d] }
  | _ => none }
def fnHeightCutRow : OpenClaim := { program := "ytakbbebpimlnpaa", sum := "181fd25b9bdb973b8f83360e61eea7d698cea9133042256d10eb8006bdff8bc7", func := "loop.example/g03311/laws.FnHeightCut", spec := "fnHeightCut", unfollowed := true, recurses := true, plainKeys := false, apart := false }
def FnHeightCutSaid : Prop := fnHeightCutRow.holds Try.pinned (OpenSpec.ofChange fnHeightCutSpec)

/-- ITS FALSE NEIGHBOUR: 'it returns false'. Refute it at one input. -/
def fnHeightCutWrong : ChangeSpec := { name := "fnHeightCut", fn := fun _ => fun
  | [d] => { results := [.lit (.bool false)], args := [d] }
  | _ => none }
def FnHeightCutWrongFalsely : Prop := fnHeightCutRow.holds Try.pinned (OpenSpec.ofChange fnHeightCutWrong)

/- THE SECOND FORM. 'bulk': how many values and letters a reading holds, each counted each time it is reached (what is shared counts as often as it is met; a slice's spare places count too). A statement '..UptoSaid' is the law's where the arguments, and the package variables that the reading takes, are together of bulk at most 1048576: NARROWER than '..Said'. Prove '..Said' where nothing that the law and all that it calls make is longer than what came in: it says more and counts as full. Else prove '..UptoSaid'. A law counts once. -/
mutual
def uptoBulk {H : Type} : DataW H → Nat
  | .lit (.string bytes) => bytes.length + 1
  | .lit _ => 1
  | .nil => 1
  | .ptr d => uptoBulk d + 1
  | .slice elems spare => uptoBulkAll elems + uptoBulkAll spare + 1
  | .agg parts => uptoBulkAll parts + 1
  | .iface _ d => uptoBulk d + 1
  | .map entries => uptoBulkEntries entries + 1
  | .held _ => 1
def uptoBulkAll {H : Type} : List (DataW H) → Nat
  | [] => 0
  | d :: r => uptoBulk d + uptoBulkAll r
def uptoBulkEntries {H : Type} : List (Lit × DataW H) → Nat
  | [] => 0
  | x :: r => uptoBulkEntry x + uptoBulkEntries r
def uptoBulkEntry {H : Type} : Lit × DataW H → Nat
  | (.string bytes, d) => bytes.length + uptoBulk d + 1
  | (_, d) => uptoBulk d + 1
 end
def uptoSmall : (H : Type) → List (DataW H) → Bool := fun _ ds => decide (uptoBulkAll ds ≤ 1048576)
def OpenSpec.upto (s : _root_.Go.ChangeSpec) : _root_.Go.OpenSpec := { _root_.Go.OpenSpec.ofChange s with cond := some uptoSmall }

/-- 'laws.FnConjuncts', WHERE WHAT IT READS IS OF BULK AT MOST 1048576: true; the input reads as it did. -/
def fnConjunctsUptoRow : OpenClaim := { program := "ytakbbebpimlnpaa", sum := "181fd25b9bdb973b8f83360e61eea7d698cea9133042256d10eb8006bdff8bc7", func := "loop.example/g03311/laws.FnConjuncts", spec := "fnConjuncts", plainKeys := false, apart := false, narrowed := true }
def FnConjunctsUptoSaid : Prop := fnConjunctsUptoRow.holds Try.pinned (OpenSpec.upto fnConjunctsSpec)

/-- 'laws.FnGates', WHERE WHAT IT READS IS OF BULK AT MOST 1048576: true; the input reads as it did. -/
def fnGatesUptoRow : OpenClaim := { program := "ytakbbebpimlnpaa", sum := "181fd25b9bdb973b8f83360e61eea7d698cea9133042256d10eb8006bdff8bc7", func := "loop.example/g03311/laws.FnGates", spec := "fnGates", unfollowed := true, recurses := true, plainKeys := false, apart := false, narrowed := true }
def FnGatesUptoSaid : Prop := fnGatesUptoRow.holds Try.pinned (OpenSpec.upto fnGatesSpec)

/-- 'laws.FnClausesMean', WHERE WHAT IT READS IS OF BULK AT MOST 1048576: true; the input reads as it did. -/
def fnClausesMeanUptoRow : OpenClaim := { program := "ytakbbebpimlnpaa", sum := "181fd25b9bdb973b8f83360e61eea7d698cea9133042256d10eb8006bdff8bc7", func := "loop.example/g03311/laws.FnClausesMean", spec := "fnClausesMean", recurses := true, plainKeys := false, apart := false, narrowed := true }
def FnClausesMeanUptoSaid : Prop := fnClausesMeanUptoRow.holds Try.pinned (OpenSpec.upto fnClausesMeanSpec)

/-- 'laws.FnSolveLit', WHERE WHAT IT READS IS OF BULK AT MOST 1048576: true; the input reads as it did. -/
def fnSolveLitUptoRow : OpenClaim := { program := "ytakbbebpimlnpaa", sum := "181fd25b9bdb973b8f83360e61eea7d698cea9133042256d10eb8006bdff8bc7", func := "loop.example/g03311/laws.FnSolveLit", spec := "fnSolveLit", recurses := true, plainKeys := false, apart := false, narrowed := true }
def FnSolveLitUptoSaid : Prop := fnSolveLitUptoRow.holds Try.pinned (OpenSpec.upto fnSolveLitSpec)

/-- 'laws.FnCutMeans', WHERE WHAT IT READS IS OF BULK AT MOST 1048576: true; the input reads as it did. -/
def fnCutMeansUptoRow : OpenClaim := { program := "ytakbbebpimlnpaa", sum := "181fd25b9bdb973b8f83360e61eea7d698cea9133042256d10eb8006bdff8bc7", func := "loop.example/g03311/laws.FnCutMeans", spec := "fnCutMeans", unfollowed := true, recurses := true, plainKeys := false, apart := false, narrowed := true }
def FnCutMeansUptoSaid : Prop := fnCutMeansUptoRow.holds Try.pinned (OpenSpec.upto fnCutMeansSpec)

/-- 'laws.FnCoverLogic', WHERE WHAT IT READS IS OF BULK AT MOST 1048576: true; the input reads as it did. -/
def fnCoverLogicUptoRow : OpenClaim := { program := "ytakbbebpimlnpaa", sum := "181fd25b9bdb973b8f83360e61eea7d698cea9133042256d10eb8006bdff8bc7", func := "loop.example/g03311/laws.FnCoverLogic", spec := "fnCoverLogic", unfollowed := true, recurses := true, plainKeys := false, apart := false, narrowed := true }
def FnCoverLogicUptoSaid : Prop := fnCoverLogicUptoRow.holds Try.pinned (OpenSpec.upto fnCoverLogicSpec)

/-- 'laws.FnClassesSound', WHERE WHAT IT READS IS OF BULK AT MOST 1048576: true; the input reads as it did. -/
def fnClassesSoundUptoRow : OpenClaim := { program := "ytakbbebpimlnpaa", sum := "181fd25b9bdb973b8f83360e61eea7d698cea9133042256d10eb8006bdff8bc7", func := "loop.example/g03311/laws.FnClassesSound", spec := "fnClassesSound", plainKeys := false, apart := false, narrowed := true }
def FnClassesSoundUptoSaid : Prop := fnClassesSoundUptoRow.holds Try.pinned (OpenSpec.upto fnClassesSoundSpec)

/-- 'laws.FnHeightCut', WHERE WHAT IT READS IS OF BULK AT MOST 1048576: true; the input reads as it did. -/
def fnHeightCutUptoRow : OpenClaim := { program := "ytakbbebpimlnpaa", sum := "181fd25b9bdb973b8f83360e61eea7d698cea9133042256d10eb8006bdff8bc7", func := "loop.example/g03311/laws.FnHeightCut", spec := "fnHeightCut", unfollowed := true, recurses := true, plainKeys := false, apart := false, narrowed := true }
def FnHeightCutUptoSaid : Prop := fnHeightCutUptoRow.holds Try.pinned (OpenSpec.upto fnHeightCutSpec)

end Rows
end Go.Proofs.Ytakbbebpimlnpaa
