/-
  No cell of these rows narrows 'for every input' (looked for: loops, veiled, ifaces, maps, wideKeys, modest, calm, conditions, laid).
  DERIVED. THE GIVEN ROWS OF THIS SEAT. 4 by the template 'for every input the law returns true; each argument reads behind the call as it read before'; 0 by the template 'total and deterministic' (their statements: YtakjndmlanpadaaTotals.lean).
  GIVEN WITH THE SEED: the statements are not yours to turn. If you find one false, say at which input.
  Laid BY PROGRAM, IN A SANDBOX (cutbox-rows.mjs): the forced cells as the released guide's own fill.sh prints them over the translation 0a63b2fa1830aae8… (all of the seat's roots in one cut). By AI agents, Wed Nov 11 2026. No macro, syntax, notation, axiom, sorry.
-/
import Derived.Test.YtakjndmlanpadaaChecked
import GoSem.Claim
import GoSem.ClaimJoined
import GoSem.ClaimMapViews
import Derived.JoinedTies
import Derived.KernelRfl
namespace Go.Proofs.Ytakjndmlanpadaa
/- THE CELL 'sum', in the pinned program and in every row, IS THE sha256 OF THE DUMP (.gsa) THAT YtakjndmlanpadaaProg.lean LOADS. Nothing in Lean hashes anything: it is a label: what it is worth is what the hold of that sum in a sandbox is worth. -/
noncomputable def Try.pinned : Pinned := { name := "ytakjndmlanpadaa", sum := "0a63b2fa1830aae83204d84b725fdb4686e969e84030d00f488771b23b474af4", checked := Try.checked }
namespace Rows
def none {H : Type} : Left H := { results := [], args := [] }

/-- 'laws.FnLutSteps': WHATEVER THE INPUT: true; the input reads as it did. -/
def fnLutStepsSpec : ChangeSpec := { name := "fnLutSteps", fn := fun _ => fun
  | [d] => { results := [.lit (.bool true)], args := [d] }
  | _ => none }
def fnLutStepsRow : OpenClaim := { program := "ytakjndmlanpadaa", sum := "0a63b2fa1830aae83204d84b725fdb4686e969e84030d00f488771b23b474af4", func := "loop.example/g03311/laws.FnLutSteps", spec := "fnLutSteps", apart := false }
def FnLutStepsSaid : Prop := fnLutStepsRow.holds Try.pinned (OpenSpec.ofChange fnLutStepsSpec)

/-- ITS FALSE NEIGHBOUR: 'it returns false'. Refute it at one input. -/
def fnLutStepsWrong : ChangeSpec := { name := "fnLutSteps", fn := fun _ => fun
  | [d] => { results := [.lit (.bool false)], args := [d] }
  | _ => none }
def FnLutStepsWrongFalsely : Prop := fnLutStepsRow.holds Try.pinned (OpenSpec.ofChange fnLutStepsWrong)

/-- 'laws.FnSettles': WHATEVER THE INPUT: true; the input reads as it did. -/
def fnSettlesSpec : ChangeSpec := { name := "fnSettles", fn := fun _ => fun
  | [d] => { results := [.lit (.bool true)], args := [d] }
  | _ => none }
def fnSettlesRow : OpenClaim := { program := "ytakjndmlanpadaa", sum := "0a63b2fa1830aae83204d84b725fdb4686e969e84030d00f488771b23b474af4", func := "loop.example/g03311/laws.FnSettles", spec := "fnSettles", apart := false }
def FnSettlesSaid : Prop := fnSettlesRow.holds Try.pinned (OpenSpec.ofChange fnSettlesSpec)

/-- ITS FALSE NEIGHBOUR: 'it returns false'. Refute it at one input. -/
def fnSettlesWrong : ChangeSpec := { name := "fnSettles", fn := fun _ => fun
  | [d] => { results := [.lit (.bool false)], args := [d] }
  | _ => none }
def FnSettlesWrongFalsely : Prop := fnSettlesRow.holds Try.pinned (OpenSpec.ofChange fnSettlesWrong)

/-- 'laws.FnSetup': WHATEVER THE INPUT: true; the input reads as it did. -/
def fnSetupSpec : ChangeSpec := { name := "fnSetup", fn := fun _ => fun
  | [d] => { results := [.lit (.bool true)], args := [d] }
  | _ => none }
def fnSetupRow : OpenClaim := { program := "ytakjndmlanpadaa", sum := "0a63b2fa1830aae83204d84b725fdb4686e969e84030d00f488771b23b474af4", func := "loop.example/g03311/laws.FnSetup", spec := "fnSetup", unfollowed := true, recurses := true, apart := false }
def FnSetupSaid : Prop := fnSetupRow.holds Try.pinned (OpenSpec.ofChange fnSetupSpec)

/-- ITS FALSE NEIGHBOUR: 'it returns false'. Refute it at one input. -/
def fnSetupWrong : ChangeSpec := { name := "fnSetup", fn := fun _ => fun
  | [d] => { results := [.lit (.bool false)], args := [d] }
  | _ => none }
def FnSetupWrongFalsely : Prop := fnSetupRow.holds Try.pinned (OpenSpec.ofChange fnSetupWrong)

/-- 'laws.FnHold': WHATEVER THE INPUT: true; the input reads as it did. -/
def fnHoldSpec : ChangeSpec := { name := "fnHold", fn := fun _ => fun
  | [d] => { results := [.lit (.bool true)], args := [d] }
  | _ => none }
def fnHoldRow : OpenClaim := { program := "ytakjndmlanpadaa", sum := "0a63b2fa1830aae83204d84b725fdb4686e969e84030d00f488771b23b474af4", func := "loop.example/g03311/laws.FnHold", spec := "fnHold", unfollowed := true, recurses := true, apart := false }
def FnHoldSaid : Prop := fnHoldRow.holds Try.pinned (OpenSpec.ofChange fnHoldSpec)

/-- ITS FALSE NEIGHBOUR: 'it returns false'. Refute it at one input. -/
def fnHoldWrong : ChangeSpec := { name := "fnHold", fn := fun _ => fun
  | [d] => { results := [.lit (.bool false)], args := [d] }
  | _ => none }
def FnHoldWrongFalsely : Prop := fnHoldRow.holds Try.pinned (OpenSpec.ofChange fnHoldWrong)

/- THE SECOND FORM. 'bulk': how many values and letters a reading holds, each counted each time it is reached (what is shared counts as often as it is met; a slice's spare places count too). A statement '..UptoSaid' is the law's where the arguments, and the package variables that the reading takes, are together of bulk at most 1048576: NARROWER than '..Said'. Prove '..Said' where nothing that the law and all that it calls make is longer than what came in: it says more and counts as full. Else prove '..UptoSaid'. A law counts once. -/
mutual
def uptoBulk {H : Type} : DataW H → Nat
  | .lit (.string bytes) => bytes.length + 1
  | .lit _ => 1
  | .nil => 1
  | .ptr d => uptoBulk d + 1
  | .slice elems spare => uptoBulkAll elems + uptoBulkAll spare + 1
  | .agg parts => uptoBulkAll parts + 1
  | .iface _ d => uptoBulk d + 1
  | .map entries => uptoBulkEntries entries + 1
  | .held _ => 1
def uptoBulkAll {H : Type} : List (DataW H) → Nat
  | [] => 0
  | d :: r => uptoBulk d + uptoBulkAll r
def uptoBulkEntries {H : Type} : List (Lit × DataW H) → Nat
  | [] => 0
  | x :: r => uptoBulkEntry x + uptoBulkEntries r
def uptoBulkEntry {H : Type} : Lit × DataW H → Nat
  | (.string bytes, d) => bytes.length + uptoBulk d + 1
  | (_, d) => uptoBulk d + 1
 end
def uptoSmall : (H : Type) → List (DataW H) → Bool := fun _ ds => decide (uptoBulkAll ds ≤ 1048576)
def OpenSpec.upto (s : _root_.Go.ChangeSpec) : _root_.Go.OpenSpec := { _root_.Go.OpenSpec.ofChange s with cond := some uptoSmall }

/-- 'laws.FnLutSteps', WHERE WHAT IT READS IS OF BULK AT MOST 1048576: true; the input reads as it did. -/
def fnLutStepsUptoRow : OpenClaim := { program := "ytakjndmlanpadaa", sum := "0a63b2fa1830aae83204d84b725fdb4686e969e84030d00f488771b23b474af4", func := "loop.example/g03311/laws.FnLutSteps", spec := "fnLutSteps", apart := false, narrowed := true }
def FnLutStepsUptoSaid : Prop := fnLutStepsUptoRow.holds Try.pinned (OpenSpec.upto fnLutStepsSpec)

/-- 'laws.FnSettles', WHERE WHAT IT READS IS OF BULK AT MOST 1048576: true; the input reads as it did. -/
def fnSettlesUptoRow : OpenClaim := { program := "ytakjndmlanpadaa", sum := "0a63b2fa1830aae83204d84b725fdb4686e969e84030d00f488771b23b474af4", func := "loop.example/g03311/laws.FnSettles", spec := "fnSettles", apart := false, narrowed := true }
def FnSettlesUptoSaid : Prop := fnSettlesUptoRow.holds Try.pinned (OpenSpec.upto fnSettlesSpec)

/-- 'laws.FnSetup', WHERE WHAT IT READS IS OF BULK AT MOST 1048576: true; the input reads as it did. -/
def fnSetupUptoRow : OpenClaim := { program := "ytakjndmlanpadaa", sum := "0a63b2fa1830aae83204d84b725fdb4686e969e84030d00f488771b23b474af4", func := "loop.example/g03311/laws.FnSetup", spec := "fnSetup", unfollowed := true, recurses := true, apart := false, narrowed := true }
def FnSetupUptoSaid : Prop := fnSetupUptoRow.holds Try.pinned (OpenSpec.upto fnSetupSpec)

/-- 'laws.FnHold', WHERE WHAT IT READS IS OF BULK AT MOST 1048576: true; the input reads as it did. -/
def fnHoldUptoRow : OpenClaim := { program := "ytakjndmlanpadaa", sum := "0a63b2fa1830aae83204d84b725fdb4686e969e84030d00f488771b23b474af4", func := "loop.example/g03311/laws.FnHold", spec := "fnHold", unfollowed := true, recurses := true, apart := false, narrowed := true }
def FnHoldUptoSaid : Prop := fnHoldUptoRow.holds Try.pinned (OpenSpec.upto fnHoldSpec)

end Rows
end Go.Proofs.Ytakjndmlanpadaa
