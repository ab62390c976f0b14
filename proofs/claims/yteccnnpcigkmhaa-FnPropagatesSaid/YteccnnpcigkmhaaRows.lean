/-
  No cell of these rows narrows 'for every input' (looked for: loops, veiled, ifaces, maps, wideKeys, modest, calm, conditions, laid).
  DERIVED. THE GIVEN ROWS OF THIS SEAT. 4 by the template 'for every input the law returns true; each argument reads behind the call as it read before'; 0 by the template 'total and deterministic' (their statements: YteccnnpcigkmhaaTotals.lean).
  GIVEN WITH THE SEED: the statements are not yours to turn. If you find one false, say at which input.
  Laid BY PROGRAM, IN A SANDBOX (cutbox-rows.mjs): the forced cells as the released guide's own fill.sh prints them over the translation 8656cf6f6e5b0fae… (all of the seat's roots in one cut). By AI agents, Wed Nov 11 2026. No macro, syntax, notation, axiom, sorry.
-/
import Derived.Test.YteccnnpcigkmhaaChecked
import GoSem.Claim
import GoSem.ClaimJoined
import GoSem.ClaimMapViews
import Derived.JoinedTies
import Derived.KernelRfl
namespace Go.Proofs.Yteccnnpcigkmhaa
/- THE CELL 'sum', in the pinned program and in every row, IS THE sha256 OF THE DUMP (.gsa) THAT YteccnnpcigkmhaaProg.lean LOADS. Nothing in Lean hashes anything: it is a label: what it is worth is what the hold of that sum in a sandbox is worth. -/
noncomputable def Try.pinned : Pinned := { name := "yteccnnpcigkmhaa", sum := "8656cf6f6e5b0fae6f6d9fb79cc044cd499b96a4189d5983103f9ead762e2de5", checked := Try.checked }
namespace Rows
def none {H : Type} : Left H := { results := [], args := [] }

/-- 'laws.FnImplicantInPrime': WHATEVER THE INPUT: true; the input reads as it did. -/
def fnImplicantInPrimeSpec : ChangeSpec := { name := "fnImplicantInPrime", fn := fun _ => fun
  | [d] => { results := [.lit (.bool true)], args := [d] }
  | _ => none }
def fnImplicantInPrimeRow : OpenClaim := { program := "yteccnnpcigkmhaa", sum := "8656cf6f6e5b0fae6f6d9fb79cc044cd499b96a4189d5983103f9ead762e2de5", func := "loop.example/g03311/laws.FnImplicantInPrime", spec := "fnImplicantInPrime", apart := false }
def FnImplicantInPrimeSaid : Prop := fnImplicantInPrimeRow.holds Try.pinned (OpenSpec.ofChange fnImplicantInPrimeSpec)

/-- ITS FALSE NEIGHBOUR: 'it returns false'. Refute it at one input. -/
def fnImplicantInPrimeWrong : ChangeSpec := { name := "fnImplicantInPrime", fn := fun _ => fun
  | [d] => { results := [.lit (.bool false)], args := [d] }
  | _ => none }
def FnImplicantInPrimeWrongFalsely : Prop := fnImplicantInPrimeRow.holds Try.pinned (OpenSpec.ofChange fnImplicantInPrimeWrong)

/-- 'laws.FnSlackPeriod': WHATEVER THE INPUT: true; the input reads as it did. -/
def fnSlackPeriodSpec : ChangeSpec := { name := "fnSlackPeriod", fn := fun _ => fun
  | [d] => { results := [.lit (.bool true)], args := [d] }
  | _ => none }
def fnSlackPeriodRow : OpenClaim := { program := "yteccnnpcigkmhaa", sum := "8656cf6f6e5b0fae6f6d9fb79cc044cd499b96a4189d5983103f9ead762e2de5", func := "loop.example/g03311/laws.FnSlackPeriod", spec := "fnSlackPeriod", unfollowed := true, recurses := true, apart := false }
def FnSlackPeriodSaid : Prop := fnSlackPeriodRow.holds Try.pinned (OpenSpec.ofChange fnSlackPeriodSpec)

/-- ITS FALSE NEIGHBOUR: 'it returns false'. Refute it at one input. -/
def fnSlackPeriodWrong : ChangeSpec := { name := "fnSlackPeriod", fn := fun _ => fun
  | [d] => { results := [.lit (.bool false)], args := [d] }
  | _ => none }
def FnSlackPeriodWrongFalsely : Prop := fnSlackPeriodRow.holds Try.pinned (OpenSpec.ofChange fnSlackPeriodWrong)

/-- 'laws.FnCriticalPath': WHATEVER THE INPUT: true; the input reads as it did. -/
def fnCriticalPathSpec : ChangeSpec := { name := "fnCriticalPath", fn := fun _ => fun
  | [d] => { results := [.lit (.bool true)], args := [d] }
  | _ => none }
def fnCriticalPathRow : OpenClaim := { program := "yteccnnpcigkmhaa", sum := "8656cf6f6e5b0fae6f6d9fb79cc044cd499b96a4189d5983103f9ead762e2de5", func := "loop.example/g03311/laws.FnCriticalPath", spec := "fnCriticalPath", apart := false }
def FnCriticalPathSaid : Prop := fnCriticalPathRow.holds Try.pinned (OpenSpec.ofChange fnCriticalPathSpec)

/-- ITS FALSE NEIGHBOUR: 'it returns false'. Refute it at one input. -/
def fnCriticalPathWrong : ChangeSpec := { name := "fnCriticalPath", fn := fun _ => fun
  | [d] => { results := [.lit (.bool false)], args := [d] }
  | _ => none }
def FnCriticalPathWrongFalsely : Prop := fnCriticalPathRow.holds Try.pinned (OpenSpec.ofChange fnCriticalPathWrong)

/-- 'laws.FnPropagates': WHATEVER THE INPUT: true; the input reads as it did. -/
def fnPropagatesSpec : ChangeSpec := { name := "fnPropagates", fn := fun _ => fun
  | [d] => { results := [.lit (.bool true)], args := [d] }
  | _ => none }
def fnPropagatesRow : OpenClaim := { program := "yteccnnpcigkmhaa", sum := "8656cf6f6e5b0fae6f6d9fb79cc044cd499b96a4189d5983103f9ead762e2de5", func := "loop.example/g03311/laws.FnPropagates", spec := "fnPropagates", apart := false }
def FnPropagatesSaid : Prop := fnPropagatesRow.holds Try.pinned (OpenSpec.ofChange fnPropagatesSpec)

/-- ITS FALSE NEIGHBOUR: 'it returns false'. Refute it at one input. -/
def fnPropagatesWrong : ChangeSpec := { name := "fnPropagates", fn := fun _ => fun
  | [d] => { results := [.lit (.bool false)], args := [d] }
  | _ => none }
def FnPropagatesWrongFalsely : Prop := fnPropagatesRow.holds Try.pinned (OpenSpec.ofChange fnPropagatesWrong)

/- THE SECOND FORM. 'bulk': how many values and letters a reading holds, each counted each time it is reached (what is shared counts as often as it is met; a slice's spare places count too). A statement '..UptoSaid' is the law's where the arguments, and the package variables that the reading takes, are together of bulk at most 1048576: NARROWER than '..Said'. Prove '..Said' where nothing that the law and all that it calls make is longer than what came in: it says more and counts as full. Else prove '..UptoSaid'. A law counts once. -/
mutual
def uptoBulk {H : Type} : DataW H → Nat
  | .lit (.string bytes) => bytes.length + 1
  | .lit _ => 1
  | .nil => 1
  | .ptr d => uptoBulk d + 1
  | .slice elems spare => uptoBulkAll elems + uptoBulkAll spare + 1
  | .agg parts => uptoBulkAll parts + 1
  | .iface _ d => uptoBulk d + 1
  | .map entries => uptoBulkEntries entries + 1
  | .held _ => 1
def uptoBulkAll {H : Type} : List (DataW H) → Nat
  | [] => 0
  | d :: r => uptoBulk d + uptoBulkAll r
def uptoBulkEntries {H : Type} : List (Lit × DataW H) → Nat
  | [] => 0
  | x :: r => uptoBulkEntry x + uptoBulkEntries r
def uptoBulkEntry {H : Type} : Lit × DataW H → Nat
  | (.string bytes, d) => bytes.length + uptoBulk d + 1
  | (_, d) => uptoBulk d + 1
 end
def uptoSmall : (H : Type) → List (DataW H) → Bool := fun _ ds => decide (uptoBulkAll ds ≤ 1048576)
def OpenSpec.upto (s : _root_.Go.ChangeSpec) : _root_.Go.OpenSpec := { _root_.Go.OpenSpec.ofChange s with cond := some uptoSmall }

/-- 'laws.FnImplicantInPrime', WHERE WHAT IT READS IS OF BULK AT MOST 1048576: true; the input reads as it did. -/
def fnImplicantInPrimeUptoRow : OpenClaim := { program := "yteccnnpcigkmhaa", sum := "8656cf6f6e5b0fae6f6d9fb79cc044cd499b96a4189d5983103f9ead762e2de5", func := "loop.example/g03311/laws.FnImplicantInPrime", spec := "fnImplicantInPrime", apart := false, narrowed := true }
def FnImplicantInPrimeUptoSaid : Prop := fnImplicantInPrimeUptoRow.holds Try.pinned (OpenSpec.upto fnImplicantInPrimeSpec)

/-- 'laws.FnSlackPeriod', WHERE WHAT IT READS IS OF BULK AT MOST 1048576: true; the input reads as it did. -/
def fnSlackPeriodUptoRow : OpenClaim := { program := "yteccnnpcigkmhaa", sum := "8656cf6f6e5b0fae6f6d9fb79cc044cd499b96a4189d5983103f9ead762e2de5", func := "loop.example/g03311/laws.FnSlackPeriod", spec := "fnSlackPeriod", unfollowed := true, recurses := true, apart := false, narrowed := true }
def FnSlackPeriodUptoSaid : Prop := fnSlackPeriodUptoRow.holds Try.pinned (OpenSpec.upto fnSlackPeriodSpec)

/-- 'laws.FnCriticalPath', WHERE WHAT IT READS IS OF BULK AT MOST 1048576: true; the input reads as it did. -/
def fnCriticalPathUptoRow : OpenClaim := { program := "yteccnnpcigkmhaa", sum := "8656cf6f6e5b0fae6f6d9fb79cc044cd499b96a4189d5983103f9ead762e2de5", func := "loop.example/g03311/laws.FnCriticalPath", spec := "fnCriticalPath", apart := false, narrowed := true }
def FnCriticalPathUptoSaid : Prop := fnCriticalPathUptoRow.holds Try.pinned (OpenSpec.upto fnCriticalPathSpec)

/-- 'laws.FnPropagates', WHERE WHAT IT READS IS OF BULK AT MOST 1048576: true; the input reads as it did. -/
def fnPropagatesUptoRow : OpenClaim := { program := "yteccnnpcigkmhaa", sum := "8656cf6f6e5b0fae6f6d9fb79cc044cd499b96a4189d5983103f9ead762e2de5", func := "loop.example/g03311/laws.FnPropagates", spec := "fnPropagates", apart := false, narrowed := true }
def FnPropagatesUptoSaid : Prop := fnPropagatesUptoRow.holds Try.pinned (OpenSpec.upto fnPropagatesSpec)

end Rows
end Go.Proofs.Yteccnnpcigkmhaa
