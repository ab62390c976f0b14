/-
  No cell of these rows narrows 'for every input' (looked for: loops, veiled, ifaces, maps, wideKeys, modest, calm, conditions, laid).
  DERIVED. THE GIVEN ROWS OF THIS SEAT. 6 by the template 'for every input the law returns true; each argument reads behind the call as it read before'; 0 by the template 'total and deterministic' (their statements: YtodiifjigjnalaaTotals.lean).
  GIVEN WITH THE SEED: the statements are not yours to turn. If you find one false, say at which input.
  Laid BY PROGRAM, IN A SANDBOX (cutbox-rows.mjs): the forced cells as the released guide's own fill.sh prints them over the translation 38806c6d736e677d… (all of the seat's roots in one cut). By AI agents, Wed Nov 11 2026. No macro, syntax, notation, axiom, sorry.
-/
import Derived.Test.YtodiifjigjnalaaChecked
import GoSem.Claim
import GoSem.ClaimJoined
import GoSem.ClaimMapViews
import Derived.JoinedTies
import Derived.KernelRfl
namespace Go.Proofs.Ytodiifjigjnalaa
/- THE CELL 'sum', in the pinned program and in every row, IS THE sha256 OF THE DUMP (.gsa) THAT YtodiifjigjnalaaProg.lean LOADS. Nothing in Lean hashes anything: it is a label: what it is worth is what the hold of that sum in a sandbox is worth. -/
noncomputable def Try.pinned : Pinned := { name := "ytodiifjigjnalaa", sum := "38806c6d736e677d35996281a997de9cfc26b1172279422e4fb22e4cfae67b0c", checked := Try.checked }
namespace Rows
def none {H : Type} : Left H := { results := [], args := [] }

/-- 'laws.FnDriversOnce': WHATEVER THE INPUT: true; the input reads as it did. -/
def fnDriversOnceSpec : ChangeSpec := { name := "fnDriversOnce", fn := fun _ => fun
  | [d] => { results := [.lit (.bool true)], args := [d] }
  | _ => none }
def fnDriversOnceRow : OpenClaim := { program := "ytodiifjigjnalaa", sum := "38806c6d736e677d35996281a997de9cfc26b1172279422e4fb22e4cfae67b0c", func := "loop.example/g03311/laws.FnDriversOnce", spec := "fnDriversOnce", unfollowed := true, recurses := true, apart := false }
def FnDriversOnceSaid : Prop := fnDriversOnceRow.holds Try.pinned (OpenSpec.ofChange fnDriversOnceSpec)

/-- ITS FALSE NEIGHBOUR: 'it returns false'. Refute it at one input. -/
def fnDriversOnceWrong : ChangeSpec := { name := "fnDriversOnce", fn := fun _ => fun
  | [d] => { results := [.lit (.bool false)], args := [d] }
  | _ => none }
def FnDriversOnceWrongFalsely : Prop := fnDriversOnceRow.holds Try.pinned (OpenSpec.ofChange fnDriversOnceWrong)

/-- 'laws.FnRunSteps': WHATEVER THE INPUT: true; the input reads as it did. -/
def fnRunStepsSpec : ChangeSpec := { name := "fnRunSteps", fn := fun _ => fun
  | [d] => { results := [.lit (.bool true)], args := [d] }
  | _ => none }
def fnRunStepsRow : OpenClaim := { program := "ytodiifjigjnalaa", sum := "38806c6d736e677d35996281a997de9cfc26b1172279422e4fb22e4cfae67b0c", func := "loop.example/g03311/laws.FnRunSteps", spec := "fnRunSteps", unfollowed := true, recurses := true, apart := false }
def FnRunStepsSaid : Prop := fnRunStepsRow.holds Try.pinned (OpenSpec.ofChange fnRunStepsSpec)

/-- ITS FALSE NEIGHBOUR: 'it returns false'. Refute it at one input. -/
def fnRunStepsWrong : ChangeSpec := { name := "fnRunSteps", fn := fun _ => fun
  | [d] => { results := [.lit (.bool false)], args := [d] }
  | _ => none }
def FnRunStepsWrongFalsely : Prop := fnRunStepsRow.holds Try.pinned (OpenSpec.ofChange fnRunStepsWrong)

/-- 'laws.FnInputBits': WHATEVER THE INPUT: true; the input reads as it did. -/
def fnInputBitsSpec : ChangeSpec := { name := "fnInputBits", fn := fun _ => fun
  | [d] => { results := [.lit (.bool true)], args := [d] }
  | _ => none }
def fnInputBitsRow : OpenClaim := { program := "ytodiifjigjnalaa", sum := "38806c6d736e677d35996281a997de9cfc26b1172279422e4fb22e4cfae67b0c", func := "loop.example/g03311/laws.FnInputBits", spec := "fnInputBits", unfollowed := true, recurses := true, apart := false }
def FnInputBitsSaid : Prop := fnInputBitsRow.holds Try.pinned (OpenSpec.ofChange fnInputBitsSpec)

/-- ITS FALSE NEIGHBOUR: 'it returns false'. Refute it at one input. -/
def fnInputBitsWrong : ChangeSpec := { name := "fnInputBits", fn := fun _ => fun
  | [d] => { results := [.lit (.bool false)], args := [d] }
  | _ => none }
def FnInputBitsWrongFalsely : Prop := fnInputBitsRow.holds Try.pinned (OpenSpec.ofChange fnInputBitsWrong)

/-- 'laws.FnFlatAgain': WHATEVER THE INPUT: true; the input reads as it did. -/
def fnFlatAgainSpec : ChangeSpec := { name := "fnFlatAgain", fn := fun _ => fun
  | [d] => { results := [.lit (.bool true)], args := [d] }
  | _ => none }
def fnFlatAgainRow : OpenClaim := { program := "ytodiifjigjnalaa", sum := "38806c6d736e677d35996281a997de9cfc26b1172279422e4fb22e4cfae67b0c", func := "loop.example/g03311/laws.FnFlatAgain", spec := "fnFlatAgain", unfollowed := true, recurses := true, apart := false }
def FnFlatAgainSaid : Prop := fnFlatAgainRow.holds Try.pinned (OpenSpec.ofChange fnFlatAgainSpec)

/-- ITS FALSE NEIGHBOUR: 'it returns false'. Refute it at one input. -/
def fnFlatAgainWrong : ChangeSpec := { name := "fnFlatAgain", fn := fun _ => fun
  | [d] => { results := [.lit (.bool false)], args := [d] }
  | _ => none }
def FnFlatAgainWrongFalsely : Prop := fnFlatAgainRow.holds Try.pinned (OpenSpec.ofChange fnFlatAgainWrong)

/-- 'laws.FnInstanceAlone': WHATEVER THE INPUT: true; the input reads as it did. -/
def fnInstanceAloneSpec : ChangeSpec := { name := "fnInstanceAlone", fn := fun _ => fun
  | [d] => { results := [.lit (.bool true)], args := [d] }
  | _ => none }
def fnInstanceAloneRow : OpenClaim := { program := "ytodiifjigjnalaa", sum := "38806c6d736e677d35996281a997de9cfc26b1172279422e4fb22e4cfae67b0c", func := "loop.example/g03311/laws.FnInstanceAlone", spec := "fnInstanceAlone", unfollowed := true, recurses := true, apart := false }
def FnInstanceAloneSaid : Prop := fnInstanceAloneRow.holds Try.pinned (OpenSpec.ofChange fnInstanceAloneSpec)

/-- ITS FALSE NEIGHBOUR: 'it returns false'. Refute it at one input. -/
def fnInstanceAloneWrong : ChangeSpec := { name := "fnInstanceAlone", fn := fun _ => fun
  | [d] => { results := [.lit (.bool false)], args := [d] }
  | _ => none }
def FnInstanceAloneWrongFalsely : Prop := fnInstanceAloneRow.holds Try.pinned (OpenSpec.ofChange fnInstanceAloneWrong)

/-- 'laws.FnExprBits': WHATEVER THE INPUT: true; the input reads as it did. -/
def fnExprBitsSpec : ChangeSpec := { name := "fnExprBits", fn := fun _ => fun
  | [d] => { results := [.lit (.bool true)], args := [d] }
  | _ => none }
def fnExprBitsRow : OpenClaim := { program := "ytodiifjigjnalaa", sum := "38806c6d736e677d35996281a997de9cfc26b1172279422e4fb22e4cfae67b0c", func := "loop.example/g03311/laws.FnExprBits", spec := "fnExprBits", recurses := true, apart := false }
def FnExprBitsSaid : Prop := fnExprBitsRow.holds Try.pinned (OpenSpec.ofChange fnExprBitsSpec)

/-- ITS FALSE NEIGHBOUR: 'it returns false'. Refute it at one input. -/
def fnExprBitsWrong : ChangeSpec := { name := "fnExprBits", fn := fun _ => fun
  | [d] => { results := [.lit (.bool false)], args := [d] }
  | _ => none }
def FnExprBitsWrongFalsely : Prop := fnExprBitsRow.holds Try.pinned (OpenSpec.ofChange fnExprBitsWrong)

/- THE SECOND FORM. 'bulk': how many values and letters a reading holds, each counted each time it is reached (what is shared counts as often as it is met; a slice's spare places count too). A statement '..UptoSaid' is the law's where the arguments, and the package variables that the reading takes, are together of bulk at most 1048576: NARROWER than '..Said'. Prove '..Said' where nothing that the law and all that it calls make is longer than what came in: it says more and counts as full. Else prove '..UptoSaid'. A law counts once. -/
mutual
def uptoBulk {H : Type} : DataW H → Nat
  | .lit (.string bytes) => bytes.length + 1
  | .lit _ => 1
  | .nil => 1
  | .ptr d => uptoBulk d + 1
  | .slice elems spare => uptoBulkAll elems + uptoBulkAll spare + 1
  | .agg parts => uptoBulkAll parts + 1
  | .iface _ d => uptoBulk d + 1
  | .map entries => uptoBulkEntries entries + 1
  | .held _ => 1
def uptoBulkAll {H : Type} : List (DataW H) → Nat
  | [] => 0
  | d :: r => uptoBulk d + uptoBulkAll r
def uptoBulkEntries {H : Type} : List (Lit × DataW H) → Nat
  | [] => 0
  | x :: r => uptoBulkEntry x + uptoBulkEntries r
def uptoBulkEntry {H : Type} : Lit × DataW H → Nat
  | (.string bytes, d) => bytes.length + uptoBulk d + 1
  | (_, d) => uptoBulk d + 1
 end
def uptoSmall : (H : Type) → List (DataW H) → Bool := fun _ ds => decide (uptoBulkAll ds ≤ 1048576)
def OpenSpec.upto (s : _root_.Go.ChangeSpec) : _root_.Go.OpenSpec := { _root_.Go.OpenSpec.ofChange s with cond := some uptoSmall }

/-- 'laws.FnDriversOnce', WHERE WHAT IT READS IS OF BULK AT MOST 1048576: true; the input reads as it did. -/
def fnDriversOnceUptoRow : OpenClaim := { program := "ytodiifjigjnalaa", sum := "38806c6d736e677d35996281a997de9cfc26b1172279422e4fb22e4cfae67b0c", func := "loop.example/g03311/laws.FnDriversOnce", spec := "fnDriversOnce", unfollowed := true, recurses := true, apart := false, narrowed := true }
def FnDriversOnceUptoSaid : Prop := fnDriversOnceUptoRow.holds Try.pinned (OpenSpec.upto fnDriversOnceSpec)

/-- 'laws.FnRunSteps', WHERE WHAT IT READS IS OF BULK AT MOST 1048576: true; the input reads as it did. -/
def fnRunStepsUptoRow : OpenClaim := { program := "ytodiifjigjnalaa", sum := "38806c6d736e677d35996281a997de9cfc26b1172279422e4fb22e4cfae67b0c", func := "loop.example/g03311/laws.FnRunSteps", spec := "fnRunSteps", unfollowed := true, recurses := true, apart := false, narrowed := true }
def FnRunStepsUptoSaid : Prop := fnRunStepsUptoRow.holds Try.pinned (OpenSpec.upto fnRunStepsSpec)

/-- 'laws.FnInputBits', WHERE WHAT IT READS IS OF BULK AT MOST 1048576: true; the input reads as it did. -/
def fnInputBitsUptoRow : OpenClaim := { program := "ytodiifjigjnalaa", sum := "38806c6d736e677d35996281a997de9cfc26b1172279422e4fb22e4cfae67b0c", func := "loop.example/g03311/laws.FnInputBits", spec := "fnInputBits", unfollowed := true, recurses := true, apart := false, narrowed := true }
def FnInputBitsUptoSaid : Prop := fnInputBitsUptoRow.holds Try.pinned (OpenSpec.upto fnInputBitsSpec)

/-- 'laws.FnFlatAgain', WHERE WHAT IT READS IS OF BULK AT MOST 1048576: true; the input reads as it did. -/
def fnFlatAgainUptoRow : OpenClaim := { program := "ytodiifjigjnalaa", sum := "38806c6d736e677d35996281a997de9cfc26b1172279422e4fb22e4cfae67b0c", func := "loop.example/g03311/laws.FnFlatAgain", spec := "fnFlatAgain", unfollowed := true, recurses := true, apart := false, narrowed := true }
def FnFlatAgainUptoSaid : Prop := fnFlatAgainUptoRow.holds Try.pinned (OpenSpec.upto fnFlatAgainSpec)

/-- 'laws.FnInstanceAlone', WHERE WHAT IT READS IS OF BULK AT MOST 1048576: true; the input reads as it did. -/
def fnInstanceAloneUptoRow : OpenClaim := { program := "ytodiifjigjnalaa", sum := "38806c6d736e677d35996281a997de9cfc26b1172279422e4fb22e4cfae67b0c", func := "loop.example/g03311/laws.FnInstanceAlone", spec := "fnInstanceAlone", unfollowed := true, recurses := true, apart := false, narrowed := true }
def FnInstanceAloneUptoSaid : Prop := fnInstanceAloneUptoRow.holds Try.pinned (OpenSpec.upto fnInstanceAloneSpec)

/-- 'laws.FnExprBits', WHERE WHAT IT READS IS OF BULK AT MOST 1048576: true; the input reads as it did. -/
def fnExprBitsUptoRow : OpenClaim := { program := "ytodiifjigjnalaa", sum := "38806c6d736e677d35996281a997de9cfc26b1172279422e4fb22e4cfae67b0c", func := "loop.example/g03311/laws.FnExprBits", spec := "fnExprBits", recurses := true, apart := false, narrowed := true }
def FnExprBitsUptoSaid : Prop := fnExprBitsUptoRow.holds Try.pinned (OpenSpec.upto fnExprBitsSpec)

end Rows
end Go.Proofs.Ytodiifjigjnalaa
