/-
  No cell of these rows narrows 'for every input' (looked for: loops, veiled, ifaces, maps, wideKeys, modest, calm, conditions, laid).
  DERIVED. THE GIVEN ROWS OF THIS SEAT. 7 by the template 'for every input the law returns true; each argument reads behind the call as it read before'; 0 by the template 'total and deterministic' (their statements: YtceebbcoikgocaaTotals.lean).
  GIVEN WITH THE SEED: the statements are not yours to turn. If you find one false, say at which input.
  Laid BY PROGRAM, IN A SANDBOX (cutbox-rows.mjs): the forced cells as the released guide's own fill.sh prints them over the translation aace36393e2d1e7b… (all of the seat's roots in one cut). By AI agents, Wed Nov 11 2026. No macro, syntax, notation, axiom, sorry.
-/
import Derived.Test.YtceebbcoikgocaaChecked
import GoSem.Claim
import GoSem.ClaimJoined
import GoSem.ClaimMapViews
import Derived.JoinedTies
import Derived.KernelRfl
namespace Go.Proofs.Ytceebbcoikgocaa
/- THE CELL 'sum', in the pinned program and in every row, IS THE sha256 OF THE DUMP (.gsa) THAT YtceebbcoikgocaaProg.lean LOADS. Nothing in Lean hashes anything: it is a label: what it is worth is what the hold of that sum in a sandbox is worth. -/
noncomputable def Try.pinned : Pinned := { name := "ytceebbcoikgocaa", sum := "aace36393e2d1e7bf86b442f4e0eed57bf3bc88aac1d756e97cde93b454eab30", checked := Try.checked }
namespace Rows
def none {H : Type} : Left H := { results := [], args := [] }

/-- 'laws.FnExactTimedOk': WHATEVER THE INPUT: true; the input reads as it did. -/
def fnExactTimedOkSpec : ChangeSpec := { name := "fnExactTimedOk", fn := fun _ => fun
  | [d] => { results := [.lit (.bool true)], args := [d] }
  | _ => none }
def fnExactTimedOkRow : OpenClaim := { program := "ytceebbcoikgocaa", sum := "aace36393e2d1e7bf86b442f4e0eed57bf3bc88aac1d756e97cde93b454eab30", func := "loop.example/g03311/laws.FnExactTimedOk", spec := "fnExactTimedOk", apart := false }
def FnExactTimedOkSaid : Prop := fnExactTimedOkRow.holds Try.pinned (OpenSpec.ofChange fnExactTimedOkSpec)

/-- ITS FALSE NEIGHBOUR: 'it returns false'. Refute it at one input. -/
def fnExactTimedOkWrong : ChangeSpec := { name := "fnExactTimedOk", fn := fun _ => fun
  | [d] => { results := [.lit (.bool false)], args := [d] }
  | _ => none }
def FnExactTimedOkWrongFalsely : Prop := fnExactTimedOkRow.holds Try.pinned (OpenSpec.ofChange fnExactTimedOkWrong)

/-- 'laws.FnExactCapturePoints': WHATEVER THE INPUT: true; the input reads as it did. -/
def fnExactCapturePointsSpec : ChangeSpec := { name := "fnExactCapturePoints", fn := fun _ => fun
  | [d] => { results := [.lit (.bool true)], args := [d] }
  | _ => none }
def fnExactCapturePointsRow : OpenClaim := { program := "ytceebbcoikgocaa", sum := "aace36393e2d1e7bf86b442f4e0eed57bf3bc88aac1d756e97cde93b454eab30", func := "loop.example/g03311/laws.FnExactCapturePoints", spec := "fnExactCapturePoints", apart := false }
def FnExactCapturePointsSaid : Prop := fnExactCapturePointsRow.holds Try.pinned (OpenSpec.ofChange fnExactCapturePointsSpec)

/-- ITS FALSE NEIGHBOUR: 'it returns false'. Refute it at one input. -/
def fnExactCapturePointsWrong : ChangeSpec := { name := "fnExactCapturePoints", fn := fun _ => fun
  | [d] => { results := [.lit (.bool false)], args := [d] }
  | _ => none }
def FnExactCapturePointsWrongFalsely : Prop := fnExactCapturePointsRow.holds Try.pinned (OpenSpec.ofChange fnExactCapturePointsWrong)

/-- 'laws.FnExactLaunchPoints': WHATEVER THE INPUT: true; the input reads as it did. -/
def fnExactLaunchPointsSpec : ChangeSpec := { name := "fnExactLaunchPoints", fn := fun _ => fun
  | [d] => { results := [.lit (.bool true)], args := [d] }
  | _ => none }
def fnExactLaunchPointsRow : OpenClaim := { program := "ytceebbcoikgocaa", sum := "aace36393e2d1e7bf86b442f4e0eed57bf3bc88aac1d756e97cde93b454eab30", func := "loop.example/g03311/laws.FnExactLaunchPoints", spec := "fnExactLaunchPoints", apart := false }
def FnExactLaunchPointsSaid : Prop := fnExactLaunchPointsRow.holds Try.pinned (OpenSpec.ofChange fnExactLaunchPointsSpec)

/-- ITS FALSE NEIGHBOUR: 'it returns false'. Refute it at one input. -/
def fnExactLaunchPointsWrong : ChangeSpec := { name := "fnExactLaunchPoints", fn := fun _ => fun
  | [d] => { results := [.lit (.bool false)], args := [d] }
  | _ => none }
def FnExactLaunchPointsWrongFalsely : Prop := fnExactLaunchPointsRow.holds Try.pinned (OpenSpec.ofChange fnExactLaunchPointsWrong)

/-- 'laws.FnExactTimingOf': WHATEVER THE INPUT: true; the input reads as it did. -/
def fnExactTimingOfSpec : ChangeSpec := { name := "fnExactTimingOf", fn := fun _ => fun
  | [d] => { results := [.lit (.bool true)], args := [d] }
  | _ => none }
def fnExactTimingOfRow : OpenClaim := { program := "ytceebbcoikgocaa", sum := "aace36393e2d1e7bf86b442f4e0eed57bf3bc88aac1d756e97cde93b454eab30", func := "loop.example/g03311/laws.FnExactTimingOf", spec := "fnExactTimingOf", apart := false }
def FnExactTimingOfSaid : Prop := fnExactTimingOfRow.holds Try.pinned (OpenSpec.ofChange fnExactTimingOfSpec)

/-- ITS FALSE NEIGHBOUR: 'it returns false'. Refute it at one input. -/
def fnExactTimingOfWrong : ChangeSpec := { name := "fnExactTimingOf", fn := fun _ => fun
  | [d] => { results := [.lit (.bool false)], args := [d] }
  | _ => none }
def FnExactTimingOfWrongFalsely : Prop := fnExactTimingOfRow.holds Try.pinned (OpenSpec.ofChange fnExactTimingOfWrong)

/-- 'laws.FnExactSettleTimes': WHATEVER THE INPUT: true; the input reads as it did. -/
def fnExactSettleTimesSpec : ChangeSpec := { name := "fnExactSettleTimes", fn := fun _ => fun
  | [d] => { results := [.lit (.bool true)], args := [d] }
  | _ => none }
def fnExactSettleTimesRow : OpenClaim := { program := "ytceebbcoikgocaa", sum := "aace36393e2d1e7bf86b442f4e0eed57bf3bc88aac1d756e97cde93b454eab30", func := "loop.example/g03311/laws.FnExactSettleTimes", spec := "fnExactSettleTimes", apart := false }
def FnExactSettleTimesSaid : Prop := fnExactSettleTimesRow.holds Try.pinned (OpenSpec.ofChange fnExactSettleTimesSpec)

/-- ITS FALSE NEIGHBOUR: 'it returns false'. Refute it at one input. -/
def fnExactSettleTimesWrong : ChangeSpec := { name := "fnExactSettleTimes", fn := fun _ => fun
  | [d] => { results := [.lit (.bool false)], args := [d] }
  | _ => none }
def FnExactSettleTimesWrongFalsely : Prop := fnExactSettleTimesRow.holds Try.pinned (OpenSpec.ofChange fnExactSettleTimesWrong)

/-- 'laws.FnExactWaveforms': WHATEVER THE INPUT: true; the input reads as it did. -/
def fnExactWaveformsSpec : ChangeSpec := { name := "fnExactWaveforms", fn := fun _ => fun
  | [d1, d2] => { results := [.lit (.bool true)], args := [d1, d2] }
  | _ => none }
def fnExactWaveformsRow : OpenClaim := { program := "ytceebbcoikgocaa", sum := "aace36393e2d1e7bf86b442f4e0eed57bf3bc88aac1d756e97cde93b454eab30", func := "loop.example/g03311/laws.FnExactWaveforms", spec := "fnExactWaveforms", apart := false }
def FnExactWaveformsSaid : Prop := fnExactWaveformsRow.holds Try.pinned (OpenSpec.ofChange fnExactWaveformsSpec)

/-- ITS FALSE NEIGHBOUR: 'it returns false'. Refute it at one input. -/
def fnExactWaveformsWrong : ChangeSpec := { name := "fnExactWaveforms", fn := fun _ => fun
  | [d1, d2] => { results := [.lit (.bool false)], args := [d1, d2] }
  | _ => none }
def FnExactWaveformsWrongFalsely : Prop := fnExactWaveformsRow.holds Try.pinned (OpenSpec.ofChange fnExactWaveformsWrong)

/-- 'laws.FnExactSampledAt': WHATEVER THE INPUT: true; the input reads as it did. -/
def fnExactSampledAtSpec : ChangeSpec := { name := "fnExactSampledAt", fn := fun _ => fun
  | [d1, d2] => { results := [.lit (.bool true)], args := [d1, d2] }
  | _ => none }
def fnExactSampledAtRow : OpenClaim := { program := "ytceebbcoikgocaa", sum := "aace36393e2d1e7bf86b442f4e0eed57bf3bc88aac1d756e97cde93b454eab30", func := "loop.example/g03311/laws.FnExactSampledAt", spec := "fnExactSampledAt", apart := false }
def FnExactSampledAtSaid : Prop := fnExactSampledAtRow.holds Try.pinned (OpenSpec.ofChange fnExactSampledAtSpec)

/-- ITS FALSE NEIGHBOUR: 'it returns false'. Refute it at one input. -/
def fnExactSampledAtWrong : ChangeSpec := { name := "fnExactSampledAt", fn := fun _ => fun
  | [d1, d2] => { results := [.lit (.bool false)], args := [d1, d2] }
  | _ => none }
def FnExactSampledAtWrongFalsely : Prop := fnExactSampledAtRow.holds Try.pinned (OpenSpec.ofChange fnExactSampledAtWrong)

/- THE SECOND FORM. 'bulk': how many values and letters a reading holds, each counted each time it is reached (what is shared counts as often as it is met; a slice's spare places count too). A statement '..UptoSaid' is the law's where the arguments, and the package variables that the reading takes, are together of bulk at most 1048576: NARROWER than '..Said'. Prove '..Said' where nothing that the law and all that it calls make is longer than what came in: it says more and counts as full. Else prove '..UptoSaid'. A law counts once. -/
mutual
def uptoBulk {H : Type} : DataW H → Nat
  | .lit (.string bytes) => bytes.length + 1
  | .lit _ => 1
  | .nil => 1
  | .ptr d => uptoBulk d + 1
  | .slice elems spare => uptoBulkAll elems + uptoBulkAll spare + 1
  | .agg parts => uptoBulkAll parts + 1
  | .iface _ d => uptoBulk d + 1
  | .map entries => uptoBulkEntries entries + 1
  | .held _ => 1
def uptoBulkAll {H : Type} : List (DataW H) → Nat
  | [] => 0
  | d :: r => uptoBulk d + uptoBulkAll r
def uptoBulkEntries {H : Type} : List (Lit × DataW H) → Nat
  | [] => 0
  | x :: r => uptoBulkEntry x + uptoBulkEntries r
def uptoBulkEntry {H : Type} : Lit × DataW H → Nat
  | (.string bytes, d) => bytes.length + uptoBulk d + 1
  | (_, d) => uptoBulk d + 1
 end
def uptoSmall : (H : Type) → List (DataW H) → Bool := fun _ ds => decide (uptoBulkAll ds ≤ 1048576)
def OpenSpec.upto (s : _root_.Go.ChangeSpec) : _root_.Go.OpenSpec := { _root_.Go.OpenSpec.ofChange s with cond := some uptoSmall }

/-- 'laws.FnExactTimedOk', WHERE WHAT IT READS IS OF BULK AT MOST 1048576: true; the input reads as it did. -/
def fnExactTimedOkUptoRow : OpenClaim := { program := "ytceebbcoikgocaa", sum := "aace36393e2d1e7bf86b442f4e0eed57bf3bc88aac1d756e97cde93b454eab30", func := "loop.example/g03311/laws.FnExactTimedOk", spec := "fnExactTimedOk", apart := false, narrowed := true }
def FnExactTimedOkUptoSaid : Prop := fnExactTimedOkUptoRow.holds Try.pinned (OpenSpec.upto fnExactTimedOkSpec)

/-- 'laws.FnExactCapturePoints', WHERE WHAT IT READS IS OF BULK AT MOST 1048576: true; the input reads as it did. -/
def fnExactCapturePointsUptoRow : OpenClaim := { program := "ytceebbcoikgocaa", sum := "aace36393e2d1e7bf86b442f4e0eed57bf3bc88aac1d756e97cde93b454eab30", func := "loop.example/g03311/laws.FnExactCapturePoints", spec := "fnExactCapturePoints", apart := false, narrowed := true }
def FnExactCapturePointsUptoSaid : Prop := fnExactCapturePointsUptoRow.holds Try.pinned (OpenSpec.upto fnExactCapturePointsSpec)

/-- 'laws.FnExactLaunchPoints', WHERE WHAT IT READS IS OF BULK AT MOST 1048576: true; the input reads as it did. -/
def fnExactLaunchPointsUptoRow : OpenClaim := { program := "ytceebbcoikgocaa", sum := "aace36393e2d1e7bf86b442f4e0eed57bf3bc88aac1d756e97cde93b454eab30", func := "loop.example/g03311/laws.FnExactLaunchPoints", spec := "fnExactLaunchPoints", apart := false, narrowed := true }
def FnExactLaunchPointsUptoSaid : Prop := fnExactLaunchPointsUptoRow.holds Try.pinned (OpenSpec.upto fnExactLaunchPointsSpec)

/-- 'laws.FnExactTimingOf', WHERE WHAT IT READS IS OF BULK AT MOST 1048576: true; the input reads as it did. -/
def fnExactTimingOfUptoRow : OpenClaim := { program := "ytceebbcoikgocaa", sum := "aace36393e2d1e7bf86b442f4e0eed57bf3bc88aac1d756e97cde93b454eab30", func := "loop.example/g03311/laws.FnExactTimingOf", spec := "fnExactTimingOf", apart := false, narrowed := true }
def FnExactTimingOfUptoSaid : Prop := fnExactTimingOfUptoRow.holds Try.pinned (OpenSpec.upto fnExactTimingOfSpec)

/-- 'laws.FnExactSettleTimes', WHERE WHAT IT READS IS OF BULK AT MOST 1048576: true; the input reads as it did. -/
def fnExactSettleTimesUptoRow : OpenClaim := { program := "ytceebbcoikgocaa", sum := "aace36393e2d1e7bf86b442f4e0eed57bf3bc88aac1d756e97cde93b454eab30", func := "loop.example/g03311/laws.FnExactSettleTimes", spec := "fnExactSettleTimes", apart := false, narrowed := true }
def FnExactSettleTimesUptoSaid : Prop := fnExactSettleTimesUptoRow.holds Try.pinned (OpenSpec.upto fnExactSettleTimesSpec)

/-- 'laws.FnExactWaveforms', WHERE WHAT IT READS IS OF BULK AT MOST 1048576: true; the input reads as it did. -/
def fnExactWaveformsUptoRow : OpenClaim := { program := "ytceebbcoikgocaa", sum := "aace36393e2d1e7bf86b442f4e0eed57bf3bc88aac1d756e97cde93b454eab30", func := "loop.example/g03311/laws.FnExactWaveforms", spec := "fnExactWaveforms", apart := false, narrowed := true }
def FnExactWaveformsUptoSaid : Prop := fnExactWaveformsUptoRow.holds Try.pinned (OpenSpec.upto fnExactWaveformsSpec)

/-- 'laws.FnExactSampledAt', WHERE WHAT IT READS IS OF BULK AT MOST 1048576: true; the input reads as it did. -/
def fnExactSampledAtUptoRow : OpenClaim := { program := "ytceebbcoikgocaa", sum := "aace36393e2d1e7bf86b442f4e0eed57bf3bc88aac1d756e97cde93b454eab30", func := "loop.example/g03311/laws.FnExactSampledAt", spec := "fnExactSampledAt", apart := false, narrowed := true }
def FnExactSampledAtUptoSaid : Prop := fnExactSampledAtUptoRow.holds Try.pinned (OpenSpec.upto fnExactSampledAtSpec)

end Rows
end Go.Proofs.Ytceebbcoikgocaa
