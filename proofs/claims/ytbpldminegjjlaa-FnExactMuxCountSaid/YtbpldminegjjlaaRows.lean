/-
  No cell of these rows narrows 'for every input' (looked for: loops, veiled, ifaces, maps, wideKeys, modest, calm, conditions, laid).
  DERIVED. THE GIVEN ROWS OF THIS SEAT. 11 by the template 'for every input the law returns true; each argument reads behind the call as it read before'; 0 by the template 'total and deterministic' (their statements: YtbpldminegjjlaaTotals.lean).
  GIVEN WITH THE SEED: the statements are not yours to turn. If you find one false, say at which input.
  Laid BY PROGRAM, IN A SANDBOX (cutbox-rows.mjs): the forced cells as the released guide's own fill.sh prints them over the translation a4c1efefd4795ee6… (all of the seat's roots in one cut). By AI agents, Wed Nov 11 2026. No macro, syntax, notation, axiom, sorry.
-/
import Derived.Test.YtbpldminegjjlaaChecked
import GoSem.Claim
import GoSem.ClaimJoined
import GoSem.ClaimMapViews
import Derived.JoinedTies
import Derived.KernelRfl
namespace Go.Proofs.Ytbpldminegjjlaa
/- THE CELL 'sum', in the pinned program and in every row, IS THE sha256 OF THE DUMP (.gsa) THAT YtbpldminegjjlaaProg.lean LOADS. Nothing in Lean hashes anything: it is a label: what it is worth is what the hold of that sum in a sandbox is worth. -/
noncomputable def Try.pinned : Pinned := { name := "ytbpldminegjjlaa", sum := "a4c1efefd4795ee6eb45d1376adc56da27f1a34c8fe71bc90ceb5da57f09111f", checked := Try.checked }
namespace Rows
def none {H : Type} : Left H := { results := [], args := [] }

/-- 'laws.FnExactFlipBit': WHATEVER THE INPUT: true; the input reads as it did. -/
def fnExactFlipBitSpec : ChangeSpec := { name := "fnExactFlipBit", fn := fun _ => fun
  | [d1, d2] => { results := [.lit (.bool true)], args := [d1, d2] }
  | _ => none }
def fnExactFlipBitRow : OpenClaim := { program := "ytbpldminegjjlaa", sum := "a4c1efefd4795ee6eb45d1376adc56da27f1a34c8fe71bc90ceb5da57f09111f", func := "loop.example/g03311/laws.FnExactFlipBit", spec := "fnExactFlipBit", apart := false }
def FnExactFlipBitSaid : Prop := fnExactFlipBitRow.holds Try.pinned (OpenSpec.ofChange fnExactFlipBitSpec)

/-- ITS FALSE NEIGHBOUR: 'it returns false'. Refute it at one input. -/
def fnExactFlipBitWrong : ChangeSpec := { name := "fnExactFlipBit", fn := fun _ => fun
  | [d1, d2] => { results := [.lit (.bool false)], args := [d1, d2] }
  | _ => none }
def FnExactFlipBitWrongFalsely : Prop := fnExactFlipBitRow.holds Try.pinned (OpenSpec.ofChange fnExactFlipBitWrong)

/-- 'laws.FnExactSyndrome': WHATEVER THE INPUT: true; the input reads as it did. -/
def fnExactSyndromeSpec : ChangeSpec := { name := "fnExactSyndrome", fn := fun _ => fun
  | [d] => { results := [.lit (.bool true)], args := [d] }
  | _ => none }
def fnExactSyndromeRow : OpenClaim := { program := "ytbpldminegjjlaa", sum := "a4c1efefd4795ee6eb45d1376adc56da27f1a34c8fe71bc90ceb5da57f09111f", func := "loop.example/g03311/laws.FnExactSyndrome", spec := "fnExactSyndrome", apart := false }
def FnExactSyndromeSaid : Prop := fnExactSyndromeRow.holds Try.pinned (OpenSpec.ofChange fnExactSyndromeSpec)

/-- ITS FALSE NEIGHBOUR: 'it returns false'. Refute it at one input. -/
def fnExactSyndromeWrong : ChangeSpec := { name := "fnExactSyndrome", fn := fun _ => fun
  | [d] => { results := [.lit (.bool false)], args := [d] }
  | _ => none }
def FnExactSyndromeWrongFalsely : Prop := fnExactSyndromeRow.holds Try.pinned (OpenSpec.ofChange fnExactSyndromeWrong)

/-- 'laws.FnExactBitDistance': WHATEVER THE INPUT: true; the input reads as it did. -/
def fnExactBitDistanceSpec : ChangeSpec := { name := "fnExactBitDistance", fn := fun _ => fun
  | [d1, d2] => { results := [.lit (.bool true)], args := [d1, d2] }
  | _ => none }
def fnExactBitDistanceRow : OpenClaim := { program := "ytbpldminegjjlaa", sum := "a4c1efefd4795ee6eb45d1376adc56da27f1a34c8fe71bc90ceb5da57f09111f", func := "loop.example/g03311/laws.FnExactBitDistance", spec := "fnExactBitDistance", apart := false }
def FnExactBitDistanceSaid : Prop := fnExactBitDistanceRow.holds Try.pinned (OpenSpec.ofChange fnExactBitDistanceSpec)

/-- ITS FALSE NEIGHBOUR: 'it returns false'. Refute it at one input. -/
def fnExactBitDistanceWrong : ChangeSpec := { name := "fnExactBitDistance", fn := fun _ => fun
  | [d1, d2] => { results := [.lit (.bool false)], args := [d1, d2] }
  | _ => none }
def FnExactBitDistanceWrongFalsely : Prop := fnExactBitDistanceRow.holds Try.pinned (OpenSpec.ofChange fnExactBitDistanceWrong)

/-- 'laws.FnExactDataBits': WHATEVER THE INPUT: true; the input reads as it did. -/
def fnExactDataBitsSpec : ChangeSpec := { name := "fnExactDataBits", fn := fun _ => fun
  | [d] => { results := [.lit (.bool true)], args := [d] }
  | _ => none }
def fnExactDataBitsRow : OpenClaim := { program := "ytbpldminegjjlaa", sum := "a4c1efefd4795ee6eb45d1376adc56da27f1a34c8fe71bc90ceb5da57f09111f", func := "loop.example/g03311/laws.FnExactDataBits", spec := "fnExactDataBits", apart := false }
def FnExactDataBitsSaid : Prop := fnExactDataBitsRow.holds Try.pinned (OpenSpec.ofChange fnExactDataBitsSpec)

/-- ITS FALSE NEIGHBOUR: 'it returns false'. Refute it at one input. -/
def fnExactDataBitsWrong : ChangeSpec := { name := "fnExactDataBits", fn := fun _ => fun
  | [d] => { results := [.lit (.bool false)], args := [d] }
  | _ => none }
def FnExactDataBitsWrongFalsely : Prop := fnExactDataBitsRow.holds Try.pinned (OpenSpec.ofChange fnExactDataBitsWrong)

/-- 'laws.FnExactEncodeWord': WHATEVER THE INPUT: true; the input reads as it did. -/
def fnExactEncodeWordSpec : ChangeSpec := { name := "fnExactEncodeWord", fn := fun _ => fun
  | [d] => { results := [.lit (.bool true)], args := [d] }
  | _ => none }
def fnExactEncodeWordRow : OpenClaim := { program := "ytbpldminegjjlaa", sum := "a4c1efefd4795ee6eb45d1376adc56da27f1a34c8fe71bc90ceb5da57f09111f", func := "loop.example/g03311/laws.FnExactEncodeWord", spec := "fnExactEncodeWord", apart := false }
def FnExactEncodeWordSaid : Prop := fnExactEncodeWordRow.holds Try.pinned (OpenSpec.ofChange fnExactEncodeWordSpec)

/-- ITS FALSE NEIGHBOUR: 'it returns false'. Refute it at one input. -/
def fnExactEncodeWordWrong : ChangeSpec := { name := "fnExactEncodeWord", fn := fun _ => fun
  | [d] => { results := [.lit (.bool false)], args := [d] }
  | _ => none }
def FnExactEncodeWordWrongFalsely : Prop := fnExactEncodeWordRow.holds Try.pinned (OpenSpec.ofChange fnExactEncodeWordWrong)

/-- 'laws.FnExactDecodeWord': WHATEVER THE INPUT: true; the input reads as it did. -/
def fnExactDecodeWordSpec : ChangeSpec := { name := "fnExactDecodeWord", fn := fun _ => fun
  | [d] => { results := [.lit (.bool true)], args := [d] }
  | _ => none }
def fnExactDecodeWordRow : OpenClaim := { program := "ytbpldminegjjlaa", sum := "a4c1efefd4795ee6eb45d1376adc56da27f1a34c8fe71bc90ceb5da57f09111f", func := "loop.example/g03311/laws.FnExactDecodeWord", spec := "fnExactDecodeWord", apart := false }
def FnExactDecodeWordSaid : Prop := fnExactDecodeWordRow.holds Try.pinned (OpenSpec.ofChange fnExactDecodeWordSpec)

/-- ITS FALSE NEIGHBOUR: 'it returns false'. Refute it at one input. -/
def fnExactDecodeWordWrong : ChangeSpec := { name := "fnExactDecodeWord", fn := fun _ => fun
  | [d] => { results := [.lit (.bool false)], args := [d] }
  | _ => none }
def FnExactDecodeWordWrongFalsely : Prop := fnExactDecodeWordRow.holds Try.pinned (OpenSpec.ofChange fnExactDecodeWordWrong)

/-- 'laws.FnFarApart': WHATEVER THE INPUT: true; the input reads as it did. -/
def fnFarApartSpec : ChangeSpec := { name := "fnFarApart", fn := fun _ => fun
  | [d] => { results := [.lit (.bool true)], args := [d] }
  | _ => none }
def fnFarApartRow : OpenClaim := { program := "ytbpldminegjjlaa", sum := "a4c1efefd4795ee6eb45d1376adc56da27f1a34c8fe71bc90ceb5da57f09111f", func := "loop.example/g03311/laws.FnFarApart", spec := "fnFarApart", apart := false }
def FnFarApartSaid : Prop := fnFarApartRow.holds Try.pinned (OpenSpec.ofChange fnFarApartSpec)

/-- ITS FALSE NEIGHBOUR: 'it returns false'. Refute it at one input. -/
def fnFarApartWrong : ChangeSpec := { name := "fnFarApart", fn := fun _ => fun
  | [d] => { results := [.lit (.bool false)], args := [d] }
  | _ => none }
def FnFarApartWrongFalsely : Prop := fnFarApartRow.holds Try.pinned (OpenSpec.ofChange fnFarApartWrong)

/-- 'laws.FnTwoFlipped': WHATEVER THE INPUT: true; the input reads as it did. -/
def fnTwoFlippedSpec : ChangeSpec := { name := "fnTwoFlipped", fn := fun _ => fun
  | [d] => { results := [.lit (.bool true)], args := [d] }
  | _ => none }
def fnTwoFlippedRow : OpenClaim := { program := "ytbpldminegjjlaa", sum := "a4c1efefd4795ee6eb45d1376adc56da27f1a34c8fe71bc90ceb5da57f09111f", func := "loop.example/g03311/laws.FnTwoFlipped", spec := "fnTwoFlipped", apart := false }
def FnTwoFlippedSaid : Prop := fnTwoFlippedRow.holds Try.pinned (OpenSpec.ofChange fnTwoFlippedSpec)

/-- ITS FALSE NEIGHBOUR: 'it returns false'. Refute it at one input. -/
def fnTwoFlippedWrong : ChangeSpec := { name := "fnTwoFlipped", fn := fun _ => fun
  | [d] => { results := [.lit (.bool false)], args := [d] }
  | _ => none }
def FnTwoFlippedWrongFalsely : Prop := fnTwoFlippedRow.holds Try.pinned (OpenSpec.ofChange fnTwoFlippedWrong)

/-- 'laws.FnExactMuxCount': WHATEVER THE INPUT: true; the input reads as it did. -/
def fnExactMuxCountSpec : ChangeSpec := { name := "fnExactMuxCount", fn := fun _ => fun
  | [d] => { results := [.lit (.bool true)], args := [d] }
  | _ => none }
def fnExactMuxCountRow : OpenClaim := { program := "ytbpldminegjjlaa", sum := "a4c1efefd4795ee6eb45d1376adc56da27f1a34c8fe71bc90ceb5da57f09111f", func := "loop.example/g03311/laws.FnExactMuxCount", spec := "fnExactMuxCount", apart := false }
def FnExactMuxCountSaid : Prop := fnExactMuxCountRow.holds Try.pinned (OpenSpec.ofChange fnExactMuxCountSpec)

/-- ITS FALSE NEIGHBOUR: 'it returns false'. Refute it at one input. -/
def fnExactMuxCountWrong : ChangeSpec := { name := "fnExactMuxCount", fn := fun _ => fun
  | [d] => { results := [.lit (.bool false)], args := [d] }
  | _ => none }
def FnExactMuxCountWrongFalsely : Prop := fnExactMuxCountRow.holds Try.pinned (OpenSpec.ofChange fnExactMuxCountWrong)

/-- 'laws.FnExactFrameWords': WHATEVER THE INPUT: true; the input reads as it did. -/
def fnExactFrameWordsSpec : ChangeSpec := { name := "fnExactFrameWords", fn := fun _ => fun
  | [d] => { results := [.lit (.bool true)], args := [d] }
  | _ => none }
def fnExactFrameWordsRow : OpenClaim := { program := "ytbpldminegjjlaa", sum := "a4c1efefd4795ee6eb45d1376adc56da27f1a34c8fe71bc90ceb5da57f09111f", func := "loop.example/g03311/laws.FnExactFrameWords", spec := "fnExactFrameWords", apart := false }
def FnExactFrameWordsSaid : Prop := fnExactFrameWordsRow.holds Try.pinned (OpenSpec.ofChange fnExactFrameWordsSpec)

/-- ITS FALSE NEIGHBOUR: 'it returns false'. Refute it at one input. -/
def fnExactFrameWordsWrong : ChangeSpec := { name := "fnExactFrameWords", fn := fun _ => fun
  | [d] => { results := [.lit (.bool false)], args := [d] }
  | _ => none }
def FnExactFrameWordsWrongFalsely : Prop := fnExactFrameWordsRow.holds Try.pinned (OpenSpec.ofChange fnExactFrameWordsWrong)

/-- 'laws.FnRamReads': WHATEVER THE INPUT: true; the input reads as it did. -/
def fnRamReadsSpec : ChangeSpec := { name := "fnRamReads", fn := fun _ => fun
  | [d] => { results := [.lit (.bool true)], args := [d] }
  | _ => none }
def fnRamReadsRow : OpenClaim := { program := "ytbpldminegjjlaa", sum := "a4c1efefd4795ee6eb45d1376adc56da27f1a34c8fe71bc90ceb5da57f09111f", func := "loop.example/g03311/laws.FnRamReads", spec := "fnRamReads", apart := false }
def FnRamReadsSaid : Prop := fnRamReadsRow.holds Try.pinned (OpenSpec.ofChange fnRamReadsSpec)

/-- ITS FALSE NEIGHBOUR: 'it returns false'. Refute it at one input. -/
def fnRamReadsWrong : ChangeSpec := { name := "fnRamReads", fn := fun _ => fun
  | [d] => { results := [.lit (.bool false)], args := [d] }
  | _ => none }
def FnRamReadsWrongFalsely : Prop := fnRamReadsRow.holds Try.pinned (OpenSpec.ofChange fnRamReadsWrong)

/- THE SECOND FORM. 'bulk': how many values and letters a reading holds, each counted each time it is reached (what is shared counts as often as it is met; a slice's spare places count too). A statement '..UptoSaid' is the law's where the arguments, and the package variables that the reading takes, are together of bulk at most 1048576: NARROWER than '..Said'. Prove '..Said' where nothing that the law and all that it calls make is longer than what came in: it says more and counts as full. Else prove '..UptoSaid'. A law counts once. -/
mutual
def uptoBulk {H : Type} : DataW H → Nat
  | .lit (.string bytes) => bytes.length + 1
  | .lit _ => 1
  | .nil => 1
  | .ptr d => uptoBulk d + 1
  | .slice elems spare => uptoBulkAll elems + uptoBulkAll spare + 1
  | .agg parts => uptoBulkAll parts + 1
  | .iface _ d => uptoBulk d + 1
  | .map entries => uptoBulkEntries entries + 1
  | .held _ => 1
def uptoBulkAll {H : Type} : List (DataW H) → Nat
  | [] => 0
  | d :: r => uptoBulk d + uptoBulkAll r
def uptoBulkEntries {H : Type} : List (Lit × DataW H) → Nat
  | [] => 0
  | x :: r => uptoBulkEntry x + uptoBulkEntries r
def uptoBulkEntry {H : Type} : Lit × DataW H → Nat
  | (.string bytes, d) => bytes.length + uptoBulk d + 1
  | (_, d) => uptoBulk d + 1
 end
def uptoSmall : (H : Type) → List (DataW H) → Bool := fun _ ds => decide (uptoBulkAll ds ≤ 1048576)
def OpenSpec.upto (s : _root_.Go.ChangeSpec) : _root_.Go.OpenSpec := { _root_.Go.OpenSpec.ofChange s with cond := some uptoSmall }

/-- 'laws.FnExactFlipBit', WHERE WHAT IT READS IS OF BULK AT MOST 1048576: true; the input reads as it did. -/
def fnExactFlipBitUptoRow : OpenClaim := { program := "ytbpldminegjjlaa", sum := "a4c1efefd4795ee6eb45d1376adc56da27f1a34c8fe71bc90ceb5da57f09111f", func := "loop.example/g03311/laws.FnExactFlipBit", spec := "fnExactFlipBit", apart := false, narrowed := true }
def FnExactFlipBitUptoSaid : Prop := fnExactFlipBitUptoRow.holds Try.pinned (OpenSpec.upto fnExactFlipBitSpec)

/-- 'laws.FnExactSyndrome', WHERE WHAT IT READS IS OF BULK AT MOST 1048576: true; the input reads as it did. -/
def fnExactSyndromeUptoRow : OpenClaim := { program := "ytbpldminegjjlaa", sum := "a4c1efefd4795ee6eb45d1376adc56da27f1a34c8fe71bc90ceb5da57f09111f", func := "loop.example/g03311/laws.FnExactSyndrome", spec := "fnExactSyndrome", apart := false, narrowed := true }
def FnExactSyndromeUptoSaid : Prop := fnExactSyndromeUptoRow.holds Try.pinned (OpenSpec.upto fnExactSyndromeSpec)

/-- 'laws.FnExactBitDistance', WHERE WHAT IT READS IS OF BULK AT MOST 1048576: true; the input reads as it did. -/
def fnExactBitDistanceUptoRow : OpenClaim := { program := "ytbpldminegjjlaa", sum := "a4c1efefd4795ee6eb45d1376adc56da27f1a34c8fe71bc90ceb5da57f09111f", func := "loop.example/g03311/laws.FnExactBitDistance", spec := "fnExactBitDistance", apart := false, narrowed := true }
def FnExactBitDistanceUptoSaid : Prop := fnExactBitDistanceUptoRow.holds Try.pinned (OpenSpec.upto fnExactBitDistanceSpec)

/-- 'laws.FnExactDataBits', WHERE WHAT IT READS IS OF BULK AT MOST 1048576: true; the input reads as it did. -/
def fnExactDataBitsUptoRow : OpenClaim := { program := "ytbpldminegjjlaa", sum := "a4c1efefd4795ee6eb45d1376adc56da27f1a34c8fe71bc90ceb5da57f09111f", func := "loop.example/g03311/laws.FnExactDataBits", spec := "fnExactDataBits", apart := false, narrowed := true }
def FnExactDataBitsUptoSaid : Prop := fnExactDataBitsUptoRow.holds Try.pinned (OpenSpec.upto fnExactDataBitsSpec)

/-- 'laws.FnExactEncodeWord', WHERE WHAT IT READS IS OF BULK AT MOST 1048576: true; the input reads as it did. -/
def fnExactEncodeWordUptoRow : OpenClaim := { program := "ytbpldminegjjlaa", sum := "a4c1efefd4795ee6eb45d1376adc56da27f1a34c8fe71bc90ceb5da57f09111f", func := "loop.example/g03311/laws.FnExactEncodeWord", spec := "fnExactEncodeWord", apart := false, narrowed := true }
def FnExactEncodeWordUptoSaid : Prop := fnExactEncodeWordUptoRow.holds Try.pinned (OpenSpec.upto fnExactEncodeWordSpec)

/-- 'laws.FnExactDecodeWord', WHERE WHAT IT READS IS OF BULK AT MOST 1048576: true; the input reads as it did. -/
def fnExactDecodeWordUptoRow : OpenClaim := { program := "ytbpldminegjjlaa", sum := "a4c1efefd4795ee6eb45d1376adc56da27f1a34c8fe71bc90ceb5da57f09111f", func := "loop.example/g03311/laws.FnExactDecodeWord", spec := "fnExactDecodeWord", apart := false, narrowed := true }
def FnExactDecodeWordUptoSaid : Prop := fnExactDecodeWordUptoRow.holds Try.pinned (OpenSpec.upto fnExactDecodeWordSpec)

/-- 'laws.FnFarApart', WHERE WHAT IT READS IS OF BULK AT MOST 1048576: true; the input reads as it did. -/
def fnFarApartUptoRow : OpenClaim := { program := "ytbpldminegjjlaa", sum := "a4c1efefd4795ee6eb45d1376adc56da27f1a34c8fe71bc90ceb5da57f09111f", func := "loop.example/g03311/laws.FnFarApart", spec := "fnFarApart", apart := false, narrowed := true }
def FnFarApartUptoSaid : Prop := fnFarApartUptoRow.holds Try.pinned (OpenSpec.upto fnFarApartSpec)

/-- 'laws.FnTwoFlipped', WHERE WHAT IT READS IS OF BULK AT MOST 1048576: true; the input reads as it did. -/
def fnTwoFlippedUptoRow : OpenClaim := { program := "ytbpldminegjjlaa", sum := "a4c1efefd4795ee6eb45d1376adc56da27f1a34c8fe71bc90ceb5da57f09111f", func := "loop.example/g03311/laws.FnTwoFlipped", spec := "fnTwoFlipped", apart := false, narrowed := true }
def FnTwoFlippedUptoSaid : Prop := fnTwoFlippedUptoRow.holds Try.pinned (OpenSpec.upto fnTwoFlippedSpec)

/-- 'laws.FnExactMuxCount', WHERE WHAT IT READS IS OF BULK AT MOST 1048576: true; the input reads as it did. -/
def fnExactMuxCountUptoRow : OpenClaim := { program := "ytbpldminegjjlaa", sum := "a4c1efefd4795ee6eb45d1376adc56da27f1a34c8fe71bc90ceb5da57f09111f", func := "loop.example/g03311/laws.FnExactMuxCount", spec := "fnExactMuxCount", apart := false, narrowed := true }
def FnExactMuxCountUptoSaid : Prop := fnExactMuxCountUptoRow.holds Try.pinned (OpenSpec.upto fnExactMuxCountSpec)

/-- 'laws.FnExactFrameWords', WHERE WHAT IT READS IS OF BULK AT MOST 1048576: true; the input reads as it did. -/
def fnExactFrameWordsUptoRow : OpenClaim := { program := "ytbpldminegjjlaa", sum := "a4c1efefd4795ee6eb45d1376adc56da27f1a34c8fe71bc90ceb5da57f09111f", func := "loop.example/g03311/laws.FnExactFrameWords", spec := "fnExactFrameWords", apart := false, narrowed := true }
def FnExactFrameWordsUptoSaid : Prop := fnExactFrameWordsUptoRow.holds Try.pinned (OpenSpec.upto fnExactFrameWordsSpec)

/-- 'laws.FnRamReads', WHERE WHAT IT READS IS OF BULK AT MOST 1048576: true; the input reads as it did. -/
def fnRamReadsUptoRow : OpenClaim := { program := "ytbpldminegjjlaa", sum := "a4c1efefd4795ee6eb45d1376adc56da27f1a34c8fe71bc90ceb5da57f09111f", func := "loop.example/g03311/laws.FnRamReads", spec := "fnRamReads", apart := false, narrowed := true }
def FnRamReadsUptoSaid : Prop := fnRamReadsUptoRow.holds Try.pinned (OpenSpec.upto fnRamReadsSpec)

end Rows
end Go.Proofs.Ytbpldminegjjlaa
