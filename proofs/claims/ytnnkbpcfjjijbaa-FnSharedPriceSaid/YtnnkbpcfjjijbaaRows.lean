/-
  No cell of these rows narrows 'for every input' (looked for: loops, veiled, ifaces, maps, wideKeys, modest, calm, conditions, laid).
  DERIVED. THE GIVEN ROWS OF THIS SEAT. 12 by the template 'for every input the law returns true; each argument reads behind the call as it read before'; 0 by the template 'total and deterministic' (their statements: YtnnkbpcfjjijbaaTotals.lean).
  GIVEN WITH THE SEED: the statements are not yours to turn. If you find one false, say at which input.
  Laid BY PROGRAM, IN A SANDBOX (cutbox-rows.mjs): the forced cells as the released guide's own fill.sh prints them over the translation 024efbeb35eaaa80… (all of the seat's roots in one cut). By AI agents, Wed Nov 11 2026. No macro, syntax, notation, axiom, sorry.
-/
import Derived.Test.YtnnkbpcfjjijbaaChecked
import GoSem.Claim
import GoSem.ClaimJoined
import GoSem.ClaimMapViews
import Derived.JoinedTies
import Derived.KernelRfl
namespace Go.Proofs.Ytnnkbpcfjjijbaa
/- THE CELL 'sum', in the pinned program and in every row, IS THE sha256 OF THE DUMP (.gsa) THAT YtnnkbpcfjjijbaaProg.lean LOADS. Nothing in Lean hashes anything: it is a label: what it is worth is what the hold of that sum in a sandbox is worth. -/
noncomputable def Try.pinned : Pinned := { name := "ytnnkbpcfjjijbaa", sum := "024efbeb35eaaa8059fe97aff1531e7726bd6ca39deee8a28d86f15a1df754f7", checked := Try.checked }
namespace Rows
def none {H : Type} : Left H := { results := [], args := [] }

/-- 'laws.FnTiles': WHATEVER THE INPUT: true; the input reads as it did. -/
def fnTilesSpec : ChangeSpec := { name := "fnTiles", fn := fun _ => fun
  | [d] => { results := [.lit (.bool true)], args := [d] }
  | _ => none }
def fnTilesRow : OpenClaim := { program := "ytnnkbpcfjjijbaa", sum := "024efbeb35eaaa8059fe97aff1531e7726bd6ca39deee8a28d86f15a1df754f7", func := "loop.example/g03311/laws.FnTiles", spec := "fnTiles", apart := false }
def FnTilesSaid : Prop := fnTilesRow.holds Try.pinned (OpenSpec.ofChange fnTilesSpec)

/-- ITS FALSE NEIGHBOUR: 'it returns false'. Refute it at one input. -/
def fnTilesWrong : ChangeSpec := { name := "fnTiles", fn := fun _ => fun
  | [d] => { results := [.lit (.bool false)], args := [d] }
  | _ => none }
def FnTilesWrongFalsely : Prop := fnTilesRow.holds Try.pinned (OpenSpec.ofChange fnTilesWrong)

/-- 'laws.FnExactEmptyTile': WHATEVER THE INPUT: true; the input reads as it did. -/
def fnExactEmptyTileSpec : ChangeSpec := { name := "fnExactEmptyTile", fn := fun _ => fun
  | [d] => { results := [.lit (.bool true)], args := [d] }
  | _ => none }
def fnExactEmptyTileRow : OpenClaim := { program := "ytnnkbpcfjjijbaa", sum := "024efbeb35eaaa8059fe97aff1531e7726bd6ca39deee8a28d86f15a1df754f7", func := "loop.example/g03311/laws.FnExactEmptyTile", spec := "fnExactEmptyTile", apart := false }
def FnExactEmptyTileSaid : Prop := fnExactEmptyTileRow.holds Try.pinned (OpenSpec.ofChange fnExactEmptyTileSpec)

/-- ITS FALSE NEIGHBOUR: 'it returns false'. Refute it at one input. -/
def fnExactEmptyTileWrong : ChangeSpec := { name := "fnExactEmptyTile", fn := fun _ => fun
  | [d] => { results := [.lit (.bool false)], args := [d] }
  | _ => none }
def FnExactEmptyTileWrongFalsely : Prop := fnExactEmptyTileRow.holds Try.pinned (OpenSpec.ofChange fnExactEmptyTileWrong)

/-- 'laws.FnWiresReach': WHATEVER THE INPUT: true; the input reads as it did. -/
def fnWiresReachSpec : ChangeSpec := { name := "fnWiresReach", fn := fun _ => fun
  | [d] => { results := [.lit (.bool true)], args := [d] }
  | _ => none }
def fnWiresReachRow : OpenClaim := { program := "ytnnkbpcfjjijbaa", sum := "024efbeb35eaaa8059fe97aff1531e7726bd6ca39deee8a28d86f15a1df754f7", func := "loop.example/g03311/laws.FnWiresReach", spec := "fnWiresReach", apart := false }
def FnWiresReachSaid : Prop := fnWiresReachRow.holds Try.pinned (OpenSpec.ofChange fnWiresReachSpec)

/-- ITS FALSE NEIGHBOUR: 'it returns false'. Refute it at one input. -/
def fnWiresReachWrong : ChangeSpec := { name := "fnWiresReach", fn := fun _ => fun
  | [d] => { results := [.lit (.bool false)], args := [d] }
  | _ => none }
def FnWiresReachWrongFalsely : Prop := fnWiresReachRow.holds Try.pinned (OpenSpec.ofChange fnWiresReachWrong)

/-- 'laws.FnExactTileConfigOk': WHATEVER THE INPUT: true; the input reads as it did. -/
def fnExactTileConfigOkSpec : ChangeSpec := { name := "fnExactTileConfigOk", fn := fun _ => fun
  | [d1, d2] => { results := [.lit (.bool true)], args := [d1, d2] }
  | _ => none }
def fnExactTileConfigOkRow : OpenClaim := { program := "ytnnkbpcfjjijbaa", sum := "024efbeb35eaaa8059fe97aff1531e7726bd6ca39deee8a28d86f15a1df754f7", func := "loop.example/g03311/laws.FnExactTileConfigOk", spec := "fnExactTileConfigOk", apart := false }
def FnExactTileConfigOkSaid : Prop := fnExactTileConfigOkRow.holds Try.pinned (OpenSpec.ofChange fnExactTileConfigOkSpec)

/-- ITS FALSE NEIGHBOUR: 'it returns false'. Refute it at one input. -/
def fnExactTileConfigOkWrong : ChangeSpec := { name := "fnExactTileConfigOk", fn := fun _ => fun
  | [d1, d2] => { results := [.lit (.bool false)], args := [d1, d2] }
  | _ => none }
def FnExactTileConfigOkWrongFalsely : Prop := fnExactTileConfigOkRow.holds Try.pinned (OpenSpec.ofChange fnExactTileConfigOkWrong)

/-- 'laws.FnExactMuxNode': WHATEVER THE INPUT: true; the input reads as it did. -/
def fnExactMuxNodeSpec : ChangeSpec := { name := "fnExactMuxNode", fn := fun _ => fun
  | [d1, d2, d3] => { results := [.lit (.bool true)], args := [d1, d2, d3] }
  | _ => none }
def fnExactMuxNodeRow : OpenClaim := { program := "ytnnkbpcfjjijbaa", sum := "024efbeb35eaaa8059fe97aff1531e7726bd6ca39deee8a28d86f15a1df754f7", func := "loop.example/g03311/laws.FnExactMuxNode", spec := "fnExactMuxNode", apart := false }
def FnExactMuxNodeSaid : Prop := fnExactMuxNodeRow.holds Try.pinned (OpenSpec.ofChange fnExactMuxNodeSpec)

/-- ITS FALSE NEIGHBOUR: 'it returns false'. Refute it at one input. -/
def fnExactMuxNodeWrong : ChangeSpec := { name := "fnExactMuxNode", fn := fun _ => fun
  | [d1, d2, d3] => { results := [.lit (.bool false)], args := [d1, d2, d3] }
  | _ => none }
def FnExactMuxNodeWrongFalsely : Prop := fnExactMuxNodeRow.holds Try.pinned (OpenSpec.ofChange fnExactMuxNodeWrong)

/-- 'laws.FnSourcesLocal': WHATEVER THE INPUT: true; the input reads as it did. -/
def fnSourcesLocalSpec : ChangeSpec := { name := "fnSourcesLocal", fn := fun _ => fun
  | [d] => { results := [.lit (.bool true)], args := [d] }
  | _ => none }
def fnSourcesLocalRow : OpenClaim := { program := "ytnnkbpcfjjijbaa", sum := "024efbeb35eaaa8059fe97aff1531e7726bd6ca39deee8a28d86f15a1df754f7", func := "loop.example/g03311/laws.FnSourcesLocal", spec := "fnSourcesLocal", apart := false }
def FnSourcesLocalSaid : Prop := fnSourcesLocalRow.holds Try.pinned (OpenSpec.ofChange fnSourcesLocalSpec)

/-- ITS FALSE NEIGHBOUR: 'it returns false'. Refute it at one input. -/
def fnSourcesLocalWrong : ChangeSpec := { name := "fnSourcesLocal", fn := fun _ => fun
  | [d] => { results := [.lit (.bool false)], args := [d] }
  | _ => none }
def FnSourcesLocalWrongFalsely : Prop := fnSourcesLocalRow.holds Try.pinned (OpenSpec.ofChange fnSourcesLocalWrong)

/-- 'laws.FnExactDecodeTile': WHATEVER THE INPUT: true; the input reads as it did. -/
def fnExactDecodeTileSpec : ChangeSpec := { name := "fnExactDecodeTile", fn := fun _ => fun
  | [d1, d2] => { results := [.lit (.bool true)], args := [d1, d2] }
  | _ => none }
def fnExactDecodeTileRow : OpenClaim := { program := "ytnnkbpcfjjijbaa", sum := "024efbeb35eaaa8059fe97aff1531e7726bd6ca39deee8a28d86f15a1df754f7", func := "loop.example/g03311/laws.FnExactDecodeTile", spec := "fnExactDecodeTile", apart := false }
def FnExactDecodeTileSaid : Prop := fnExactDecodeTileRow.holds Try.pinned (OpenSpec.ofChange fnExactDecodeTileSpec)

/-- ITS FALSE NEIGHBOUR: 'it returns false'. Refute it at one input. -/
def fnExactDecodeTileWrong : ChangeSpec := { name := "fnExactDecodeTile", fn := fun _ => fun
  | [d1, d2] => { results := [.lit (.bool false)], args := [d1, d2] }
  | _ => none }
def FnExactDecodeTileWrongFalsely : Prop := fnExactDecodeTileRow.holds Try.pinned (OpenSpec.ofChange fnExactDecodeTileWrong)

/-- 'laws.FnExactEncodeTile': WHATEVER THE INPUT: true; the input reads as it did. -/
def fnExactEncodeTileSpec : ChangeSpec := { name := "fnExactEncodeTile", fn := fun _ => fun
  | [d1, d2] => { results := [.lit (.bool true)], args := [d1, d2] }
  | _ => none }
def fnExactEncodeTileRow : OpenClaim := { program := "ytnnkbpcfjjijbaa", sum := "024efbeb35eaaa8059fe97aff1531e7726bd6ca39deee8a28d86f15a1df754f7", func := "loop.example/g03311/laws.FnExactEncodeTile", spec := "fnExactEncodeTile", apart := false }
def FnExactEncodeTileSaid : Prop := fnExactEncodeTileRow.holds Try.pinned (OpenSpec.ofChange fnExactEncodeTileSpec)

/-- ITS FALSE NEIGHBOUR: 'it returns false'. Refute it at one input. -/
def fnExactEncodeTileWrong : ChangeSpec := { name := "fnExactEncodeTile", fn := fun _ => fun
  | [d1, d2] => { results := [.lit (.bool false)], args := [d1, d2] }
  | _ => none }
def FnExactEncodeTileWrongFalsely : Prop := fnExactEncodeTileRow.holds Try.pinned (OpenSpec.ofChange fnExactEncodeTileWrong)

/-- 'laws.FnSharedPrice': WHATEVER THE INPUT: true; the input reads as it did. -/
def fnSharedPriceSpec : ChangeSpec := { name := "fnSharedPrice", fn := fun _ => fun
  | [d] => { results := [.lit (.bool true)], args := [d] }
  | _ => none }
def fnSharedPriceRow : OpenClaim := { program := "ytnnkbpcfjjijbaa", sum := "024efbeb35eaaa8059fe97aff1531e7726bd6ca39deee8a28d86f15a1df754f7", func := "loop.example/g03311/laws.FnSharedPrice", spec := "fnSharedPrice", apart := false }
def FnSharedPriceSaid : Prop := fnSharedPriceRow.holds Try.pinned (OpenSpec.ofChange fnSharedPriceSpec)

/-- ITS FALSE NEIGHBOUR: 'it returns false'. Refute it at one input. -/
def fnSharedPriceWrong : ChangeSpec := { name := "fnSharedPrice", fn := fun _ => fun
  | [d] => { results := [.lit (.bool false)], args := [d] }
  | _ => none }
def FnSharedPriceWrongFalsely : Prop := fnSharedPriceRow.holds Try.pinned (OpenSpec.ofChange fnSharedPriceWrong)

/-- 'laws.FnExactSelectFor': WHATEVER THE INPUT: true; the input reads as it did. -/
def fnExactSelectForSpec : ChangeSpec := { name := "fnExactSelectFor", fn := fun _ => fun
  | [d1, d2, d3] => { results := [.lit (.bool true)], args := [d1, d2, d3] }
  | _ => none }
def fnExactSelectForRow : OpenClaim := { program := "ytnnkbpcfjjijbaa", sum := "024efbeb35eaaa8059fe97aff1531e7726bd6ca39deee8a28d86f15a1df754f7", func := "loop.example/g03311/laws.FnExactSelectFor", spec := "fnExactSelectFor", apart := false }
def FnExactSelectForSaid : Prop := fnExactSelectForRow.holds Try.pinned (OpenSpec.ofChange fnExactSelectForSpec)

/-- ITS FALSE NEIGHBOUR: 'it returns false'. Refute it at one input. -/
def fnExactSelectForWrong : ChangeSpec := { name := "fnExactSelectFor", fn := fun _ => fun
  | [d1, d2, d3] => { results := [.lit (.bool false)], args := [d1, d2, d3] }
  | _ => none }
def FnExactSelectForWrongFalsely : Prop := fnExactSelectForRow.holds Try.pinned (OpenSpec.ofChange fnExactSelectForWrong)

/-- 'laws.FnLineSeparates': WHATEVER THE INPUT: true; the input reads as it did. -/
def fnLineSeparatesSpec : ChangeSpec := { name := "fnLineSeparates", fn := fun _ => fun
  | [d] => { results := [.lit (.bool true)], args := [d] }
  | _ => none }
def fnLineSeparatesRow : OpenClaim := { program := "ytnnkbpcfjjijbaa", sum := "024efbeb35eaaa8059fe97aff1531e7726bd6ca39deee8a28d86f15a1df754f7", func := "loop.example/g03311/laws.FnLineSeparates", spec := "fnLineSeparates", unfollowed := true, recurses := true, apart := false }
def FnLineSeparatesSaid : Prop := fnLineSeparatesRow.holds Try.pinned (OpenSpec.ofChange fnLineSeparatesSpec)

/-- ITS FALSE NEIGHBOUR: 'it returns false'. Refute it at one input. -/
def fnLineSeparatesWrong : ChangeSpec := { name := "fnLineSeparates", fn := fun _ => fun
  | [d] => { results := [.lit (.bool false)], args := [d] }
  | _ => none }
def FnLineSeparatesWrongFalsely : Prop := fnLineSeparatesRow.holds Try.pinned (OpenSpec.ofChange fnLineSeparatesWrong)

/-- 'laws.FnTileRound': WHATEVER THE INPUT: true; the input reads as it did. -/
def fnTileRoundSpec : ChangeSpec := { name := "fnTileRound", fn := fun _ => fun
  | [d] => { results := [.lit (.bool true)], args := [d] }
  | _ => none }
def fnTileRoundRow : OpenClaim := { program := "ytnnkbpcfjjijbaa", sum := "024efbeb35eaaa8059fe97aff1531e7726bd6ca39deee8a28d86f15a1df754f7", func := "loop.example/g03311/laws.FnTileRound", spec := "fnTileRound", apart := false }
def FnTileRoundSaid : Prop := fnTileRoundRow.holds Try.pinned (OpenSpec.ofChange fnTileRoundSpec)

/-- ITS FALSE NEIGHBOUR: 'it returns false'. Refute it at one input. -/
def fnTileRoundWrong : ChangeSpec := { name := "fnTileRound", fn := fun _ => fun
  | [d] => { results := [.lit (.bool false)], args := [d] }
  | _ => none }
def FnTileRoundWrongFalsely : Prop := fnTileRoundRow.holds Try.pinned (OpenSpec.ofChange fnTileRoundWrong)

/- THE SECOND FORM. 'bulk': how many values and letters a reading holds, each counted each time it is reached (what is shared counts as often as it is met; a slice's spare places count too). A statement '..UptoSaid' is the law's where the arguments, and the package variables that the reading takes, are together of bulk at most 1048576: NARROWER than '..Said'. Prove '..Said' where nothing that the law and all that it calls make is longer than what came in: it says more and counts as full. Else prove '..UptoSaid'. A law counts once. -/
mutual
def uptoBulk {H : Type} : DataW H → Nat
  | .lit (.string bytes) => bytes.length + 1
  | .lit _ => 1
  | .nil => 1
  | .ptr d => uptoBulk d + 1
  | .slice elems spare => uptoBulkAll elems + uptoBulkAll spare + 1
  | .agg parts => uptoBulkAll parts + 1
  | .iface _ d => uptoBulk d + 1
  | .map entries => uptoBulkEntries entries + 1
  | .held _ => 1
def uptoBulkAll {H : Type} : List (DataW H) → Nat
  | [] => 0
  | d :: r => uptoBulk d + uptoBulkAll r
def uptoBulkEntries {H : Type} : List (Lit × DataW H) → Nat
  | [] => 0
  | x :: r => uptoBulkEntry x + uptoBulkEntries r
def uptoBulkEntry {H : Type} : Lit × DataW H → Nat
  | (.string bytes, d) => bytes.length + uptoBulk d + 1
  | (_, d) => uptoBulk d + 1
 end
def uptoSmall : (H : Type) → List (DataW H) → Bool := fun _ ds => decide (uptoBulkAll ds ≤ 1048576)
def OpenSpec.upto (s : _root_.Go.ChangeSpec) : _root_.Go.OpenSpec := { _root_.Go.OpenSpec.ofChange s with cond := some uptoSmall }

/-- 'laws.FnTiles', WHERE WHAT IT READS IS OF BULK AT MOST 1048576: true; the input reads as it did. -/
def fnTilesUptoRow : OpenClaim := { program := "ytnnkbpcfjjijbaa", sum := "024efbeb35eaaa8059fe97aff1531e7726bd6ca39deee8a28d86f15a1df754f7", func := "loop.example/g03311/laws.FnTiles", spec := "fnTiles", apart := false, narrowed := true }
def FnTilesUptoSaid : Prop := fnTilesUptoRow.holds Try.pinned (OpenSpec.upto fnTilesSpec)

/-- 'laws.FnExactEmptyTile', WHERE WHAT IT READS IS OF BULK AT MOST 1048576: true; the input reads as it did. -/
def fnExactEmptyTileUptoRow : OpenClaim := { program := "ytnnkbpcfjjijbaa", sum := "024efbeb35eaaa8059fe97aff1531e7726bd6ca39deee8a28d86f15a1df754f7", func := "loop.example/g03311/laws.FnExactEmptyTile", spec := "fnExactEmptyTile", apart := false, narrowed := true }
def FnExactEmptyTileUptoSaid : Prop := fnExactEmptyTileUptoRow.holds Try.pinned (OpenSpec.upto fnExactEmptyTileSpec)

/-- 'laws.FnWiresReach', WHERE WHAT IT READS IS OF BULK AT MOST 1048576: true; the input reads as it did. -/
def fnWiresReachUptoRow : OpenClaim := { program := "ytnnkbpcfjjijbaa", sum := "024efbeb35eaaa8059fe97aff1531e7726bd6ca39deee8a28d86f15a1df754f7", func := "loop.example/g03311/laws.FnWiresReach", spec := "fnWiresReach", apart := false, narrowed := true }
def FnWiresReachUptoSaid : Prop := fnWiresReachUptoRow.holds Try.pinned (OpenSpec.upto fnWiresReachSpec)

/-- 'laws.FnExactTileConfigOk', WHERE WHAT IT READS IS OF BULK AT MOST 1048576: true; the input reads as it did. -/
def fnExactTileConfigOkUptoRow : OpenClaim := { program := "ytnnkbpcfjjijbaa", sum := "024efbeb35eaaa8059fe97aff1531e7726bd6ca39deee8a28d86f15a1df754f7", func := "loop.example/g03311/laws.FnExactTileConfigOk", spec := "fnExactTileConfigOk", apart := false, narrowed := true }
def FnExactTileConfigOkUptoSaid : Prop := fnExactTileConfigOkUptoRow.holds Try.pinned (OpenSpec.upto fnExactTileConfigOkSpec)

/-- 'laws.FnExactMuxNode', WHERE WHAT IT READS IS OF BULK AT MOST 1048576: true; the input reads as it did. -/
def fnExactMuxNodeUptoRow : OpenClaim := { program := "ytnnkbpcfjjijbaa", sum := "024efbeb35eaaa8059fe97aff1531e7726bd6ca39deee8a28d86f15a1df754f7", func := "loop.example/g03311/laws.FnExactMuxNode", spec := "fnExactMuxNode", apart := false, narrowed := true }
def FnExactMuxNodeUptoSaid : Prop := fnExactMuxNodeUptoRow.holds Try.pinned (OpenSpec.upto fnExactMuxNodeSpec)

/-- 'laws.FnSourcesLocal', WHERE WHAT IT READS IS OF BULK AT MOST 1048576: true; the input reads as it did. -/
def fnSourcesLocalUptoRow : OpenClaim := { program := "ytnnkbpcfjjijbaa", sum := "024efbeb35eaaa8059fe97aff1531e7726bd6ca39deee8a28d86f15a1df754f7", func := "loop.example/g03311/laws.FnSourcesLocal", spec := "fnSourcesLocal", apart := false, narrowed := true }
def FnSourcesLocalUptoSaid : Prop := fnSourcesLocalUptoRow.holds Try.pinned (OpenSpec.upto fnSourcesLocalSpec)

/-- 'laws.FnExactDecodeTile', WHERE WHAT IT READS IS OF BULK AT MOST 1048576: true; the input reads as it did. -/
def fnExactDecodeTileUptoRow : OpenClaim := { program := "ytnnkbpcfjjijbaa", sum := "024efbeb35eaaa8059fe97aff1531e7726bd6ca39deee8a28d86f15a1df754f7", func := "loop.example/g03311/laws.FnExactDecodeTile", spec := "fnExactDecodeTile", apart := false, narrowed := true }
def FnExactDecodeTileUptoSaid : Prop := fnExactDecodeTileUptoRow.holds Try.pinned (OpenSpec.upto fnExactDecodeTileSpec)

/-- 'laws.FnExactEncodeTile', WHERE WHAT IT READS IS OF BULK AT MOST 1048576: true; the input reads as it did. -/
def fnExactEncodeTileUptoRow : OpenClaim := { program := "ytnnkbpcfjjijbaa", sum := "024efbeb35eaaa8059fe97aff1531e7726bd6ca39deee8a28d86f15a1df754f7", func := "loop.example/g03311/laws.FnExactEncodeTile", spec := "fnExactEncodeTile", apart := false, narrowed := true }
def FnExactEncodeTileUptoSaid : Prop := fnExactEncodeTileUptoRow.holds Try.pinned (OpenSpec.upto fnExactEncodeTileSpec)

/-- 'laws.FnSharedPrice', WHERE WHAT IT READS IS OF BULK AT MOST 1048576: true; the input reads as it did. -/
def fnSharedPriceUptoRow : OpenClaim := { program := "ytnnkbpcfjjijbaa", sum := "024efbeb35eaaa8059fe97aff1531e7726bd6ca39deee8a28d86f15a1df754f7", func := "loop.example/g03311/laws.FnSharedPrice", spec := "fnSharedPrice", apart := false, narrowed := true }
def FnSharedPriceUptoSaid : Prop := fnSharedPriceUptoRow.holds Try.pinned (OpenSpec.upto fnSharedPriceSpec)

/-- 'laws.FnExactSelectFor', WHERE WHAT IT READS IS OF BULK AT MOST 1048576: true; the input reads as it did. -/
def fnExactSelectForUptoRow : OpenClaim := { program := "ytnnkbpcfjjijbaa", sum := "024efbeb35eaaa8059fe97aff1531e7726bd6ca39deee8a28d86f15a1df754f7", func := "loop.example/g03311/laws.FnExactSelectFor", spec := "fnExactSelectFor", apart := false, narrowed := true }
def FnExactSelectForUptoSaid : Prop := fnExactSelectForUptoRow.holds Try.pinned (OpenSpec.upto fnExactSelectForSpec)

/-- 'laws.FnLineSeparates', WHERE WHAT IT READS IS OF BULK AT MOST 1048576: true; the input reads as it did. -/
def fnLineSeparatesUptoRow : OpenClaim := { program := "ytnnkbpcfjjijbaa", sum := "024efbeb35eaaa8059fe97aff1531e7726bd6ca39deee8a28d86f15a1df754f7", func := "loop.example/g03311/laws.FnLineSeparates", spec := "fnLineSeparates", unfollowed := true, recurses := true, apart := false, narrowed := true }
def FnLineSeparatesUptoSaid : Prop := fnLineSeparatesUptoRow.holds Try.pinned (OpenSpec.upto fnLineSeparatesSpec)

/-- 'laws.FnTileRound', WHERE WHAT IT READS IS OF BULK AT MOST 1048576: true; the input reads as it did. -/
def fnTileRoundUptoRow : OpenClaim := { program := "ytnnkbpcfjjijbaa", sum := "024efbeb35eaaa8059fe97aff1531e7726bd6ca39deee8a28d86f15a1df754f7", func := "loop.example/g03311/laws.FnTileRound", spec := "fnTileRound", apart := false, narrowed := true }
def FnTileRoundUptoSaid : Prop := fnTileRoundUptoRow.holds Try.pinned (OpenSpec.upto fnTileRoundSpec)

end Rows
end Go.Proofs.Ytnnkbpcfjjijbaa
