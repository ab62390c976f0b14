/-
  No cell of these rows narrows 'for every input' (looked for: loops, veiled, ifaces, maps, wideKeys, modest, calm, conditions, laid).
  DERIVED. THE GIVEN ROWS OF THIS SEAT. 4 by the template 'for every input the law returns true; each argument reads behind the call as it read before'; 0 by the template 'total and deterministic' (their statements: YteikplehipifkaaTotals.lean).
  GIVEN WITH THE SEED: the statements are not yours to turn. If you find one false, say at which input.
  Laid BY PROGRAM, IN A SANDBOX (cutbox-rows.mjs): the forced cells as the released guide's own fill.sh prints them over the translation d04325feea30a774… (all of the seat's roots in one cut). By AI agents, Wed Nov 11 2026. No macro, syntax, notation, axiom, sorry.
-/
import Derived.Test.YteikplehipifkaaChecked
import GoSem.Claim
import GoSem.ClaimJoined
import GoSem.ClaimMapViews
import Derived.JoinedTies
import Derived.KernelRfl
namespace Go.Proofs.Yteikplehipifkaa
/- THE CELL 'sum', in the pinned program and in every row, IS THE sha256 OF THE DUMP (.gsa) THAT YteikplehipifkaaProg.lean LOADS. Nothing in Lean hashes anything: it is a label: what it is worth is what the hold of that sum in a sandbox is worth. -/
noncomputable def Try.pinned : Pinned := { name := "yteikplehipifkaa", sum := "d04325feea30a77489f39ada575855d1e434bf3333f3e45840ae8951516a4a08", checked := Try.checked }
namespace Rows
def none {H : Type} : Left H := { results := [], args := [] }

/-- 'laws.FnConnsComplete': WHATEVER THE INPUT: true; the input reads as it did. -/
def fnConnsCompleteSpec : ChangeSpec := { name := "fnConnsComplete", fn := fun _ => fun
  | [d] => { results := [.lit (.bool true)], args := [d] }
  | _ => none }
def fnConnsCompleteRow : OpenClaim := { program := "yteikplehipifkaa", sum := "d04325feea30a77489f39ada575855d1e434bf3333f3e45840ae8951516a4a08", func := "loop.example/g03311/laws.FnConnsComplete", spec := "fnConnsComplete", apart := false }
def FnConnsCompleteSaid : Prop := fnConnsCompleteRow.holds Try.pinned (OpenSpec.ofChange fnConnsCompleteSpec)

/-- ITS FALSE NEIGHBOUR: 'it returns false'. Refute it at one input. -/
def fnConnsCompleteWrong : ChangeSpec := { name := "fnConnsComplete", fn := fun _ => fun
  | [d] => { results := [.lit (.bool false)], args := [d] }
  | _ => none }
def FnConnsCompleteWrongFalsely : Prop := fnConnsCompleteRow.holds Try.pinned (OpenSpec.ofChange fnConnsCompleteWrong)

/-- 'laws.FnMoveBack': WHATEVER THE INPUT: true; the input reads as it did. -/
def fnMoveBackSpec : ChangeSpec := { name := "fnMoveBack", fn := fun _ => fun
  | [d] => { results := [.lit (.bool true)], args := [d] }
  | _ => none }
def fnMoveBackRow : OpenClaim := { program := "yteikplehipifkaa", sum := "d04325feea30a77489f39ada575855d1e434bf3333f3e45840ae8951516a4a08", func := "loop.example/g03311/laws.FnMoveBack", spec := "fnMoveBack", apart := false }
def FnMoveBackSaid : Prop := fnMoveBackRow.holds Try.pinned (OpenSpec.ofChange fnMoveBackSpec)

/-- ITS FALSE NEIGHBOUR: 'it returns false'. Refute it at one input. -/
def fnMoveBackWrong : ChangeSpec := { name := "fnMoveBack", fn := fun _ => fun
  | [d] => { results := [.lit (.bool false)], args := [d] }
  | _ => none }
def FnMoveBackWrongFalsely : Prop := fnMoveBackRow.holds Try.pinned (OpenSpec.ofChange fnMoveBackWrong)

/-- 'laws.FnAnnealed': WHATEVER THE INPUT: true; the input reads as it did. -/
def fnAnnealedSpec : ChangeSpec := { name := "fnAnnealed", fn := fun _ => fun
  | [d] => { results := [.lit (.bool true)], args := [d] }
  | _ => none }
def fnAnnealedRow : OpenClaim := { program := "yteikplehipifkaa", sum := "d04325feea30a77489f39ada575855d1e434bf3333f3e45840ae8951516a4a08", func := "loop.example/g03311/laws.FnAnnealed", spec := "fnAnnealed", apart := false }
def FnAnnealedSaid : Prop := fnAnnealedRow.holds Try.pinned (OpenSpec.ofChange fnAnnealedSpec)

/-- ITS FALSE NEIGHBOUR: 'it returns false'. Refute it at one input. -/
def fnAnnealedWrong : ChangeSpec := { name := "fnAnnealed", fn := fun _ => fun
  | [d] => { results := [.lit (.bool false)], args := [d] }
  | _ => none }
def FnAnnealedWrongFalsely : Prop := fnAnnealedRow.holds Try.pinned (OpenSpec.ofChange fnAnnealedWrong)

/-- 'laws.FnInitialLegal': WHATEVER THE INPUT: true; the input reads as it did. -/
def fnInitialLegalSpec : ChangeSpec := { name := "fnInitialLegal", fn := fun _ => fun
  | [d] => { results := [.lit (.bool true)], args := [d] }
  | _ => none }
def fnInitialLegalRow : OpenClaim := { program := "yteikplehipifkaa", sum := "d04325feea30a77489f39ada575855d1e434bf3333f3e45840ae8951516a4a08", func := "loop.example/g03311/laws.FnInitialLegal", spec := "fnInitialLegal", apart := false }
def FnInitialLegalSaid : Prop := fnInitialLegalRow.holds Try.pinned (OpenSpec.ofChange fnInitialLegalSpec)

/-- ITS FALSE NEIGHBOUR: 'it returns false'. Refute it at one input. -/
def fnInitialLegalWrong : ChangeSpec := { name := "fnInitialLegal", fn := fun _ => fun
  | [d] => { results := [.lit (.bool false)], args := [d] }
  | _ => none }
def FnInitialLegalWrongFalsely : Prop := fnInitialLegalRow.holds Try.pinned (OpenSpec.ofChange fnInitialLegalWrong)

/- THE SECOND FORM. 'bulk': how many values and letters a reading holds, each counted each time it is reached (what is shared counts as often as it is met; a slice's spare places count too). A statement '..UptoSaid' is the law's where the arguments, and the package variables that the reading takes, are together of bulk at most 1048576: NARROWER than '..Said'. Prove '..Said' where nothing that the law and all that it calls make is longer than what came in: it says more and counts as full. Else prove '..UptoSaid'. A law counts once. -/
mutual
def uptoBulk {H : Type} : DataW H → Nat
  | .lit (.string bytes) => bytes.length + 1
  | .lit _ => 1
  | .nil => 1
  | .ptr d => uptoBulk d + 1
  | .slice elems spare => uptoBulkAll elems + uptoBulkAll spare + 1
  | .agg parts => uptoBulkAll parts + 1
  | .iface _ d => uptoBulk d + 1
  | .map entries => uptoBulkEntries entries + 1
  | .held _ => 1
def uptoBulkAll {H : Type} : List (DataW H) → Nat
  | [] => 0
  | d :: r => uptoBulk d + uptoBulkAll r
def uptoBulkEntries {H : Type} : List (Lit × DataW H) → Nat
  | [] => 0
  | x :: r => uptoBulkEntry x + uptoBulkEntries r
def uptoBulkEntry {H : Type} : Lit × DataW H → Nat
  | (.string bytes, d) => bytes.length + uptoBulk d + 1
  | (_, d) => uptoBulk d + 1
 end
def uptoSmall : (H : Type) → List (DataW H) → Bool := fun _ ds => decide (uptoBulkAll ds ≤ 1048576)
def OpenSpec.upto (s : _root_.Go.ChangeSpec) : _root_.Go.OpenSpec := { _root_.Go.OpenSpec.ofChange s with cond := some uptoSmall }

/-- 'laws.FnConnsComplete', WHERE WHAT IT READS IS OF BULK AT MOST 1048576: true; the input reads as it did. -/
def fnConnsCompleteUptoRow : OpenClaim := { program := "yteikplehipifkaa", sum := "d04325feea30a77489f39ada575855d1e434bf3333f3e45840ae8951516a4a08", func := "loop.example/g03311/laws.FnConnsComplete", spec := "fnConnsComplete", apart := false, narrowed := true }
def FnConnsCompleteUptoSaid : Prop := fnConnsCompleteUptoRow.holds Try.pinned (OpenSpec.upto fnConnsCompleteSpec)

/-- 'laws.FnMoveBack', WHERE WHAT IT READS IS OF BULK AT MOST 1048576: true; the input reads as it did. -/
def fnMoveBackUptoRow : OpenClaim := { program := "yteikplehipifkaa", sum := "d04325feea30a77489f39ada575855d1e434bf3333f3e45840ae8951516a4a08", func := "loop.example/g03311/laws.FnMoveBack", spec := "fnMoveBack", apart := false, narrowed := true }
def FnMoveBackUptoSaid : Prop := fnMoveBackUptoRow.holds Try.pinned (OpenSpec.upto fnMoveBackSpec)

/-- 'laws.FnAnnealed', WHERE WHAT IT READS IS OF BULK AT MOST 1048576: true; the input reads as it did. -/
def fnAnnealedUptoRow : OpenClaim := { program := "yteikplehipifkaa", sum := "d04325feea30a77489f39ada575855d1e434bf3333f3e45840ae8951516a4a08", func := "loop.example/g03311/laws.FnAnnealed", spec := "fnAnnealed", apart := false, narrowed := true }
def FnAnnealedUptoSaid : Prop := fnAnnealedUptoRow.holds Try.pinned (OpenSpec.upto fnAnnealedSpec)

/-- 'laws.FnInitialLegal', WHERE WHAT IT READS IS OF BULK AT MOST 1048576: true; the input reads as it did. -/
def fnInitialLegalUptoRow : OpenClaim := { program := "yteikplehipifkaa", sum := "d04325feea30a77489f39ada575855d1e434bf3333f3e45840ae8951516a4a08", func := "loop.example/g03311/laws.FnInitialLegal", spec := "fnInitialLegal", apart := false, narrowed := true }
def FnInitialLegalUptoSaid : Prop := fnInitialLegalUptoRow.holds Try.pinned (OpenSpec.upto fnInitialLegalSpec)

end Rows
end Go.Proofs.Yteikplehipifkaa
