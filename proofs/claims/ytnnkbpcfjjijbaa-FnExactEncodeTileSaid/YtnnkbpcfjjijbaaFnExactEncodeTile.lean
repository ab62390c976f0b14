/-
  The law FnExactEncodeTile returns true for all arguments: the program's EncodeTile returns what the reference's returns, in memory of its own.
  No condition.
-/
import Derived.Test.YtnnkbpcfjjijbaaRows
import Derived.Test.YtnnkbpcfjjijbaaEx17
import Derived.WalkKit
import Derived.ProofKit
import Derived.OpenShut
import Derived.ShutString
import Derived.ChangeOld
import Derived.Below
import Derived.Lib.SmallJoins
namespace Go.Proofs.Ytnnkbpcfjjijbaa.fnExactEncodeTile
open Go.ChangeShapes Go.WideShapes Go.ChangeAt Go.RowKit
open Go.ChangeMaps (open_string shut_string)
set_option linter.unusedVariables false

theorem own : ownKnob Try.prog.godebug = none := by kernel_rfl
theorem laidOut : laidOutB Try.prog = true := by kernel_rfl
theorem cells36 : Try.prog.cellsOf 36 = 4 := by kernel_rfl

/-- THE WALK: the Go text returns true and writes nothing that was there -/
theorem walk (w : World) (a0W : Int) (w0W : (Lit.int .i64 a0W).wf = true) (a0H : Int) (w0H : (Lit.int .i64 a0H).wf = true) (a0Tracks : Int) (w0Tracks : (Lit.int .i64 a0Tracks).wf = true) (a0RamCol : Int) (w0RamCol : (Lit.int .i64 a0RamCol).wf = true) (v1 : Value) (x1 : Tc) (w1 : TcArg w v1 x1) :
    Calls Try.prog 10 #[.agg #[.int .i64 a0W, .int .i64 a0H, .int .i64 a0Tracks, .int .i64 a0RamCol], v1] w fun e w' => e = .returned (.bool true) ∧ Below w.heap.size w w' := by
  obtain ⟨rfl, hx⟩ := w1
  exact walk_FnExactEncodeTile ⟨a0W, a0H, a0Tracks, a0RamCol⟩ x1 w hx


set_option maxRecDepth 100000 in
theorem lifted (os : Os) (started : os.Started) (H : Type) (enc : TypeId × Value → H) :
    ReturnsInHanded {} Try.checked os 10 .any (Rows.fnExactEncodeTileSpec.pre6 enc Try.prog Try.f10 Rows.fnExactEncodeTileRow.domain false) (Rows.fnExactEncodeTileSpec.post enc Try.prog Try.f10 false true false false) := by
  refine returnsInHanded_of_change (C := Try.checked) own started (by kernel_rfl) Try.func10
    (ChangeSpec.witness6 (enc := enc) (C := Try.checked) false ⟨#[], #[.agg #[.int .i64 0, .int .i64 0, .int .i64 0, .int .i64 0], .agg #[.slice none 0 0, .slice none 0 0, .int .i64 0, .int .i64 0]], []⟩ 8 (by kernel_rfl) (by kernel_rfl) (by kernel_rfl) (by kernel_rfl)) ?_
  intro W base args ds gs before hval0 hW hcnd _
  have hval : ∀ (j : Nat) t v, Try.f10.params[j]? = some t → args[j]? = some v → Value.okWide Try.prog W .any base t v := hval0
  have hW' := hW
  obtain ⟨p, q, hA0, hV, rfl, hfz, hnd⟩ := hW
  have hA : DataW.TrodAll enc Try.prog W 0 (fun _ => true) true Try.f10.params.toList args.toList ds p := hA0
  rw [Try.params10] at hA hval
  obtain ⟨v0, vs0, d0, ds0, p0, q0, hargs, rfl, rfl, h0, r0⟩ := trodAll_cons hA
  obtain ⟨v1, vs1, d1, ds1, p1, q1, rfl, rfl, rfl, h1, r1⟩ := trodAll_cons r0
  obtain ⟨rfl, rfl, rfl⟩ := trodAll_nil r1
  obtain rfl : args = #[v0, v1] := by cases args; simp_all
  obtain ⟨rfl, rfl⟩ := trodVars_none hV
  have k0 := h0
  have lt0 : ∀ x ∈ p0, x.block < W.heap.size := by obtain ⟨m, hm⟩ := k0; exact DataW.trod_lt m _ _ _ hm
  have k1 := h1
  have lt1 : ∀ x ∈ p1, x.block < W.heap.size := by obtain ⟨m, hm⟩ := k1; exact DataW.trod_lt m _ _ _ hm
  obtain ⟨c00, c01, c02, c03, y00, y01, y02, y03, m0, rfl, rfl, rfl, hy00, hy01, hy02, hy03⟩ := Go.Joins.open_agg4 Try.underlying36 (by kernel_rfl) cells36 (hval 0 36 v0 rfl rfl) h0
  obtain ⟨a0W, e00, rfl, w0W⟩ := DataW.trod_int Try.underlying3 hy00
  obtain ⟨a0H, e01, rfl, w0H⟩ := DataW.trod_int Try.underlying3 hy01
  obtain ⟨a0Tracks, e02, rfl, w0Tracks⟩ := DataW.trod_int Try.underlying3 hy02
  obtain ⟨a0RamCol, e03, rfl, w0RamCol⟩ := DataW.trod_int Try.underlying3 hy03
  simp at e00 e01 e02 e03
  subst e00 e01 e02 e03
  obtain ⟨x1, w1⟩ := open_tc (hval 1 50 v1 rfl rfl) h1
  clear hA0 hval0
  refine (walk W a0W w0W a0H w0H a0Tracks w0Tracks a0RamCol w0RamCol v1 x1 w1).mono fun e W' ⟨he, bel⟩ => ?_
  subst he
  exact ⟨_, rfl, _, _, _, [], _, [], hW', trodAll_mk1 (shut_bool Try.underlying4 _), (trodAll_cons_mk (Below.trod laidOut (by kernel_rfl) (of_decide_eq_true (by kernel_rfl)) k0 bel lt0) (trodAll_cons_mk (Below.trod laidOut (by kernel_rfl) (of_decide_eq_true (by kernel_rfl)) k1 bel lt1) trodAll_mk0)), rfl, bel.frame _, fun h => by cases h⟩

theorem over : Rows.fnExactEncodeTileRow.holds Try.pinned (OpenSpec.ofChange Rows.fnExactEncodeTileSpec) :=
  OpenClaim.holds_of_wide 10 Try.f10 rfl rfl rfl rfl rfl rfl rfl ⟨rfl, rfl, rfl, rfl, rfl⟩ rfl rfl rfl rfl rfl (by kernel_rfl) Try.func10 (by kernel_rfl)
    (of_decide_eq_true (by kernel_rfl)) (by unfold Func.isWrapper; first | (rw [if_pos (by decide +kernel)]; kernel_rfl) | (rw [if_neg (by decide +kernel)]; exact ⟨rfl, rfl⟩))
    (fun os started H enc _ => lifted os started H enc)

theorem proved : Rows.FnExactEncodeTileSaid := over
#print axioms proved
end Go.Proofs.Ytnnkbpcfjjijbaa.fnExactEncodeTile

