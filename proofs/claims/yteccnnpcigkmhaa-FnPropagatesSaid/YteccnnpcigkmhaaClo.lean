/- Rules besides: function values. -/
import Derived.Test.YteccnnpcigkmhaaShf
set_option linter.unusedVariables false
set_option linter.unusedSimpArgs false
namespace Go.Proofs.Yteccnnpcigkmhaa
open Go.RowKit
section
variable {P : Program} {N : Nat} {w0 : World} {l : List HP} {env : List (Nat × Value)} {o : Oper}
theorem rv_makeFunc {fn : Fn} {xs ys : Array Operand} {us vs : List Value} (ho : o.op = .makeFunc fn xs ys) (hx : evs env xs.toList = some us) (hy : evs env ys.toList = some vs) : RunV P N w0 l env o (.func fn us.toArray vs.toArray) := fun a w st => by
  have h1 := evs_map st _ _ hx
  have h2 := evs_map st _ _ hy
  have e1 : xs.map a.eval = us.toArray := by apply Array.toList_inj.1; simpa using h1
  have e2 : ys.map a.eval = vs.toArray := by apply Array.toList_inj.1; simpa using h2
  simp [execOp, ho, Instr.makeFunc, e1, e2]
theorem rq_callF {f : FuncId} {x : Operand} {xs : Array Operand} {ats : Array TypeId} {vs cs : List Value} {R : Value → List HP → Prop} {ty : TypeId} {pos : String} {af : Array Edge} {gd : Option (Nat × Bool)} {ds : Option Nat}
    (hgo : goesB P f = true) (hx : ev env x = some (.func (.func f) #[] cs.toArray)) (hvs : evs env xs.toList = some vs) (hc : ∀ w, Mem w0 l w → Calls P f (vs ++ cs).toArray w (Ret w R)) : RunQ P N w0 l env { dst := ds, op := .call { callee := .value x, args := xs, argTypes := ats }, type := ty, pos := pos, after := af, guard := gd } R := fun a w st Q K hK => by
  unfold Oper.wp
  have h1 := evs_map st _ _ hvs
  have e1 : xs.map a.eval = vs.toArray := by apply Array.toList_inj.1; simpa using h1
  have h2 : (execOp a.eval { dst := ds, op := .call { callee := .value x, args := xs, argTypes := ats }, type := ty, pos := pos, after := af, guard := gd }).run P w = (callFunc f (vs ++ cs).toArray).run P w := by
    simp [execOp, resolve, Deferred.ofValue, invoke, st.eval hx, e1]
  rw [h2, run_go hgo, Oper.upon_enter]
  refine (hc w st.mem).mono fun e w' h => ?_
  obtain ⟨v, post, rfl, hR, hpost⟩ := h
  exact hK _ _ _ hR hpost
theorem rv_max {t : Array TypeId} {x y : Operand} {m n : Int} (ho : o.op = .call { callee := .builtin .max, args := #[x, y], argTypes := t }) (hx : ev env x = some (.int .i64 m)) (hy : ev env y = some (.int .i64 n)) : RunV P N w0 l env o (.int .i64 (if m < n then n else m)) := fun a w st => by
  have bm : ∀ (ats : Array TypeId) (ty : TypeId) (cs : Array Bool) (args : Array Value), builtin .max ats ty cs args = (do pure (.value (← Builtin.max_ ats ty args))) := fun _ _ _ _ => rfl
  have h := run_max_int2 (P := P) w t o.type .i64 .i64 m n
  simp only [execOp, ho, resolve, invoke, bm, Sem.run_bind, Sem.run_pure, Result.andThen_ok, List.map_toArray, List.map_cons, List.map_nil, st.eval hx, st.eval hy, h]
end
/-- a Bool in a cell -/
structure Bl where
  b : Bool
abbrev bl0 : Bl := ⟨false⟩
def blC (x : Bl) : List Value := [.bool x.b]
end Go.Proofs.Yteccnnpcigkmhaa
