/- Rules besides: shifts of any kind, equality of structs of two ints, an element appended. -/
import Derived.Test.YteccnnpcigkmhaaLog9
set_option linter.unusedVariables false
set_option linter.unusedSimpArgs false
namespace Go.Proofs.Yteccnnpcigkmhaa
open Go.RowKit
section
variable {P : Program} {N : Nat} {w0 : World} {l : List HP} {env : List (Nat × Value)} {o : Oper}
theorem rv_shlG {t t' : TypeId} {x y : Operand} {k kk : IntKind} {m n r : Int} (ho : o.op = .binOp .shl t x y t') (hx : ev env x = some (.int k m)) (hy : ev env y = some (.int kk n)) (hk : k.bits = 64)
    (hn : 0 ≤ n ∧ n ≤ 63) (hr : k.wrap (m * 2 ^ n.toNat) = r) : RunV P N w0 l env o (.int k r) := fun a w st => by
    have h1 : ¬ n < 0 := by omega
    have h2 : min n.toNat k.bits = n.toNat := by rw [hk]; omega
    subst hr
    simp [execOp, ho, st.eval hx, st.eval hy, eqGuard, binOp, Op.shift, h1, h2]
end
/-- the number in a value -/
def intOf : Value → Int
  | .int _ n => n
  | _ => 0
/-- a cell of an aggregate -/
def aggAt (v : Value) (k : Nat) : Value := match v with | .agg xs => xs.getD k undef | _ => undef
theorem flat_app1 {α : Type} (f : α → List Value) (es : List α) (e : α) (xs : List Value) (h : xs = f e) : es.flatMap f ++ xs = (es ++ [e]).flatMap f := by
  rw [List.flatMap_append, h]; simp
/-- rows of one-cell structs -/
theorem flat_map1 {α : Type} (f : α → List Value) (g : α → Value) (hf : ∀ a, f a = [g a]) (es : List α) : es.flatMap f = es.map g := by
  induction es with
  | nil => rfl
  | cons a es ih => rw [List.flatMap_cons, List.map_cons, ih, hf]; rfl
theorem flat_one {α : Type} (f : α → List Value) (g : α → Value) (hf : ∀ a, f a = [g a]) (es : List α) (d : α) {j : Nat} (h : j < es.length) : (es.flatMap f)[j * 1]? = some (g (es.getD j d)) := by
  rw [flat_map1 f g hf, Nat.mul_one, List.getElem?_map, List.getD_eq_getElem?_getD, List.getElem?_eq_getElem h]; rfl
theorem flat_set1 {α : Type} (f : α → List Value) (g : α → Value) (hf : ∀ a, f a = [g a]) (es : List α) (e : α) {j : Nat} {u : Value} (hu : u = g e) : (es.flatMap f).set (j * 1) u = (es.set j e).flatMap f := by
  rw [flat_map1 f g hf, flat_map1 f g hf, Nat.mul_one, List.map_set, hu]
end Go.Proofs.Yteccnnpcigkmhaa
