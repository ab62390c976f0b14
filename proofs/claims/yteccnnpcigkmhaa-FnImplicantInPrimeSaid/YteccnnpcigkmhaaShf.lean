/- Rules besides: shifts of any kind, equality of structs of two ints, an element appended. -/
import Derived.Test.YteccnnpcigkmhaaLog9
set_option linter.unusedVariables false
set_option linter.unusedSimpArgs false
namespace Go.Proofs.Yteccnnpcigkmhaa
open Go.RowKit
section
variable {P : Program} {N : Nat} {w0 : World} {l : List HP} {env : List (Nat × Value)} {o : Oper}
theorem rv_shlG {t t' : TypeId} {x y : Operand} {k kk : IntKind} {m n r : Int} (ho : o.op = .binOp .shl t x y t') (hx : ev env x = some (.int k m)) (hy : ev env y = some (.int kk n)) (hk : k.bits = 64)
    (hn : 0 ≤ n ∧ n ≤ 63) (hr : k.wrap (m * 2 ^ n.toNat) = r) : RunV P N w0 l env o (.int k r) := fun a w st => by
    have h1 : ¬ n < 0 := by omega
    have h2 : min n.toNat k.bits = n.toNat := by rw [hk]; omega
    subst hr
    simp [execOp, ho, st.eval hx, st.eval hy, eqGuard, binOp, Op.shift, h1, h2]
end
theorem flat_app1 {α : Type} (f : α → List Value) (es : List α) (e : α) (xs : List Value) (h : xs = f e) : es.flatMap f ++ xs = (es ++ [e]).flatMap f := by
  rw [List.flatMap_append, h]; simp
end Go.Proofs.Yteccnnpcigkmhaa
