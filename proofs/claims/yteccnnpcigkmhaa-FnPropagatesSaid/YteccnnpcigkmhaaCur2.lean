/- The cursor that the reference draws with, in the logic of states: the old contracts turned. -/
import Derived.Test.YteccnnpcigkmhaaLog9
import Derived.Test.YteccnnpcigkmhaaByt
import Derived.Test.YteccnnpcigkmhaaCur
set_option linter.unusedVariables false
set_option linter.unusedSimpArgs false
namespace Go.Proofs.Yteccnnpcigkmhaa
open Go.RowKit
/-- block g is a cursor -/
def curE (g : Nat) (a : Option Addr) (len cap : Nat) : HP := ⟨fun k => k = g, fun w => (∃ i : Nat, i ≤ len ∧ w.cell? ⟨g, 1, none⟩ = some (.int .i64 (i : Int))) ∧ (∃ h : Int, w.cell? ⟨g, 2, none⟩ = some (.int .i64 h)) ∧
  w.cell? ⟨g, 0, none⟩ = some (.slice a len cap) ∧ w.frozen? ⟨g, 1, none⟩ = false ∧ w.frozen? ⟨g, 2, none⟩ = false⟩
theorem cell_heap {w w' : World} {g o : Nat} (h : w'.heap[g]? = w.heap[g]?) : w'.cell? ⟨g, o, none⟩ = w.cell? ⟨g, o, none⟩ := by simp [World.cell?, h]
theorem frozen_heap {w w' : World} {g o : Nat} (h : w'.heap[g]? = w.heap[g]?) : w'.frozen? ⟨g, o, none⟩ = w.frozen? ⟨g, o, none⟩ := by simp [World.frozen?, h]
theorem curE_ok (g : Nat) (a : Option Addr) (len cap : Nat) : (curE g a len cap).Ok := fun w w' _ hb h => by
  have e := hb g rfl
  have c := fun o => cell_heap (o := o) e
  have f := fun o => frozen_heap (o := o) e
  simp only [curE] at h ⊢
  rw [c 0, c 1, c 2, f 1, f 2]; exact h
theorem cur_of {w0 w : World} {l : List HP} {g : Nat} {a : Option Addr} {len cap : Nat} {z : List Int} (hm : Mem w0 (curE g a len cap :: l) w) (hb : BRow .u8 w0 a len cap z) : Cur w w0.heap.size g a len cap z := by
  obtain ⟨h1, h2, h3, h4, h5⟩ := hm.holds _ List.mem_cons_self
  exact ⟨h1, h2, h3, h4, h5, hb.below hm.bel, (hm.new _ List.mem_cons_self g rfl).1, hb.old⟩
theorem cur_turn {w0 w w' : World} {l : List HP} {B g : Nat} {a : Option Addr} {len cap : Nat} {z : List Int} (hm : Mem w0 (curE g a len cap :: l) w) (hc : Cur w' B g a len cap z) (hg : w.grownBy w' (some g)) : Mem w0 (curE g a len cap :: l) w' :=
  hm.turn hg.os hg.tape hg.output hg.size (fun b hb hf => hg.block b hb (fun e => hf (by cases e; rfl))) (curE_ok g a len cap) (fun b hb => .inl hb) (fun b hb => by cases hb; exact hc.lt) ⟨hc.1, hc.2.1, hc.2.2.1, hc.2.2.2.1, hc.2.2.2.2.1⟩
/-- an old contract over a cursor, as one that turns the caller's memory -/
theorem cur_mut {f : FuncId} {vs : Array Value} {R : Ending → Prop} {R' : Value → Prop} {w0 : World} {l : List HP} {w : World} {g : Nat} {a : Option Addr} {len cap : Nat} {z : List Int} (hm : Mem w0 (curE g a len cap :: l) w) (hb : BRow .u8 w0 a len cap z)
    (h : ∀ w B, Cur w B g a len cap z → Calls Try.prog f vs w fun e w' => R e ∧ Cur w' B g a len cap z ∧ w.grownBy w' (some g)) (hR : ∀ e, R e → ∃ v, e = .returned v ∧ R' v) :
    Calls Try.prog f vs w (fun e_ w_ => ∃ v_ p_, e_ = .returned v_ ∧ (R' v_ ∧ p_ = curE g a len cap) ∧ Mem w0 (p_ :: l) w_) :=
  (h w _ (cur_of hm hb)).mono fun e w' ⟨he, hc, hg⟩ => by
    obtain ⟨v, hv, hr⟩ := hR e he
    exact ⟨v, _, hv, ⟨hr, rfl⟩, cur_turn hm hc hg⟩
theorem below_mut {w0 : World} {l : List HP} {w : World} {g : Nat} {a : Option Addr} {len cap : Nat} {z : List Int} (hm : Mem w0 (curE g a len cap :: l) w) (hb : BRow .u8 w0 a len cap z) (n : Int) (h1 : 1 ≤ n) (h2 : n ≤ 256) :
    Calls Try.prog 28 #[.pointer (some ⟨g, 0, none⟩), .int .i64 n] w (fun e_ w_ => ∃ v_ p_, e_ = .returned v_ ∧ ((∃ x : Int, v_ = .int .i64 x ∧ 0 ≤ x ∧ x < n) ∧ p_ = curE g a len cap) ∧ Mem w0 (p_ :: l) w_) :=
  cur_mut (R' := fun v => ∃ x : Int, v = .int .i64 x ∧ 0 ≤ x ∧ x < n) hm hb (fun w B hc => l01Below_any B g a len cap z n h1 h2 w hc) (fun e ⟨x, hx, he⟩ => ⟨_, he, (x : Int), rfl, by omega, by omega⟩)
theorem once_mut {w0 : World} {l : List HP} {w : World} {g : Nat} {a : Option Addr} {len cap : Nat} {z : List Int} (hm : Mem w0 (curE g a len cap :: l) w) (hb : BRow .u8 w0 a len cap z) (n : Int) (h1 : 1 ≤ n) (h2 : n ≤ 256) :
    Calls Try.prog 53 #[.pointer (some ⟨g, 0, none⟩), .int .i64 n] w (fun e_ w_ => ∃ v_ p_, e_ = .returned v_ ∧ ((∃ b : Bool, v_ = .bool b) ∧ p_ = curE g a len cap) ∧ Mem w0 (p_ :: l) w_) :=
  cur_mut (R' := fun v => ∃ b : Bool, v = .bool b) hm hb (fun w B hc => l01Once_any B g a len cap z n h1 h2 w hc) (fun e ⟨b, he⟩ => ⟨_, he, b, rfl⟩)
/-- a new cursor -/
theorem new_ret {w : World} {a : Option Addr} {len cap : Nat} {z : List Int} (hb : BRow .u8 w a len cap z) (hlen : len ≤ 1048576) :
    Calls Try.prog 26 #[.slice a len cap] w (Ret w (fun v post => ∃ g, v = .pointer (some ⟨g, 0, none⟩) ∧ post = [curE g a len cap])) :=
  (l01New_any a len cap z w hlen hb).mono fun e w' ⟨g, he, hc, hbel⟩ => by
    refine ⟨_, [curE g a len cap], he, ⟨g, rfl, rfl⟩, hbel, ?_, ?_, ?_, by simp⟩
    · intro p hp; rw [List.mem_singleton] at hp; subst hp; exact ⟨hc.1, hc.2.1, hc.2.2.1, hc.2.2.2.1, hc.2.2.2.2.1⟩
    · intro p hp; rw [List.mem_singleton] at hp; subst hp; exact curE_ok g a len cap
    · intro p hp b hf; rw [List.mem_singleton] at hp; subst hp; cases hf; exact ⟨hc.base, hc.lt⟩
end Go.Proofs.Yteccnnpcigkmhaa
