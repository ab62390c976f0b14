/- The logic of states: a struct stored into a variable; a result read out of a variable; what is drawn from bytes. -/
import Derived.Test.YteccnnpcigkmhaaLog4
import Derived.Test.YteccnnpcigkmhaaByt
import Derived.Test.YteccnnpcigkmhaaCur
set_option linter.unusedVariables false
set_option linter.unusedSimpArgs false
namespace Go.Proofs.Yteccnnpcigkmhaa
open Go.RowKit
section
variable {P : Program} {N : Nat} {w0 : World} {l l' : List HP} {env : List (Nat × Value)} {Q : Post} {o : Oper} {ops : Array Oper} {rest : List Oper}
theorem all_nil {p : Value → Prop} : ∀ u ∈ ([] : List Value), p u := fun _ h => by cases h
theorem all_cons {p : Value → Prop} {a : Value} {us : List Value} (h : p a) (hs : ∀ u ∈ us, p u) : ∀ u ∈ a :: us, p u := fun u hu => by
  rcases List.mem_cons.1 hu with rfl | hu
  · exact h
  · exact hs u hu
def putN (cs : Array Value) (off : Nat) : List Value → Array Value
  | [] => cs
  | u :: us => putN (cs.setIfInBounds off u) (off + 1) us
theorem list_set_self {α : Type} {l : List α} {i : Nat} {p : α} (h : l[i]? = some p) : l.set i p = l := by
  apply List.ext_getElem?
  intro j
  rw [List.getElem?_set]
  split
  · rename_i e; subst e
    split
    · exact h.symm
    · rename_i hj; rw [List.getElem?_eq_none (by omega)] at h; cases h
  · rfl
theorem run_storeN {b off : Nat} {tb : TypeId} {i : Nat} : ∀ (us : List Value) (k : Nat) (cs : Array Value) (l : List HP) (w : World), Mem w0 l w → l[i]? = some (boxE b cs tb) → (∀ u ∈ us, u.oneCell' = true) → off + k + us.length ≤ cs.size →
    ∃ w', (storeCells ⟨b, off, none⟩ us k).run P w = .ok () w' ∧ Mem w0 (l.set i (boxE b (putN cs (off + k) us) tb)) w'
  | [], k, cs, l, w, hm, hi, _, _ => ⟨w, rfl, by rw [putN, list_set_self hi]; exact hm⟩
  | u :: us, k, cs, l, w, hm, hi, h1, hlt => by
    have hlen : (u :: us).length = us.length + 1 := rfl
    have hb : w.heap[b]? = some (.cells cs tb (0, 0)) := hm.holds _ (mem_at hi)
    have hst := run_store P w ⟨b, off + k, none⟩ u .plain (h1 u List.mem_cons_self)
    have hc : w.cell? ⟨b, off + k, none⟩ = some (cs[off + k]'(by omega)) := by rw [cell_of_heap hb]; exact Array.getElem?_eq_getElem (by omega)
    rw [hc] at hst
    simp only [frozen_of_heap hb] at hst
    have hil : i < l.length := by
      rcases Nat.lt_or_ge i l.length with h | h
      · exact h
      · rw [List.getElem?_eq_none h] at hi; cases hi
    obtain ⟨w', hr, hm'⟩ := run_storeN (off := off) us (k + 1) (cs.setIfInBounds (off + k) u) (l.set i (boxE b (cs.setIfInBounds (off + k) u) tb)) (w.setCell ⟨b, off + k, none⟩ u) (hm.setBox hi (off + k) u) (List.getElem?_set_self hil) (fun x hx => h1 x (List.mem_cons_of_mem _ hx)) (by rw [Array.size_setIfInBounds]; omega)
    refine ⟨w', ?_, ?_⟩
    · rw [storeCells, add_lit]
      simp [hst, hr]
    · rw [List.set_set] at hm'
      rw [putN]; exact hm'
theorem hl_storeBoxN {t b off i : Nat} {x y : Operand} {cs cs' : Array Value} {tb : TypeId} {us : List Value} (hd : o.dst = none) (hw : want ops env o.guard = some true) (ho : o.op = .store t x y) (hs : (P.info? t).map (·.size) = some us.length)
    (hx : ev env x = some (.pointer (some ⟨b, off, none⟩))) (hy : ev env y = some (.agg us.toArray)) (hi : l[i]? = some (boxE b cs tb)) (h1 : ∀ u ∈ us, u.oneCell' = true) (hlt : Nat.ble (off + us.length) cs.size = true) (hcs : putN cs off us = cs')
    (hl' : l.set i (boxE b cs' tb) = l') (k : HL P N ops w0 l' env rest Q) : HL P N ops w0 l env (o :: rest) Q := by
  subst hl' hcs
  exact hl_store0 hd hw (fun a w st => by
    rw [Nat.ble_eq] at hlt
    obtain ⟨w', hr, hm⟩ := run_storeN (P := P) (off := off) us 0 cs l w st.mem hi h1 (by omega)
    refine ⟨w', ?_, hm⟩
    have hce : (Value.agg us.toArray).cells = us.toArray := rfl
    simp [execOp, ho, st.eval hx, st.eval hy, Instr.storeAt, Instr.sureAddr, storeVar, hce, run_size hs, hr]) k
/-- a result that is read out of a variable -/
theorem hq_retC {fn : Func} {R : Value → List HP → Prop} {b i : Nat} {c : Tmp} {t : TypeId} {tb : TypeId} {us : List Value} {post : List HP} (hr : fn.results = #[.cell c t]) (hc : lk env c = some (.pointer (some ⟨b, 0, none⟩))) (ha : aggB P t = some true) (hs : (P.info? t).map (·.size) = some us.length)
    (hi : l[i]? = some (boxE b us.toArray tb)) (hl : post.Sublist l) (h : R (.agg us.toArray) post) : HQ N w0 l env .ret (bodyPost P fn (Ret w0 R)) :=
  hq_ret (rs := [.cell c t]) (vs := [.agg us.toArray]) hr ⟨⟨b, 0, us, hc, rfl, ha, hs, box_part i hi 0 (by simp)⟩, trivial⟩ rfl (fun w hm => ⟨_, post, rfl, h, hm.sub hl⟩)
/-- several results -/
theorem hq_retM {fn : Func} {R : Value → List HP → Prop} {rs : List ResultVar} {vs : List Value} {v : Value} {post : List HP} (hr : fn.results = rs.toArray) (hv : AllIs P w0 l env rs vs) (ht : tupled vs = v) (hl : post.Sublist l) (h : R v post) : HQ N w0 l env .ret (bodyPost P fn (Ret w0 R)) :=
  hq_ret hr hv ht (fun w hm => ⟨v, post, by rw [← ht], h, hm.sub hl⟩)
end
theorem at_ans {w0 : World} {l : List HP} {a : Option Addr} {len cap : Nat} {z : List Int} (h : BRow .u8 w0 a len cap z) (i : Nat) (hi : i ≤ 1000000) (w : World) (hm : Mem w0 l w) :
    Calls Try.prog 9 #[.slice a len cap, .int .i64 (i : Int)] w (Ans w (.int .i64 (cod z len i : Nat))) := ans_of (at_any a len cap z w (h.below hm.bel) i hi)
end Go.Proofs.Yteccnnpcigkmhaa
