/- The logic of states: a struct stored into an element of an own row; rows of nil rows. -/
import Derived.Test.YteccnnpcigkmhaaLog7
set_option linter.unusedVariables false
set_option linter.unusedSimpArgs false
namespace Go.Proofs.Yteccnnpcigkmhaa
open Go.RowKit
def putL (xs : List Value) (o : Nat) : List Value → List Value
  | [] => xs
  | u :: us => putL (xs.set o u) (o + 1) us
theorem putL_mid : ∀ (us pre A : List Value), us.length ≤ A.length → putL (pre ++ A) pre.length us = pre ++ us ++ A.drop us.length
  | [], pre, A, _ => by simp [putL]
  | u :: us, pre, [], h => by simp at h
  | u :: us, pre, a :: A, h => by
    have := putL_mid us (pre ++ [u]) A (by simpa using h)
    rw [putL, List.set_append_right _ _ (Nat.le_refl _), Nat.sub_self, List.set_cons_zero]
    rw [show pre ++ u :: A = (pre ++ [u]) ++ A by simp, show pre.length + 1 = (pre ++ [u]).length by simp, this]
    simp
theorem flat_put {α : Type} (f : α → List Value) (s : Nat) (hs : ∀ a, (f a).length = s) (es : List α) (e' : α) {i : Nat} (hi : i < es.length) : putL (es.flatMap f) (i * s) (f e') = (es.set i e').flatMap f := by
  have h1 : es = es.take i ++ es[i] :: es.drop (i + 1) := by rw [← List.drop_eq_getElem_cons hi, List.take_append_drop]
  have h2 : (es.take i).flatMap f = ((es.take i).flatMap f) := rfl
  have hl : ((es.take i).flatMap f).length = i * s := by rw [flat_len f s hs, List.length_take]; congr 1; omega
  have h3 : es.set i e' = es.take i ++ e' :: es.drop (i + 1) := by rw [List.set_eq_take_append_cons_drop, if_pos hi]
  rw [h3]
  conv => lhs; rw [h1]
  rw [List.flatMap_append, List.flatMap_cons, List.flatMap_append, List.flatMap_cons, ← hl, putL_mid _ _ _ (by rw [List.length_append, hs, hs]; omega), List.drop_left' (by rw [hs, hs]), List.append_assoc]
section
variable {P : Program} {N : Nat} {w0 : World} {l l' : List HP} {env : List (Nat × Value)} {Q : Post} {o : Oper} {ops : Array Oper} {rest : List Oper}
theorem run_storeR {g e size n cap : Nat} {i : Nat} {j : Nat} : ∀ (us : List Value) (k : Nat) (xs : List Value) (l : List HP) (w : World), Mem w0 l w → l[i]? = some (rowE e size (.slice (some ⟨g, 0, none⟩) n cap) n xs) → (∀ u ∈ us, u.oneCell' = true) → j + k + us.length ≤ n * size →
    ∃ w', (storeCells ⟨g, j, none⟩ us k).run P w = .ok () w' ∧ Mem w0 (l.set i (rowE e size (.slice (some ⟨g, 0, none⟩) n cap) n (putL xs (j + k) us))) w'
  | [], k, xs, l, w, hm, hi, _, _ => ⟨w, rfl, by rw [putL, list_set_self hi]; exact hm⟩
  | u :: us, k, xs, l, w, hm, hi, h1, hlt => by
    have hlen : (u :: us).length = us.length + 1 := rfl
    have hb : w.ownsRow 0 e size (.slice (some ⟨g, 0, none⟩) n cap) n xs := hm.holds _ (mem_at hi)
    have hst := run_store P w ⟨g, j + k, none⟩ u .plain (h1 u List.mem_cons_self)
    rw [hb.cellAt (j + k) (by omega), List.getElem?_eq_getElem (by rw [hb.1]; omega)] at hst
    simp only [hb.frozenAt (j + k)] at hst
    have hil : i < l.length := by
      rcases Nat.lt_or_ge i l.length with h | h
      · exact h
      · rw [List.getElem?_eq_none h] at hi; cases hi
    obtain ⟨w', hr, hm'⟩ := run_storeR (j := j) us (k + 1) (xs.set (j + k) u) (l.set i (rowE e size (.slice (some ⟨g, 0, none⟩) n cap) n (xs.set (j + k) u))) (w.setCell ⟨g, j + k, none⟩ u) (hm.setRow hi (j + k) u) (List.getElem?_set_self hil) (fun x hx => h1 x (List.mem_cons_of_mem _ hx)) (by omega)
    refine ⟨w', ?_, ?_⟩
    · rw [storeCells, add_lit]
      simp [hst, hr]
    · rw [List.set_set] at hm'
      rw [putL]; exact hm'
theorem hl_storeElN {t i e size n j : Nat} {x y : Operand} {xs : List Value} {v : Value} {us : List Value} (hd : o.dst = none) (hw : want ops env o.guard = some true) (ho : o.op = .store t x y) (hs : (P.info? t).map (·.size) = some us.length)
    (hx : ev env x = some (elP v j)) (hy : ev env y = some (.agg us.toArray)) (h1 : ∀ u ∈ us, u.oneCell' = true) (hi : l[i]? = some (rowE e size v n xs)) (hpos : 0 < n) (hlt : j + us.length ≤ n * size)
    {n' : Nat} {xs' : List Value} (hn' : n = n') (hx' : putL xs j us = xs') (hl' : l.set i (rowE e size v n' xs') = l') (k : HL P N ops w0 l' env rest Q) : HL P N ops w0 l env (o :: rest) Q := by
  subst hl' hn' hx'
  exact hl_store0 hd hw (fun a w st => by
    have hb : w.ownsRow 0 e size v n xs := st.mem.holds _ (mem_at hi)
    obtain ⟨g, cap, rfl⟩ : ∃ g cap, v = .slice (some ⟨g, 0, none⟩) n cap := by
      rcases hb.2 with ⟨rfl, rfl⟩ | ⟨g, cap', cur, rfl, _⟩
      · omega
      · exact ⟨g, cap', rfl⟩
    obtain ⟨w', hr, hm⟩ := run_storeR (P := P) (j := j) us 0 xs l w st.mem hi h1 (by omega)
    refine ⟨w', ?_, hm⟩
    have hce : (Value.agg us.toArray).cells = us.toArray := rfl
    simp [execOp, ho, st.eval hx, elP, st.eval hy, Instr.storeAt, Instr.sureAddr, storeVar, hce, run_size hs, hr]) k
end
theorem RdsW.one {w : World} {v : Value} {s n : Nat} {cs : List Value} (h : RdsW w v s n cs) : v.oneCell' = true := by
  obtain ⟨a, cap, rfl, _⟩ := h; rfl
section
variable {P : Program} {N : Nat} {w0 : World} {l l' : List HP} {env : List (Nat × Value)} {Q : Post} {ops : Array Oper} {rest : List Oper}
theorem hl_one {i e s n : Nat} {v : Value} {xs : List Value} (hi : l[i]? = some (rowE e s v n xs)) (k : v.oneCell' = true → HL P N ops w0 l env rest Q) : HL P N ops w0 l env rest Q := fun a w st => k (rdsW_own (st.mem.holds _ (mem_at hi))).one a w st
theorem hl_know {p : Prop} (h : ∀ w, Mem w0 l w → p) (k : p → HL P N ops w0 l env rest Q) : HL P N ops w0 l env rest Q := fun a w st => k (h w st.mem) a w st
end
theorem rv_beql {P : Program} {N : Nat} {w0 : World} {l : List HP} {env : List (Nat × Value)} {o : Oper} {t t' : TypeId} {x y : Operand} {m n : Bool} (ho : o.op = .binOp .eql t x y t') (hb : P.underlying t = some .bool) (hx : ev env x = some (.bool m)) (hy : ev env y = some (.bool n)) : RunV P N w0 l env o (.bool (m == n)) := fun a w st => by
  have h := run_equalIn_bool' w 9999 t m n hb
  have h2 : (Op.equal t (.bool m) (.bool n)).run P w = .ok (m == n) w := h
  simp [execOp, ho, st.eval hx, st.eval hy, eqGuard, binOp, h2, bne]
theorem rv_bneq {P : Program} {N : Nat} {w0 : World} {l : List HP} {env : List (Nat × Value)} {o : Oper} {t t' : TypeId} {x y : Operand} {m n : Bool} (ho : o.op = .binOp .neq t x y t') (hb : P.underlying t = some .bool) (hx : ev env x = some (.bool m)) (hy : ev env y = some (.bool n)) : RunV P N w0 l env o (.bool (m != n)) := fun a w st => by
  have h := run_equalIn_bool' w 9999 t m n hb
  have h2 : (Op.equal t (.bool m) (.bool n)).run P w = .ok (m == n) w := h
  simp [execOp, ho, st.eval hx, st.eval hy, eqGuard, binOp, h2, bne]
theorem made_flat {α : Type} (f : α → List Value) (s : Nat) (hs : ∀ a, (f a).length = s) (d : α) (z : Array Value) (hz : z.toList = f d) (n : Nat) : (madeCells z ((List.replicate n d).length * s)).toList = (List.replicate n d).flatMap f := by
  have hsz : z.size = s := by rw [← hs d, ← hz]; simp
  apply List.ext_getElem?
  intro j
  rw [List.length_replicate]
  by_cases hj : j < n * s
  · have hs0 : 0 < s := by rcases Nat.eq_zero_or_pos s with h | h; (subst h; omega); exact h
    have hi : j / s < n := Nat.div_lt_of_lt_mul (by rw [Nat.mul_comm]; exact hj)
    have hm : j % s < s := Nat.mod_lt _ hs0
    have e : j = j / s * s + j % s := by rw [Nat.mul_comm]; exact (Nat.div_add_mod j s).symm
    have h2 := flat_at f s hs (List.replicate n d) d (i := j / s) (k := j % s) (by rw [List.length_replicate]; exact hi) hm
    rw [← e] at h2
    rw [h2]
    have h3 : (List.replicate n d).getD (j / s) d = d := by rw [List.getD_eq_getElem?_getD, List.getElem?_replicate]; split <;> rfl
    rw [h3, ← hz]
    have hlt : j < (madeCells z (n * s)).toList.length := by simpa [size_madeCells] using hj
    rw [List.getElem?_eq_getElem hlt]
    simp only [madeCells, Array.toList_map, List.getElem_map, Array.toList_range, List.getElem_range, hsz]
    rw [getElem!_pos z (j % s) (by omega), Array.getElem?_toList, Array.getElem?_eq_getElem (by omega)]
  · rw [List.getElem?_eq_none (by simpa [size_madeCells] using hj), List.getElem?_eq_none (by rw [flat_len f s hs, List.length_replicate]; omega)]
/-- as many nil rows as one likes -/
theorem Mem.bigNil {w0 w : World} {l : List HP} (h : Mem w0 l w) (e s : Nat) : ∀ n, Mem w0 (List.replicate n (rowE e s (.slice none 0 0) 0 []) ++ l) w
  | 0 => h
  | n + 1 => by rw [List.replicate_succ, List.cons_append]; exact (h.bigNil e s n).nilRow e s
theorem conv_cons {w0 : World} {p : HP} {l : List HP} : Conv w0 (p :: l) l := fun w hm => hm.sub (List.sublist_cons_self _ _)
end Go.Proofs.Yteccnnpcigkmhaa
