/- Rows of structs: their cells. -/
import Derived.Test.YteccnnpcigkmhaaLog6
set_option linter.unusedVariables false
set_option linter.unusedSimpArgs false
namespace Go.Proofs.Yteccnnpcigkmhaa
open Go.RowKit
theorem flat_len {α : Type} (f : α → List Value) (s : Nat) (hs : ∀ a, (f a).length = s) : ∀ (es : List α), (es.flatMap f).length = es.length * s
  | [] => by simp
  | a :: es => by rw [List.flatMap_cons, List.length_append, hs, flat_len f s hs es, List.length_cons, Nat.add_mul]; omega
theorem flat_at {α : Type} (f : α → List Value) (s : Nat) (hs : ∀ a, (f a).length = s) : ∀ (es : List α) (d : α) {i k : Nat}, i < es.length → k < s → (es.flatMap f)[i * s + k]? = (f (es.getD i d))[k]?
  | [], d, i, k, hi, hk => by simp at hi
  | a :: es, d, 0, k, hi, hk => by
    rw [List.flatMap_cons, Nat.zero_mul, Nat.zero_add, List.getElem?_append_left (by rw [hs]; exact hk)]; rfl
  | a :: es, d, i + 1, k, hi, hk => by
    rw [List.flatMap_cons, List.getElem?_append_right (by rw [hs, Nat.add_mul]; omega), hs, show (i + 1) * s + k - s = i * s + k by rw [Nat.add_mul]; omega,
      flat_at f s hs es d (by simpa using hi) hk]
    rfl
theorem flat_atN {α : Type} (f : α → List Value) (s : Nat) (hs : ∀ a, (f a).length = s) (es : List α) (d : α) {i : Nat} {us : List Value} (hi : i < es.length) (hu : f (es.getD i d) = us) : ∀ j u, us[j]? = some u → (es.flatMap f)[i * s + j]? = some u := fun j u hj => by
  have hl : j < us.length := (List.getElem?_eq_some_iff.1 hj).1
  rw [flat_at f s hs es d hi (by rw [← hu, hs] at hl; exact hl), hu]; exact hj
theorem flat_set {α : Type} (f : α → List Value) (s : Nat) (hs : ∀ a, (f a).length = s) : ∀ (es : List α) (d e' : α) {i k : Nat} {u : Value}, i < es.length → k < s → (f (es.getD i d)).set k u = f e' → (es.flatMap f).set (i * s + k) u = (es.set i e').flatMap f
  | [], d, e', i, k, u, hi, hk, h => by simp at hi
  | a :: es, d, e', 0, k, u, hi, hk, h => by
    rw [List.flatMap_cons, Nat.zero_mul, Nat.zero_add, List.set_append_left _ _ (by rw [hs]; exact hk)]
    show (f a).set k u ++ _ = _
    rw [show (f a).set k u = f e' from h]; rfl
  | a :: es, d, e', i + 1, k, u, hi, hk, h => by
    rw [List.flatMap_cons, List.set_append_right _ _ (by rw [hs, Nat.add_mul]; omega), hs, show (i + 1) * s + k - s = i * s + k by rw [Nat.add_mul]; omega,
      flat_set f s hs es d e' (by simpa using hi) hk h]
    rfl
theorem getD_mem' {α : Type} {es : List α} {i : Nat} {d : α} (h : i < es.length) : es.getD i d ∈ es := by
  rw [List.getD_eq_getElem?_getD, List.getElem?_eq_getElem h]; exact List.getElem_mem h
theorem getD_at {α : Type} {es : List α} {i : Nat} {d : α} (h : i < es.length) : es[i]? = some (es.getD i d) := by
  rw [List.getD_eq_getElem?_getD, List.getElem?_eq_getElem h]; rfl
theorem getD_set_self' {α : Type} {es : List α} {i : Nat} {d e : α} (h : i < es.length) : (es.set i e).getD i d = e := by
  rw [List.getD_eq_getElem?_getD, List.getElem?_set_self h]; rfl
theorem ext_getD {α : Type} {xs ys : List α} {d : α} (hl : xs.length = ys.length) (h : ∀ i, i < xs.length → xs.getD i d = ys.getD i d) : xs = ys := by
  apply List.ext_getElem? ; intro i
  by_cases hi : i < xs.length
  · rw [getD_at hi (d := d), getD_at (show i < ys.length by omega) (d := d), h i hi]
  · rw [List.getElem?_eq_none (by omega), List.getElem?_eq_none (by omega)]
theorem ints_make (n : Nat) : (madeCells (Value.int .i64 0).cells ((List.replicate n (0 : Int)).length * 1)).toList = (List.replicate n (0 : Int)).map (Value.int .i64) := by
  rw [List.length_replicate, Nat.mul_one, List.map_replicate]
  exact toList_madeCells_one _ _
theorem Mem.unnil {w0 w : World} {l : List HP} (h : Mem w0 l w) (e s : Nat) : Mem w0 (rowE e s (.slice none 0 0) 0 [] :: l) w := h.nilRow e s
theorem conv_pick {w0 : World} {src dst l : List HP} (is : List Nat) (hn : is.Nodup) (h : is.map (src[·]?) = dst.map some) : Conv w0 (src ++ l) (dst ++ l) := by
  intro w hm
  obtain ⟨a1, a2, a3⟩ := List.pairwise_append.1 hm.apart
  have hl : is.length = dst.length := by simpa using congrArg List.length h
  have hat : ∀ t (ht : t < dst.length), src[is[t]'(by omega)]? = some (dst[t]) := by
    intro t ht
    have := congrArg (fun (x : List (Option HP)) => x[t]?) h
    simp only [List.getElem?_map, List.getElem?_eq_getElem ht, List.getElem?_eq_getElem (show t < is.length by omega), Option.map_some] at this
    exact Option.some.inj this
  have hmem : ∀ p ∈ dst, p ∈ src := by
    intro p hp
    obtain ⟨t, ht, rfl⟩ := List.mem_iff_getElem.1 hp
    exact List.mem_of_getElem? (hat t ht)
  refine ⟨hm.bel, fun p hp => ?_, fun p hp => ?_, fun p hp b hf => ?_, ?_⟩
  · rcases List.mem_append.1 hp with hp | hp
    · exact hm.holds p (List.mem_append_left _ (hmem p hp))
    · exact hm.holds p (List.mem_append_right _ hp)
  · rcases List.mem_append.1 hp with hp | hp
    · exact hm.ok p (List.mem_append_left _ (hmem p hp))
    · exact hm.ok p (List.mem_append_right _ hp)
  · rcases List.mem_append.1 hp with hp | hp
    · exact hm.new p (List.mem_append_left _ (hmem p hp)) b hf
    · exact hm.new p (List.mem_append_right _ hp) b hf
  · refine List.pairwise_append.2 ⟨?_, a2, fun p hp q hq => a3 p (hmem p hp) q hq⟩
    rw [List.pairwise_iff_getElem]
    intro i j hi hj hij
    obtain ⟨hi', ei⟩ := List.getElem?_eq_some_iff.1 (hat i hi)
    obtain ⟨hj', ej⟩ := List.getElem?_eq_some_iff.1 (hat j hj)
    have hne : is[i]'(by omega) ≠ is[j]'(by omega) := (List.pairwise_iff_getElem.1 hn) i j (by omega) (by omega) hij
    have key := List.pairwise_iff_getElem.1 a1
    rw [← ei, ← ej]
    rcases Nat.lt_or_gt_of_ne hne with hlt | hlt
    · exact key _ _ hi' hj' hlt
    · exact HP.apart_symm (key _ _ hj' hi' hlt)
theorem set_flat {α : Type} (f : α → List Value) (es : List α) (j : Nat) (a b : α) (h : f a = f b) : (es.set j a).flatMap f = (es.set j b).flatMap f := by
  rw [List.flatMap_def, List.flatMap_def, List.map_set, List.map_set, h]
theorem map_ext_getD {α β : Type} {f : α → β} {xs ys : List α} {d : α} (hl : xs.length = ys.length) (h : ∀ i, i < xs.length → f (xs.getD i d) = f (ys.getD i d)) : xs.map f = ys.map f := by
  apply List.ext_getElem?; intro i
  rw [List.getElem?_map, List.getElem?_map]
  by_cases hi : i < xs.length
  · rw [getD_at hi (d := d), getD_at (show i < ys.length by omega) (d := d), Option.map_some, Option.map_some, h i hi]
  · rw [List.getElem?_eq_none (by omega), List.getElem?_eq_none (by omega)]
theorem map_at {α β : Type} {f : α → β} {xs ys : List α} {d : α} (h : xs.map f = ys.map f) {i : Nat} (hi : i < xs.length) : f (xs.getD i d) = f (ys.getD i d) := by
  have hl : xs.length = ys.length := by simpa using congrArg List.length h
  have := congrArg (fun (x : List β) => x[i]?) h
  simp only [List.getElem?_map] at this
  rw [getD_at hi (d := d), getD_at (show i < ys.length by omega) (d := d)] at this
  exact Option.some.inj this
end Go.Proofs.Yteccnnpcigkmhaa
