/- What a law is handed: slices read, by reading the frame's own datum. -/
import Derived.Test.YtnnkbpcfjjijbaaLog7
import Derived.Deep.Slices
import Derived.Lib.SmallJoins
import Derived.ChangeArms
import Derived.OpenShut
set_option linter.unusedVariables false
set_option linter.unusedSimpArgs false
namespace Go.Proofs.Ytnnkbpcfjjijbaa
open Go.RowKit
theorem cells_get {w : World} {base n : Nat} {a : Addr} {cs : List Value} (h : w.cells? base a n = some cs) : cs.length = n ∧ ∀ k u, cs[k]? = some u → w.cell? (a.add k) = some u := by
  obtain ⟨h1, h2, h3⟩ := World.cells?_some h
  refine ⟨h2, fun k u hk => ?_⟩
  have hlt : k < cs.length := (List.getElem?_eq_some_iff.1 hk).1
  rw [h3 k (by omega)]; exact hk
theorem lists_of {α : Type} {p : Nat → α → Prop} : ∀ (n : Nat), (∀ i, i < n → ∃ a, p i a) → ∃ l : List α, l.length = n ∧ ∀ i a, l[i]? = some a → p i a
  | 0, _ => ⟨[], rfl, fun i a h => by simp at h⟩
  | n + 1, h => by
    obtain ⟨l, hl, hp⟩ := lists_of n (fun i hi => h i (by omega))
    obtain ⟨a, ha⟩ := h n (by omega)
    refine ⟨l ++ [a], by simp [hl], fun i b hb => ?_⟩
    by_cases hi : i < n
    · rw [List.getElem?_append_left (by omega)] at hb; exact hp i b hb
    · rw [List.getElem?_append_right (by omega)] at hb
      have : i - l.length = 0 := by
        have := (List.getElem?_eq_some_iff.1 hb).1
        simp at this; omega
      rw [this] at hb
      simp at hb
      subst hb
      rw [show i = n by omega]; exact ha
theorem flat_one {α : Type} (g : α → Value) : ∀ xs : List α, xs.flatMap (fun y => [g y]) = xs.map g
  | [] => rfl
  | a :: l => by rw [List.flatMap_cons, flat_one g l]; rfl
section
variable {H : Type} {enc : TypeId × Value → H} {P : Program} {w : World} {base : Nat} {spare : Nat → Bool} {held : Bool}
theorem open_rds {α : Type} (f : α → List Value) (d : α) {t e : TypeId} {s fuel : Nat} {v : Value} {x : DataW H × List MemPlace} {q : α → Prop} (ht : P.underlying t = some (.slice e)) (hs : P.cellsOf e = s) (hs0 : 0 < s) (hf : ∀ a, (f a).length = s)
    (h : DataW.trod enc P w base spare held fuel t [v] = some x) (hel : ∀ n cs y, cs.length = s → DataW.trod enc P w base spare held n e cs = some y → ∃ a, cs = f a ∧ q a) :
    ∃ es : List α, RdsW w v s es.length (es.flatMap f) ∧ ∀ a ∈ es, q a := by
  rcases Deep.open_slice ht h with ⟨h0, _⟩ | ⟨a, len, cap, m, n, D, Pl, hv, _, hl, hm, hmm, _, hx⟩
  · obtain rfl : v = .slice none 0 0 := by simpa using h0
    exact ⟨[], ⟨none, 0, rfl, by simp, ⟨by simp, by simp⟩, fun h => absurd h (by simp)⟩, fun a ha => by cases ha⟩
  · obtain rfl : v = .slice (some a) len cap := by simpa using hv
    have hml : len ≤ m := by rw [hmm]; split <;> omega
    obtain ⟨es, hes, hp⟩ := lists_of (p := fun i a' => (∀ k u, (f a')[k]? = some u → w.cell? ((a.add (i * s)).add k) = some u) ∧ q a') len (fun i hi => by
      obtain ⟨cs, h1, h2⟩ := hx i (by omega)
      rw [hs] at h1
      obtain ⟨h3, h4⟩ := cells_get h1
      obtain ⟨b, rfl, hb⟩ := hel n cs _ h3 h2
      exact ⟨b, h4, hb⟩)
    refine ⟨es, ⟨some a, cap, by rw [hes], flat_len f s hf es, ⟨by rw [hes]; unfold maxLen at hm; omega, by rw [hes]; exact hl⟩, fun hpos => ?_⟩, fun b hb => ?_⟩
    · have h0 := (hp 0 (es.getD 0 d) (getD_at (by omega))).1 0 _ (List.getElem?_eq_getElem (by rw [hf]; exact hs0))
      obtain ⟨b, off, spot⟩ := a
      have hsp : spot = none := by
        have := World.cell?_spot h0
        simpa [Addr.add] using this
      subst hsp
      refine ⟨b, off, rfl, fun j u hj => ?_⟩
      have hjl : j < es.length * s := by have := (List.getElem?_eq_some_iff.1 hj).1; rwa [flat_len f s hf] at this
      have hi : j / s < es.length := Nat.div_lt_of_lt_mul (by rw [Nat.mul_comm]; exact hjl)
      have e : j = j / s * s + j % s := by rw [Nat.mul_comm]; exact (Nat.div_add_mod j s).symm
      rw [e, flat_at f s hf es d hi (Nat.mod_lt _ hs0)] at hj
      have := (hp (j / s) _ (getD_at hi)).1 _ _ hj
      rw [add_lit, add_lit] at this
      rw [e, ← Nat.add_assoc]; exact this
    · obtain ⟨i, hi⟩ := List.mem_iff_getElem?.1 hb
      exact (hp i b hi).2
theorem open_ints {t e : TypeId} {fuel : Nat} {v : Value} {x : DataW H × List MemPlace} (ht : P.underlying t = some (.slice e)) (he : P.underlying e = some (.int .i64)) (hs : P.cellsOf e = 1)
    (h : DataW.trod enc P w base spare held fuel t [v] = some x) : ∃ xs : List Int, RdsW w v 1 xs.length (xs.map (Value.int .i64)) ∧ ∀ y ∈ xs, -9223372036854775808 ≤ y ∧ y ≤ 9223372036854775807 := by
  obtain ⟨xs, h1, h2⟩ := open_rds (fun y : Int => [Value.int .i64 y]) 0 (q := fun y => -9223372036854775808 ≤ y ∧ y ≤ 9223372036854775807) ht hs (by decide) (fun _ => rfl) h (fun n cs y hl hy => by
    obtain ⟨k, rfl, _, hw⟩ := DataW.trod_int he hy
    exact ⟨k, rfl, i64_rng hw⟩)
  refine ⟨xs, ?_, h2⟩
  rw [flat_one] at h1
  exact h1
end
end Go.Proofs.Ytnnkbpcfjjijbaa
