/- Slices of ints in memory: what reads as a list, what a call has made itself, and appends to it. -/
import Derived.Test.YteccnnpcigkmhaaBase
import Derived.OwnWalk
set_option linter.unusedVariables false
set_option linter.unusedSimpArgs false
namespace Go.Proofs.Yteccnnpcigkmhaa
open Go.RowKit
def i64ok (x : Int) : Prop := -9223372036854775808 ≤ x ∧ x ≤ 9223372036854775807
/-- the slice (a, n, cap) reads as the ints xs -/
def IntS (w : World) (a : Option Addr) (n cap : Nat) (xs : List Int) : Prop :=
  n = xs.length ∧ n ≤ 9223372036854775807 ∧ (∀ x ∈ xs, i64ok x) ∧
  (0 < n → ∃ b off, a = some ⟨b, off, none⟩ ∧ b < w.heap.size ∧ ∀ j, j < n → w.cell? ⟨b, off + j, none⟩ = some (.int .i64 (xs.getD j 0)))
theorem IntS.len {w a n cap xs} (h : IntS w a n cap xs) : n = xs.length := h.1
theorem IntS.small {w a n cap xs} (h : IntS w a n cap xs) : n ≤ 9223372036854775807 := h.2.1
theorem IntS.cell {w a n cap xs} (h : IntS w a n cap xs) {k : Nat} (hk : k < n) :
    ∃ b off x, a = some ⟨b, off, none⟩ ∧ b < w.heap.size ∧ w.cell? ⟨b, off + k, none⟩ = some (.int .i64 x) ∧ xs.getD k 0 = x ∧ -9223372036854775808 ≤ x ∧ x ≤ 9223372036854775807 := by
  obtain ⟨h1, _, h3, h4⟩ := h
  obtain ⟨b, off, rfl, hb, hc⟩ := h4 (by omega)
  obtain ⟨l1, l2⟩ := h3 (xs.getD k 0) (getD_mem (by omega))
  exact ⟨b, off, _, rfl, hb, hc k hk, rfl, l1, l2⟩
theorem IntS.of_same {w w1 : World} {a n cap xs} (h : IntS w a n cap xs) (hs : w.heap.size ≤ w1.heap.size)
    (hc : ∀ b o, b < w.heap.size → (∀ x, a = some x → x.block = b) → w1.cell? ⟨b, o, none⟩ = w.cell? ⟨b, o, none⟩) : IntS w1 a n cap xs := by
  obtain ⟨h1, h2, h3, h4⟩ := h
  refine ⟨h1, h2, h3, fun hp => ?_⟩
  obtain ⟨b, off, rfl, hb, hcc⟩ := h4 hp
  exact ⟨b, off, rfl, Nat.lt_of_lt_of_le hb hs, fun j hj => by rw [hc b _ hb (by intro x hx; cases hx; rfl)]; exact hcc j hj⟩
theorem IntS.below {w w1 : World} {a n cap xs} (h : IntS w a n cap xs) (hb : Below w.heap.size w w1) : IntS w1 a n cap xs :=
  h.of_same hb.size fun b o hlt _ => hb.cell (p := ⟨b, o, none⟩) hlt
theorem IntS.grown {w w1 : World} {a n cap xs} {row : Option Nat} (h : IntS w a n cap xs) (hg : w.grownBy w1 row) (hne : ∀ x, a = some x → some x.block ≠ row) : IntS w1 a n cap xs := by
  obtain ⟨h1, h2, h3, h4⟩ := h
  refine ⟨h1, h2, h3, fun hp => ?_⟩
  obtain ⟨b, off, rfl, hb, hcc⟩ := h4 hp
  refine ⟨b, off, rfl, Nat.lt_of_lt_of_le hb hg.size, fun j hj => ?_⟩
  exact hg.cell (hcc j hj) (hne ⟨b, off, none⟩ rfl)
theorem IntS.alloc {w : World} {a n cap xs} (h : IntS w a n cap xs) (o : Obj) : IntS (w.alloc o) a n cap xs := h.below ((Below.refl _ _).alloc (Nat.le_refl _) o)
theorem IntS.drewN {w : World} {a n cap xs} (h : IntS w a n cap xs) (k : Nat) : IntS (w.drewN k) a n cap xs := h
theorem IntS.drew {w : World} {a n cap xs} (h : IntS w a n cap xs) : IntS w.drew a n cap xs := h
theorem IntS.nil (w : World) (a : Option Addr) (cap : Nat) : IntS w a 0 cap [] := ⟨rfl, by omega, (fun x hx => absurd hx List.not_mem_nil), (fun h => absurd h (by omega))⟩
abbrev ints (xs : List Int) : List Value := xs.map (Value.int .i64)
/-- what the call has made itself reads -/
theorem IntS.of_owns {w : World} {base n : Nat} {v : Value} {xs : List Int} (h : w.ownsRow base 3 1 v n (ints xs)) (hok : ∀ x ∈ xs, i64ok x) : ∃ a cap, v = .slice a n cap ∧ IntS w a n cap xs := by
  obtain ⟨h1, h2⟩ := h
  have hl : xs.length = n := by simpa using h1
  rcases h2 with ⟨rfl, rfl⟩ | ⟨g, cap, cur, rfl, hb, hh, hn, hm, hsz, htk⟩
  · have : xs = [] := List.length_eq_zero_iff.1 hl
    subst this
    exact ⟨none, 0, rfl, IntS.nil _ _ _⟩
  · refine ⟨_, cap, rfl, hl.symm, by unfold maxLen at hm; omega, hok, fun hp => ⟨g, 0, rfl, ?_, fun j hj => ?_⟩⟩
    · exact (Array.getElem?_eq_some_iff.1 hh).1
    · have hown : w.ownsRow base 3 1 (.slice (some ⟨g, 0, none⟩) n cap) n (ints xs) := ⟨h1, .inr ⟨g, cap, cur, rfl, hb, hh, hn, hm, hsz, htk⟩⟩
      have := hown.cellAt j (by omega)
      rw [Nat.zero_add, this, List.getElem?_map, List.getElem?_eq_getElem (by omega), List.getD_eq_getElem?_getD, List.getElem?_eq_getElem (by omega)]
      rfl
theorem info_int : (Try.prog.info? 3).map (fun i => (i.zero, i.size, i.bytes)) = some (some (.int .i64 0), 1, 8) := by kernel_rfl
/-- append of one int to a slice of the call's own -/
theorem append_int {ops : Array Oper} {rest : List Oper} {o : Oper} {a : Act} {Q : Exit → Act → World → Prop} (w : World) (hgd : o.guard = none) (s x : Operand)
    (ho : o.op = .call { callee := .builtin .append, args := #[s, x], argTypes := #[43, 43] })
    (B : Nat) (v : Value) (n : Nat) (xs : List Int) (hown : w.ownsRow B 3 1 v n (ints xs)) (y : Int) (hs : a.eval s = v)
    (hx : a.eval x = .slice (some ⟨w.heap.size, 0, none⟩) 1 1) (hn : n ≤ 1000000000) (hB : B ≤ w.heap.size)
    (h : ∀ v' w', w'.ownsRow B 3 1 v' (n + 1) (ints (xs ++ [y])) → (w.alloc (.cells #[.int .i64 y] 3)).grownBy w' v.ownBlock → wpList Try.prog ops Q rest (a.put o.dst v') w') :
    wpList Try.prog ops Q (o :: rest) a (w.alloc (.cells #[.int .i64 y] 3)) := by
  obtain ⟨i0, hi, hz0, hz1, hz2⟩ := info_parts info_int
  refine wpList_append_own _ hgd s x 43 ho B 3 i0 (.int .i64 0) 1 8 Try.underlying43 hi hz0 hz1 hz2 rfl (by decide) v n (ints xs) hs (hown.alloc _) ⟨w.heap.size, 0, none⟩ 1 1 [.int .i64 y] hx rfl ?_ ?_ ?_ ?_ ?_ ?_
  · intro j u hj
    match j, hj with
    | 0, hj => simp at hj; subst hj; simp [Addr.add]
  · intro u hu; simp at hu; subst hu; rfl
  · unfold maxLen; omega
  · omega
  · rw [size_alloc']; omega
  · intro v' w' h1 h2 _
    exact h v' w' (by simpa using h1) h2
theorem own_row {w : World} {B E size n : Nat} {v : Value} {xs : List Value} (h : w.ownsRow B E size v n xs) : ∀ k, v.ownBlock = some k → B ≤ k := fun k hk => (h.lt k hk).1
/-- behind an append old memory is as it was -/
theorem bel_append {w0 w w' : World} {E size n : Nat} {v : Value} {xs : List Value} {o : Obj} (hb : Below w0.heap.size w0 w) (hown : w.ownsRow w0.heap.size E size v n xs) (hg : (w.alloc o).grownBy w' v.ownBlock) : Below w0.heap.size w0 w' :=
  (bel_alloc hb o).grown hg (by rw [size_alloc']; have := hb.size; omega) (own_row hown)
theorem bel_app {w0 w w' : World} {B E size n : Nat} {v : Value} {xs : List Value} {o : Obj} (hb : Below B w0 w) (hown : w.ownsRow B E size v n xs) (hsz : B ≤ w.heap.size) (hg : (w.alloc o).grownBy w' v.ownBlock) : Below B w0 w' :=
  (hb.alloc hsz o).grown hg (by rw [size_alloc']; omega) (own_row hown)
theorem len_snoc {α : Type} (xs : List α) (y : α) : (xs ++ [y]).length = xs.length + 1 := by simp
/-- a row of the call's own, carried over a call that makes memory only -/
theorem own_below {w w1 : World} {B E size n : Nat} {v : Value} {xs : List Value} (h : w.ownsRow B E size v n xs) (hb : Below w.heap.size w w1) : w1.ownsRow B E size v n xs :=
  h.kept (row := none) ⟨hb.os, hb.tape, hb.output, hb.size, fun k hk _ => hb.block k hk⟩ (by cases v.ownBlock <;> simp)
theorem bel_grown {w0 w w' : World} {row : Option Nat} (hb : Below w0.heap.size w0 w) (hg : w.grownBy w' row) (hr : ∀ k, row = some k → w0.heap.size ≤ k) : Below w0.heap.size w0 w' := hb.grown hg hb.size hr
end Go.Proofs.Yteccnnpcigkmhaa
