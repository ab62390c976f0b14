/- Plain laws: the program's sources and the reference's are the same list. -/
import Derived.Test.YtnnkbpcfjjijbaaSrc6
set_option linter.unusedVariables false
set_option linter.unusedSimpArgs false
namespace Go.Proofs.Ytnnkbpcfjjijbaa
open Go.RowKit
theorem insI_mem (xs : List Int) (x y : Int) : y ∈ insI xs x ↔ y = x ∨ y ∈ xs := by
  induction xs with
  | nil => simp [insI]
  | cons z zs ih =>
    simp only [insI]
    split
    · rw [List.mem_cons, ih, List.mem_cons]
      constructor
      · rintro (h | h | h)
        · exact .inr (.inl h)
        · exact .inl h
        · exact .inr (.inr h)
      · rintro (h | h | h)
        · exact .inr (.inl h)
        · exact .inl h
        · exact .inr (.inr h)
    · split
      · rename_i h; subst h; simp
      · simp
theorem insI_sorted (xs : List Int) (x : Int) (h : xs.Pairwise (· < ·)) : (insI xs x).Pairwise (· < ·) := by
  induction xs with
  | nil => simp [insI]
  | cons z zs ih =>
    rw [List.pairwise_cons] at h
    simp only [insI]
    split
    · rw [List.pairwise_cons]
      refine ⟨fun y hy => ?_, ih h.2⟩
      rcases (insI_mem _ _ _).1 hy with rfl | hy
      · assumption
      · exact h.1 y hy
    · split
      · exact List.pairwise_cons.2 h
      · rw [List.pairwise_cons]
        refine ⟨fun y hy => ?_, List.pairwise_cons.2 h⟩
        rcases List.mem_cons.1 hy with rfl | hy
        · omega
        · have := h.1 y hy; omega
theorem sorted_ext : ∀ (a b : List Int), a.Pairwise (· < ·) → b.Pairwise (· < ·) → (∀ x, x ∈ a ↔ x ∈ b) → a = b
  | [], [], _, _, _ => rfl
  | [], y :: b, _, _, h => by have := (h y).2 (by simp); simp at this
  | x :: a, [], _, _, h => by have := (h x).1 (by simp); simp at this
  | x :: a, y :: b, ha, hb, h => by
    rw [List.pairwise_cons] at ha hb
    have hxy : x = y := by
      rcases List.mem_cons.1 ((h x).1 (by simp)) with e | e
      · exact e
      · rcases List.mem_cons.1 ((h y).2 (by simp)) with e2 | e2
        · exact e2.symm
        · have h1 := hb.1 x e
          have h2 := ha.1 y e2
          omega
    subst hxy
    congr 1
    refine sorted_ext a b ha.2 hb.2 fun z => ?_
    constructor
    · intro hz
      have h1 := ha.1 z hz
      rcases List.mem_cons.1 ((h z).1 (by simp [hz])) with e | e
      · omega
      · exact e
    · intro hz
      have h1 := hb.1 z hz
      rcases List.mem_cons.1 ((h z).2 (by simp [hz])) with e | e
      · omega
      · exact e
theorem insR_perm (P : List Int) (x : Int) : (insR P x).Perm (x :: P) := by
  unfold insR
  refine (List.perm_middle).trans ?_
  rw [List.take_append_drop]
theorem sortR_perm (xs : List Int) : (sortR xs).Perm xs := by
  have : ∀ (xs acc : List Int), (xs.foldl insR acc).Perm (xs ++ acc) := by
    intro xs
    induction xs with
    | nil => intro acc; exact .refl _
    | cons x xs ih =>
      intro acc
      rw [List.foldl_cons]
      exact (ih _).trans (((insR_perm acc x).append_left xs).trans List.perm_middle)
  simpa [sortR] using this xs []
theorem insR_sorted (P : List Int) (x : Int) (h : P.Pairwise (· ≤ ·)) : (insR P x).Pairwise (· ≤ ·) := by
  have hc : ∃ k, k ≤ P.length ∧ (∀ j, k ≤ j → j < P.length → x < P.getD j 0) ∧ (k = 0 ∨ P.getD (k - 1) 0 ≤ x) := by
    have : ∀ n, n ≤ P.length → (∀ j, n ≤ j → j < P.length → x < P.getD j 0) → ∃ k, k ≤ P.length ∧ (∀ j, k ≤ j → j < P.length → x < P.getD j 0) ∧ (k = 0 ∨ P.getD (k - 1) 0 ≤ x) := by
      intro n
      induction n with
      | zero => intro hn h1; exact ⟨0, hn, h1, .inl rfl⟩
      | succ n ih =>
        intro hn h1
        by_cases hx : P.getD n 0 ≤ x
        · exact ⟨n + 1, hn, h1, .inr hx⟩
        · refine ih (by omega) fun j hj hl => ?_
          by_cases e : j = n
          · subst e; omega
          · exact h1 j (by omega) hl
    exact this P.length (Nat.le_refl _) (fun j h1 h2 => by omega)
  obtain ⟨k, hk, h1, h2⟩ := hc
  rw [insR_at P x k hk h1 h2]
  have hlt : ∀ i j, i < j → j < P.length → P.getD i 0 ≤ P.getD j 0 := by
    intro i j hij hj
    have := List.pairwise_iff_getElem.1 h i j (by omega) hj hij
    rw [List.getD_eq_getElem?_getD, List.getElem?_eq_getElem (by omega), List.getD_eq_getElem?_getD, List.getElem?_eq_getElem hj]; exact this
  rw [List.pairwise_append]
  refine ⟨h.sublist (List.take_sublist _ _), List.pairwise_cons.2 ⟨fun y hy => ?_, h.sublist (List.drop_sublist _ _)⟩, fun y hy z hz => ?_⟩
  · obtain ⟨j, hj, rfl⟩ := List.mem_iff_getElem.1 hy
    rw [List.length_drop] at hj
    have := h1 (k + j) (by omega) (by omega)
    rw [List.getD_eq_getElem?_getD, List.getElem?_eq_getElem (by omega)] at this
    have e : (P.drop k)[j]'(by simpa using hj) = P[k + j]'(by omega) := by simp
    rw [e]; simp at this; omega
  · obtain ⟨j, hj, rfl⟩ := List.mem_iff_getElem.1 hy
    have hj' : j < k ∧ j < P.length := by rw [List.length_take] at hj; omega
    have ey : (P.take k)[j] = P.getD j 0 := by rw [List.getElem_take, List.getD_eq_getElem?_getD, List.getElem?_eq_getElem hj'.2]; rfl
    have hyx : P.getD j 0 ≤ x := by
      rcases h2 with rfl | h2
      · omega
      · by_cases e : j = k - 1
        · subst e; exact h2
        · have := hlt j (k - 1) (by omega) (by omega); omega
    rw [ey]
    rcases List.mem_cons.1 hz with rfl | hz
    · exact hyx
    · obtain ⟨i, hi, rfl⟩ := List.mem_iff_getElem.1 hz
      rw [List.length_drop] at hi
      have := h1 (k + i) (by omega) (by omega)
      rw [List.getD_eq_getElem?_getD, List.getElem?_eq_getElem (by omega)] at this
      have e : (P.drop k)[i]'(by simpa using hi) = P[k + i]'(by omega) := by simp
      rw [e]; simp at this; omega
theorem sortR_sorted (xs : List Int) : (sortR xs).Pairwise (· ≤ ·) := by
  have : ∀ (xs acc : List Int), acc.Pairwise (· ≤ ·) → (xs.foldl insR acc).Pairwise (· ≤ ·) := by
    intro xs
    induction xs with
    | nil => intro acc h; exact h
    | cons x xs ih => intro acc h; exact ih _ (insR_sorted acc x h)
  exact this xs [] .nil
theorem sortR_strict (xs : List Int) (h : xs.Nodup) : (sortR xs).Pairwise (· < ·) := by
  have h1 := sortR_sorted xs
  have h2 : (sortR xs).Pairwise (· ≠ ·) := (sortR_perm xs).nodup_iff.2 h
  exact (h1.and h2).imp fun ⟨a, b⟩ => by omega
/-! ### folds that only add -/
theorem fold_ins {α : Type} (f : List Int → α → List Int) (P : α → Int → Prop) (hf : ∀ xs i y, y ∈ f xs i ↔ y ∈ xs ∨ P i y) : ∀ (l : List α) (xs : List Int) (y : Int), y ∈ l.foldl f xs ↔ y ∈ xs ∨ ∃ i ∈ l, P i y
  | [], xs, y => by simp
  | i :: l, xs, y => by
    rw [List.foldl_cons, fold_ins f P hf l, hf]
    constructor
    · rintro ((h | h) | ⟨j, hj, h⟩)
      · exact .inl h
      · exact .inr ⟨i, by simp, h⟩
      · exact .inr ⟨j, by simp [hj], h⟩
    · rintro (h | ⟨j, hj, h⟩)
      · exact .inl (.inl h)
      · rcases List.mem_cons.1 hj with rfl | hj
        · exact .inl (.inr h)
        · exact .inr ⟨j, hj, h⟩
theorem fold_sorted {α : Type} (f : List Int → α → List Int) (hf : ∀ xs i, xs.Pairwise (· < ·) → (f xs i).Pairwise (· < ·)) : ∀ (l : List α) (xs : List Int), xs.Pairwise (· < ·) → (l.foldl f xs).Pairwise (· < ·)
  | [], xs, h => h
  | i :: l, xs, h => fold_sorted f hf l _ (hf xs i h)
theorem fold_app {α : Type} (f : List Int → α → List Int) (g : α → List Int) (hf : ∀ xs i, f xs i = xs ++ g i) : ∀ (l : List α) (xs : List Int), l.foldl f xs = xs ++ l.flatMap g
  | [], xs => by simp
  | i :: l, xs => by rw [List.foldl_cons, fold_app f g hf l, hf]; simp
/-! ### the candidates -/
/-- y is the wire that begins s steps back from t in direction r, on track k -/
def Cand (d : Dev) (t r k s y : Int) : Prop := 0 ≤ stepI d t ((r + 2) % 4) s ∧ 0 ≤ wireNodeI d (stepI d t ((r + 2) % 4) s) r k ∧ y = wireNodeI d (stepI d t ((r + 2) % 4) s) r k
theorem pinS_mem (d : Dev) (t r k : Int) (xs : List Int) (s : Nat) (y : Int) : y ∈ pinS d t r k xs s ↔ y ∈ xs ∨ Cand d t r k ((s : Int) + 1) y := by
  unfold pinS Cand
  split
  · constructor
    · exact .inl
    · rintro (h | ⟨h, _⟩)
      · exact h
      · omega
  · split
    · rw [insI_mem]
      constructor
      · rintro (h | h)
        · exact .inr ⟨by omega, by assumption, h⟩
        · exact .inl h
      · rintro (h | ⟨_, _, h⟩)
        · exact .inr h
        · exact .inl h
    · constructor
      · exact .inl
      · rintro (h | ⟨_, h, _⟩)
        · exact h
        · omega
theorem pinS_sorted (d : Dev) (t r k : Int) (xs : List Int) (s : Nat) (h : xs.Pairwise (· < ·)) : (pinS d t r k xs s).Pairwise (· < ·) := by
  unfold pinS
  split
  · exact h
  · split
    · exact insI_sorted _ _ h
    · exact h
theorem pinO_sorted (d : Dev) (t p : Int) (j : Nat) : (pinO d t p j).Pairwise (· < ·) := by
  refine fold_sorted _ (fun xs r h => fold_sorted _ (fun xs k h => ?_) _ _ h) _ _ .nil
  split
  · exact h
  · exact fold_sorted _ (fun xs s h => pinS_sorted d t _ _ xs s h) _ _ h
theorem pinO_mem (d : Dev) (t p : Int) (j : Nat) (y : Int) : y ∈ pinO d t p j ↔ ∃ r ∈ List.range j, ∃ k ∈ List.range d.T.toNat, ¬ (1 < d.T ∧ ((k : Int) + p) % 2 ≠ 0) ∧ ∃ s ∈ List.range (1 + k % 2), Cand d t r k ((s : Int) + 1) y := by
  unfold pinO
  rw [fold_ins (P := fun (r : Nat) y => ∃ k ∈ List.range d.T.toNat, ¬ (1 < d.T ∧ ((k : Int) + p) % 2 ≠ 0) ∧ ∃ s ∈ List.range (1 + k % 2), Cand d t r k ((s : Int) + 1) y)]
  · simp
  · intro xs r y
    unfold pinR
    rw [fold_ins (P := fun (k : Nat) y => ¬ (1 < d.T ∧ ((k : Int) + p) % 2 ≠ 0) ∧ ∃ s ∈ List.range (1 + k % 2), Cand d t r k ((s : Int) + 1) y)]
    intro xs k y
    split
    · rename_i h; simp [h]
    · rename_i h
      unfold pinK
      rw [fold_ins (P := fun (s : Nat) y => Cand d t r k ((s : Int) + 1) y) _ (fun xs s y => pinS_mem d t r k xs s y)]
      simp only [h, not_false_eq_true, true_and]
theorem wireN_inj {d : Dev} (hv : devB d = true) {f r k f' r' k' : Int} (r0 : 0 ≤ r) (r1 : r ≤ 3) (k0 : 0 ≤ k) (k1 : k ≤ d.T - 1) (r0' : 0 ≤ r') (r1' : r' ≤ 3) (k0' : 0 ≤ k') (k1' : k' ≤ d.T - 1) (h : wireN d f r k = wireN d f' r' k') : f = f' ∧ r = r' ∧ k = k' := by
  obtain ⟨-, -, ⟨l1, l2⟩, -⟩ := (devB_iff d).1 hv
  have a1 := dirT_rng hv r0 r1
  have a2 := dirT_rng hv r0' r1'
  unfold wireN perI at h
  have b1 : r * d.T ≤ 3 * d.T := Int.mul_le_mul_of_nonneg_right r1 (by omega)
  have b2 : r' * d.T ≤ 3 * d.T := Int.mul_le_mul_of_nonneg_right r1' (by omega)
  have hf : f = f' := by
    have e1 : (f * (7 + 4 * d.T) + (7 + r * d.T + k)) / (7 + 4 * d.T) = f := by
      rw [Int.add_comm, Int.add_mul_ediv_right _ _ (by omega), Int.ediv_eq_zero_of_lt (by omega) (by omega)]; omega
    have e2 : (f' * (7 + 4 * d.T) + (7 + r' * d.T + k')) / (7 + 4 * d.T) = f' := by
      rw [Int.add_comm, Int.add_mul_ediv_right _ _ (by omega), Int.ediv_eq_zero_of_lt (by omega) (by omega)]; omega
    rw [← e1, ← e2]; congr 1; omega
  subst hf
  have h2 : r * d.T + k = r' * d.T + k' := by omega
  have hr : r = r' := by
    have e1 : (r * d.T + k) / d.T = r := by rw [Int.add_comm, Int.add_mul_ediv_right _ _ (by omega), Int.ediv_eq_zero_of_lt (by omega) (by omega)]; omega
    have e2 : (r' * d.T + k') / d.T = r' := by rw [Int.add_comm, Int.add_mul_ediv_right _ _ (by omega), Int.ediv_eq_zero_of_lt (by omega) (by omega)]; omega
    rw [← e1, ← e2, h2]
  subst hr
  exact ⟨rfl, rfl, by omega⟩
theorem wireNodeI_nonneg {d : Dev} {f r k : Int} (h : 0 ≤ wireNodeI d f r k) : wireNodeI d f r k = wireN d f r k := by
  unfold wireNodeI at *
  split
  · rfl
  · rename_i hh; rw [if_neg hh] at h; omega
theorem wS_eq {d : Dev} {t r k s : Int} (ht : tOk d t = true) (r0 : 0 ≤ r) (r1 : r ≤ 3) (k0 : 0 ≤ k) (k1 : k ≤ d.T - 1) (s0 : 0 ≤ s) (s1 : s ≤ 2) :
    wireNodeS d (tileStepI d t ((r + 2) % 4) s) r k = if 0 ≤ stepI d t ((r + 2) % 4) s then wireNodeI d (stepI d t ((r + 2) % 4) s) r k else -1 := by
  obtain ⟨hv, _, _⟩ := (tOk_iff d t).1 ht
  rw [tileStep_eq ht (by omega) (by omega) s0 (by omega)]
  split
  · rename_i h
    have hto := step_tOk hv (show ¬ stepI d t ((r + 2) % 4) s < 0 by omega)
    unfold wireNodeS wireNodeI
    rw [tileStep_eq hto r0 r1 (by omega) (by omega)]
    by_cases h2 : 0 ≤ stepI d (stepI d t ((r + 2) % 4) s) r (1 + k % 2)
    · rw [if_pos h2, if_pos ⟨hto, k0, by omega, h2⟩]
    · rw [if_neg h2, if_neg (fun hh => h2 hh.2.2.2)]
  · rename_i h
    unfold wireNodeS
    rw [if_neg]
    rintro ⟨h1, _⟩
    have := (tOk_iff _ _).1 h1
    omega
def gS (d : Dev) (t p r k : Int) (s : Nat) : List Int := if 7 ≤ p ∧ (s : Int) + 1 < 1 + k % 2 then [] else if 0 ≤ wireNodeS d (tileStepI d t ((r + 2) % 4) ((s : Int) + 1)) r k then [wireNodeS d (tileStepI d t ((r + 2) % 4) ((s : Int) + 1)) r k] else []
theorem sS_app (d : Dev) (t p r k : Int) (xs : List Int) (s : Nat) : sS d t p r k xs s = xs ++ gS d t p r k s := by
  unfold sS gS; split
  · simp
  · split <;> simp
def gK (d : Dev) (t p dir track r : Int) (k : Nat) : List Int := if Skip d.T p dir track r k then [] else (List.range (1 + k % 2)).flatMap (gS d t p r k)
theorem sO_app (d : Dev) (t p dir track : Int) (j : Nat) : sO d t p dir track j = baseS d t p ++ (List.range j).flatMap (fun (r : Nat) => (List.range d.T.toNat).flatMap (gK d t p dir track r)) := by
  unfold sO
  rw [fold_app _ (fun (r : Nat) => (List.range d.T.toNat).flatMap (gK d t p dir track r))]
  intro xs r
  unfold sR
  rw [fold_app _ (gK d t p dir track r)]
  intro xs k
  unfold gK
  split
  · simp
  · unfold sK; rw [fold_app _ (gS d t p r k) (fun xs s => sS_app d t p r k xs s)]
theorem gS_mem {d : Dev} {t p r k : Int} {s : Nat} {y : Int} (ht : tOk d t = true) (r0 : 0 ≤ r) (r1 : r ≤ 3) (k0 : 0 ≤ k) (k1 : k ≤ d.T - 1) (s1 : s ≤ 1) : y ∈ gS d t p r k s ↔ ¬ (7 ≤ p ∧ (s : Int) + 1 < 1 + k % 2) ∧ Cand d t r k ((s : Int) + 1) y := by
  unfold gS Cand
  rw [wS_eq ht r0 r1 k0 k1 (by omega) (by omega)]
  by_cases h1 : 7 ≤ p ∧ (s : Int) + 1 < 1 + k % 2
  · simp [h1]
  · rw [if_neg h1]
    by_cases h2 : 0 ≤ stepI d t ((r + 2) % 4) ((s : Int) + 1)
    · rw [if_pos h2]
      by_cases h3 : 0 ≤ wireNodeI d (stepI d t ((r + 2) % 4) ((s : Int) + 1)) r k
      · rw [if_pos h3]; simp [h1, h2, h3]
      · rw [if_neg h3]; simp [h3]
    · rw [if_neg h2, if_neg (by omega)]; simp [h2]
theorem sO_mem {d : Dev} {t p dir track : Int} {y : Int} (ht : tOk d t = true) : y ∈ sO d t p dir track 4 ↔ y ∈ baseS d t p ∨ ∃ r ∈ List.range 4, ∃ k ∈ List.range d.T.toNat, ¬ Skip d.T p dir track r k ∧ ∃ s ∈ List.range (1 + k % 2), ¬ (7 ≤ p ∧ (s : Int) + 1 < 1 + (k : Int) % 2) ∧ Cand d t r k ((s : Int) + 1) y := by
  rw [sO_app, List.mem_append]
  have key : ∀ r ∈ List.range 4, ∀ k ∈ List.range d.T.toNat, (y ∈ gK d t p dir track (r : Int) k ↔ ¬ Skip d.T p dir track r k ∧ ∃ s ∈ List.range (1 + k % 2), ¬ (7 ≤ p ∧ (s : Int) + 1 < 1 + (k : Int) % 2) ∧ Cand d t r k ((s : Int) + 1) y) := by
    intro r hr k hk
    rw [List.mem_range] at hr hk
    unfold gK
    split
    · rename_i h; simp [h]
    · rename_i h
      simp only [h, not_false_eq_true, true_and]
      rw [List.mem_flatMap]
      constructor
      · rintro ⟨s, hs, hy⟩
        have := List.mem_range.1 hs
        exact ⟨s, hs, (gS_mem ht (by omega) (by omega) (by omega) (by omega) (by omega)).1 hy⟩
      · rintro ⟨s, hs, hy⟩
        have := List.mem_range.1 hs
        exact ⟨s, hs, (gS_mem ht (by omega) (by omega) (by omega) (by omega) (by omega)).2 hy⟩
  constructor
  · rintro (h | h)
    · exact .inl h
    · obtain ⟨r, hr, h⟩ := List.mem_flatMap.1 h
      obtain ⟨k, hk, h⟩ := List.mem_flatMap.1 h
      exact .inr ⟨r, hr, k, hk, (key r hr k hk).1 h⟩
  · rintro (h | ⟨r, hr, k, hk, h⟩)
    · exact .inl h
    · exact .inr (List.mem_flatMap.2 ⟨r, hr, List.mem_flatMap.2 ⟨k, hk, (key r hr k hk).2 h⟩⟩)
theorem wireN_mod {d : Dev} (hv : devB d = true) {f r k : Int} (r0 : 0 ≤ r) (r1 : r ≤ 3) (k0 : 0 ≤ k) (k1 : k ≤ d.T - 1) : 7 ≤ wireN d f r k % perI d := by
  obtain ⟨-, -, ⟨l1, l2⟩, -⟩ := (devB_iff d).1 hv
  have a1 := dirT_rng hv r0 r1
  have b1 : r * d.T ≤ 3 * d.T := Int.mul_le_mul_of_nonneg_right r1 (by omega)
  unfold wireN perI
  rw [show f * (7 + 4 * d.T) + 7 + r * d.T + k = (7 + r * d.T + k) + f * (7 + 4 * d.T) by omega, Int.add_mul_emod_self_right, Int.emod_eq_of_lt (by omega) (by omega)]
  omega
theorem out_mod {d : Dev} (hv : devB d = true) {t p : Int} (p0 : 0 ≤ p) (p1 : p ≤ 1) : (t * perI d + 5 + p) % perI d = 5 + p := by
  obtain ⟨h1, h2⟩ := per_rng hv
  rw [show t * perI d + 5 + p = (5 + p) + t * perI d by omega, Int.add_mul_emod_self_right, Int.emod_eq_of_lt (by omega) (by omega)]
theorem base_mem {d : Dev} {t p y : Int} (ht : tOk d t = true) (h : y ∈ baseS d t p) : ∃ q, 0 ≤ q ∧ q ≤ 1 ∧ y = t * perI d + 5 + q := by
  have ho := outPins_rng d t
  unfold baseS at h
  split at h
  · split at h
    · simp only [List.mem_cons, List.not_mem_nil, or_false] at h
      rcases h with rfl | rfl
      · exact ⟨0, by omega, by omega, by unfold outPinI; rw [if_pos ⟨ht, by omega, by omega⟩]⟩
      · exact ⟨1, by omega, by omega, by unfold outPinI; rw [if_pos ⟨ht, by omega, by omega⟩]⟩
    · simp only [List.mem_cons, List.not_mem_nil, or_false] at h
      subst h
      exact ⟨0, by omega, by omega, by unfold outPinI; rw [if_pos ⟨ht, by omega, by omega⟩]⟩
  · simp at h
theorem base_nodup {d : Dev} {t p : Int} (ht : tOk d t = true) : (baseS d t p).Nodup := by
  have ho := outPins_rng d t
  unfold baseS
  split
  · split
    · rename_i h
      have e0 : outPinI d t 0 = t * perI d + 5 + 0 := by unfold outPinI; rw [if_pos ⟨ht, by omega, by omega⟩]
      have e1 : outPinI d t 1 = t * perI d + 5 + 1 := by unfold outPinI; rw [if_pos ⟨ht, by omega, by omega⟩]
      rw [e0, e1, List.nodup_cons]
      exact ⟨by simp; omega, by simp⟩
    · simp
  · exact List.nodup_nil
theorem step_inj {d : Dev} {t r s s' : Int} (ht : tOk d t = true) (r0 : 0 ≤ r) (r1 : r ≤ 3) (s0 : 0 ≤ s) (s1 : s ≤ 6) (s0' : 0 ≤ s') (s1' : s' ≤ 6) (h : 0 ≤ stepI d t r s) (e : stepI d t r s = stepI d t r s') : s = s' := by
  have e1 := tileStep_eq ht r0 r1 s0 s1
  have e2 := tileStep_eq ht r0 r1 s0' s1'
  have h1 := (step_back d t r s ht r0 r1 s0 s1 (by omega)).2.1
  have h2 := (step_back d t r s' ht r0 r1 s0' s1' (by omega)).2.1
  rw [e1] at h1
  rw [e2] at h2
  rw [← h1, ← h2, e]
theorem sO_nodup {d : Dev} {t p dir track : Int} (ht : tOk d t = true) : (sO d t p dir track 4).Nodup := by
  obtain ⟨hv, _, _⟩ := (tOk_iff d t).1 ht
  have memK : ∀ (r : Nat), r < 4 → ∀ (k : Nat), k < d.T.toNat → ∀ y, y ∈ gK d t p dir track r k → ∃ s : Nat, s < 1 + k % 2 ∧ y ∈ gS d t p r k s := by
    intro r hr k hk y hy
    unfold gK at hy
    split at hy
    · simp at hy
    · obtain ⟨s, hs, h⟩ := List.mem_flatMap.1 hy
      exact ⟨s, List.mem_range.1 hs, h⟩
  have val : ∀ (r : Nat), r < 4 → ∀ (k : Nat), k < d.T.toNat → ∀ (s : Nat), s < 1 + k % 2 → ∀ y, y ∈ gS d t p r k s → y = wireN d (stepI d t (((r : Int) + 2) % 4) ((s : Int) + 1)) r k ∧ 0 ≤ stepI d t (((r : Int) + 2) % 4) ((s : Int) + 1) := by
    intro r hr k hk s hs y hy
    obtain ⟨_, c1, c2, c3⟩ := (gS_mem ht (by omega) (by omega) (by omega) (by omega) (by omega)).1 hy
    exact ⟨c3.trans (wireNodeI_nonneg c2), c1⟩
  rw [sO_app]
  refine List.nodup_append.2 ⟨base_nodup ht, ?_, ?_⟩
  · refine List.pairwise_flatMap.2 ⟨fun r hr => ?_, ?_⟩
    · rw [List.mem_range] at hr
      refine List.pairwise_flatMap.2 ⟨fun k hk => ?_, ?_⟩
      · rw [List.mem_range] at hk
        unfold gK
        split
        · exact .nil
        · refine List.pairwise_flatMap.2 ⟨fun s hs => ?_, ?_⟩
          · unfold gS; split
            · exact .nil
            · split
              · simp
              · exact .nil
          · refine (List.pairwise_lt_range).imp_of_mem fun {s s'} hs hs' hlt x hx y hy hxy => ?_
            rw [List.mem_range] at hs hs'
            obtain ⟨a1, a2⟩ := val r hr k hk s hs x hx
            obtain ⟨b1, b2⟩ := val r hr k hk s' hs' y hy
            obtain ⟨c1, _, _⟩ := wireN_inj hv (by omega) (by omega) (by omega) (by omega) (by omega) (by omega) (by omega) (by omega) (a1.symm.trans (hxy.trans b1))
            have := step_inj ht (by omega) (by omega) (by omega) (by omega) (by omega) (by omega) a2 c1
            omega
      · refine (List.pairwise_lt_range).imp_of_mem fun {k k'} hk hk' hlt x hx y hy hxy => ?_
        rw [List.mem_range] at hk hk'
        obtain ⟨s, hs, hx⟩ := memK r hr k hk x hx
        obtain ⟨s', hs', hy⟩ := memK r hr k' hk' y hy
        obtain ⟨a1, a2⟩ := val r hr k hk s hs x hx
        obtain ⟨b1, b2⟩ := val r hr k' hk' s' hs' y hy
        obtain ⟨_, _, c1⟩ := wireN_inj hv (by omega) (by omega) (by omega) (by omega) (by omega) (by omega) (by omega) (by omega) (a1.symm.trans (hxy.trans b1))
        omega
    · refine (List.pairwise_lt_range).imp_of_mem fun {r r'} hr hr' hlt x hx y hy hxy => ?_
      rw [List.mem_range] at hr hr'
      obtain ⟨k, hk, hx⟩ := List.mem_flatMap.1 hx
      obtain ⟨k', hk', hy⟩ := List.mem_flatMap.1 hy
      rw [List.mem_range] at hk hk'
      obtain ⟨s, hs, hx⟩ := memK r hr k hk x hx
      obtain ⟨s', hs', hy⟩ := memK r' hr' k' hk' y hy
      obtain ⟨a1, a2⟩ := val r hr k hk s hs x hx
      obtain ⟨b1, b2⟩ := val r' hr' k' hk' s' hs' y hy
      obtain ⟨_, c1, _⟩ := wireN_inj hv (by omega) (by omega) (by omega) (by omega) (by omega) (by omega) (by omega) (by omega) (a1.symm.trans (hxy.trans b1))
      omega
  · intro x hx y hy hxy
    obtain ⟨q, q0, q1, rfl⟩ := base_mem ht hx
    obtain ⟨r, hr, hy⟩ := List.mem_flatMap.1 hy
    obtain ⟨k, hk, hy⟩ := List.mem_flatMap.1 hy
    rw [List.mem_range] at hr hk
    obtain ⟨s, hs, hy⟩ := memK r hr k hk y hy
    obtain ⟨a1, _⟩ := val r hr k hk s hs y hy
    have e1 := out_mod hv (t := t) q0 q1
    have e2 := wireN_mod hv (f := stepI d t (((r : Int) + 2) % 4) ((s : Int) + 1)) (r := (r : Int)) (k := (k : Int)) (by omega) (by omega) (by omega) (by omega)
    rw [← a1, ← hxy, e1] at e2
    omega
theorem wireO_sorted (d : Dev) (t dir track : Int) (j : Nat) : (wireO d t dir track j).Pairwise (· < ·) := by
  refine fold_sorted _ (fun xs r h => ?_) _ _ (fold_sorted _ (fun xs p h => ?_) _ _ .nil)
  · unfold wireR
    split
    · exact h
    · refine fold_sorted _ (fun xs k h => ?_) _ _ h
      unfold wireW
      split
      · exact insI_sorted _ _ h
      · exact h
  · unfold outS
    split
    · exact insI_sorted _ _ h
    · exact h
theorem wireO_mem (d : Dev) (t dir track : Int) (y : Int) : y ∈ wireO d t dir track 4 ↔ (∃ p ∈ List.range 2, 0 ≤ outPinI d t (p : Nat) ∧ y = outPinI d t (p : Nat)) ∨ ∃ r ∈ List.range 4, ¬ ((r : Nat) : Int) = (dir + 2) % 4 ∧ ∃ k ∈ [track, (track + 1) % d.T], 0 ≤ stepI d t (((r : Nat) + 2) % 4) (1 + k % 2) ∧ y = wireNodeI d (stepI d t (((r : Nat) + 2) % 4) (1 + k % 2)) (r : Nat) k := by
  unfold wireO
  rw [fold_ins (P := fun (r : Nat) y => ¬ ((r : Nat) : Int) = (dir + 2) % 4 ∧ ∃ k ∈ [track, (track + 1) % d.T], 0 ≤ stepI d t (((r : Nat) + 2) % 4) (1 + k % 2) ∧ y = wireNodeI d (stepI d t (((r : Nat) + 2) % 4) (1 + k % 2)) (r : Nat) k)]
  · unfold outO
    rw [fold_ins (P := fun (p : Nat) y => 0 ≤ outPinI d t (p : Nat) ∧ y = outPinI d t (p : Nat))]
    · simp
    · intro xs p y
      unfold outS
      split
      · rename_i h; rw [insI_mem]; simp only [h, true_and]; exact Or.comm
      · rename_i h; simp [h]
  · intro xs r y
    unfold wireR
    split
    · rename_i h; simp [h]
    · rename_i h
      unfold wireK
      rw [fold_ins (P := fun (k : Int) y => 0 ≤ stepI d t (((r : Nat) + 2) % 4) (1 + k % 2) ∧ y = wireNodeI d (stepI d t (((r : Nat) + 2) % 4) (1 + k % 2)) (r : Nat) k)]
      · simp only [h, not_false_eq_true, true_and]; rfl
      · intro xs k y
        unfold wireW
        split
        · rename_i h; rw [insI_mem]; simp only [h, true_and]; exact Or.comm
        · rename_i h; simp [h]
theorem src_eq (d : Dev) (n : Int) : srcS d n = srcI d n := by
  unfold srcS srcI
  cases hn : nodeOkI d n with
  | false => simp
  | true =>
    obtain ⟨hv, n0, n1⟩ := nodeOk_rng hn
    obtain ⟨p0, p1, p2, p3, ht⟩ := place_rng hv n0 n1
    obtain ⟨-, -, ⟨l1, l2⟩, -⟩ := (devB_iff d).1 hv
    obtain ⟨dg0, dg1, dg2, dg3⟩ := dir_rng hv p2 p3
    generalize n % perI d = p at *
    generalize n / perI d = t at *
    simp only [true_and, if_true]
    by_cases h5 : p < 5
    · rw [if_pos ⟨by omega, by omega⟩, if_pos h5]
      refine sorted_ext _ _ (sortR_strict _ (sO_nodup ht)) (pinO_sorted d t p 4) fun y => ?_
      rw [(sortR_perm _).mem_iff, sO_mem ht, pinO_mem]
      have hb : baseS d t p = [] := if_neg (by omega)
      rw [hb]
      constructor
      · rintro (h | ⟨r, hr, k, hk, hs, s, hs2, _, hc⟩)
        · simp at h
        · rw [List.mem_range] at hk
          exact ⟨r, hr, k, by simpa using hk, fun hh => hs (.inr ⟨by omega, hh.1, by omega⟩), s, hs2, hc⟩
      · rintro ⟨r, hr, k, hk, hs, s, hs2, hc⟩
        refine .inr ⟨r, hr, k, hk, fun hh => ?_, s, hs2, by omega, hc⟩
        rcases hh with hh | hh
        · omega
        · exact hs ⟨hh.2.1, by omega⟩
    · by_cases h7 : p < 7
      · rw [if_neg (by omega), if_neg h5, if_pos h7]
      · rw [if_pos ⟨by omega, by omega⟩, if_neg h5, if_neg h7]
        have hd : dirI d p = (p - 7) / d.T := if_pos (by omega)
        have hk : trackI d p = (p - 7) % d.T := if_pos (by omega)
        rw [hd] at dg0 dg1 ⊢
        rw [hk] at dg2 dg3 ⊢
        generalize (p - 7) / d.T = dir at *
        generalize (p - 7) % d.T = track at *
        have hmr := mod_rng (a := track + 1) l1
        have ho := outPins_rng d t
        refine sorted_ext _ _ (sortR_strict _ (sO_nodup ht)) (wireO_sorted d t dir track 4) fun y => ?_
        rw [(sortR_perm _).mem_iff, sO_mem ht, wireO_mem]
        have e0 : outPinI d t 0 = t * perI d + 5 + 0 := by unfold outPinI; rw [if_pos ⟨ht, by omega, by omega⟩]
        have hpm := per_mul hv (by omega) p1
        have hbase : y ∈ baseS d t p ↔ ∃ q ∈ List.range 2, 0 ≤ outPinI d t ((q : Nat) : Int) ∧ y = outPinI d t ((q : Nat) : Int) := by
          unfold baseS
          rw [if_pos (by omega)]
          have e2 : List.range 2 = [0, 1] := rfl
          rw [e2]
          by_cases h1 : 1 < outPinsI (kindI d t)
          · have e1 : outPinI d t 1 = t * perI d + 5 + 1 := by unfold outPinI; rw [if_pos ⟨ht, by omega, by omega⟩]
            rw [if_pos h1]
            simp only [List.mem_cons, List.not_mem_nil, or_false, exists_eq_or_imp, exists_eq_left, Int.natCast_zero, Int.natCast_one]
            constructor
            · rintro (h | h)
              · exact .inl ⟨by omega, h⟩
              · exact .inr ⟨by omega, h⟩
            · rintro (h | h)
              · exact .inl h.2
              · exact .inr h.2
          · have e1 : outPinI d t 1 = -1 := by unfold outPinI; rw [if_neg (by rintro ⟨_, _, _⟩; omega)]
            rw [if_neg h1]
            simp only [List.mem_cons, List.not_mem_nil, or_false, exists_eq_or_imp, exists_eq_left, Int.natCast_zero, Int.natCast_one]
            constructor
            · intro h; exact .inl ⟨by omega, h⟩
            · rintro (h | h)
              · exact h.2
              · omega
        rw [hbase]
        constructor
        · rintro (h | ⟨r, hr, k, hk, hs, s, hs2, hs3, hc⟩)
          · exact .inl h
          · rw [List.mem_range] at hk hs2
            refine .inr ⟨r, hr, fun e => hs (.inl ⟨by omega, .inl e⟩), (k : Int), ?_, ?_⟩
            · have : (k : Int) = track ∨ (k : Int) = (track + 1) % d.T := by
                by_cases e : (k : Int) = track
                · exact .inl e
                · by_cases e2 : (k : Int) = (track + 1) % d.T
                  · exact .inr e2
                  · exact absurd (.inl ⟨by omega, .inr ⟨e, e2⟩⟩) hs
              rcases this with e | e <;> simp [← e]
            · have es : (s : Int) + 1 = 1 + (k : Int) % 2 := by omega
              rw [es] at hc
              exact ⟨hc.1, hc.2.2⟩
        · rintro (h | ⟨r, hr, hne, k, hk, h1, h2⟩)
          · exact .inl h
          · rw [List.mem_range] at hr
            have hkr : (k = track ∨ k = (track + 1) % d.T) := by simpa using hk
            have hk0 : 0 ≤ k ∧ k ≤ d.T - 1 := by rcases hkr with e | e <;> omega
            obtain ⟨m, rfl⟩ := Int.eq_ofNat_of_zero_le hk0.1
            refine .inr ⟨r, List.mem_range.2 hr, m, List.mem_range.2 (by omega), ?_, m % 2, List.mem_range.2 (by omega), by omega, ?_⟩
            · rintro (⟨_, hh | hh⟩ | hh)
              · exact hne hh
              · rcases hkr with e | e
                · exact hh.1 e
                · exact hh.2 e
              · omega
            · have es : ((m % 2 : Nat) : Int) + 1 = 1 + (m : Int) % 2 := by omega
              unfold Cand
              rw [es]
              refine ⟨h1, ?_, h2⟩
              have e1 := tileStep_eq ht (dir := ((r : Int) + 2) % 4) (s := 1 + (m : Int) % 2) (by omega) (by omega) (by omega) (by omega)
              have hb := step_back d t (((r : Int) + 2) % 4) (1 + (m : Int) % 2) ht (by omega) (by omega) (by omega) (by omega) (by omega)
              rw [e1] at hb
              have hto := hb.2.2
              have e2 := tileStep_eq hto (dir := ((((r : Int) + 2) % 4) + 2) % 4) (s := 1 + (m : Int) % 2) (by omega) (by omega) (by omega) (by omega)
              have er : ((((r : Int) + 2) % 4) + 2) % 4 = (r : Int) := by omega
              rw [e2, er] at hb
              unfold wireNodeI
              rw [if_pos (by rw [hb.1]; omega)]
              obtain ⟨hv2, f0, f1⟩ := (tOk_iff _ _).1 hto
              have g1 := per_mul hv2 f0 f1
              have g2 := dirT_rng hv (dir := (r : Int)) (by omega) (by omega)
              unfold wireN
              omega
end Go.Proofs.Ytnnkbpcfjjijbaa
