/- Where the sources of a routing node lie: plain laws. -/
import Derived.Test.YtnnkbpcfjjijbaaSrc7
import Derived.Test.YtnnkbpcfjjijbaaWFnWiresReach
set_option linter.unusedVariables false
set_option linter.unusedSimpArgs false
namespace Go.Proofs.Ytnnkbpcfjjijbaa
open Go.RowKit
theorem stepI_back {d : Dev} {t r s : Int} (ht : tOk d t = true) (r0 : 0 ≤ r) (r1 : r ≤ 3) (s0 : 0 ≤ s) (s1 : s ≤ 6) (h : 0 ≤ stepI d t r s) : stepI d (stepI d t r s) ((r + 2) % 4) s = t ∧ tOk d (stepI d t r s) = true := by
  have e1 := tileStep_eq ht r0 r1 s0 s1
  obtain ⟨h1, _, h3⟩ := step_back d t r s ht r0 r1 s0 s1 (by omega)
  rw [e1] at h1 h3
  rw [tileStep_eq h3 (by omega) (by omega) s0 s1] at h1
  exact ⟨h1, h3⟩
def Loc (d : Dev) (k y : Int) : Prop := nodeOkI d y = true ∧ ((5 ≤ y % perI d ∧ y % perI d < 7 ∧ y / perI d = k / perI d ∧ 7 ≤ k % perI d) ∨
  (7 ≤ y % perI d ∧ ∃ s : Int, 1 ≤ s ∧ s ≤ 1 + (y % perI d - 7) % d.T % 2 ∧ stepI d (y / perI d) ((y % perI d - 7) / d.T) s = k / perI d ∧ (7 ≤ k % perI d → s = 1 + (y % perI d - 7) % d.T % 2 ∧ (y % perI d - 7) / d.T ≠ ((k % perI d - 7) / d.T + 2) % 4)))
theorem loc_wire {d : Dev} {k r q s : Int} (ht : tOk d (k / perI d) = true) (r0 : 0 ≤ r) (r1 : r ≤ 3) (q0 : 0 ≤ q) (q1 : q ≤ d.T - 1) (s0 : 1 ≤ s) (s1 : s ≤ 1 + q % 2) (h1 : 0 ≤ stepI d (k / perI d) ((r + 2) % 4) s)
    (h2 : 0 ≤ stepI d (stepI d (k / perI d) ((r + 2) % 4) s) r (1 + q % 2)) (h3 : 7 ≤ k % perI d → s = 1 + q % 2 ∧ r ≠ ((k % perI d - 7) / d.T + 2) % 4) : Loc d k (wireN d (stepI d (k / perI d) ((r + 2) % 4) s) r q) := by
  obtain ⟨b1, b2⟩ := stepI_back ht (show 0 ≤ (r + 2) % 4 by omega) (by omega) (show 0 ≤ s by omega) (by omega) h1
  rw [show ((r + 2) % 4 + 2) % 4 = r by omega] at b1
  obtain ⟨v0, v1, v2, v3, v4, v5, v6⟩ := wire_parts b2 r0 r1 q0 q1 h2
  refine ⟨v6, .inr ⟨v3, s, s0, ?_, ?_, ?_⟩⟩
  · rw [v5]; exact s1
  · rw [v2, v4]; exact b1
  · rw [v4, v5]; exact h3
theorem loc_out {d : Dev} {k p : Int} (ht : tOk d (k / perI d) = true) (hk : 7 ≤ k % perI d) (p0 : 0 ≤ p) (h : 0 ≤ outPinI d (k / perI d) p) : Loc d k (outPinI d (k / perI d) p) := by
  obtain ⟨hv, t0, t1⟩ := (tOk_iff _ _).1 ht
  obtain ⟨q1, q2⟩ := per_rng hv
  obtain ⟨o1, o2⟩ := outPins_rng d (k / perI d)
  unfold outPinI at *
  split at h
  · rename_i hh
    rw [if_pos hh]
    obtain ⟨-, h2, h3⟩ := hh
    obtain ⟨f1, f2⟩ := xy_of (W := perI d) (x := 5 + p) (y := k / perI d) (by omega) (by omega) (by omega)
    have e : k / perI d * perI d + 5 + p = k / perI d * perI d + (5 + p) := by omega
    have m := per_mul hv t0 t1
    have e7 : k / perI d * perI d ≤ (d.W * d.H - 1) * perI d := Int.mul_le_mul_of_nonneg_right t1 (by omega)
    have e6 : (d.W * d.H - 1) * perI d = allI d - perI d := by rw [Int.sub_mul, Int.one_mul]; rfl
    rw [e]
    refine ⟨?_, .inl ⟨by omega, by omega, f2, hk⟩⟩
    rw [nodeOk_in hv (inR_true (by omega) (by omega)), f2, f1, nodeB_out (by omega) (by omega)]
    exact decide_eq_true (by omega)
  · omega
theorem src_loc {d : Dev} {k : Int} (hv : devB d = true) (n0 : 0 ≤ k) (n1 : k ≤ allI d - 1) : ∀ y ∈ srcI d k, Loc d k y := by
  obtain ⟨p0, p1, p2, p3, ht⟩ := place_rng hv n0 n1
  obtain ⟨-, -, ⟨l1, l2⟩, -⟩ := (devB_iff d).1 hv
  intro y hy
  unfold srcI at hy
  split at hy
  · split at hy
    · rw [pinO_mem] at hy
      obtain ⟨r, hr, q, hq, -, s, hs, c1, c2, c3⟩ := hy
      rw [List.mem_range] at hr hq hs
      have hw := wireNodeI_nonneg c2
      subst c3
      rw [hw]
      refine loc_wire ht (by omega) (by omega) (by omega) (by omega) (by omega) (by omega) c1 ?_ (fun h => absurd h (by omega))
      unfold wireNodeI at c2
      split at c2
      · assumption
      · omega
    · split at hy
      · cases hy
      · obtain ⟨dg0, dg1, dg2, dg3⟩ := wire_rng hv (by omega) p3
        rw [wireO_mem] at hy
        rcases hy with ⟨p, hp, c1, rfl⟩ | ⟨r, hr, hne, q, hq, c1, rfl⟩
        · exact loc_out ht (by omega) (by omega) c1
        · rw [List.mem_range] at hr
          have hq' : 0 ≤ q ∧ q ≤ d.T - 1 := by
            rcases List.mem_cons.1 hq with rfl | hq
            · exact ⟨dg2, dg3⟩
            · rw [List.mem_singleton] at hq
              subst hq
              have := Int.emod_nonneg ((k % perI d - 7) % d.T + 1) (show d.T ≠ 0 by omega)
              have := Int.emod_lt_of_pos ((k % perI d - 7) % d.T + 1) (show 0 < d.T by omega)
              omega
          obtain ⟨b1, b2⟩ := stepI_back ht (show 0 ≤ ((r : Int) + 2) % 4 by omega) (by omega) (show 0 ≤ 1 + q % 2 by omega) (by omega) c1
          rw [show (((r : Int) + 2) % 4 + 2) % 4 = r by omega] at b1
          have h2 : 0 ≤ stepI d (stepI d (k / perI d) (((r : Int) + 2) % 4) (1 + q % 2)) r (1 + q % 2) := by omega
          unfold wireNodeI
          rw [if_pos h2]
          exact loc_wire ht (by omega) (by omega) hq'.1 hq'.2 (by omega) (by omega) c1 h2 (fun _ => ⟨rfl, hne⟩)
  · cases hy
theorem fold_sum {α : Type} (f : List Int → α → List Int) (c : α → Nat) (hf : ∀ xs a, (f xs a).length ≤ xs.length + c a) : ∀ (l : List α) (xs : List Int), (l.foldl f xs).length ≤ xs.length + (l.map c).sum
  | [], xs => by simp
  | a :: l, xs => by
    have h1 := fold_sum f c hf l (f xs a)
    have h2 := hf xs a
    simp only [List.foldl_cons, List.map_cons, List.sum_cons]
    omega
theorem pinR_len (d : Dev) (t p r : Int) (xs : List Int) (l1 : 1 ≤ d.T) (l2 : d.T ≤ 4) : (pinR d t p r xs d.T.toNat).length ≤ xs.length + 4 := by
  have h := fold_sum (fun xs (k : Nat) => if 1 < d.T ∧ ((k : Int) + p) % 2 ≠ 0 then xs else pinK d t r k xs (1 + k % 2)) (fun k => if 1 < d.T ∧ ((k : Int) + p) % 2 ≠ 0 then 0 else 1 + k % 2) (fun xs k => by
    split
    · omega
    · have := fold_bound (pinS d t r k) 1 (fun xs s => by
        unfold pinS
        split
        · omega
        · split
          · exact insI_len _ _
          · omega) (List.range (1 + k % 2)) xs
      rw [List.length_range] at this
      unfold pinK; omega) (List.range d.T.toNat) xs
  have h2 : ((List.range d.T.toNat).map (fun (k : Nat) => if 1 < d.T ∧ ((k : Int) + p) % 2 ≠ 0 then 0 else 1 + k % 2)).sum ≤ 4 := by
    obtain e | e | e | e : d.T = 1 ∨ d.T = 2 ∨ d.T = 3 ∨ d.T = 4 := by omega
    · rw [show List.range d.T.toNat = [0] by rw [e]; rfl]
      simp only [List.map_cons, List.map_nil, List.sum_cons, List.sum_nil]
      (repeat' split) <;> omega
    · rw [show List.range d.T.toNat = [0, 1] by rw [e]; rfl]
      simp only [List.map_cons, List.map_nil, List.sum_cons, List.sum_nil]
      (repeat' split) <;> omega
    · rw [show List.range d.T.toNat = [0, 1, 2] by rw [e]; rfl]
      simp only [List.map_cons, List.map_nil, List.sum_cons, List.sum_nil]
      (repeat' split) <;> omega
    · rw [show List.range d.T.toNat = [0, 1, 2, 3] by rw [e]; rfl]
      simp only [List.map_cons, List.map_nil, List.sum_cons, List.sum_nil]
      (repeat' split) <;> omega
  exact Nat.le_trans h (by omega)
theorem src_len16 (d : Dev) (k : Int) : (srcI d k).length ≤ 16 := by
  unfold srcI
  split
  · rename_i h
    obtain ⟨hv, -, -⟩ := nodeOk_rng h
    obtain ⟨-, -, ⟨l1, l2⟩, -⟩ := (devB_iff d).1 hv
    split
    · have := fold_bound (fun xs (r : Nat) => pinR d (k / perI d) (k % perI d) r xs d.T.toNat) 4 (fun xs r => pinR_len d _ _ _ xs l1 l2) (List.range 4) []
      simpa [pinO] using this
    · split
      · simp
      · have h1 := fold_bound (wireR d (k / perI d) ((k % perI d - 7) / d.T) ((k % perI d - 7) % d.T)) 2 (fun xs r => by
          unfold wireR
          split
          · omega
          · have := fold_bound (wireW d (k / perI d) r) 1 (fun xs q => by
              unfold wireW
              split
              · exact insI_len _ _
              · omega) ([(k % perI d - 7) % d.T, ((k % perI d - 7) % d.T + 1) % d.T].take 2) xs
            unfold wireK
            simpa using this) (List.range 4) (outO d (k / perI d) 2)
        have h2 := fold_bound (outS d (k / perI d)) 1 (fun xs q => by
          unfold outS
          split
          · exact insI_len _ _
          · omega) (List.range 2) []
        have h2' : (outO d (k / perI d) 2).length ≤ 2 := by simpa [outO] using h2
        have h1' : (wireO d (k / perI d) ((k % perI d - 7) / d.T) ((k % perI d - 7) % d.T) 4).length ≤ (outO d (k / perI d) 2).length + 8 := by simpa [wireO] using h1
        omega
  · simp
theorem src_sorted (d : Dev) (k : Int) : (srcI d k).Pairwise (· < ·) := by
  unfold srcI
  split
  · split
    · exact pinO_sorted _ _ _ _
    · split
      · exact .nil
      · exact wireO_sorted _ _ _ _ _
  · exact .nil
theorem src_lt (d : Dev) (k : Int) (i : Nat) (h0 : 0 < i) (h : i < (srcI d k).length) : (srcI d k).getD (i - 1) 0 < (srcI d k).getD i 0 := by
  have := List.pairwise_iff_getElem.1 (src_sorted d k) (i - 1) i (by omega) h (by omega)
  rw [List.getD_eq_getElem?_getD, List.getD_eq_getElem?_getD, List.getElem?_eq_getElem h, List.getElem?_eq_getElem (show i - 1 < _ by omega)]
  exact this
theorem src_at (d : Dev) (k : Int) (i : Nat) (h : i < (srcI d k).length) : (srcI d k).getD i 0 ∈ srcI d k := by
  rw [List.getD_eq_getElem?_getD, List.getElem?_eq_getElem h]; exact List.getElem_mem h
theorem src_no (d : Dev) (k : Int) (h : nodeOkI d k ≠ true) : srcI d k = [] := if_neg h
end Go.Proofs.Ytnnkbpcfjjijbaa
