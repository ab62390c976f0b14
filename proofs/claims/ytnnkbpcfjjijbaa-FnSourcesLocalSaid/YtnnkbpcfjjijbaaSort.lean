/- The reference's sorting of numbers: the walk of l27Sort. -/
import Derived.Test.YtnnkbpcfjjijbaaSrc4
set_option linter.unusedVariables false
set_option linter.unusedSimpArgs false
namespace Go.Proofs.Ytnnkbpcfjjijbaa
open Go.RowKit

/-- x goes behind the last element that is not above it -/
def cutR (P : List Int) (x : Int) : Nat := P.length - (P.reverse.takeWhile (fun y => decide (x < y))).length
def insR (P : List Int) (x : Int) : List Int := P.take (cutR P x) ++ x :: P.drop (cutR P x)
def sortR (xs : List Int) : List Int := xs.foldl insR []
theorem tw_app (a b : List Int) (f : Int → Bool) (h : ∀ y ∈ a, f y = true) (h2 : b = [] ∨ f (b.headD 0) = false) : ((a ++ b).takeWhile f).length = a.length := by
  induction a with
  | nil =>
    rcases h2 with rfl | h2
    · rfl
    · cases b with
      | nil => rfl
      | cons y ys => simp at h2; simp [h2]
  | cons y ys ih =>
    have := h y (by simp)
    simp only [List.cons_append, List.takeWhile_cons, this, if_true, List.length_cons]
    rw [ih (fun z hz => h z (by simp [hz]))]
theorem cutR_at (P : List Int) (x : Int) (k : Nat) (hk : k ≤ P.length) (h1 : ∀ j, k ≤ j → j < P.length → x < P.getD j 0) (h2 : k = 0 ∨ P.getD (k - 1) 0 ≤ x) : cutR P x = k := by
  unfold cutR
  have e : P.reverse = (P.drop k).reverse ++ (P.take k).reverse := by rw [← List.reverse_append, List.take_append_drop]
  rw [e, tw_app]
  · simp; omega
  · intro y hy
    rw [List.mem_reverse] at hy
    obtain ⟨j, hj, rfl⟩ := List.mem_iff_getElem.1 hy
    rw [List.length_drop] at hj
    have := h1 (k + j) (by omega) (by omega)
    rw [List.getD_eq_getElem?_getD, List.getElem?_eq_getElem (by omega)] at this
    simpa using this
  · rcases h2 with rfl | h2
    · left; simp
    · by_cases h0 : k = 0
      · subst h0; left; simp
      · right
        have hlt : k - 1 < P.length := by omega
        rw [List.headD_eq_head?_getD, List.head?_reverse, List.getLast?_eq_getElem?, List.length_take, Nat.min_eq_left hk, List.getElem?_take, if_pos (by omega), ← List.getD_eq_getElem?_getD]
        simpa using h2
theorem insR_at (P : List Int) (x : Int) (k : Nat) (hk : k ≤ P.length) (h1 : ∀ j, k ≤ j → j < P.length → x < P.getD j 0) (h2 : k = 0 ∨ P.getD (k - 1) 0 ≤ x) : insR P x = P.take k ++ x :: P.drop k := by
  unfold insR; rw [cutR_at P x k hk h1 h2]
theorem insR_len (P : List Int) (x : Int) : (insR P x).length = P.length + 1 := by
  unfold insR; rw [List.length_append, List.length_cons, List.length_take, List.length_drop]
  have : cutR P x ≤ P.length := by unfold cutR; omega
  omega
theorem sortR_snoc (xs : List Int) (x : Int) : sortR (xs ++ [x]) = insR (sortR xs) x := by unfold sortR; rw [List.foldl_append]; rfl
theorem fold_len : ∀ (xs acc : List Int), (xs.foldl insR acc).length = acc.length + xs.length
  | [], acc => by simp
  | x :: xs, acc => by rw [List.foldl_cons, fold_len xs, insR_len, List.length_cons]; omega
theorem sortR_len (xs : List Int) : (sortR xs).length = xs.length := by unfold sortR; rw [fold_len]; simp
/-- where the inner loop stands: x has gone down to place k of the sorted part P -/
def midS (P : List Int) (x : Int) (rest : List Int) (k : Nat) : List Int := P.take k ++ x :: P.drop k ++ rest
theorem midS_len (P : List Int) (x : Int) (rest : List Int) (k : Nat) (hk : k ≤ P.length) : (midS P x rest k).length = P.length + 1 + rest.length := by
  unfold midS; simp; omega
theorem midS_at (P : List Int) (x : Int) (rest : List Int) (k : Nat) (hk : k ≤ P.length) : (midS P x rest k).getD k 0 = x := by
  unfold midS
  rw [List.append_assoc, List.getD_eq_getElem?_getD, List.getElem?_append_right (by simp; omega)]
  simp [Nat.min_eq_left hk]
theorem midS_before (P : List Int) (x : Int) (rest : List Int) (k : Nat) (hk : k ≤ P.length) (h0 : 0 < k) : (midS P x rest k).getD (k - 1) 0 = P.getD (k - 1) 0 := by
  unfold midS
  rw [List.append_assoc, List.getD_eq_getElem?_getD, List.getElem?_append_left (by simp; omega), List.getElem?_take, if_pos (by omega), ← List.getD_eq_getElem?_getD]
theorem midS_step (P : List Int) (x : Int) (rest : List Int) (k : Nat) (hk : k + 1 ≤ P.length) : ((midS P x rest (k + 1)).set (k + 1) (P.getD k 0)).set k x = midS P x rest k := by
  have hlt : k < P.length := by omega
  have e : P.getD k 0 = P[k] := by rw [List.getD_eq_getElem?_getD, List.getElem?_eq_getElem hlt]; rfl
  unfold midS
  have e1 : P.take (k + 1) = P.take k ++ [P[k]] := List.take_succ_eq_append_getElem hlt
  have e2 : P.drop k = P[k] :: P.drop (k + 1) := List.drop_eq_getElem_cons hlt
  have hl : (P.take k).length = k := by simp; omega
  rw [e, e1, e2]
  simp only [List.append_assoc, List.cons_append, List.nil_append]
  rw [List.set_append_right _ _ (by omega), hl, show k + 1 - k = 1 by omega, List.set_cons_succ, List.set_cons_zero, List.set_append_right _ _ (by omega), hl, Nat.sub_self, List.set_cons_zero]
theorem midS_start (xs : List Int) (i : Nat) (hi : i < xs.length) : sortR (xs.take i) ++ xs.drop i = midS (sortR (xs.take i)) (xs.getD i 0) (xs.drop (i + 1)) i := by
  have hl : (sortR (xs.take i)).length = i := by rw [sortR_len]; simp; omega
  have e : xs.getD i 0 = xs[i] := by rw [List.getD_eq_getElem?_getD, List.getElem?_eq_getElem hi]; rfl
  unfold midS
  rw [e, List.take_of_length_le (show (sortR (xs.take i)).length ≤ i by omega), List.drop_eq_nil_of_le (show (sortR (xs.take i)).length ≤ i by omega), List.drop_eq_getElem_cons hi]; simp
theorem midS_end (xs : List Int) (i k : Nat) (hi : i < xs.length) (hk : k ≤ i) (h1 : ∀ j, k ≤ j → j < i → xs.getD i 0 < (sortR (xs.take i)).getD j 0) (h2 : k = 0 ∨ (sortR (xs.take i)).getD (k - 1) 0 ≤ xs.getD i 0) :
    midS (sortR (xs.take i)) (xs.getD i 0) (xs.drop (i + 1)) k = sortR (xs.take (i + 1)) ++ xs.drop (i + 1) := by
  have hl : (sortR (xs.take i)).length = i := by rw [sortR_len]; simp; omega
  have e : xs.getD i 0 = xs[i] := by rw [List.getD_eq_getElem?_getD, List.getElem?_eq_getElem hi]; rfl
  rw [List.take_succ_eq_append_getElem hi, sortR_snoc, ← e, insR_at _ _ k (by omega) (fun j a b => h1 j a (by omega)) h2]
  rfl
theorem sort_start (xs : List Int) : xs = sortR (xs.take (0 + 1)) ++ xs.drop (0 + 1) := by
  cases xs with
  | nil => rfl
  | cons x xs => rfl
set_option maxHeartbeats 4000000 in
set_option maxRecDepth 100000 in
theorem l27Sort_ret (v : Value) (xs : List Int) (w : World) (hv : RdsW w v 1 xs.length (xs.map (Value.int .i64))) (hn : xs.length ≤ 1000000) :
    Calls Try.prog 125 #[v] w (Ret w (fun v' post => post = [rowE 3 1 v' (sortR xs).length ((sortR xs).map (Value.int .i64))])) := by
  refine calls_hc (N := 51) (args := [v]) Try.func125 rfl rfl ?_
  refine hc_less _ (sub_cons (d := 0) rfl (sub_nil _)) (.refl _) ?_
  refine hc_seq ?_
  refine hc_region ?_
  refine hl_v rfl rfl rfl (rv_ev rfl) ?_
  refine hl_less (sub_cons (d := 0) rfl (sub_cons (d := 2) rfl (sub_nil _))) (.refl _) ?_
  refine hl_nil ?_
  refine hq_then ?_
  refine hc_seq ?_
  refine hc_region ?_
  refine hl_row rfl rfl rfl (rq_slice0 (s := 1) rfl Try.underlying30 (by kernel_rfl)) ?_
  intro g1
  refine hl_v rfl rfl rfl (rv_ev rfl) ?_
  refine hl_append (i := 0) (z := .int .i64 0) (bytes := 8) (n' := xs.length) (xs' := (xs.map (Value.int .i64))) (L := fun v2 => [rowE 3 1 v2 xs.length (xs.map (Value.int .i64))]) rfl rfl rfl rfl Try.underlying30 (by kernel_rfl) (by kernel_rfl) rfl rfl rfl (rd_old hv) (ints_one _) (by simp; omega) ((Nat.zero_add _)) ((List.nil_append _)) (fun _ => rfl) ?_
  intro v2
  refine hl_v rfl rfl rfl (rv_ev rfl) ?_
  refine hl_less (sub_cons (d := 0) rfl (sub_cons (d := 2) rfl (sub_cons (d := 3) rfl (sub_nil _)))) (.refl _) ?_
  refine hl_nil ?_
  refine hq_then ?_
  refine hc_seq ?_
  refine hc_seq ?_
  refine hc_region ?_
  refine hl_v rfl rfl rfl (rv_ev rfl) ?_
  refine hl_less (sub_cons (d := 0) rfl (sub_cons (d := 2) rfl (sub_cons (d := 3) rfl (sub_cons (d := 4) rfl (sub_nil _))))) (.refl _) ?_
  refine hl_nil ?_
  refine hq_then ?_
  refine hc_block ?_
  refine hc_loop2 (α := Nat) (β := List Int) (fun i zs => [rowE 3 1 v2 zs.length (zs.map (Value.int .i64))]) (fun i zs => [(0, v), (2, .slice none 0 0), (3, v2), (4, .int .i64 ((i : Int) + 1))]) (fun i zs => i ≤ xs.length ∧ zs.length = xs.length ∧ zs = sortR (xs.take (i + 1)) ++ xs.drop (i + 1)) (fun i zs => xs.length - i) 0 xs ⟨by omega, rfl, sort_start xs⟩ (sub_cons (d := 0) rfl (sub_cons (d := 2) rfl (sub_cons (d := 3) rfl (sub_cons (d := 4) rfl (sub_nil _))))) ((.cons_cons _ .slnil)) ?_
  intro i zs hi3
  obtain ⟨hi, hzl, hz⟩ := hi3
  refine hc_seq ?_
  refine hc_seq ?_
  refine hc_region ?_
  refine hl_v rfl rfl rfl (rv_ev rfl) ?_
  refine hl_v rfl rfl rfl (rv_ev rfl) ?_
  refine hl_v rfl rfl rfl (rv_len rfl Try.underlying30 rfl (rd_row 0 rfl)) ?_
  refine hl_lss rfl rfl rfl rfl rfl rfl (fun h4 => ?_) (fun h4 => ?_)
  ·
    refine hl_less (sub_cons (d := 0) rfl (sub_cons (d := 2) rfl (sub_cons (d := 3) rfl (sub_cons (d := 4) rfl (sub_cons (d := 13) rfl (sub_nil _)))))) (.refl _) ?_
    refine hl_nil ?_
    refine hq_then ?_
    refine hc_true rfl ?_
    refine hc_skip ?_
    refine hq_then ?_
    refine hc_seq ?_
    refine hc_block ?_
    refine hc_seq ?_
    refine hc_region ?_
    refine hl_v rfl rfl rfl (rv_ev rfl) ?_
    refine hl_v rfl rfl rfl (rv_ev rfl) ?_
    refine hl_less (sub_cons (d := 0) rfl (sub_cons (d := 2) rfl (sub_cons (d := 3) rfl (sub_cons (d := 4) rfl (sub_cons (d := 5) rfl (sub_cons (d := 13) rfl (sub_nil _))))))) (.refl _) ?_
    refine hl_nil ?_
    refine hq_then ?_
    refine hc_block ?_
    refine hc_loop2 (α := Nat) (β := List Int) (fun k ys => [rowE 3 1 v2 ys.length (ys.map (Value.int .i64))]) (fun k ys => [(0, v), (2, .slice none 0 0), (3, v2), (4, .int .i64 ((i : Int) + 1)), (5, .int .i64 (k : Int)), (13, .bool true)]) (fun k ys => k ≤ i + 1 ∧ ys.length = xs.length ∧ ys = midS (sortR (xs.take (i + 1))) (xs.getD (i + 1) 0) (xs.drop (i + 1 + 1)) k ∧ ∀ j, k ≤ j → j < i + 1 → xs.getD (i + 1) 0 < (sortR (xs.take (i + 1))).getD j 0) (fun k ys => k) (i + 1) zs ⟨by omega, hzl, by rw [hz]; exact midS_start xs (i + 1) (by omega), fun j a b => absurd a (by omega)⟩ (sub_cons (d := 0) rfl (sub_cons (d := 2) rfl (sub_cons (d := 3) rfl (sub_cons (d := 4) rfl (sub_cons (d := 5) rfl (sub_cons (d := 13) rfl (sub_nil _))))))) ((.cons_cons _ .slnil)) ?_
    intro k ys hi5
    obtain ⟨hk, hyl, hy, hy1⟩ := hi5
    have hsl : (sortR (xs.take (i + 1))).length = i + 1 := by rw [sortR_len]; simp; omega
    have hm1 := hy ▸ midS_at (sortR (xs.take (i + 1))) (xs.getD (i + 1) 0) (xs.drop (i + 1 + 1)) k (by omega)
    have hk1 : ((k : Int) - 1).toNat = k - 1 := by omega
    have hm2 : 0 < k → ys.getD ((k : Int) - 1).toNat 0 = (sortR (xs.take (i + 1))).getD (k - 1) 0 := fun h => by rw [hk1, hy]; exact midS_before (sortR (xs.take (i + 1))) (xs.getD (i + 1) 0) (xs.drop (i + 1 + 1)) k (by omega) h
    refine hc_seq ?_
    refine hc_seq ?_
    rcases Bool.eq_false_or_eq_true (decide (0 < (k : Int))) with hb6 | hb6
    ·
      have hb6p : 0 < (k : Int) := of_decide_eq_true hb6
      rcases Bool.eq_false_or_eq_true (decide (ys.getD k 0 < ys.getD (((k : Int) - 1).toNat) 0)) with hb7 | hb7
      ·
        have hb7p : ys.getD k 0 < ys.getD (((k : Int) - 1).toNat) 0 := of_decide_eq_true hb7
        refine hc_draw (by kernel_rfl) 14 [0, 1, 2, 3, 4, 5, 6, 7, 8, 9, 10, 11, 12, 13] (List.take 14 _) (List.drop 14 _) [[], [0], [1], [2], [2], [2, 3, 4], [2, 5], [2], [2], [2, 8], [2, 7, 9], [2, 10], [2, 6, 11], [2, 12]] [17, 18, 19, 20, 21, 22, 23, 24, 25, 26, 27, 28, 29, 30] (fun i v p => match i with | 0 => v = .int .i64 (k : Int) ∧ p = [] | 1 => v = .bool true ∧ p = [] | 2 => v = .bool true ∧ p = [] | 3 => v = v2 ∧ p = [] | 4 => v = .int .i64 (k : Int) ∧ p = [] | 5 => v = elP v2 (((k : Int)).toNat * 1) ∧ p = [] | 6 => v = .int .i64 (ys.getD k 0) ∧ p = [] | 7 => v = v2 ∧ p = [] | 8 => v = .int .i64 (k : Int) ∧ p = [] | 9 => v = .int .i64 ((k : Int) - 1) ∧ p = [] | 10 => v = elP v2 (((k : Int) - 1).toNat * 1) ∧ p = [] | 11 => v = .int .i64 (ys.getD (((k : Int) - 1).toNat) 0) ∧ p = [] | 12 => v = .bool true ∧ p = [] | 13 => v = .bool true ∧ p = [] | _ => True) (List.take_append_drop 14 _).symm (by kernel_rfl) (by kernel_rfl) rfl rfl ?_ ?_
        ·
          refine ⟨?_, ?_, ?_, ?_, ?_, ?_, ?_, ?_, ?_, ?_, ?_, ?_, ?_, ?_, trivial⟩
          ·
            intro vf pf hR
            refine Or.inl ⟨rfl, ?_⟩
            refine rq_less (l' := [rowE 3 1 v2 ys.length (ys.map (Value.int .i64))]) (sub_cons (d := 5) rfl (sub_nil _)) (List.sublist_append_right _ _) ?_
            exact rq_v (rv_ev rfl)
          ·
            intro vf pf hR
            have e0 : vf 0 = .int .i64 (k : Int) ∧ pf 0 = [] := hR 0 (by decide)
            refine Or.inl ⟨rfl, ?_⟩
            refine rq_less (l' := [rowE 3 1 v2 ys.length (ys.map (Value.int .i64))]) (sub_cons (d := 17) (congrArg some e0.1) (sub_nil _)) (List.sublist_append_right _ _) ?_
            exact rq_mono (rq_v (rv_cmp rfl rfl rfl rfl)) (fun _ _ h => ⟨h.1.trans (congrArg Value.bool hb6), h.2⟩)
          ·
            intro vf pf hR
            have e1 : vf 1 = .bool true ∧ pf 1 = [] := hR 1 (by decide)
            refine Or.inl ⟨rfl, ?_⟩
            refine rq_less (l' := [rowE 3 1 v2 ys.length (ys.map (Value.int .i64))]) (sub_cons (d := 18) (congrArg some e1.1) (sub_nil _)) (List.sublist_append_right _ _) ?_
            exact rq_v (rv_ev rfl)
          ·
            intro vf pf hR
            have e2 : vf 2 = .bool true ∧ pf 2 = [] := hR 2 (by decide)
            refine Or.inl ⟨want_of (congrArg some e2.1) rfl, ?_⟩
            refine rq_less (l' := [rowE 3 1 v2 ys.length (ys.map (Value.int .i64))]) (sub_cons (d := 3) rfl (sub_nil _)) (List.sublist_append_right _ _) ?_
            exact rq_v (rv_ev rfl)
          ·
            intro vf pf hR
            have e2 : vf 2 = .bool true ∧ pf 2 = [] := hR 2 (by decide)
            refine Or.inl ⟨want_of (congrArg some e2.1) rfl, ?_⟩
            refine rq_less (l' := [rowE 3 1 v2 ys.length (ys.map (Value.int .i64))]) (sub_cons (d := 5) rfl (sub_nil _)) (List.sublist_append_right _ _) ?_
            exact rq_v (rv_ev rfl)
          ·
            intro vf pf hR
            have e2 : vf 2 = .bool true ∧ pf 2 = [] := hR 2 (by decide)
            have e3 : vf 3 = v2 ∧ pf 3 = [] := hR 3 (by decide)
            have e4 : vf 4 = .int .i64 (k : Int) ∧ pf 4 = [] := hR 4 (by decide)
            refine Or.inl ⟨want_of (congrArg some e2.1) rfl, ?_⟩
            refine rq_less (l' := [rowE 3 1 v2 ys.length (ys.map (Value.int .i64))]) (sub_cons (d := 20) (congrArg some e3.1) (sub_cons (d := 21) (congrArg some e4.1) (sub_nil _))) (List.sublist_append_right _ _) ?_
            exact rq_v (rv_index (s := 1) rfl Try.underlying30 (by kernel_rfl) rfl rfl (rd_row 0 rfl) (by omega) (by first | omega | (simp only [List.length_set]; omega)))
          ·
            intro vf pf hR
            have e2 : vf 2 = .bool true ∧ pf 2 = [] := hR 2 (by decide)
            have e5 : vf 5 = elP v2 (((k : Int)).toNat * 1) ∧ pf 5 = [] := hR 5 (by decide)
            refine Or.inl ⟨want_of (congrArg some e2.1) rfl, ?_⟩
            refine rq_less (l' := [rowE 3 1 v2 ys.length (ys.map (Value.int .i64))]) (sub_cons (d := 22) (congrArg some e5.1) (sub_nil _)) (List.sublist_append_right _ _) ?_
            exact rq_v (rv_loadEl (u := .int .i64 (ys.getD k 0)) rfl (by kernel_rfl) rfl (rd_row 0 rfl) (ints_at1 (show _ < ys.length by first | omega | (simp only [List.length_set]; omega))))
          ·
            intro vf pf hR
            have e2 : vf 2 = .bool true ∧ pf 2 = [] := hR 2 (by decide)
            refine Or.inl ⟨want_of (congrArg some e2.1) rfl, ?_⟩
            refine rq_less (l' := [rowE 3 1 v2 ys.length (ys.map (Value.int .i64))]) (sub_cons (d := 3) rfl (sub_nil _)) (List.sublist_append_right _ _) ?_
            exact rq_v (rv_ev rfl)
          ·
            intro vf pf hR
            have e2 : vf 2 = .bool true ∧ pf 2 = [] := hR 2 (by decide)
            refine Or.inl ⟨want_of (congrArg some e2.1) rfl, ?_⟩
            refine rq_less (l' := [rowE 3 1 v2 ys.length (ys.map (Value.int .i64))]) (sub_cons (d := 5) rfl (sub_nil _)) (List.sublist_append_right _ _) ?_
            exact rq_v (rv_ev rfl)
          ·
            intro vf pf hR
            have e2 : vf 2 = .bool true ∧ pf 2 = [] := hR 2 (by decide)
            have e8 : vf 8 = .int .i64 (k : Int) ∧ pf 8 = [] := hR 8 (by decide)
            refine Or.inl ⟨want_of (congrArg some e2.1) rfl, ?_⟩
            refine rq_less (l' := [rowE 3 1 v2 ys.length (ys.map (Value.int .i64))]) (sub_cons (d := 25) (congrArg some e8.1) (sub_nil _)) (List.sublist_append_right _ _) ?_
            exact rq_v (rv_sub rfl rfl rfl (by constructor <;> omega))
          ·
            intro vf pf hR
            have e2 : vf 2 = .bool true ∧ pf 2 = [] := hR 2 (by decide)
            have e7 : vf 7 = v2 ∧ pf 7 = [] := hR 7 (by decide)
            have e9 : vf 9 = .int .i64 ((k : Int) - 1) ∧ pf 9 = [] := hR 9 (by decide)
            refine Or.inl ⟨want_of (congrArg some e2.1) rfl, ?_⟩
            refine rq_less (l' := [rowE 3 1 v2 ys.length (ys.map (Value.int .i64))]) (sub_cons (d := 24) (congrArg some e7.1) (sub_cons (d := 26) (congrArg some e9.1) (sub_nil _))) (List.sublist_append_right _ _) ?_
            exact rq_v (rv_index (s := 1) rfl Try.underlying30 (by kernel_rfl) rfl rfl (rd_row 0 rfl) (by omega) (by first | omega | (simp only [List.length_set]; omega)))
          ·
            intro vf pf hR
            have e2 : vf 2 = .bool true ∧ pf 2 = [] := hR 2 (by decide)
            have e10 : vf 10 = elP v2 (((k : Int) - 1).toNat * 1) ∧ pf 10 = [] := hR 10 (by decide)
            refine Or.inl ⟨want_of (congrArg some e2.1) rfl, ?_⟩
            refine rq_less (l' := [rowE 3 1 v2 ys.length (ys.map (Value.int .i64))]) (sub_cons (d := 27) (congrArg some e10.1) (sub_nil _)) (List.sublist_append_right _ _) ?_
            exact rq_v (rv_loadEl (u := .int .i64 (ys.getD (((k : Int) - 1).toNat) 0)) rfl (by kernel_rfl) rfl (rd_row 0 rfl) (ints_at1 (show _ < ys.length by first | omega | (simp only [List.length_set]; omega))))
          ·
            intro vf pf hR
            have e2 : vf 2 = .bool true ∧ pf 2 = [] := hR 2 (by decide)
            have e6 : vf 6 = .int .i64 (ys.getD k 0) ∧ pf 6 = [] := hR 6 (by decide)
            have e11 : vf 11 = .int .i64 (ys.getD (((k : Int) - 1).toNat) 0) ∧ pf 11 = [] := hR 11 (by decide)
            refine Or.inl ⟨want_of (congrArg some e2.1) rfl, ?_⟩
            refine rq_less (l' := [rowE 3 1 v2 ys.length (ys.map (Value.int .i64))]) (sub_cons (d := 23) (congrArg some e6.1) (sub_cons (d := 28) (congrArg some e11.1) (sub_nil _))) (List.sublist_append_right _ _) ?_
            exact rq_mono (rq_v (rv_cmp rfl rfl rfl rfl)) (fun _ _ h => ⟨h.1.trans (congrArg Value.bool hb7), h.2⟩)
          ·
            intro vf pf hR
            have e2 : vf 2 = .bool true ∧ pf 2 = [] := hR 2 (by decide)
            have e12 : vf 12 = .bool true ∧ pf 12 = [] := hR 12 (by decide)
            refine Or.inl ⟨rfl, ?_⟩
            refine rq_less (l' := [rowE 3 1 v2 ys.length (ys.map (Value.int .i64))]) (sub_cons (d := 19) (congrArg some e2.1) (sub_cons (d := 29) (congrArg some e12.1) (sub_nil _))) (List.sublist_append_right _ _) ?_
            exact rq_v (rv_ev rfl)
        ·
          intro vf pf hR
          have e13 : vf 13 = .bool true ∧ pf 13 = [] := hR 13 (by decide)
          refine hl_less (l' := [rowE 3 1 v2 ys.length (ys.map (Value.int .i64))]) (sub_cons (d := 0) rfl (sub_cons (d := 2) rfl (sub_cons (d := 3) rfl (sub_cons (d := 4) rfl (sub_cons (d := 5) rfl (sub_cons (d := 13) rfl (sub_cons (d := 30) (congrArg some e13.1) (sub_nil _)))))))) (List.sublist_append_right _ _) ?_
          simp only [List.drop_succ_cons, List.drop_zero]
          refine hl_less (sub_cons (d := 0) rfl (sub_cons (d := 2) rfl (sub_cons (d := 3) rfl (sub_cons (d := 4) rfl (sub_cons (d := 5) rfl (sub_cons (d := 13) rfl (sub_cons (d := 30) rfl (sub_nil _)))))))) (.refl _) ?_
          refine hl_nil ?_
          refine hq_then ?_
          refine hc_true rfl ?_
          refine hc_skip ?_
          refine hq_then ?_
          refine hc_seq ?_
          refine hc_block ?_
          refine hc_seq ?_
          refine hc_region ?_
          refine hl_v rfl rfl rfl (rv_ev rfl) ?_
          refine hl_v rfl rfl rfl (rv_ev rfl) ?_
          refine hl_v rfl rfl rfl (rv_index (s := 1) rfl Try.underlying30 (by kernel_rfl) rfl rfl (rd_row 0 rfl) (by omega) (by first | omega | (simp only [List.length_set]; omega))) ?_
          refine hl_v rfl rfl rfl (rv_loadEl (u := .int .i64 (ys.getD k 0)) rfl (by kernel_rfl) rfl (rd_row 0 rfl) (ints_at1 (show _ < ys.length by first | omega | (simp only [List.length_set]; omega)))) ?_
          refine hl_v rfl rfl rfl (rv_ev rfl) ?_
          refine hl_less (sub_cons (d := 0) rfl (sub_cons (d := 2) rfl (sub_cons (d := 3) rfl (sub_cons (d := 4) rfl (sub_cons (d := 5) rfl (sub_cons (d := 6) rfl (sub_cons (d := 13) rfl (sub_cons (d := 30) rfl (sub_nil _))))))))) (.refl _) ?_
          refine hl_nil ?_
          refine hq_then ?_
          refine hc_seq ?_
          refine hc_region ?_
          refine hl_v rfl rfl rfl (rv_ev rfl) ?_
          refine hl_v rfl rfl rfl (rv_ev rfl) ?_
          refine hl_v rfl rfl rfl (rv_ev rfl) ?_
          refine hl_v rfl rfl rfl (rv_ev rfl) ?_
          refine hl_v rfl rfl rfl (rv_sub rfl rfl rfl (by constructor <;> omega)) ?_
          refine hl_v rfl rfl rfl (rv_index (s := 1) rfl Try.underlying30 (by kernel_rfl) rfl rfl (rd_row 0 rfl) (by omega) (by first | omega | (simp only [List.length_set]; omega))) ?_
          refine hl_v rfl rfl rfl (rv_loadEl (u := .int .i64 (ys.getD (((k : Int) - 1).toNat) 0)) rfl (by kernel_rfl) rfl (rd_row 0 rfl) (ints_at1 (show _ < ys.length by first | omega | (simp only [List.length_set]; omega)))) ?_
          refine hl_v rfl rfl rfl (rv_index (s := 1) rfl Try.underlying30 (by kernel_rfl) rfl rfl (rd_row 0 rfl) (by omega) (by first | omega | (simp only [List.length_set]; omega))) ?_
          refine hl_storeEl (i := 0) (n' := (ys.set k (ys.getD (((k : Int) - 1).toNat) 0)).length) (xs' := ((ys.set k (ys.getD (((k : Int) - 1).toNat) 0)).map (Value.int .i64))) (l' := [rowE 3 1 v2 ((ys.set k (ys.getD (((k : Int) - 1).toNat) 0)).length) ((ys.set k (ys.getD (((k : Int) - 1).toNat) 0)).map (Value.int .i64))]) rfl rfl rfl (by kernel_rfl) rfl rfl rfl rfl (by first | omega | (simp only [List.length_set]; omega)) List.length_set.symm (ints_set _ _ _) rfl ?_
          refine hl_less (sub_cons (d := 0) rfl (sub_cons (d := 2) rfl (sub_cons (d := 3) rfl (sub_cons (d := 4) rfl (sub_cons (d := 5) rfl (sub_cons (d := 6) rfl (sub_cons (d := 13) rfl (sub_cons (d := 30) rfl (sub_nil _))))))))) (.refl _) ?_
          refine hl_nil ?_
          refine hq_then ?_
          refine hc_region ?_
          refine hl_v rfl rfl rfl (rv_ev rfl) ?_
          refine hl_v rfl rfl rfl (rv_ev rfl) ?_
          refine hl_v rfl rfl rfl (rv_sub rfl rfl rfl (by constructor <;> omega)) ?_
          refine hl_v rfl rfl rfl (rv_ev rfl) ?_
          refine hl_v rfl rfl rfl (rv_index (s := 1) rfl Try.underlying30 (by kernel_rfl) rfl rfl (rd_row 0 rfl) (by omega) (by first | omega | (simp only [List.length_set]; omega))) ?_
          refine hl_storeEl (i := 0) (n' := ((ys.set k (ys.getD (((k : Int) - 1).toNat) 0)).set (((k : Int) - 1).toNat) (ys.getD k 0)).length) (xs' := (((ys.set k (ys.getD (((k : Int) - 1).toNat) 0)).set (((k : Int) - 1).toNat) (ys.getD k 0)).map (Value.int .i64))) (l' := [rowE 3 1 v2 (((ys.set k (ys.getD (((k : Int) - 1).toNat) 0)).set (((k : Int) - 1).toNat) (ys.getD k 0)).length) (((ys.set k (ys.getD (((k : Int) - 1).toNat) 0)).set (((k : Int) - 1).toNat) (ys.getD k 0)).map (Value.int .i64))]) rfl rfl rfl (by kernel_rfl) rfl rfl rfl rfl (by first | omega | (simp only [List.length_set]; omega)) List.length_set.symm (ints_set _ _ _) rfl ?_
          refine hl_less (sub_cons (d := 0) rfl (sub_cons (d := 2) rfl (sub_cons (d := 3) rfl (sub_cons (d := 4) rfl (sub_cons (d := 5) rfl (sub_cons (d := 6) rfl (sub_cons (d := 13) rfl (sub_cons (d := 30) rfl (sub_nil _))))))))) (.refl _) ?_
          refine hl_nil ?_
          refine hq_block_normal ?_
          refine hq_then ?_
          refine hc_region ?_
          refine hl_v rfl rfl rfl (rv_ev rfl) ?_
          refine hl_v rfl rfl rfl (rv_sub rfl rfl rfl (by constructor <;> omega)) ?_
          refine hl_v rfl rfl rfl (rv_ev rfl) ?_
          refine hl_less (sub_cons (d := 0) rfl (sub_cons (d := 2) rfl (sub_cons (d := 3) rfl (sub_cons (d := 4) rfl (sub_cons (d := 5) rfl (sub_cons (d := 6) rfl (sub_cons (d := 13) rfl (sub_cons (d := 30) rfl (sub_nil _))))))))) (.refl _) ?_
          refine hl_nil ?_
          exact hq_round2 (k - 1) _ ⟨by omega, by simpa using hyl, by rw [hm2 (by omega), hm1, hk1]; obtain ⟨k, rfl⟩ : ∃ q, k = q + 1 := ⟨k - 1, by omega⟩; rw [hy]; exact midS_step _ _ _ k (by omega), fun j a b => by by_cases hjk : k ≤ j; (exact hy1 j hjk b); (obtain rfl : j = k - 1 := by omega); omega⟩ (by omega) (sub_cons (d := 0) rfl (sub_cons (d := 2) rfl (sub_cons (d := 3) rfl (sub_cons (d := 4) rfl (sub_cons (d := 5) (by rw [show ((k - 1 : Nat) : Int) = (k : Int) - 1 by omega]; rfl) (sub_cons (d := 13) rfl (sub_nil _))))))) ((.cons_cons _ .slnil))
      ·
        have hb7p : ¬ (ys.getD k 0 < ys.getD (((k : Int) - 1).toNat) 0) := of_decide_eq_false hb7
        refine hc_draw (by kernel_rfl) 14 [0, 1, 2, 3, 4, 5, 6, 7, 8, 9, 10, 11, 12, 13] (List.take 14 _) (List.drop 14 _) [[], [0], [1], [2], [2], [2, 3, 4], [2, 5], [2], [2], [2, 8], [2, 7, 9], [2, 10], [2, 6, 11], [2, 12]] [17, 18, 19, 20, 21, 22, 23, 24, 25, 26, 27, 28, 29, 30] (fun i v p => match i with | 0 => v = .int .i64 (k : Int) ∧ p = [] | 1 => v = .bool true ∧ p = [] | 2 => v = .bool true ∧ p = [] | 3 => v = v2 ∧ p = [] | 4 => v = .int .i64 (k : Int) ∧ p = [] | 5 => v = elP v2 (((k : Int)).toNat * 1) ∧ p = [] | 6 => v = .int .i64 (ys.getD k 0) ∧ p = [] | 7 => v = v2 ∧ p = [] | 8 => v = .int .i64 (k : Int) ∧ p = [] | 9 => v = .int .i64 ((k : Int) - 1) ∧ p = [] | 10 => v = elP v2 (((k : Int) - 1).toNat * 1) ∧ p = [] | 11 => v = .int .i64 (ys.getD (((k : Int) - 1).toNat) 0) ∧ p = [] | 12 => v = .bool false ∧ p = [] | 13 => v = .bool false ∧ p = [] | _ => True) (List.take_append_drop 14 _).symm (by kernel_rfl) (by kernel_rfl) rfl rfl ?_ ?_
        ·
          refine ⟨?_, ?_, ?_, ?_, ?_, ?_, ?_, ?_, ?_, ?_, ?_, ?_, ?_, ?_, trivial⟩
          ·
            intro vf pf hR
            refine Or.inl ⟨rfl, ?_⟩
            refine rq_less (l' := [rowE 3 1 v2 ys.length (ys.map (Value.int .i64))]) (sub_cons (d := 5) rfl (sub_nil _)) (List.sublist_append_right _ _) ?_
            exact rq_v (rv_ev rfl)
          ·
            intro vf pf hR
            have e0 : vf 0 = .int .i64 (k : Int) ∧ pf 0 = [] := hR 0 (by decide)
            refine Or.inl ⟨rfl, ?_⟩
            refine rq_less (l' := [rowE 3 1 v2 ys.length (ys.map (Value.int .i64))]) (sub_cons (d := 17) (congrArg some e0.1) (sub_nil _)) (List.sublist_append_right _ _) ?_
            exact rq_mono (rq_v (rv_cmp rfl rfl rfl rfl)) (fun _ _ h => ⟨h.1.trans (congrArg Value.bool hb6), h.2⟩)
          ·
            intro vf pf hR
            have e1 : vf 1 = .bool true ∧ pf 1 = [] := hR 1 (by decide)
            refine Or.inl ⟨rfl, ?_⟩
            refine rq_less (l' := [rowE 3 1 v2 ys.length (ys.map (Value.int .i64))]) (sub_cons (d := 18) (congrArg some e1.1) (sub_nil _)) (List.sublist_append_right _ _) ?_
            exact rq_v (rv_ev rfl)
          ·
            intro vf pf hR
            have e2 : vf 2 = .bool true ∧ pf 2 = [] := hR 2 (by decide)
            refine Or.inl ⟨want_of (congrArg some e2.1) rfl, ?_⟩
            refine rq_less (l' := [rowE 3 1 v2 ys.length (ys.map (Value.int .i64))]) (sub_cons (d := 3) rfl (sub_nil _)) (List.sublist_append_right _ _) ?_
            exact rq_v (rv_ev rfl)
          ·
            intro vf pf hR
            have e2 : vf 2 = .bool true ∧ pf 2 = [] := hR 2 (by decide)
            refine Or.inl ⟨want_of (congrArg some e2.1) rfl, ?_⟩
            refine rq_less (l' := [rowE 3 1 v2 ys.length (ys.map (Value.int .i64))]) (sub_cons (d := 5) rfl (sub_nil _)) (List.sublist_append_right _ _) ?_
            exact rq_v (rv_ev rfl)
          ·
            intro vf pf hR
            have e2 : vf 2 = .bool true ∧ pf 2 = [] := hR 2 (by decide)
            have e3 : vf 3 = v2 ∧ pf 3 = [] := hR 3 (by decide)
            have e4 : vf 4 = .int .i64 (k : Int) ∧ pf 4 = [] := hR 4 (by decide)
            refine Or.inl ⟨want_of (congrArg some e2.1) rfl, ?_⟩
            refine rq_less (l' := [rowE 3 1 v2 ys.length (ys.map (Value.int .i64))]) (sub_cons (d := 20) (congrArg some e3.1) (sub_cons (d := 21) (congrArg some e4.1) (sub_nil _))) (List.sublist_append_right _ _) ?_
            exact rq_v (rv_index (s := 1) rfl Try.underlying30 (by kernel_rfl) rfl rfl (rd_row 0 rfl) (by omega) (by first | omega | (simp only [List.length_set]; omega)))
          ·
            intro vf pf hR
            have e2 : vf 2 = .bool true ∧ pf 2 = [] := hR 2 (by decide)
            have e5 : vf 5 = elP v2 (((k : Int)).toNat * 1) ∧ pf 5 = [] := hR 5 (by decide)
            refine Or.inl ⟨want_of (congrArg some e2.1) rfl, ?_⟩
            refine rq_less (l' := [rowE 3 1 v2 ys.length (ys.map (Value.int .i64))]) (sub_cons (d := 22) (congrArg some e5.1) (sub_nil _)) (List.sublist_append_right _ _) ?_
            exact rq_v (rv_loadEl (u := .int .i64 (ys.getD k 0)) rfl (by kernel_rfl) rfl (rd_row 0 rfl) (ints_at1 (show _ < ys.length by first | omega | (simp only [List.length_set]; omega))))
          ·
            intro vf pf hR
            have e2 : vf 2 = .bool true ∧ pf 2 = [] := hR 2 (by decide)
            refine Or.inl ⟨want_of (congrArg some e2.1) rfl, ?_⟩
            refine rq_less (l' := [rowE 3 1 v2 ys.length (ys.map (Value.int .i64))]) (sub_cons (d := 3) rfl (sub_nil _)) (List.sublist_append_right _ _) ?_
            exact rq_v (rv_ev rfl)
          ·
            intro vf pf hR
            have e2 : vf 2 = .bool true ∧ pf 2 = [] := hR 2 (by decide)
            refine Or.inl ⟨want_of (congrArg some e2.1) rfl, ?_⟩
            refine rq_less (l' := [rowE 3 1 v2 ys.length (ys.map (Value.int .i64))]) (sub_cons (d := 5) rfl (sub_nil _)) (List.sublist_append_right _ _) ?_
            exact rq_v (rv_ev rfl)
          ·
            intro vf pf hR
            have e2 : vf 2 = .bool true ∧ pf 2 = [] := hR 2 (by decide)
            have e8 : vf 8 = .int .i64 (k : Int) ∧ pf 8 = [] := hR 8 (by decide)
            refine Or.inl ⟨want_of (congrArg some e2.1) rfl, ?_⟩
            refine rq_less (l' := [rowE 3 1 v2 ys.length (ys.map (Value.int .i64))]) (sub_cons (d := 25) (congrArg some e8.1) (sub_nil _)) (List.sublist_append_right _ _) ?_
            exact rq_v (rv_sub rfl rfl rfl (by constructor <;> omega))
          ·
            intro vf pf hR
            have e2 : vf 2 = .bool true ∧ pf 2 = [] := hR 2 (by decide)
            have e7 : vf 7 = v2 ∧ pf 7 = [] := hR 7 (by decide)
            have e9 : vf 9 = .int .i64 ((k : Int) - 1) ∧ pf 9 = [] := hR 9 (by decide)
            refine Or.inl ⟨want_of (congrArg some e2.1) rfl, ?_⟩
            refine rq_less (l' := [rowE 3 1 v2 ys.length (ys.map (Value.int .i64))]) (sub_cons (d := 24) (congrArg some e7.1) (sub_cons (d := 26) (congrArg some e9.1) (sub_nil _))) (List.sublist_append_right _ _) ?_
            exact rq_v (rv_index (s := 1) rfl Try.underlying30 (by kernel_rfl) rfl rfl (rd_row 0 rfl) (by omega) (by first | omega | (simp only [List.length_set]; omega)))
          ·
            intro vf pf hR
            have e2 : vf 2 = .bool true ∧ pf 2 = [] := hR 2 (by decide)
            have e10 : vf 10 = elP v2 (((k : Int) - 1).toNat * 1) ∧ pf 10 = [] := hR 10 (by decide)
            refine Or.inl ⟨want_of (congrArg some e2.1) rfl, ?_⟩
            refine rq_less (l' := [rowE 3 1 v2 ys.length (ys.map (Value.int .i64))]) (sub_cons (d := 27) (congrArg some e10.1) (sub_nil _)) (List.sublist_append_right _ _) ?_
            exact rq_v (rv_loadEl (u := .int .i64 (ys.getD (((k : Int) - 1).toNat) 0)) rfl (by kernel_rfl) rfl (rd_row 0 rfl) (ints_at1 (show _ < ys.length by first | omega | (simp only [List.length_set]; omega))))
          ·
            intro vf pf hR
            have e2 : vf 2 = .bool true ∧ pf 2 = [] := hR 2 (by decide)
            have e6 : vf 6 = .int .i64 (ys.getD k 0) ∧ pf 6 = [] := hR 6 (by decide)
            have e11 : vf 11 = .int .i64 (ys.getD (((k : Int) - 1).toNat) 0) ∧ pf 11 = [] := hR 11 (by decide)
            refine Or.inl ⟨want_of (congrArg some e2.1) rfl, ?_⟩
            refine rq_less (l' := [rowE 3 1 v2 ys.length (ys.map (Value.int .i64))]) (sub_cons (d := 23) (congrArg some e6.1) (sub_cons (d := 28) (congrArg some e11.1) (sub_nil _))) (List.sublist_append_right _ _) ?_
            exact rq_mono (rq_v (rv_cmp rfl rfl rfl rfl)) (fun _ _ h => ⟨h.1.trans (congrArg Value.bool hb7), h.2⟩)
          ·
            intro vf pf hR
            have e2 : vf 2 = .bool true ∧ pf 2 = [] := hR 2 (by decide)
            have e12 : vf 12 = .bool false ∧ pf 12 = [] := hR 12 (by decide)
            refine Or.inl ⟨rfl, ?_⟩
            refine rq_less (l' := [rowE 3 1 v2 ys.length (ys.map (Value.int .i64))]) (sub_cons (d := 19) (congrArg some e2.1) (sub_cons (d := 29) (congrArg some e12.1) (sub_nil _))) (List.sublist_append_right _ _) ?_
            exact rq_v (rv_ev rfl)
        ·
          intro vf pf hR
          have e13 : vf 13 = .bool false ∧ pf 13 = [] := hR 13 (by decide)
          refine hl_less (l' := [rowE 3 1 v2 ys.length (ys.map (Value.int .i64))]) (sub_cons (d := 0) rfl (sub_cons (d := 2) rfl (sub_cons (d := 3) rfl (sub_cons (d := 4) rfl (sub_cons (d := 5) rfl (sub_cons (d := 13) rfl (sub_cons (d := 30) (congrArg some e13.1) (sub_nil _)))))))) (List.sublist_append_right _ _) ?_
          simp only [List.drop_succ_cons, List.drop_zero]
          refine hl_less (sub_cons (d := 0) rfl (sub_cons (d := 2) rfl (sub_cons (d := 3) rfl (sub_cons (d := 4) rfl (sub_cons (d := 5) rfl (sub_cons (d := 13) rfl (sub_cons (d := 30) rfl (sub_nil _)))))))) (.refl _) ?_
          refine hl_nil ?_
          refine hq_then ?_
          refine hc_false rfl ?_
          refine hc_exit ?_
          refine hq_then_exit ?_
          refine hq_then_exit ?_
          refine hq_block_exit ?_
          refine hq_block_normal ?_
          refine hq_then ?_
          refine hc_region ?_
          refine hl_v rfl rfl rfl (rv_ev rfl) ?_
          refine hl_v rfl rfl rfl (rv_add rfl rfl rfl (by constructor <;> omega)) ?_
          refine hl_v rfl rfl rfl (rv_ev rfl) ?_
          refine hl_less (sub_cons (d := 0) rfl (sub_cons (d := 2) rfl (sub_cons (d := 3) rfl (sub_cons (d := 4) rfl (sub_cons (d := 5) rfl (sub_cons (d := 13) rfl (sub_cons (d := 30) rfl (sub_nil _)))))))) (.refl _) ?_
          refine hl_nil ?_
          exact hq_round2 (i + 1) ys ⟨by omega, by omega, by rw [hy]; exact midS_end xs (i + 1) k (by omega) (by omega) hy1 (by first | (left; omega) | (right; omega))⟩ (by omega) (sub_cons (d := 0) rfl (sub_cons (d := 2) rfl (sub_cons (d := 3) rfl (sub_cons (d := 4) rfl (sub_nil _))))) ((.cons_cons _ .slnil))
    ·
      have hb6p : ¬ (0 < (k : Int)) := of_decide_eq_false hb6
      refine hc_draw (by kernel_rfl) 14 [0, 1, 2, 3, 4, 5, 6, 7, 8, 9, 10, 11, 12, 13] (List.take 14 _) (List.drop 14 _) [[], [0], [1], [2], [2], [2], [2], [2], [2], [2], [2], [2], [2], [2, 12]] [17, 18, 19, 20, 21, 22, 23, 24, 25, 26, 27, 28, 29, 30] (fun i v p => match i with | 0 => v = .int .i64 (k : Int) ∧ p = [] | 1 => v = .bool false ∧ p = [] | 2 => v = .bool false ∧ p = [] | 3 => v = undef ∧ p = [] | 4 => v = undef ∧ p = [] | 5 => v = undef ∧ p = [] | 6 => v = undef ∧ p = [] | 7 => v = undef ∧ p = [] | 8 => v = undef ∧ p = [] | 9 => v = undef ∧ p = [] | 10 => v = undef ∧ p = [] | 11 => v = undef ∧ p = [] | 12 => v = undef ∧ p = [] | 13 => v = .bool false ∧ p = [] | _ => True) (List.take_append_drop 14 _).symm (by kernel_rfl) (by kernel_rfl) rfl rfl ?_ ?_
      ·
        refine ⟨?_, ?_, ?_, ?_, ?_, ?_, ?_, ?_, ?_, ?_, ?_, ?_, ?_, ?_, trivial⟩
        ·
          intro vf pf hR
          refine Or.inl ⟨rfl, ?_⟩
          refine rq_less (l' := [rowE 3 1 v2 ys.length (ys.map (Value.int .i64))]) (sub_cons (d := 5) rfl (sub_nil _)) (List.sublist_append_right _ _) ?_
          exact rq_v (rv_ev rfl)
        ·
          intro vf pf hR
          have e0 : vf 0 = .int .i64 (k : Int) ∧ pf 0 = [] := hR 0 (by decide)
          refine Or.inl ⟨rfl, ?_⟩
          refine rq_less (l' := [rowE 3 1 v2 ys.length (ys.map (Value.int .i64))]) (sub_cons (d := 17) (congrArg some e0.1) (sub_nil _)) (List.sublist_append_right _ _) ?_
          exact rq_mono (rq_v (rv_cmp rfl rfl rfl rfl)) (fun _ _ h => ⟨h.1.trans (congrArg Value.bool hb6), h.2⟩)
        ·
          intro vf pf hR
          have e1 : vf 1 = .bool false ∧ pf 1 = [] := hR 1 (by decide)
          refine Or.inl ⟨rfl, ?_⟩
          refine rq_less (l' := [rowE 3 1 v2 ys.length (ys.map (Value.int .i64))]) (sub_cons (d := 18) (congrArg some e1.1) (sub_nil _)) (List.sublist_append_right _ _) ?_
          exact rq_v (rv_ev rfl)
        ·
          intro vf pf hR
          have e2 : vf 2 = .bool false ∧ pf 2 = [] := hR 2 (by decide)
          exact Or.inr ⟨want_of (congrArg some e2.1) rfl, rfl, rfl⟩
        ·
          intro vf pf hR
          have e2 : vf 2 = .bool false ∧ pf 2 = [] := hR 2 (by decide)
          exact Or.inr ⟨want_of (congrArg some e2.1) rfl, rfl, rfl⟩
        ·
          intro vf pf hR
          have e2 : vf 2 = .bool false ∧ pf 2 = [] := hR 2 (by decide)
          exact Or.inr ⟨want_of (congrArg some e2.1) rfl, rfl, rfl⟩
        ·
          intro vf pf hR
          have e2 : vf 2 = .bool false ∧ pf 2 = [] := hR 2 (by decide)
          exact Or.inr ⟨want_of (congrArg some e2.1) rfl, rfl, rfl⟩
        ·
          intro vf pf hR
          have e2 : vf 2 = .bool false ∧ pf 2 = [] := hR 2 (by decide)
          exact Or.inr ⟨want_of (congrArg some e2.1) rfl, rfl, rfl⟩
        ·
          intro vf pf hR
          have e2 : vf 2 = .bool false ∧ pf 2 = [] := hR 2 (by decide)
          exact Or.inr ⟨want_of (congrArg some e2.1) rfl, rfl, rfl⟩
        ·
          intro vf pf hR
          have e2 : vf 2 = .bool false ∧ pf 2 = [] := hR 2 (by decide)
          exact Or.inr ⟨want_of (congrArg some e2.1) rfl, rfl, rfl⟩
        ·
          intro vf pf hR
          have e2 : vf 2 = .bool false ∧ pf 2 = [] := hR 2 (by decide)
          exact Or.inr ⟨want_of (congrArg some e2.1) rfl, rfl, rfl⟩
        ·
          intro vf pf hR
          have e2 : vf 2 = .bool false ∧ pf 2 = [] := hR 2 (by decide)
          exact Or.inr ⟨want_of (congrArg some e2.1) rfl, rfl, rfl⟩
        ·
          intro vf pf hR
          have e2 : vf 2 = .bool false ∧ pf 2 = [] := hR 2 (by decide)
          exact Or.inr ⟨want_of (congrArg some e2.1) rfl, rfl, rfl⟩
        ·
          intro vf pf hR
          have e2 : vf 2 = .bool false ∧ pf 2 = [] := hR 2 (by decide)
          have e12 : vf 12 = undef ∧ pf 12 = [] := hR 12 (by decide)
          refine Or.inl ⟨rfl, ?_⟩
          refine rq_less (l' := [rowE 3 1 v2 ys.length (ys.map (Value.int .i64))]) (sub_cons (d := 19) (congrArg some e2.1) (sub_cons (d := 29) (congrArg some e12.1) (sub_nil _))) (List.sublist_append_right _ _) ?_
          exact rq_v (rv_ev rfl)
      ·
        intro vf pf hR
        have e13 : vf 13 = .bool false ∧ pf 13 = [] := hR 13 (by decide)
        refine hl_less (l' := [rowE 3 1 v2 ys.length (ys.map (Value.int .i64))]) (sub_cons (d := 0) rfl (sub_cons (d := 2) rfl (sub_cons (d := 3) rfl (sub_cons (d := 4) rfl (sub_cons (d := 5) rfl (sub_cons (d := 13) rfl (sub_cons (d := 30) (congrArg some e13.1) (sub_nil _)))))))) (List.sublist_append_right _ _) ?_
        simp only [List.drop_succ_cons, List.drop_zero]
        refine hl_less (sub_cons (d := 0) rfl (sub_cons (d := 2) rfl (sub_cons (d := 3) rfl (sub_cons (d := 4) rfl (sub_cons (d := 5) rfl (sub_cons (d := 13) rfl (sub_cons (d := 30) rfl (sub_nil _)))))))) (.refl _) ?_
        refine hl_nil ?_
        refine hq_then ?_
        refine hc_false rfl ?_
        refine hc_exit ?_
        refine hq_then_exit ?_
        refine hq_then_exit ?_
        refine hq_block_exit ?_
        refine hq_block_normal ?_
        refine hq_then ?_
        refine hc_region ?_
        refine hl_v rfl rfl rfl (rv_ev rfl) ?_
        refine hl_v rfl rfl rfl (rv_add rfl rfl rfl (by constructor <;> omega)) ?_
        refine hl_v rfl rfl rfl (rv_ev rfl) ?_
        refine hl_less (sub_cons (d := 0) rfl (sub_cons (d := 2) rfl (sub_cons (d := 3) rfl (sub_cons (d := 4) rfl (sub_cons (d := 5) rfl (sub_cons (d := 13) rfl (sub_cons (d := 30) rfl (sub_nil _)))))))) (.refl _) ?_
        refine hl_nil ?_
        exact hq_round2 (i + 1) ys ⟨by omega, by omega, by rw [hy]; exact midS_end xs (i + 1) k (by omega) (by omega) hy1 (by first | (left; omega) | (right; omega))⟩ (by omega) (sub_cons (d := 0) rfl (sub_cons (d := 2) rfl (sub_cons (d := 3) rfl (sub_cons (d := 4) rfl (sub_nil _))))) ((.cons_cons _ .slnil))
  ·
    refine hl_less (sub_cons (d := 0) rfl (sub_cons (d := 2) rfl (sub_cons (d := 3) rfl (sub_cons (d := 4) rfl (sub_cons (d := 13) rfl (sub_nil _)))))) (.refl _) ?_
    refine hl_nil ?_
    refine hq_then ?_
    refine hc_false rfl ?_
    refine hc_exit ?_
    refine hq_then_exit ?_
    refine hq_then_exit ?_
    refine hq_block_exit ?_
    refine hq_then ?_
    refine hc_seq ?_
    refine hc_region ?_
    refine hl_v rfl rfl rfl (rv_ev rfl) ?_
    refine hl_v rfl rfl rfl (rv_ev rfl) ?_
    refine hl_less (sub_cons (d := 0) rfl (sub_cons (d := 2) rfl (sub_cons (d := 3) rfl (sub_cons (d := 4) rfl (sub_cons (d := 13) rfl (sub_nil _)))))) (.refl _) ?_
    refine hl_nil ?_
    refine hq_then ?_
    refine hc_ret ?_
    exact hq_retR (post := [rowE 3 1 v2 zs.length (zs.map (Value.int .i64))]) rfl rfl ((.cons_cons _ .slnil)) (by rw [hz, List.take_of_length_le (by omega), List.drop_eq_nil_of_le (by omega), List.append_nil])
end Go.Proofs.Ytnnkbpcfjjijbaa
