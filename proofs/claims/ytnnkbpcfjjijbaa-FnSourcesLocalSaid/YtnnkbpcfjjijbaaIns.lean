/- Sorted insertion: the walk of insertInt. -/
import Derived.Test.YtnnkbpcfjjijbaaLog4
set_option linter.unusedVariables false
set_option linter.unusedSimpArgs false
namespace Go.Proofs.Ytnnkbpcfjjijbaa
open Go.RowKit
def insI : List Int → Int → List Int
  | [], x => [x]
  | y :: ys, x => if y < x then y :: insI ys x else if y = x then y :: ys else x :: y :: ys
theorem insI_at (xs : List Int) (x : Int) (k : Nat) (hk : k ≤ xs.length) (h1 : ∀ j, j < k → xs.getD j 0 < x) (h2 : k < xs.length → x < xs.getD k 0) : insI xs x = xs.take k ++ [x] ++ xs.drop k := by
  induction xs generalizing k with
  | nil => simp at hk; subst hk; rfl
  | cons y ys ih =>
    cases k with
    | zero =>
      have := h2 (by simp)
      simp at this
      simp only [insI, List.take_zero, List.nil_append, List.drop_zero, List.singleton_append]
      rw [if_neg (by omega), if_neg (by omega)]
    | succ k =>
      have := h1 0 (by omega)
      simp at this
      simp only [insI]
      rw [if_pos this, ih k (by simpa using hk) (fun j hj => by have := h1 (j + 1) (by omega); simpa using this) (fun hlt => by have := h2 (by simpa using hlt); simpa using this)]
      simp
theorem insI_has (xs : List Int) (x : Int) (k : Nat) (hk : k < xs.length) (h1 : ∀ j, j < k → xs.getD j 0 < x) (h2 : xs.getD k 0 = x) : insI xs x = xs := by
  induction xs generalizing k with
  | nil => simp at hk
  | cons y ys ih =>
    cases k with
    | zero =>
      simp at h2
      simp only [insI]
      rw [if_neg (by omega), if_pos h2]
    | succ k =>
      have := h1 0 (by omega)
      simp at this
      simp only [insI]
      rw [if_pos this, ih k (by simpa using hk) (fun j hj => by have := h1 (j + 1) (by omega); simpa using this) (by simpa using h2)]
set_option maxHeartbeats 4000000 in
set_option maxRecDepth 100000 in
theorem insertInt_ret (v : Value) (xs : List Int) (x : Int) (w : World) (hv : RdsW w v 1 xs.length (xs.map (Value.int .i64))) (hn : xs.length ≤ 1000000) :
    Calls Try.prog 132 #[v, .int .i64 x] w (Ret w fun v' post => (v' = v ∧ post = [] ∧ insI xs x = xs) ∨ (post = [rowE 3 1 v' (insI xs x).length ((insI xs x).map (Value.int .i64))])) := by
  refine calls_hc (N := 48) (args := [v, .int .i64 x]) Try.func132 rfl rfl ?_
  refine hc_less _ (sub_cons (d := 0) rfl (sub_cons (d := 1) rfl (sub_nil _))) (.refl _) ?_
  refine hc_seq ?_
  refine hc_region ?_
  refine hl_v rfl rfl rfl (rv_ev rfl) ?_
  refine hl_less (sub_cons (d := 0) rfl (sub_cons (d := 1) rfl (sub_cons (d := 4) rfl (sub_nil _)))) (.refl _) ?_
  refine hl_nil ?_
  refine hq_then ?_
  refine hc_seq ?_
  refine hc_region ?_
  refine hl_v rfl rfl rfl (rv_ev rfl) ?_
  refine hl_less (sub_cons (d := 0) rfl (sub_cons (d := 1) rfl (sub_cons (d := 4) rfl (sub_cons (d := 5) rfl (sub_nil _))))) (.refl _) ?_
  refine hl_nil ?_
  refine hq_then ?_
  refine hc_seq ?_
  refine hc_block ?_
  refine hc_loop1 (α := Int) (fun k => []) (fun k => [(0, v), (1, .int .i64 x), (4, .slice none 0 0), (5, .int .i64 k)]) (fun k => 0 ≤ k ∧ k ≤ xs.length ∧ ∀ j, j < k.toNat → xs.getD j 0 < x) (fun k => ((xs.length : Int) - k).toNat) 0 ⟨by omega, by omega, fun j hj => absurd hj (by omega)⟩ (sub_cons (d := 0) rfl (sub_cons (d := 1) rfl (sub_cons (d := 4) rfl (sub_cons (d := 5) rfl (sub_nil _))))) (.slnil) ?_
  intro k hi1
  obtain ⟨hk0, hk1, hk2⟩ := hi1
  refine hc_seq ?_
  refine hc_seq ?_
  refine hc_region ?_
  refine hl_v rfl rfl rfl (rv_ev rfl) ?_
  refine hl_v rfl rfl rfl (rv_ev rfl) ?_
  refine hl_v rfl rfl rfl (rv_len rfl Try.underlying30 rfl (rd_old hv)) ?_
  refine hl_lss rfl rfl rfl rfl rfl rfl (fun h2 => ?_) (fun h2 => ?_)
  ·
    refine hl_v rfl rfl rfl (rv_ev rfl) ?_
    refine hl_v rfl rfl rfl (rv_ev rfl) ?_
    refine hl_v rfl rfl rfl (rv_ev rfl) ?_
    refine hl_v rfl rfl rfl (rv_index (s := 1) rfl Try.underlying30 (by kernel_rfl) rfl rfl (rd_old hv) (by omega) (by first | omega | (simp only [List.length_set]; omega))) ?_
    refine hl_v rfl rfl rfl (rv_loadEl (u := .int .i64 (xs.getD ((k).toNat) 0)) rfl (by kernel_rfl) rfl (rd_old hv) (ints_at1 (show _ < xs.length by first | omega | (simp only [List.length_set]; omega)))) ?_
    refine hl_v rfl rfl rfl (rv_ev rfl) ?_
    refine hl_lss rfl rfl rfl rfl rfl rfl (fun h3 => ?_) (fun h3 => ?_)
    ·
      refine hl_v rfl rfl rfl (rv_ev rfl) ?_
      refine hl_less (sub_cons (d := 0) rfl (sub_cons (d := 1) rfl (sub_cons (d := 4) rfl (sub_cons (d := 5) rfl (sub_cons (d := 18) rfl (sub_nil _)))))) (.refl _) ?_
      refine hl_nil ?_
      refine hq_then ?_
      refine hc_true rfl ?_
      refine hc_skip ?_
      refine hq_then ?_
      refine hc_block ?_
      refine hc_region ?_
      refine hl_v rfl rfl rfl (rv_ev rfl) ?_
      refine hl_v rfl rfl rfl (rv_add rfl rfl rfl (by constructor <;> omega)) ?_
      refine hl_v rfl rfl rfl (rv_ev rfl) ?_
      refine hl_less (sub_cons (d := 0) rfl (sub_cons (d := 1) rfl (sub_cons (d := 4) rfl (sub_cons (d := 5) rfl (sub_cons (d := 18) rfl (sub_nil _)))))) (.refl _) ?_
      refine hl_nil ?_
      refine hq_block_normal ?_
      exact hq_round1 (k + 1) ⟨by omega, by omega, fun j hj => by by_cases hjk : j = k.toNat; (subst hjk; assumption); exact hk2 j (by omega)⟩ (by omega) (sub_cons (d := 0) rfl (sub_cons (d := 1) rfl (sub_cons (d := 4) rfl (sub_cons (d := 5) rfl (sub_nil _))))) (.slnil)
    ·
      refine hl_v rfl rfl rfl (rv_ev rfl) ?_
      refine hl_less (sub_cons (d := 0) rfl (sub_cons (d := 1) rfl (sub_cons (d := 4) rfl (sub_cons (d := 5) rfl (sub_cons (d := 18) rfl (sub_nil _)))))) (.refl _) ?_
      refine hl_nil ?_
      refine hq_then ?_
      refine hc_false rfl ?_
      refine hc_exit ?_
      refine hq_then_exit ?_
      refine hq_then_exit ?_
      refine hq_block_exit ?_
      refine hq_then ?_
      refine hc_seq ?_
      refine hc_seq ?_
      refine hc_region ?_
      refine hl_v rfl rfl rfl (rv_ev rfl) ?_
      refine hl_v rfl rfl rfl (rv_ev rfl) ?_
      refine hl_v rfl rfl rfl (rv_len rfl Try.underlying30 rfl (rd_old hv)) ?_
      refine hl_lss rfl rfl rfl rfl rfl rfl (fun h4 => ?_) (fun h4 => ?_)
      ·
        refine hl_v rfl rfl rfl (rv_ev rfl) ?_
        refine hl_v rfl rfl rfl (rv_ev rfl) ?_
        refine hl_v rfl rfl rfl (rv_ev rfl) ?_
        refine hl_v rfl rfl rfl (rv_index (s := 1) rfl Try.underlying30 (by kernel_rfl) rfl rfl (rd_old hv) (by omega) (by first | omega | (simp only [List.length_set]; omega))) ?_
        refine hl_v rfl rfl rfl (rv_loadEl (u := .int .i64 (xs.getD ((k).toNat) 0)) rfl (by kernel_rfl) rfl (rd_old hv) (ints_at1 (show _ < xs.length by first | omega | (simp only [List.length_set]; omega)))) ?_
        refine hl_v rfl rfl rfl (rv_ev rfl) ?_
        refine hl_eql rfl rfl rfl rfl rfl rfl (fun h5 => ?_) (fun h5 => ?_)
        ·
          refine hl_v rfl rfl rfl (rv_ev rfl) ?_
          refine hl_less (sub_cons (d := 0) rfl (sub_cons (d := 1) rfl (sub_cons (d := 4) rfl (sub_cons (d := 5) rfl (sub_cons (d := 18) rfl (sub_cons (d := 32) rfl (sub_nil _))))))) (.refl _) ?_
          refine hl_nil ?_
          refine hq_then ?_
          refine hc_true rfl ?_
          refine hc_seq ?_
          refine hc_region ?_
          refine hl_v rfl rfl rfl (rv_ev rfl) ?_
          refine hl_v rfl rfl rfl (rv_ev rfl) ?_
          refine hl_less (sub_cons (d := 0) rfl (sub_cons (d := 1) rfl (sub_cons (d := 4) rfl (sub_cons (d := 5) rfl (sub_cons (d := 18) rfl (sub_cons (d := 32) rfl (sub_nil _))))))) (.refl _) ?_
          refine hl_nil ?_
          refine hq_then ?_
          refine hc_ret ?_
          refine hq_then_ret ?_
          exact hq_retR rfl rfl (List.nil_sublist _) (Or.inl ⟨rfl, rfl, insI_has xs x k.toNat (by omega) hk2 (by omega)⟩)
        ·
          refine hl_v rfl rfl rfl (rv_ev rfl) ?_
          refine hl_less (sub_cons (d := 0) rfl (sub_cons (d := 1) rfl (sub_cons (d := 4) rfl (sub_cons (d := 5) rfl (sub_cons (d := 18) rfl (sub_cons (d := 32) rfl (sub_nil _))))))) (.refl _) ?_
          refine hl_nil ?_
          refine hq_then ?_
          refine hc_false rfl ?_
          refine hc_skip ?_
          refine hq_then ?_
          refine hc_seq ?_
          refine hc_region ?_
          refine hl_row rfl rfl rfl (rq_slice0 (s := 1) rfl Try.underlying30 (by kernel_rfl)) ?_
          intro g6
          refine hl_v rfl rfl rfl (rv_ev rfl) ?_
          refine hl_v rfl rfl rfl (rv_ev rfl) ?_
          refine hl_v rfl rfl rfl (rv_slH rfl Try.underlying30 (by kernel_rfl) rfl rfl (rd_old hv) (by omega) (by omega)) ?_
          refine hl_append (i := 0) (z := .int .i64 0) (bytes := 8) (n' := (xs.take (k).toNat).length) (xs' := ((xs.take (k).toNat).map (Value.int .i64))) (L := fun v7 => [rowE 3 1 v7 ((xs.take (k).toNat).length) ((xs.take (k).toNat).map (Value.int .i64))]) rfl rfl rfl rfl Try.underlying30 (by kernel_rfl) (by kernel_rfl) rfl rfl rfl (rd_slH (rd_old hv) (by omega)) (ints_one _) (by simp; omega) ((Nat.zero_add _)) ((List.nil_append _)) (fun _ => rfl) ?_
          intro v7
          refine hl_v rfl rfl rfl (rv_ev rfl) ?_
          refine hl_less (sub_cons (d := 0) rfl (sub_cons (d := 1) rfl (sub_cons (d := 4) rfl (sub_cons (d := 5) rfl (sub_cons (d := 6) rfl (sub_cons (d := 18) rfl (sub_cons (d := 32) rfl (sub_nil _)))))))) (.refl _) ?_
          refine hl_nil ?_
          refine hq_then ?_
          refine hc_seq ?_
          refine hc_region ?_
          refine hl_v rfl rfl rfl (rv_ev rfl) ?_
          refine hl_v rfl rfl rfl (rv_ev rfl) ?_
          refine hl_row rfl rfl rfl (rq_buildSlice (z := .int .i64 0) (s := 1) (cs := ([x].map (Value.int .i64))) rfl Try.underlying30 (by kernel_rfl) (by decide) rfl (by kernel_rfl) rfl) ?_
          intro g8
          refine hl_append (i := 1) (z := .int .i64 0) (bytes := 8) (n' := ((xs.take (k).toNat) ++ ([x])).length) (xs' := (((xs.take (k).toNat) ++ ([x])).map (Value.int .i64))) (L := fun v9 => [rowE 3 1 (.slice (some ⟨g8, 0, none⟩) 1 1) 1 ([x].map (Value.int .i64)), rowE 3 1 v9 (((xs.take (k).toNat) ++ ([x])).length) (((xs.take (k).toNat) ++ ([x])).map (Value.int .i64))]) rfl rfl rfl rfl Try.underlying30 (by kernel_rfl) (by kernel_rfl) rfl rfl rfl (rd_row 0 rfl) (ints_one _) (by simp; omega) (len_app (xs.take (k).toNat) ([x])) (ints_app (xs.take (k).toNat) ([x])) (fun _ => rfl) ?_
          intro v9
          refine hl_v rfl rfl rfl (rv_ev rfl) ?_
          refine hl_less (sub_cons (d := 0) rfl (sub_cons (d := 1) rfl (sub_cons (d := 4) rfl (sub_cons (d := 5) rfl (sub_cons (d := 6) rfl (sub_cons (d := 18) rfl (sub_cons (d := 32) rfl (sub_nil _)))))))) (.refl _) ?_
          refine hl_nil ?_
          refine hq_then ?_
          refine hc_seq ?_
          refine hc_region ?_
          refine hl_v rfl rfl rfl (rv_ev rfl) ?_
          refine hl_v rfl rfl rfl (rv_ev rfl) ?_
          refine hl_v rfl rfl rfl (rv_ev rfl) ?_
          refine hl_v rfl rfl rfl (rv_slL rfl Try.underlying30 (by kernel_rfl) rfl rfl (rd_old hv) (by omega) (by omega)) ?_
          refine hl_append (i := 1) (z := .int .i64 0) (bytes := 8) (n' := (((xs.take (k).toNat) ++ ([x])) ++ (xs.drop (k).toNat)).length) (xs' := ((((xs.take (k).toNat) ++ ([x])) ++ (xs.drop (k).toNat)).map (Value.int .i64))) (L := fun v10 => [rowE 3 1 (.slice (some ⟨g8, 0, none⟩) 1 1) 1 ([x].map (Value.int .i64)), rowE 3 1 v10 ((((xs.take (k).toNat) ++ ([x])) ++ (xs.drop (k).toNat)).length) ((((xs.take (k).toNat) ++ ([x])) ++ (xs.drop (k).toNat)).map (Value.int .i64))]) rfl rfl rfl rfl Try.underlying30 (by kernel_rfl) (by kernel_rfl) rfl rfl rfl (rd_slL (rd_old hv) (by omega)) (ints_one _) (by simp; omega) (len_app ((xs.take (k).toNat) ++ ([x])) (xs.drop (k).toNat)) (ints_app ((xs.take (k).toNat) ++ ([x])) (xs.drop (k).toNat)) (fun _ => rfl) ?_
          intro v10
          refine hl_v rfl rfl rfl (rv_ev rfl) ?_
          refine hl_less (sub_cons (d := 0) rfl (sub_cons (d := 1) rfl (sub_cons (d := 4) rfl (sub_cons (d := 5) rfl (sub_cons (d := 6) rfl (sub_cons (d := 18) rfl (sub_cons (d := 32) rfl (sub_nil _)))))))) (.refl _) ?_
          refine hl_nil ?_
          refine hq_then ?_
          refine hc_ret ?_
          have e := insI_at xs x k.toNat (by omega) hk2 (by omega)
          exact hq_retR (post := [rowE 3 1 v10 ((((xs.take (k).toNat) ++ ([x])) ++ (xs.drop (k).toNat)).length) ((((xs.take (k).toNat) ++ ([x])) ++ (xs.drop (k).toNat)).map (Value.int .i64))]) rfl rfl ((.cons _ (.cons_cons _ .slnil))) (Or.inr (by rw [e]))
      ·
        refine hl_v rfl rfl rfl (rv_ev rfl) ?_
        refine hl_skip rfl rfl rfl ?_
        refine hl_skip rfl rfl rfl ?_
        refine hl_skip rfl rfl rfl ?_
        refine hl_skip rfl rfl rfl ?_
        refine hl_skip rfl rfl rfl ?_
        refine hl_skip rfl rfl rfl ?_
        refine hl_v rfl rfl rfl (rv_ev rfl) ?_
        refine hl_less (sub_cons (d := 0) rfl (sub_cons (d := 1) rfl (sub_cons (d := 4) rfl (sub_cons (d := 5) rfl (sub_cons (d := 18) rfl (sub_cons (d := 32) rfl (sub_nil _))))))) (.refl _) ?_
        refine hl_nil ?_
        refine hq_then ?_
        refine hc_false rfl ?_
        refine hc_skip ?_
        refine hq_then ?_
        refine hc_seq ?_
        refine hc_region ?_
        refine hl_row rfl rfl rfl (rq_slice0 (s := 1) rfl Try.underlying30 (by kernel_rfl)) ?_
        intro g11
        refine hl_v rfl rfl rfl (rv_ev rfl) ?_
        refine hl_v rfl rfl rfl (rv_ev rfl) ?_
        refine hl_v rfl rfl rfl (rv_slH rfl Try.underlying30 (by kernel_rfl) rfl rfl (rd_old hv) (by omega) (by omega)) ?_
        refine hl_append (i := 0) (z := .int .i64 0) (bytes := 8) (n' := (xs.take (k).toNat).length) (xs' := ((xs.take (k).toNat).map (Value.int .i64))) (L := fun v12 => [rowE 3 1 v12 ((xs.take (k).toNat).length) ((xs.take (k).toNat).map (Value.int .i64))]) rfl rfl rfl rfl Try.underlying30 (by kernel_rfl) (by kernel_rfl) rfl rfl rfl (rd_slH (rd_old hv) (by omega)) (ints_one _) (by simp; omega) ((Nat.zero_add _)) ((List.nil_append _)) (fun _ => rfl) ?_
        intro v12
        refine hl_v rfl rfl rfl (rv_ev rfl) ?_
        refine hl_less (sub_cons (d := 0) rfl (sub_cons (d := 1) rfl (sub_cons (d := 4) rfl (sub_cons (d := 5) rfl (sub_cons (d := 6) rfl (sub_cons (d := 18) rfl (sub_cons (d := 32) rfl (sub_nil _)))))))) (.refl _) ?_
        refine hl_nil ?_
        refine hq_then ?_
        refine hc_seq ?_
        refine hc_region ?_
        refine hl_v rfl rfl rfl (rv_ev rfl) ?_
        refine hl_v rfl rfl rfl (rv_ev rfl) ?_
        refine hl_row rfl rfl rfl (rq_buildSlice (z := .int .i64 0) (s := 1) (cs := ([x].map (Value.int .i64))) rfl Try.underlying30 (by kernel_rfl) (by decide) rfl (by kernel_rfl) rfl) ?_
        intro g13
        refine hl_append (i := 1) (z := .int .i64 0) (bytes := 8) (n' := ((xs.take (k).toNat) ++ ([x])).length) (xs' := (((xs.take (k).toNat) ++ ([x])).map (Value.int .i64))) (L := fun v14 => [rowE 3 1 (.slice (some ⟨g13, 0, none⟩) 1 1) 1 ([x].map (Value.int .i64)), rowE 3 1 v14 (((xs.take (k).toNat) ++ ([x])).length) (((xs.take (k).toNat) ++ ([x])).map (Value.int .i64))]) rfl rfl rfl rfl Try.underlying30 (by kernel_rfl) (by kernel_rfl) rfl rfl rfl (rd_row 0 rfl) (ints_one _) (by simp; omega) (len_app (xs.take (k).toNat) ([x])) (ints_app (xs.take (k).toNat) ([x])) (fun _ => rfl) ?_
        intro v14
        refine hl_v rfl rfl rfl (rv_ev rfl) ?_
        refine hl_less (sub_cons (d := 0) rfl (sub_cons (d := 1) rfl (sub_cons (d := 4) rfl (sub_cons (d := 5) rfl (sub_cons (d := 6) rfl (sub_cons (d := 18) rfl (sub_cons (d := 32) rfl (sub_nil _)))))))) (.refl _) ?_
        refine hl_nil ?_
        refine hq_then ?_
        refine hc_seq ?_
        refine hc_region ?_
        refine hl_v rfl rfl rfl (rv_ev rfl) ?_
        refine hl_v rfl rfl rfl (rv_ev rfl) ?_
        refine hl_v rfl rfl rfl (rv_ev rfl) ?_
        refine hl_v rfl rfl rfl (rv_slL rfl Try.underlying30 (by kernel_rfl) rfl rfl (rd_old hv) (by omega) (by omega)) ?_
        refine hl_append (i := 1) (z := .int .i64 0) (bytes := 8) (n' := (((xs.take (k).toNat) ++ ([x])) ++ (xs.drop (k).toNat)).length) (xs' := ((((xs.take (k).toNat) ++ ([x])) ++ (xs.drop (k).toNat)).map (Value.int .i64))) (L := fun v15 => [rowE 3 1 (.slice (some ⟨g13, 0, none⟩) 1 1) 1 ([x].map (Value.int .i64)), rowE 3 1 v15 ((((xs.take (k).toNat) ++ ([x])) ++ (xs.drop (k).toNat)).length) ((((xs.take (k).toNat) ++ ([x])) ++ (xs.drop (k).toNat)).map (Value.int .i64))]) rfl rfl rfl rfl Try.underlying30 (by kernel_rfl) (by kernel_rfl) rfl rfl rfl (rd_slL (rd_old hv) (by omega)) (ints_one _) (by simp; omega) (len_app ((xs.take (k).toNat) ++ ([x])) (xs.drop (k).toNat)) (ints_app ((xs.take (k).toNat) ++ ([x])) (xs.drop (k).toNat)) (fun _ => rfl) ?_
        intro v15
        refine hl_v rfl rfl rfl (rv_ev rfl) ?_
        refine hl_less (sub_cons (d := 0) rfl (sub_cons (d := 1) rfl (sub_cons (d := 4) rfl (sub_cons (d := 5) rfl (sub_cons (d := 6) rfl (sub_cons (d := 18) rfl (sub_cons (d := 32) rfl (sub_nil _)))))))) (.refl _) ?_
        refine hl_nil ?_
        refine hq_then ?_
        refine hc_ret ?_
        have e := insI_at xs x k.toNat (by omega) hk2 (by omega)
        exact hq_retR (post := [rowE 3 1 v15 ((((xs.take (k).toNat) ++ ([x])) ++ (xs.drop (k).toNat)).length) ((((xs.take (k).toNat) ++ ([x])) ++ (xs.drop (k).toNat)).map (Value.int .i64))]) rfl rfl ((.cons _ (.cons_cons _ .slnil))) (Or.inr (by rw [e]))
  ·
    refine hl_v rfl rfl rfl (rv_ev rfl) ?_
    refine hl_skip rfl rfl rfl ?_
    refine hl_skip rfl rfl rfl ?_
    refine hl_skip rfl rfl rfl ?_
    refine hl_skip rfl rfl rfl ?_
    refine hl_skip rfl rfl rfl ?_
    refine hl_skip rfl rfl rfl ?_
    refine hl_v rfl rfl rfl (rv_ev rfl) ?_
    refine hl_less (sub_cons (d := 0) rfl (sub_cons (d := 1) rfl (sub_cons (d := 4) rfl (sub_cons (d := 5) rfl (sub_cons (d := 18) rfl (sub_nil _)))))) (.refl _) ?_
    refine hl_nil ?_
    refine hq_then ?_
    refine hc_false rfl ?_
    refine hc_exit ?_
    refine hq_then_exit ?_
    refine hq_then_exit ?_
    refine hq_block_exit ?_
    refine hq_then ?_
    refine hc_seq ?_
    refine hc_seq ?_
    refine hc_region ?_
    refine hl_v rfl rfl rfl (rv_ev rfl) ?_
    refine hl_v rfl rfl rfl (rv_ev rfl) ?_
    refine hl_v rfl rfl rfl (rv_len rfl Try.underlying30 rfl (rd_old hv)) ?_
    refine hl_lss rfl rfl rfl rfl rfl rfl (fun h16 => ?_) (fun h16 => ?_)
    ·
      refine hl_v rfl rfl rfl (rv_ev rfl) ?_
      refine hl_v rfl rfl rfl (rv_ev rfl) ?_
      refine hl_v rfl rfl rfl (rv_ev rfl) ?_
      refine hl_v rfl rfl rfl (rv_index (s := 1) rfl Try.underlying30 (by kernel_rfl) rfl rfl (rd_old hv) (by omega) (by first | omega | (simp only [List.length_set]; omega))) ?_
      refine hl_v rfl rfl rfl (rv_loadEl (u := .int .i64 (xs.getD ((k).toNat) 0)) rfl (by kernel_rfl) rfl (rd_old hv) (ints_at1 (show _ < xs.length by first | omega | (simp only [List.length_set]; omega)))) ?_
      refine hl_v rfl rfl rfl (rv_ev rfl) ?_
      refine hl_eql rfl rfl rfl rfl rfl rfl (fun h17 => ?_) (fun h17 => ?_)
      ·
        refine hl_v rfl rfl rfl (rv_ev rfl) ?_
        refine hl_less (sub_cons (d := 0) rfl (sub_cons (d := 1) rfl (sub_cons (d := 4) rfl (sub_cons (d := 5) rfl (sub_cons (d := 18) rfl (sub_cons (d := 32) rfl (sub_nil _))))))) (.refl _) ?_
        refine hl_nil ?_
        refine hq_then ?_
        refine hc_true rfl ?_
        refine hc_seq ?_
        refine hc_region ?_
        refine hl_v rfl rfl rfl (rv_ev rfl) ?_
        refine hl_v rfl rfl rfl (rv_ev rfl) ?_
        refine hl_less (sub_cons (d := 0) rfl (sub_cons (d := 1) rfl (sub_cons (d := 4) rfl (sub_cons (d := 5) rfl (sub_cons (d := 18) rfl (sub_cons (d := 32) rfl (sub_nil _))))))) (.refl _) ?_
        refine hl_nil ?_
        refine hq_then ?_
        refine hc_ret ?_
        refine hq_then_ret ?_
        exact hq_retR rfl rfl (List.nil_sublist _) (Or.inl ⟨rfl, rfl, insI_has xs x k.toNat (by omega) hk2 (by omega)⟩)
      ·
        refine hl_v rfl rfl rfl (rv_ev rfl) ?_
        refine hl_less (sub_cons (d := 0) rfl (sub_cons (d := 1) rfl (sub_cons (d := 4) rfl (sub_cons (d := 5) rfl (sub_cons (d := 18) rfl (sub_cons (d := 32) rfl (sub_nil _))))))) (.refl _) ?_
        refine hl_nil ?_
        refine hq_then ?_
        refine hc_false rfl ?_
        refine hc_skip ?_
        refine hq_then ?_
        refine hc_seq ?_
        refine hc_region ?_
        refine hl_row rfl rfl rfl (rq_slice0 (s := 1) rfl Try.underlying30 (by kernel_rfl)) ?_
        intro g18
        refine hl_v rfl rfl rfl (rv_ev rfl) ?_
        refine hl_v rfl rfl rfl (rv_ev rfl) ?_
        refine hl_v rfl rfl rfl (rv_slH rfl Try.underlying30 (by kernel_rfl) rfl rfl (rd_old hv) (by omega) (by omega)) ?_
        refine hl_append (i := 0) (z := .int .i64 0) (bytes := 8) (n' := (xs.take (k).toNat).length) (xs' := ((xs.take (k).toNat).map (Value.int .i64))) (L := fun v19 => [rowE 3 1 v19 ((xs.take (k).toNat).length) ((xs.take (k).toNat).map (Value.int .i64))]) rfl rfl rfl rfl Try.underlying30 (by kernel_rfl) (by kernel_rfl) rfl rfl rfl (rd_slH (rd_old hv) (by omega)) (ints_one _) (by simp; omega) ((Nat.zero_add _)) ((List.nil_append _)) (fun _ => rfl) ?_
        intro v19
        refine hl_v rfl rfl rfl (rv_ev rfl) ?_
        refine hl_less (sub_cons (d := 0) rfl (sub_cons (d := 1) rfl (sub_cons (d := 4) rfl (sub_cons (d := 5) rfl (sub_cons (d := 6) rfl (sub_cons (d := 18) rfl (sub_cons (d := 32) rfl (sub_nil _)))))))) (.refl _) ?_
        refine hl_nil ?_
        refine hq_then ?_
        refine hc_seq ?_
        refine hc_region ?_
        refine hl_v rfl rfl rfl (rv_ev rfl) ?_
        refine hl_v rfl rfl rfl (rv_ev rfl) ?_
        refine hl_row rfl rfl rfl (rq_buildSlice (z := .int .i64 0) (s := 1) (cs := ([x].map (Value.int .i64))) rfl Try.underlying30 (by kernel_rfl) (by decide) rfl (by kernel_rfl) rfl) ?_
        intro g20
        refine hl_append (i := 1) (z := .int .i64 0) (bytes := 8) (n' := ((xs.take (k).toNat) ++ ([x])).length) (xs' := (((xs.take (k).toNat) ++ ([x])).map (Value.int .i64))) (L := fun v21 => [rowE 3 1 (.slice (some ⟨g20, 0, none⟩) 1 1) 1 ([x].map (Value.int .i64)), rowE 3 1 v21 (((xs.take (k).toNat) ++ ([x])).length) (((xs.take (k).toNat) ++ ([x])).map (Value.int .i64))]) rfl rfl rfl rfl Try.underlying30 (by kernel_rfl) (by kernel_rfl) rfl rfl rfl (rd_row 0 rfl) (ints_one _) (by simp; omega) (len_app (xs.take (k).toNat) ([x])) (ints_app (xs.take (k).toNat) ([x])) (fun _ => rfl) ?_
        intro v21
        refine hl_v rfl rfl rfl (rv_ev rfl) ?_
        refine hl_less (sub_cons (d := 0) rfl (sub_cons (d := 1) rfl (sub_cons (d := 4) rfl (sub_cons (d := 5) rfl (sub_cons (d := 6) rfl (sub_cons (d := 18) rfl (sub_cons (d := 32) rfl (sub_nil _)))))))) (.refl _) ?_
        refine hl_nil ?_
        refine hq_then ?_
        refine hc_seq ?_
        refine hc_region ?_
        refine hl_v rfl rfl rfl (rv_ev rfl) ?_
        refine hl_v rfl rfl rfl (rv_ev rfl) ?_
        refine hl_v rfl rfl rfl (rv_ev rfl) ?_
        refine hl_v rfl rfl rfl (rv_slL rfl Try.underlying30 (by kernel_rfl) rfl rfl (rd_old hv) (by omega) (by omega)) ?_
        refine hl_append (i := 1) (z := .int .i64 0) (bytes := 8) (n' := (((xs.take (k).toNat) ++ ([x])) ++ (xs.drop (k).toNat)).length) (xs' := ((((xs.take (k).toNat) ++ ([x])) ++ (xs.drop (k).toNat)).map (Value.int .i64))) (L := fun v22 => [rowE 3 1 (.slice (some ⟨g20, 0, none⟩) 1 1) 1 ([x].map (Value.int .i64)), rowE 3 1 v22 ((((xs.take (k).toNat) ++ ([x])) ++ (xs.drop (k).toNat)).length) ((((xs.take (k).toNat) ++ ([x])) ++ (xs.drop (k).toNat)).map (Value.int .i64))]) rfl rfl rfl rfl Try.underlying30 (by kernel_rfl) (by kernel_rfl) rfl rfl rfl (rd_slL (rd_old hv) (by omega)) (ints_one _) (by simp; omega) (len_app ((xs.take (k).toNat) ++ ([x])) (xs.drop (k).toNat)) (ints_app ((xs.take (k).toNat) ++ ([x])) (xs.drop (k).toNat)) (fun _ => rfl) ?_
        intro v22
        refine hl_v rfl rfl rfl (rv_ev rfl) ?_
        refine hl_less (sub_cons (d := 0) rfl (sub_cons (d := 1) rfl (sub_cons (d := 4) rfl (sub_cons (d := 5) rfl (sub_cons (d := 6) rfl (sub_cons (d := 18) rfl (sub_cons (d := 32) rfl (sub_nil _)))))))) (.refl _) ?_
        refine hl_nil ?_
        refine hq_then ?_
        refine hc_ret ?_
        have e := insI_at xs x k.toNat (by omega) hk2 (by omega)
        exact hq_retR (post := [rowE 3 1 v22 ((((xs.take (k).toNat) ++ ([x])) ++ (xs.drop (k).toNat)).length) ((((xs.take (k).toNat) ++ ([x])) ++ (xs.drop (k).toNat)).map (Value.int .i64))]) rfl rfl ((.cons _ (.cons_cons _ .slnil))) (Or.inr (by rw [e]))
    ·
      refine hl_v rfl rfl rfl (rv_ev rfl) ?_
      refine hl_skip rfl rfl rfl ?_
      refine hl_skip rfl rfl rfl ?_
      refine hl_skip rfl rfl rfl ?_
      refine hl_skip rfl rfl rfl ?_
      refine hl_skip rfl rfl rfl ?_
      refine hl_skip rfl rfl rfl ?_
      refine hl_v rfl rfl rfl (rv_ev rfl) ?_
      refine hl_less (sub_cons (d := 0) rfl (sub_cons (d := 1) rfl (sub_cons (d := 4) rfl (sub_cons (d := 5) rfl (sub_cons (d := 18) rfl (sub_cons (d := 32) rfl (sub_nil _))))))) (.refl _) ?_
      refine hl_nil ?_
      refine hq_then ?_
      refine hc_false rfl ?_
      refine hc_skip ?_
      refine hq_then ?_
      refine hc_seq ?_
      refine hc_region ?_
      refine hl_row rfl rfl rfl (rq_slice0 (s := 1) rfl Try.underlying30 (by kernel_rfl)) ?_
      intro g23
      refine hl_v rfl rfl rfl (rv_ev rfl) ?_
      refine hl_v rfl rfl rfl (rv_ev rfl) ?_
      refine hl_v rfl rfl rfl (rv_slH rfl Try.underlying30 (by kernel_rfl) rfl rfl (rd_old hv) (by omega) (by omega)) ?_
      refine hl_append (i := 0) (z := .int .i64 0) (bytes := 8) (n' := (xs.take (k).toNat).length) (xs' := ((xs.take (k).toNat).map (Value.int .i64))) (L := fun v24 => [rowE 3 1 v24 ((xs.take (k).toNat).length) ((xs.take (k).toNat).map (Value.int .i64))]) rfl rfl rfl rfl Try.underlying30 (by kernel_rfl) (by kernel_rfl) rfl rfl rfl (rd_slH (rd_old hv) (by omega)) (ints_one _) (by simp; omega) ((Nat.zero_add _)) ((List.nil_append _)) (fun _ => rfl) ?_
      intro v24
      refine hl_v rfl rfl rfl (rv_ev rfl) ?_
      refine hl_less (sub_cons (d := 0) rfl (sub_cons (d := 1) rfl (sub_cons (d := 4) rfl (sub_cons (d := 5) rfl (sub_cons (d := 6) rfl (sub_cons (d := 18) rfl (sub_cons (d := 32) rfl (sub_nil _)))))))) (.refl _) ?_
      refine hl_nil ?_
      refine hq_then ?_
      refine hc_seq ?_
      refine hc_region ?_
      refine hl_v rfl rfl rfl (rv_ev rfl) ?_
      refine hl_v rfl rfl rfl (rv_ev rfl) ?_
      refine hl_row rfl rfl rfl (rq_buildSlice (z := .int .i64 0) (s := 1) (cs := ([x].map (Value.int .i64))) rfl Try.underlying30 (by kernel_rfl) (by decide) rfl (by kernel_rfl) rfl) ?_
      intro g25
      refine hl_append (i := 1) (z := .int .i64 0) (bytes := 8) (n' := ((xs.take (k).toNat) ++ ([x])).length) (xs' := (((xs.take (k).toNat) ++ ([x])).map (Value.int .i64))) (L := fun v26 => [rowE 3 1 (.slice (some ⟨g25, 0, none⟩) 1 1) 1 ([x].map (Value.int .i64)), rowE 3 1 v26 (((xs.take (k).toNat) ++ ([x])).length) (((xs.take (k).toNat) ++ ([x])).map (Value.int .i64))]) rfl rfl rfl rfl Try.underlying30 (by kernel_rfl) (by kernel_rfl) rfl rfl rfl (rd_row 0 rfl) (ints_one _) (by simp; omega) (len_app (xs.take (k).toNat) ([x])) (ints_app (xs.take (k).toNat) ([x])) (fun _ => rfl) ?_
      intro v26
      refine hl_v rfl rfl rfl (rv_ev rfl) ?_
      refine hl_less (sub_cons (d := 0) rfl (sub_cons (d := 1) rfl (sub_cons (d := 4) rfl (sub_cons (d := 5) rfl (sub_cons (d := 6) rfl (sub_cons (d := 18) rfl (sub_cons (d := 32) rfl (sub_nil _)))))))) (.refl _) ?_
      refine hl_nil ?_
      refine hq_then ?_
      refine hc_seq ?_
      refine hc_region ?_
      refine hl_v rfl rfl rfl (rv_ev rfl) ?_
      refine hl_v rfl rfl rfl (rv_ev rfl) ?_
      refine hl_v rfl rfl rfl (rv_ev rfl) ?_
      refine hl_v rfl rfl rfl (rv_slL rfl Try.underlying30 (by kernel_rfl) rfl rfl (rd_old hv) (by omega) (by omega)) ?_
      refine hl_append (i := 1) (z := .int .i64 0) (bytes := 8) (n' := (((xs.take (k).toNat) ++ ([x])) ++ (xs.drop (k).toNat)).length) (xs' := ((((xs.take (k).toNat) ++ ([x])) ++ (xs.drop (k).toNat)).map (Value.int .i64))) (L := fun v27 => [rowE 3 1 (.slice (some ⟨g25, 0, none⟩) 1 1) 1 ([x].map (Value.int .i64)), rowE 3 1 v27 ((((xs.take (k).toNat) ++ ([x])) ++ (xs.drop (k).toNat)).length) ((((xs.take (k).toNat) ++ ([x])) ++ (xs.drop (k).toNat)).map (Value.int .i64))]) rfl rfl rfl rfl Try.underlying30 (by kernel_rfl) (by kernel_rfl) rfl rfl rfl (rd_slL (rd_old hv) (by omega)) (ints_one _) (by simp; omega) (len_app ((xs.take (k).toNat) ++ ([x])) (xs.drop (k).toNat)) (ints_app ((xs.take (k).toNat) ++ ([x])) (xs.drop (k).toNat)) (fun _ => rfl) ?_
      intro v27
      refine hl_v rfl rfl rfl (rv_ev rfl) ?_
      refine hl_less (sub_cons (d := 0) rfl (sub_cons (d := 1) rfl (sub_cons (d := 4) rfl (sub_cons (d := 5) rfl (sub_cons (d := 6) rfl (sub_cons (d := 18) rfl (sub_cons (d := 32) rfl (sub_nil _)))))))) (.refl _) ?_
      refine hl_nil ?_
      refine hq_then ?_
      refine hc_ret ?_
      have e := insI_at xs x k.toNat (by omega) hk2 (by omega)
      exact hq_retR (post := [rowE 3 1 v27 ((((xs.take (k).toNat) ++ ([x])) ++ (xs.drop (k).toNat)).length) ((((xs.take (k).toNat) ++ ([x])) ++ (xs.drop (k).toNat)).map (Value.int .i64))]) rfl rfl ((.cons _ (.cons_cons _ .slnil))) (Or.inr (by rw [e]))
end Go.Proofs.Ytnnkbpcfjjijbaa
