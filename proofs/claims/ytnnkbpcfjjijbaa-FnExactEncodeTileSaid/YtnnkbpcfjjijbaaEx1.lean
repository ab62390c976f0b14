/- The laws' own copies: slices of ints: compared, marked, held. -/
import Derived.Test.YtnnkbpcfjjijbaaLog7
set_option linter.unusedVariables false
set_option linter.unusedSimpArgs false
namespace Go.Proofs.Ytnnkbpcfjjijbaa
open Go.RowKit

def seqL (k : Int) (n : Nat) : List Int := (List.range n).map (fun i : Nat => k + i)
theorem seqL_len (k : Int) (n : Nat) : (seqL k n).length = n := by simp [seqL]
theorem seqL_at (k : Int) (n j : Nat) (h : j < n) : (seqL k n).getD j 0 = k + j := by
  rw [List.getD_eq_getElem?_getD, List.getElem?_eq_getElem (by rw [seqL_len]; exact h)]; simp [seqL]
def markL (k : Int) (xs : List Int) (j : Nat) : List Int := seqL k j ++ xs.drop j
theorem markL_len (k : Int) (xs : List Int) (j : Nat) (h : j ≤ xs.length) : (markL k xs j).length = xs.length := by unfold markL; rw [List.length_append, seqL_len, List.length_drop]; omega
theorem markL_succ (k : Int) (xs : List Int) (j : Nat) (h : j < xs.length) : (markL k xs j).set j (k + j) = markL k xs (j + 1) := by
  unfold markL
  rw [List.set_append_right _ _ (by rw [seqL_len]; omega), seqL_len, Nat.sub_self, List.drop_eq_getElem_cons h, List.set_cons_zero]
  rw [show seqL k (j + 1) = seqL k j ++ [k + j] by unfold seqL; rw [List.range_succ, List.map_append]; rfl, List.append_assoc]; rfl
theorem markL_all (k : Int) (xs : List Int) : markL k xs xs.length = seqL k xs.length := by unfold markL; rw [List.drop_length, List.append_nil]
set_option maxHeartbeats 4000000 in
set_option maxRecDepth 100000 in
theorem eqIntS_ans (xs ys : List Int) (u v : Value) (w : World) (hu : RdsW w u 1 xs.length (xs.map (Value.int .i64))) (hv : RdsW w v 1 ys.length (ys.map (Value.int .i64))) (hlen : xs.length ≤ 1000000000000) :
    Calls Try.prog 50 #[u, v] w (Ans w (.bool (decide (xs = ys)))) := by
  refine calls_hc (N := 26) (args := [u, v]) Try.func50 rfl rfl ?_
  refine hc_less _ (sub_cons (d := 0) rfl (sub_cons (d := 1) rfl (sub_nil _))) (.refl _) ?_
  refine hc_seq ?_
  refine hc_region ?_
  refine hl_v rfl rfl rfl (rv_ev rfl) ?_
  refine hl_less (sub_cons (d := 0) rfl (sub_cons (d := 1) rfl (sub_cons (d := 4) rfl (sub_nil _)))) (.refl _) ?_
  refine hl_nil ?_
  refine hq_then ?_
  refine hc_seq ?_
  refine hc_seq ?_
  refine hc_region ?_
  refine hl_v rfl rfl rfl (rv_ev rfl) ?_
  refine hl_v rfl rfl rfl (rv_len rfl Try.underlying30 rfl (rd_old hu)) ?_
  refine hl_v rfl rfl rfl (rv_ev rfl) ?_
  refine hl_v rfl rfl rfl (rv_len rfl Try.underlying30 rfl (rd_old hv)) ?_
  refine hl_neq rfl rfl rfl rfl rfl rfl (fun h1 => ?_) (fun h1 => ?_)
  ·
    refine hl_less (sub_cons (d := 0) rfl (sub_cons (d := 1) rfl (sub_cons (d := 4) rfl (sub_cons (d := 10) rfl (sub_nil _))))) (.refl _) ?_
    refine hl_nil ?_
    refine hq_then ?_
    refine hc_true rfl ?_
    refine hc_seq ?_
    refine hc_region ?_
    refine hl_v rfl rfl rfl (rv_ev rfl) ?_
    refine hl_less (sub_cons (d := 0) rfl (sub_cons (d := 1) rfl (sub_cons (d := 4) rfl (sub_cons (d := 10) rfl (sub_nil _))))) (.refl _) ?_
    refine hl_nil ?_
    refine hq_then ?_
    refine hc_ret ?_
    refine hq_then_ret ?_
    exact hq_ans rfl rfl (congrArg _ (decide_eq_false (fun he => by subst he; first | omega | contradiction | simp_all)).symm)
  ·
    refine hl_less (sub_cons (d := 0) rfl (sub_cons (d := 1) rfl (sub_cons (d := 4) rfl (sub_cons (d := 10) rfl (sub_nil _))))) (.refl _) ?_
    refine hl_nil ?_
    refine hq_then ?_
    refine hc_false rfl ?_
    refine hc_skip ?_
    refine hq_then ?_
    refine hc_seq ?_
    refine hc_seq ?_
    refine hc_region ?_
    refine hl_v rfl rfl rfl (rv_ev rfl) ?_
    refine hl_less (sub_cons (d := 0) rfl (sub_cons (d := 1) rfl (sub_cons (d := 4) rfl (sub_cons (d := 5) rfl (sub_cons (d := 10) rfl (sub_nil _)))))) (.refl _) ?_
    refine hl_nil ?_
    refine hq_then ?_
    refine hc_block ?_
    refine hc_loop1 (α := Nat) (fun j => []) (fun j => [(0, u), (1, v), (4, .bool false), (5, .int .i64 (j : Int)), (10, .bool false)]) (fun j => j ≤ xs.length ∧ ∀ i, i < j → xs.getD i 0 = ys.getD i 0) (fun j => xs.length - j) 0 ⟨by omega, fun i hi => absurd hi (by omega)⟩ (sub_cons (d := 0) rfl (sub_cons (d := 1) rfl (sub_cons (d := 4) rfl (sub_cons (d := 5) rfl (sub_cons (d := 10) rfl (sub_nil _)))))) (.slnil) ?_
    intro j hi2
    obtain ⟨hk1, hk2⟩ := hi2
    refine hc_seq ?_
    refine hc_seq ?_
    refine hc_region ?_
    refine hl_v rfl rfl rfl (rv_ev rfl) ?_
    refine hl_v rfl rfl rfl (rv_ev rfl) ?_
    refine hl_v rfl rfl rfl (rv_len rfl Try.underlying30 rfl (rd_old hu)) ?_
    refine hl_lss rfl rfl rfl rfl rfl rfl (fun h3 => ?_) (fun h3 => ?_)
    ·
      refine hl_less (sub_cons (d := 0) rfl (sub_cons (d := 1) rfl (sub_cons (d := 4) rfl (sub_cons (d := 5) rfl (sub_cons (d := 10) rfl (sub_cons (d := 14) rfl (sub_nil _))))))) (.refl _) ?_
      refine hl_nil ?_
      refine hq_then ?_
      refine hc_true rfl ?_
      refine hc_skip ?_
      refine hq_then ?_
      refine hc_seq ?_
      refine hc_block ?_
      refine hc_seq ?_
      rcases Bool.eq_false_or_eq_true ((xs.getD j 0) != (ys.getD j 0)) with hb4 | hb4
      ·
        have hb4p : xs.getD j 0 ≠ ys.getD j 0 := bne_iff_ne.1 hb4
        refine hc_draw (by kernel_rfl) 9 [0, 1, 2, 3, 4, 5, 6, 7, 8] (List.take 9 _) (List.drop 9 _) [[], [], [0, 1], [2], [], [], [4, 5], [6], [3, 7]] [17, 18, 19, 20, 21, 22, 23, 24, 25] (fun i vs_ v_ p_ => match i with | 0 => v_ = u ∧ p_ = [] | 1 => v_ = .int .i64 (j : Int) ∧ p_ = [] | 2 => v_ = elP u (((j : Int)).toNat * 1) ∧ p_ = [] | 3 => v_ = .int .i64 (xs.getD j 0) ∧ p_ = [] | 4 => v_ = v ∧ p_ = [] | 5 => v_ = .int .i64 (j : Int) ∧ p_ = [] | 6 => v_ = elP v (((j : Int)).toNat * 1) ∧ p_ = [] | 7 => v_ = .int .i64 (ys.getD j 0) ∧ p_ = [] | 8 => v_ = .bool true ∧ p_ = [] | _ => True) (List.take_append_drop 9 _).symm (by kernel_rfl) (by kernel_rfl) rfl rfl ?_ ?_
        ·
          refine ⟨?_, ?_, ?_, ?_, ?_, ?_, ?_, ?_, ?_, trivial⟩
          ·
            intro vf pf hR
            refine Or.inl ⟨rfl, ?_⟩
            refine rq_less (l' := []) (sub_cons (d := 0) rfl (sub_nil _)) (List.sublist_append_right _ _) ?_
            exact rq_v (rv_ev rfl)
          ·
            intro vf pf hR
            refine Or.inl ⟨rfl, ?_⟩
            refine rq_less (l' := []) (sub_cons (d := 5) rfl (sub_nil _)) (List.sublist_append_right _ _) ?_
            exact rq_v (rv_ev rfl)
          ·
            intro vf pf hR
            have e0 : (vf 0) = u ∧ (pf 0) = [] := hR 0 (by decide)
            have e1 : (vf 1) = .int .i64 (j : Int) ∧ (pf 1) = [] := hR 1 (by decide)
            refine Or.inl ⟨rfl, ?_⟩
            refine rq_less (l' := []) (sub_cons (d := 17) (congrArg some e0.1) (sub_cons (d := 18) (congrArg some e1.1) (sub_nil _))) (List.sublist_append_right _ _) ?_
            exact rq_v (rv_index (s := 1) rfl Try.underlying30 (by kernel_rfl) rfl rfl (rd_old hu) (by omega) (by first | omega | (simp only [List.length_set]; omega)))
          ·
            intro vf pf hR
            have e2 : (vf 2) = elP u (((j : Int)).toNat * 1) ∧ (pf 2) = [] := hR 2 (by decide)
            refine Or.inl ⟨rfl, ?_⟩
            refine rq_less (l' := []) (sub_cons (d := 19) (congrArg some e2.1) (sub_nil _)) (List.sublist_append_right _ _) ?_
            exact rq_v (rv_loadEl (u := .int .i64 (xs.getD j 0)) rfl (by kernel_rfl) rfl (rd_old hu) (ints_at1 (show _ < xs.length by first | omega | (simp only [List.length_set]; omega))))
          ·
            intro vf pf hR
            refine Or.inl ⟨rfl, ?_⟩
            refine rq_less (l' := []) (sub_cons (d := 1) rfl (sub_nil _)) (List.sublist_append_right _ _) ?_
            exact rq_v (rv_ev rfl)
          ·
            intro vf pf hR
            refine Or.inl ⟨rfl, ?_⟩
            refine rq_less (l' := []) (sub_cons (d := 5) rfl (sub_nil _)) (List.sublist_append_right _ _) ?_
            exact rq_v (rv_ev rfl)
          ·
            intro vf pf hR
            have e4 : (vf 4) = v ∧ (pf 4) = [] := hR 4 (by decide)
            have e5 : (vf 5) = .int .i64 (j : Int) ∧ (pf 5) = [] := hR 5 (by decide)
            refine Or.inl ⟨rfl, ?_⟩
            refine rq_less (l' := []) (sub_cons (d := 21) (congrArg some e4.1) (sub_cons (d := 22) (congrArg some e5.1) (sub_nil _))) (List.sublist_append_right _ _) ?_
            exact rq_v (rv_index (s := 1) rfl Try.underlying30 (by kernel_rfl) rfl rfl (rd_old hv) (by omega) (by first | omega | (simp only [List.length_set]; omega)))
          ·
            intro vf pf hR
            have e6 : (vf 6) = elP v (((j : Int)).toNat * 1) ∧ (pf 6) = [] := hR 6 (by decide)
            refine Or.inl ⟨rfl, ?_⟩
            refine rq_less (l' := []) (sub_cons (d := 23) (congrArg some e6.1) (sub_nil _)) (List.sublist_append_right _ _) ?_
            exact rq_v (rv_loadEl (u := .int .i64 (ys.getD j 0)) rfl (by kernel_rfl) rfl (rd_old hv) (ints_at1 (show _ < ys.length by first | omega | (simp only [List.length_set]; omega))))
          ·
            intro vf pf hR
            have e3 : (vf 3) = .int .i64 (xs.getD j 0) ∧ (pf 3) = [] := hR 3 (by decide)
            have e7 : (vf 7) = .int .i64 (ys.getD j 0) ∧ (pf 7) = [] := hR 7 (by decide)
            refine Or.inl ⟨rfl, ?_⟩
            refine rq_less (l' := []) (sub_cons (d := 20) (congrArg some e3.1) (sub_cons (d := 24) (congrArg some e7.1) (sub_nil _))) (List.sublist_append_right _ _) ?_
            exact rq_mono (rq_v (rv_cmp rfl rfl rfl rfl)) (fun _ _ h => ⟨h.1.trans (congrArg Value.bool hb4), h.2⟩)
        ·
          intro vf pf hR
          have e8 : (vf 8) = .bool true ∧ (pf 8) = [] := hR 8 (by decide)
          refine hl_less (l' := []) (sub_cons (d := 0) rfl (sub_cons (d := 1) rfl (sub_cons (d := 4) rfl (sub_cons (d := 5) rfl (sub_cons (d := 10) rfl (sub_cons (d := 14) rfl (sub_cons (d := 25) (congrArg some e8.1) (sub_nil _)))))))) (List.sublist_append_right _ _) ?_
          simp only [List.drop_succ_cons, List.drop_zero]
          refine hl_less (sub_cons (d := 0) rfl (sub_cons (d := 1) rfl (sub_cons (d := 4) rfl (sub_cons (d := 5) rfl (sub_cons (d := 10) rfl (sub_cons (d := 14) rfl (sub_cons (d := 25) rfl (sub_nil _)))))))) (.refl _) ?_
          refine hl_nil ?_
          refine hq_then ?_
          refine hc_true rfl ?_
          refine hc_seq ?_
          refine hc_region ?_
          refine hl_v rfl rfl rfl (rv_ev rfl) ?_
          refine hl_less (sub_cons (d := 0) rfl (sub_cons (d := 1) rfl (sub_cons (d := 4) rfl (sub_cons (d := 5) rfl (sub_cons (d := 10) rfl (sub_cons (d := 14) rfl (sub_cons (d := 25) rfl (sub_nil _)))))))) (.refl _) ?_
          refine hl_nil ?_
          refine hq_then ?_
          refine hc_ret ?_
          refine hq_block_ret ?_
          refine hq_then_ret ?_
          refine hq_then_ret ?_
          refine hq_block_ret ?_
          refine hq_then_ret ?_
          exact hq_ans rfl rfl (congrArg _ (decide_eq_false (fun he => by subst he; first | omega | contradiction | simp_all)).symm)
      ·
        have hb4p : xs.getD j 0 = ys.getD j 0 := by simpa using hb4
        refine hc_draw (by kernel_rfl) 9 [0, 1, 2, 3, 4, 5, 6, 7, 8] (List.take 9 _) (List.drop 9 _) [[], [], [0, 1], [2], [], [], [4, 5], [6], [3, 7]] [17, 18, 19, 20, 21, 22, 23, 24, 25] (fun i vs_ v_ p_ => match i with | 0 => v_ = u ∧ p_ = [] | 1 => v_ = .int .i64 (j : Int) ∧ p_ = [] | 2 => v_ = elP u (((j : Int)).toNat * 1) ∧ p_ = [] | 3 => v_ = .int .i64 (xs.getD j 0) ∧ p_ = [] | 4 => v_ = v ∧ p_ = [] | 5 => v_ = .int .i64 (j : Int) ∧ p_ = [] | 6 => v_ = elP v (((j : Int)).toNat * 1) ∧ p_ = [] | 7 => v_ = .int .i64 (ys.getD j 0) ∧ p_ = [] | 8 => v_ = .bool false ∧ p_ = [] | _ => True) (List.take_append_drop 9 _).symm (by kernel_rfl) (by kernel_rfl) rfl rfl ?_ ?_
        ·
          refine ⟨?_, ?_, ?_, ?_, ?_, ?_, ?_, ?_, ?_, trivial⟩
          ·
            intro vf pf hR
            refine Or.inl ⟨rfl, ?_⟩
            refine rq_less (l' := []) (sub_cons (d := 0) rfl (sub_nil _)) (List.sublist_append_right _ _) ?_
            exact rq_v (rv_ev rfl)
          ·
            intro vf pf hR
            refine Or.inl ⟨rfl, ?_⟩
            refine rq_less (l' := []) (sub_cons (d := 5) rfl (sub_nil _)) (List.sublist_append_right _ _) ?_
            exact rq_v (rv_ev rfl)
          ·
            intro vf pf hR
            have e0 : (vf 0) = u ∧ (pf 0) = [] := hR 0 (by decide)
            have e1 : (vf 1) = .int .i64 (j : Int) ∧ (pf 1) = [] := hR 1 (by decide)
            refine Or.inl ⟨rfl, ?_⟩
            refine rq_less (l' := []) (sub_cons (d := 17) (congrArg some e0.1) (sub_cons (d := 18) (congrArg some e1.1) (sub_nil _))) (List.sublist_append_right _ _) ?_
            exact rq_v (rv_index (s := 1) rfl Try.underlying30 (by kernel_rfl) rfl rfl (rd_old hu) (by omega) (by first | omega | (simp only [List.length_set]; omega)))
          ·
            intro vf pf hR
            have e2 : (vf 2) = elP u (((j : Int)).toNat * 1) ∧ (pf 2) = [] := hR 2 (by decide)
            refine Or.inl ⟨rfl, ?_⟩
            refine rq_less (l' := []) (sub_cons (d := 19) (congrArg some e2.1) (sub_nil _)) (List.sublist_append_right _ _) ?_
            exact rq_v (rv_loadEl (u := .int .i64 (xs.getD j 0)) rfl (by kernel_rfl) rfl (rd_old hu) (ints_at1 (show _ < xs.length by first | omega | (simp only [List.length_set]; omega))))
          ·
            intro vf pf hR
            refine Or.inl ⟨rfl, ?_⟩
            refine rq_less (l' := []) (sub_cons (d := 1) rfl (sub_nil _)) (List.sublist_append_right _ _) ?_
            exact rq_v (rv_ev rfl)
          ·
            intro vf pf hR
            refine Or.inl ⟨rfl, ?_⟩
            refine rq_less (l' := []) (sub_cons (d := 5) rfl (sub_nil _)) (List.sublist_append_right _ _) ?_
            exact rq_v (rv_ev rfl)
          ·
            intro vf pf hR
            have e4 : (vf 4) = v ∧ (pf 4) = [] := hR 4 (by decide)
            have e5 : (vf 5) = .int .i64 (j : Int) ∧ (pf 5) = [] := hR 5 (by decide)
            refine Or.inl ⟨rfl, ?_⟩
            refine rq_less (l' := []) (sub_cons (d := 21) (congrArg some e4.1) (sub_cons (d := 22) (congrArg some e5.1) (sub_nil _))) (List.sublist_append_right _ _) ?_
            exact rq_v (rv_index (s := 1) rfl Try.underlying30 (by kernel_rfl) rfl rfl (rd_old hv) (by omega) (by first | omega | (simp only [List.length_set]; omega)))
          ·
            intro vf pf hR
            have e6 : (vf 6) = elP v (((j : Int)).toNat * 1) ∧ (pf 6) = [] := hR 6 (by decide)
            refine Or.inl ⟨rfl, ?_⟩
            refine rq_less (l' := []) (sub_cons (d := 23) (congrArg some e6.1) (sub_nil _)) (List.sublist_append_right _ _) ?_
            exact rq_v (rv_loadEl (u := .int .i64 (ys.getD j 0)) rfl (by kernel_rfl) rfl (rd_old hv) (ints_at1 (show _ < ys.length by first | omega | (simp only [List.length_set]; omega))))
          ·
            intro vf pf hR
            have e3 : (vf 3) = .int .i64 (xs.getD j 0) ∧ (pf 3) = [] := hR 3 (by decide)
            have e7 : (vf 7) = .int .i64 (ys.getD j 0) ∧ (pf 7) = [] := hR 7 (by decide)
            refine Or.inl ⟨rfl, ?_⟩
            refine rq_less (l' := []) (sub_cons (d := 20) (congrArg some e3.1) (sub_cons (d := 24) (congrArg some e7.1) (sub_nil _))) (List.sublist_append_right _ _) ?_
            exact rq_mono (rq_v (rv_cmp rfl rfl rfl rfl)) (fun _ _ h => ⟨h.1.trans (congrArg Value.bool hb4), h.2⟩)
        ·
          intro vf pf hR
          have e8 : (vf 8) = .bool false ∧ (pf 8) = [] := hR 8 (by decide)
          refine hl_less (l' := []) (sub_cons (d := 0) rfl (sub_cons (d := 1) rfl (sub_cons (d := 4) rfl (sub_cons (d := 5) rfl (sub_cons (d := 10) rfl (sub_cons (d := 14) rfl (sub_cons (d := 25) (congrArg some e8.1) (sub_nil _)))))))) (List.sublist_append_right _ _) ?_
          simp only [List.drop_succ_cons, List.drop_zero]
          refine hl_less (sub_cons (d := 0) rfl (sub_cons (d := 1) rfl (sub_cons (d := 4) rfl (sub_cons (d := 5) rfl (sub_cons (d := 10) rfl (sub_cons (d := 14) rfl (sub_cons (d := 25) rfl (sub_nil _)))))))) (.refl _) ?_
          refine hl_nil ?_
          refine hq_then ?_
          refine hc_false rfl ?_
          refine hc_skip ?_
          refine hq_block_normal ?_
          refine hq_then ?_
          refine hc_region ?_
          refine hl_v rfl rfl rfl (rv_ev rfl) ?_
          refine hl_v rfl rfl rfl (rv_add rfl rfl rfl (by constructor <;> omega)) ?_
          refine hl_v rfl rfl rfl (rv_ev rfl) ?_
          refine hl_less (sub_cons (d := 0) rfl (sub_cons (d := 1) rfl (sub_cons (d := 4) rfl (sub_cons (d := 5) rfl (sub_cons (d := 10) rfl (sub_cons (d := 14) rfl (sub_cons (d := 25) rfl (sub_nil _)))))))) (.refl _) ?_
          refine hl_nil ?_
          exact hq_round1 (j + 1) ⟨by omega, fun i hi => by by_cases hij : i = j; (subst hij; simpa using (by assumption)); exact hk2 i (by omega)⟩ (by omega) (sub_cons (d := 0) rfl (sub_cons (d := 1) rfl (sub_cons (d := 4) rfl (sub_cons (d := 5) rfl (sub_cons (d := 10) rfl (sub_nil _)))))) (.slnil)
    ·
      refine hl_less (sub_cons (d := 0) rfl (sub_cons (d := 1) rfl (sub_cons (d := 4) rfl (sub_cons (d := 5) rfl (sub_cons (d := 10) rfl (sub_cons (d := 14) rfl (sub_nil _))))))) (.refl _) ?_
      refine hl_nil ?_
      refine hq_then ?_
      refine hc_false rfl ?_
      refine hc_exit ?_
      refine hq_then_exit ?_
      refine hq_then_exit ?_
      refine hq_block_exit ?_
      refine hq_then ?_
      refine hc_seq ?_
      refine hc_region ?_
      refine hl_v rfl rfl rfl (rv_ev rfl) ?_
      refine hl_less (sub_cons (d := 0) rfl (sub_cons (d := 1) rfl (sub_cons (d := 4) rfl (sub_cons (d := 5) rfl (sub_cons (d := 10) rfl (sub_cons (d := 14) rfl (sub_nil _))))))) (.refl _) ?_
      refine hl_nil ?_
      refine hq_then ?_
      refine hc_ret ?_
      exact hq_ans rfl rfl (congrArg _ (decide_eq_true (ext_getD (d := 0) (by omega) (fun i hi => hk2 i (by omega)))).symm)
set_option maxHeartbeats 4000000 in
set_option maxRecDepth 100000 in
theorem markIntS_mut (xs : List Int) (k : Int) (v : Value) (w0 : World) (l : List HP) (w : World) (hm0 : Mem w0 (rowE 3 1 v xs.length (xs.map (Value.int .i64)) :: l) w) (hk : -1000000000000000 ≤ k ∧ k ≤ 1000000000000000) (hlen : xs.length ≤ 1000000000000) :
    Calls Try.prog 51 #[v, .int .i64 k] w (fun e_ w_ => ∃ v_ p_, e_ = .returned v_ ∧ (fun u p' => u = .int .i64 (k + xs.length) ∧ p' = rowE 3 1 v xs.length ((seqL k xs.length).map (Value.int .i64))) v_ p_ ∧ Mem w0 (p_ :: l) w_) := by
  refine calls_hcM (N := 19) (args := [v, .int .i64 k]) Try.func51 rfl rfl hm0 ?_
  refine hc_less _ (sub_cons (d := 0) rfl (sub_cons (d := 1) rfl (sub_nil _))) (.refl _) ?_
  refine hc_seq ?_
  refine hc_region ?_
  refine hl_v rfl rfl rfl (rv_ev rfl) ?_
  refine hl_less (sub_cons (d := 0) rfl (sub_cons (d := 1) rfl (sub_cons (d := 4) rfl (sub_nil _)))) (.refl _) ?_
  refine hl_nil ?_
  refine hq_then ?_
  refine hc_seq ?_
  refine hc_seq ?_
  refine hc_region ?_
  refine hl_v rfl rfl rfl (rv_ev rfl) ?_
  refine hl_less (sub_cons (d := 0) rfl (sub_cons (d := 1) rfl (sub_cons (d := 4) rfl (sub_cons (d := 5) rfl (sub_nil _))))) (.refl _) ?_
  refine hl_nil ?_
  refine hq_then ?_
  refine hc_block ?_
  refine hc_loop3 (α := Nat) (β := Int) (γ := List Int) (fun j q zs => (rowE 3 1 v zs.length (zs.map (Value.int .i64)) :: l)) (fun j q zs => [(0, v), (1, .int .i64 q), (4, .int .i64 0), (5, .int .i64 (j : Int))]) (fun j q zs => j ≤ xs.length ∧ q = k + j ∧ zs = markL k xs j ∧ zs.length = xs.length) (fun j q zs => xs.length - j) 0 k xs ⟨by omega, by omega, by simp [markL, seqL], rfl⟩ (sub_cons (d := 0) rfl (sub_cons (d := 1) rfl (sub_cons (d := 4) rfl (sub_cons (d := 5) rfl (sub_nil _))))) ((.cons_cons _ (.refl _))) ?_
  intro j q zs hi1
  obtain ⟨hj, hq, hz, hzl⟩ := hi1
  refine hc_seq ?_
  refine hc_seq ?_
  refine hc_region ?_
  refine hl_v rfl rfl rfl (rv_ev rfl) ?_
  refine hl_v rfl rfl rfl (rv_ev rfl) ?_
  refine hl_v rfl rfl rfl (rv_len rfl Try.underlying30 rfl (rd_row 0 rfl)) ?_
  refine hl_lss rfl rfl rfl rfl rfl rfl (fun h2 => ?_) (fun h2 => ?_)
  ·
    refine hl_less (sub_cons (d := 0) rfl (sub_cons (d := 1) rfl (sub_cons (d := 4) rfl (sub_cons (d := 5) rfl (sub_cons (d := 9) rfl (sub_nil _)))))) (.refl _) ?_
    refine hl_nil ?_
    refine hq_then ?_
    refine hc_true rfl ?_
    refine hc_skip ?_
    refine hq_then ?_
    refine hc_seq ?_
    refine hc_block ?_
    refine hc_seq ?_
    refine hc_region ?_
    refine hl_v rfl rfl rfl (rv_ev rfl) ?_
    refine hl_v rfl rfl rfl (rv_ev rfl) ?_
    refine hl_v rfl rfl rfl (rv_ev rfl) ?_
    refine hl_v rfl rfl rfl (rv_index (s := 1) rfl Try.underlying30 (by kernel_rfl) rfl rfl (rd_row 0 rfl) (by omega) (by first | omega | (simp only [List.length_set]; omega))) ?_
    refine hl_storeEl (i := 0) (n' := (zs.set j q).length) (xs' := ((zs.set j q).map (Value.int .i64))) (l' := (rowE 3 1 v ((zs.set j q).length) ((zs.set j q).map (Value.int .i64)) :: l)) rfl rfl rfl (by kernel_rfl) rfl rfl rfl rfl (by first | omega | (simp only [List.length_set]; omega)) List.length_set.symm (ints_set _ _ _) rfl ?_
    refine hl_less (sub_cons (d := 0) rfl (sub_cons (d := 1) rfl (sub_cons (d := 4) rfl (sub_cons (d := 5) rfl (sub_cons (d := 9) rfl (sub_nil _)))))) (.refl _) ?_
    refine hl_nil ?_
    refine hq_then ?_
    refine hc_region ?_
    refine hl_v rfl rfl rfl (rv_ev rfl) ?_
    refine hl_v rfl rfl rfl (rv_add rfl rfl rfl (by constructor <;> omega)) ?_
    refine hl_v rfl rfl rfl (rv_ev rfl) ?_
    refine hl_less (sub_cons (d := 0) rfl (sub_cons (d := 1) rfl (sub_cons (d := 4) rfl (sub_cons (d := 5) rfl (sub_cons (d := 9) rfl (sub_nil _)))))) (.refl _) ?_
    refine hl_nil ?_
    refine hq_block_normal ?_
    refine hq_then ?_
    refine hc_region ?_
    refine hl_v rfl rfl rfl (rv_ev rfl) ?_
    refine hl_v rfl rfl rfl (rv_add rfl rfl rfl (by constructor <;> omega)) ?_
    refine hl_v rfl rfl rfl (rv_ev rfl) ?_
    refine hl_less (sub_cons (d := 0) rfl (sub_cons (d := 1) rfl (sub_cons (d := 4) rfl (sub_cons (d := 5) rfl (sub_cons (d := 9) rfl (sub_nil _)))))) (.refl _) ?_
    refine hl_nil ?_
    exact hq_round3 (j + 1) _ _ ⟨by omega, by omega, by rw [hz, hq]; exact markL_succ k xs j (by omega), by rw [List.length_set]; exact hzl⟩ (by omega) (sub_cons (d := 0) rfl (sub_cons (d := 1) rfl (sub_cons (d := 4) rfl (sub_cons (d := 5) rfl (sub_nil _))))) ((.cons_cons _ (.refl _)))
  ·
    refine hl_less (sub_cons (d := 0) rfl (sub_cons (d := 1) rfl (sub_cons (d := 4) rfl (sub_cons (d := 5) rfl (sub_cons (d := 9) rfl (sub_nil _)))))) (.refl _) ?_
    refine hl_nil ?_
    refine hq_then ?_
    refine hc_false rfl ?_
    refine hc_exit ?_
    refine hq_then_exit ?_
    refine hq_then_exit ?_
    refine hq_block_exit ?_
    refine hq_then ?_
    refine hc_seq ?_
    refine hc_region ?_
    refine hl_v rfl rfl rfl (rv_ev rfl) ?_
    refine hl_v rfl rfl rfl (rv_ev rfl) ?_
    refine hl_less (sub_cons (d := 0) rfl (sub_cons (d := 1) rfl (sub_cons (d := 4) rfl (sub_cons (d := 5) rfl (sub_cons (d := 9) rfl (sub_nil _)))))) (.refl _) ?_
    refine hl_nil ?_
    refine hq_then ?_
    refine hc_ret ?_
    have hjx : j = xs.length := by omega
    exact hq_retMut (p' := rowE 3 1 v zs.length (zs.map (Value.int .i64))) rfl rfl (.refl _) ⟨by rw [hq, hjx], by rw [hz, hjx, markL_all, seqL_len]⟩
set_option maxHeartbeats 4000000 in
set_option maxRecDepth 100000 in
theorem heldIntS_ans (n : Nat) (k : Int) (v : Value) (w : World) (hv : RdsW w v 1 n ((seqL k n).map (Value.int .i64))) (hk : -1000000000000000 ≤ k ∧ k ≤ 1000000000000000) (hlen : n ≤ 1000000000000) :
    Calls Try.prog 54 #[v, .int .i64 k] w (Ans w (.int .i64 (k + n))) := by
  have hsl := seqL_len k n
  have hv2 : RdsW w v 1 (seqL k n).length ((seqL k n).map (Value.int .i64)) := by rw [hsl]; exact hv
  refine calls_hc (N := 21) (args := [v, .int .i64 k]) Try.func54 rfl rfl ?_
  refine hc_less _ (sub_cons (d := 0) rfl (sub_cons (d := 1) rfl (sub_nil _))) (.refl _) ?_
  refine hc_seq ?_
  refine hc_region ?_
  refine hl_v rfl rfl rfl (rv_ev rfl) ?_
  refine hl_less (sub_cons (d := 0) rfl (sub_cons (d := 1) rfl (sub_cons (d := 4) rfl (sub_nil _)))) (.refl _) ?_
  refine hl_nil ?_
  refine hq_then ?_
  refine hc_seq ?_
  refine hc_seq ?_
  refine hc_region ?_
  refine hl_v rfl rfl rfl (rv_ev rfl) ?_
  refine hl_less (sub_cons (d := 0) rfl (sub_cons (d := 1) rfl (sub_cons (d := 4) rfl (sub_cons (d := 5) rfl (sub_nil _))))) (.refl _) ?_
  refine hl_nil ?_
  refine hq_then ?_
  refine hc_block ?_
  refine hc_loop2 (α := Nat) (β := Int) (fun j q => []) (fun j q => [(0, v), (1, .int .i64 q), (4, .int .i64 0), (5, .int .i64 (j : Int))]) (fun j q => j ≤ n ∧ q = k + j) (fun j q => n - j) 0 k ⟨by omega, by omega⟩ (sub_cons (d := 0) rfl (sub_cons (d := 1) rfl (sub_cons (d := 4) rfl (sub_cons (d := 5) rfl (sub_nil _))))) (.slnil) ?_
  intro j q hi1
  obtain ⟨hj, hq⟩ := hi1
  refine hc_seq ?_
  refine hc_seq ?_
  refine hc_region ?_
  refine hl_v rfl rfl rfl (rv_ev rfl) ?_
  refine hl_v rfl rfl rfl (rv_ev rfl) ?_
  refine hl_v rfl rfl rfl (rv_len rfl Try.underlying30 rfl (rd_old hv2)) ?_
  refine hl_lss rfl rfl rfl rfl rfl rfl (fun h2 => ?_) (fun h2 => ?_)
  ·
    refine hl_less (sub_cons (d := 0) rfl (sub_cons (d := 1) rfl (sub_cons (d := 4) rfl (sub_cons (d := 5) rfl (sub_cons (d := 9) rfl (sub_nil _)))))) (.refl _) ?_
    refine hl_nil ?_
    refine hq_then ?_
    refine hc_true rfl ?_
    refine hc_skip ?_
    refine hq_then ?_
    refine hc_seq ?_
    refine hc_block ?_
    refine hc_seq ?_
    refine hc_seq ?_
    refine hc_region ?_
    have hsa := seqL_at k n j (by omega)
    refine hl_v rfl rfl rfl (rv_ev rfl) ?_
    refine hl_v rfl rfl rfl (rv_ev rfl) ?_
    refine hl_v rfl rfl rfl (rv_index (s := 1) rfl Try.underlying30 (by kernel_rfl) rfl rfl (rd_old hv2) (by omega) (by first | omega | (simp only [List.length_set]; omega))) ?_
    refine hl_v rfl rfl rfl (rv_loadEl (u := .int .i64 ((seqL k n).getD j 0)) rfl (by kernel_rfl) rfl (rd_old hv2) (ints_at1 (show _ < (seqL k n).length by first | omega | (simp only [List.length_set]; omega)))) ?_
    refine hl_v rfl rfl rfl (rv_ev rfl) ?_
    refine hl_neq rfl rfl rfl rfl rfl rfl (fun h3 => absurd h3 (by omega)) (fun h3 => ?_)
    refine hl_less (sub_cons (d := 0) rfl (sub_cons (d := 1) rfl (sub_cons (d := 4) rfl (sub_cons (d := 5) rfl (sub_cons (d := 9) rfl (sub_cons (d := 17) rfl (sub_nil _))))))) (.refl _) ?_
    refine hl_nil ?_
    refine hq_then ?_
    refine hc_false rfl ?_
    refine hc_skip ?_
    refine hq_then ?_
    refine hc_region ?_
    refine hl_v rfl rfl rfl (rv_ev rfl) ?_
    refine hl_v rfl rfl rfl (rv_add rfl rfl rfl (by constructor <;> omega)) ?_
    refine hl_v rfl rfl rfl (rv_ev rfl) ?_
    refine hl_less (sub_cons (d := 0) rfl (sub_cons (d := 1) rfl (sub_cons (d := 4) rfl (sub_cons (d := 5) rfl (sub_cons (d := 9) rfl (sub_cons (d := 17) rfl (sub_nil _))))))) (.refl _) ?_
    refine hl_nil ?_
    refine hq_block_normal ?_
    refine hq_then ?_
    refine hc_region ?_
    refine hl_v rfl rfl rfl (rv_ev rfl) ?_
    refine hl_v rfl rfl rfl (rv_add rfl rfl rfl (by constructor <;> omega)) ?_
    refine hl_v rfl rfl rfl (rv_ev rfl) ?_
    refine hl_less (sub_cons (d := 0) rfl (sub_cons (d := 1) rfl (sub_cons (d := 4) rfl (sub_cons (d := 5) rfl (sub_cons (d := 9) rfl (sub_cons (d := 17) rfl (sub_nil _))))))) (.refl _) ?_
    refine hl_nil ?_
    exact hq_round2 (j + 1) _ ⟨by omega, by omega⟩ (by omega) (sub_cons (d := 0) rfl (sub_cons (d := 1) rfl (sub_cons (d := 4) rfl (sub_cons (d := 5) rfl (sub_nil _))))) (.slnil)
  ·
    refine hl_less (sub_cons (d := 0) rfl (sub_cons (d := 1) rfl (sub_cons (d := 4) rfl (sub_cons (d := 5) rfl (sub_cons (d := 9) rfl (sub_nil _)))))) (.refl _) ?_
    refine hl_nil ?_
    refine hq_then ?_
    refine hc_false rfl ?_
    refine hc_exit ?_
    refine hq_then_exit ?_
    refine hq_then_exit ?_
    refine hq_block_exit ?_
    refine hq_then ?_
    refine hc_seq ?_
    refine hc_region ?_
    refine hl_v rfl rfl rfl (rv_ev rfl) ?_
    refine hl_v rfl rfl rfl (rv_ev rfl) ?_
    refine hl_less (sub_cons (d := 0) rfl (sub_cons (d := 1) rfl (sub_cons (d := 4) rfl (sub_cons (d := 5) rfl (sub_cons (d := 9) rfl (sub_nil _)))))) (.refl _) ?_
    refine hl_nil ?_
    refine hq_then ?_
    refine hc_ret ?_
    exact hq_ans rfl rfl (by rw [hq, show j = n by omega])
end Go.Proofs.Ytnnkbpcfjjijbaa
