/- Texts of the law FnTileRound, part 5: what it uses. -/
import Derived.Test.YtnnkbpcfjjijbaaTr4
set_option linter.unusedVariables false
set_option linter.unusedSimpArgs false
namespace Go.Proofs.Ytnnkbpcfjjijbaa
open Go.RowKit Go.ChangeShapes
open Go.RowKit
set_option maxHeartbeats 4000000 in
set_option maxRecDepth 100000 in
theorem sameLes_ans (ea eb : List Le) (u v : Value) (w : World) (hu : RdsW w u 4 ea.length (ea.flatMap Le.cells)) (hv : RdsW w v 4 eb.length (eb.flatMap Le.cells)) (has : ∀ e ∈ ea, e.Rd1 w) (hbs : ∀ e ∈ eb, e.Rd1 w) (hlen : ea.length ≤ 2000000) :
  Calls Try.prog 126 #[u, v] w (Ans w (.bool (decide (ea.map Le.val = eb.map Le.val)))) := by
 refine calls_hc (N := 68) (args := [u, v]) Try.func126 rfl rfl ?_
 refine hc_less _ (sx 0 rfl (sx 1 rfl (sub_nil _))) (.refl _) ?_
 refine hc_seq ?_
 refine hc_region ?_
 refine hl_v rfl rfl rfl (rv_ev rfl) ?_
 refine hl_less (sx 0 rfl (sx 1 rfl (sx 4 rfl (sub_nil _)))) (.refl _) ?_
 refine hl_nil ?_
 refine hq_then ?_
 refine hc_seq ?_
 refine hc_seq ?_
 refine hc_region ?_
 refine hl_v rfl rfl rfl (rv_ev rfl) ?_
 refine hl_v rfl rfl rfl (rv_len rfl Try.underlying37 rfl (rd_old hu)) ?_
 refine hl_v rfl rfl rfl (rv_ev rfl) ?_
 refine hl_v rfl rfl rfl (rv_len rfl Try.underlying37 rfl (rd_old hv)) ?_
 refine hl_neq rfl rfl rfl rfl rfl rfl (fun h1 => ?_) (fun h1 => ?_)
 ·
  refine hl_less (sx 0 rfl (sx 1 rfl (sx 4 rfl (sx 10 rfl (sub_nil _))))) (.refl _) ?_
  refine hl_nil ?_
  refine hq_then ?_
  refine hc_true rfl ?_
  refine hc_seq ?_
  refine hc_region ?_
  refine hl_v rfl rfl rfl (rv_ev rfl) ?_
  refine hl_less (sx 0 rfl (sx 1 rfl (sx 4 rfl (sx 10 rfl (sub_nil _))))) (.refl _) ?_
  refine hl_nil ?_
  refine hq_then ?_
  refine hc_ret ?_
  refine hq_then_ret ?_
  exact hq_ans rfl rfl (congrArg _ (decide_eq_false (fun he => by first | (have := congrArg List.length he; simp at this; omega) | (have h9 := map_at (d := Le0) he (i := j) (by omega); simp only [Le.val, Prod.mk.injEq] at h9; obtain ⟨q1, q2, q3, q4⟩ := h9; first | omega | contradiction))).symm)
 ·
  refine hl_less (sx 0 rfl (sx 1 rfl (sx 4 rfl (sx 10 rfl (sub_nil _))))) (.refl _) ?_
  refine hl_nil ?_
  refine hq_then ?_
  refine hc_false rfl ?_
  refine hc_skip ?_
  refine hq_then ?_
  refine hc_seq ?_
  refine hc_seq ?_
  refine hc_region ?_
  refine hl_v rfl rfl rfl (rv_ev rfl) ?_
  refine hl_less (sx 0 rfl (sx 1 rfl (sx 4 rfl (sx 5 rfl (sx 10 rfl (sub_nil _)))))) (.refl _) ?_
  refine hl_nil ?_
  refine hq_then ?_
  refine hc_block ?_
  refine hc_loop1 (α := Nat) (fun j => []) (fun j => [(0, u), (1, v), (4, .bool false), (5, .int .i64 (j : Int)), (10, .bool false)]) (fun j => j ≤ ea.length ∧ ∀ i, i < j → (ea.getD i Le0).val = (eb.getD i Le0).val) (fun j => ea.length - j) 0 ⟨by omega, fun i hi => absurd hi (by omega)⟩ (sx 0 rfl (sx 1 rfl (sx 4 rfl (sx 5 rfl (sx 10 rfl (sub_nil _)))))) (.slnil) ?_
  intro j hi2
  obtain ⟨hk1, hk2⟩ := hi2
  refine hc_seq ?_
  refine hc_seq ?_
  refine hc_region ?_
  refine hl_v rfl rfl rfl (rv_ev rfl) ?_
  refine hl_v rfl rfl rfl (rv_ev rfl) ?_
  refine hl_v rfl rfl rfl (rv_len rfl Try.underlying37 rfl (rd_old hu)) ?_
  refine hl_lss rfl rfl rfl rfl rfl rfl (fun h3 => ?_) (fun h3 => ?_)
  ·
   refine hl_less (sx 0 rfl (sx 1 rfl (sx 4 rfl (sx 5 rfl (sx 10 rfl (sx 14 rfl (sub_nil _))))))) (.refl _) ?_
   refine hl_nil ?_
   refine hq_then ?_
   refine hc_true rfl ?_
   refine hc_skip ?_
   refine hq_then ?_
   refine hc_seq ?_
   refine hc_block ?_
   refine hc_seq ?_
   rcases Bool.eq_false_or_eq_true (((ea.getD j Le0).m) != ((eb.getD j Le0).m)) with hb4 | hb4
   ·
    have hb4p : (ea.getD j Le0).m ≠ (eb.getD j Le0).m := bne_iff_ne.1 hb4
    refine hc_draw (by kernel_rfl) 51 [0, 1, 2, 3, 4, 5, 6, 7, 8, 9, 10, 11, 12, 13, 14, 15, 16, 17, 18, 19, 20, 21, 22, 23, 24, 25, 26, 27, 28, 29, 30, 31, 32, 33, 34, 35, 36, 37, 38, 39, 40, 41, 42, 43, 44, 45, 46, 47, 48, 49, 50] (List.take 51 _) (List.drop 51 _) [[], [], [0, 1], [2], [3], [], [], [5, 6], [7], [8], [4, 9], [10], [11], [11], [11], [11], [11], [11], [11], [11], [11], [11], [11], [11, 22], [23], [24], [24], [24], [24], [24], [24], [24], [24], [24], [24], [24], [24, 35], [36], [37], [37], [37], [37], [37], [37], [37], [37], [37], [37], [37], [37], [37, 49]] [17, 18, 19, 20, 21, 22, 23, 24, 25, 26, 27, 28, 29, 30, 31, 32, 33, 34, 35, 36, 37, 38, 39, 40, 41, 42, 43, 44, 45, 46, 47, 48, 49, 50, 51, 52, 53, 54, 55, 56, 57, 58, 59, 60, 61, 62, 63, 64, 65, 66, 67] (fun i vs_ v_ p_ => match i with | 0 => v_ = u ∧ p_ = [] | 1 => v_ = .int .i64 (j : Int) ∧ p_ = [] | 2 => v_ = elP u (((j : Int)).toNat * 4) ∧ p_ = [] | 3 => v_ = elP u (((j : Int)).toNat * 4 + 1) ∧ p_ = [] | 4 => v_ = .int .i64 ((ea.getD j Le0).m) ∧ p_ = [] | 5 => v_ = v ∧ p_ = [] | 6 => v_ = .int .i64 (j : Int) ∧ p_ = [] | 7 => v_ = elP v (((j : Int)).toNat * 4) ∧ p_ = [] | 8 => v_ = elP v (((j : Int)).toNat * 4 + 1) ∧ p_ = [] | 9 => v_ = .int .i64 ((eb.getD j Le0).m) ∧ p_ = [] | 10 => v_ = .bool true ∧ p_ = [] | 11 => v_ = .bool true ∧ p_ = [] | 12 => v_ = undef ∧ p_ = [] | 13 => v_ = undef ∧ p_ = [] | 14 => v_ = undef ∧ p_ = [] | 15 => v_ = undef ∧ p_ = [] | 16 => v_ = undef ∧ p_ = [] | 17 => v_ = undef ∧ p_ = [] | 18 => v_ = undef ∧ p_ = [] | 19 => v_ = undef ∧ p_ = [] | 20 => v_ = undef ∧ p_ = [] | 21 => v_ = undef ∧ p_ = [] | 22 => v_ = undef ∧ p_ = [] | 23 => v_ = .bool true ∧ p_ = [] | 24 => v_ = .bool true ∧ p_ = [] | 25 => v_ = undef ∧ p_ = [] | 26 => v_ = undef ∧ p_ = [] | 27 => v_ = undef ∧ p_ = [] | 28 => v_ = undef ∧ p_ = [] | 29 => v_ = undef ∧ p_ = [] | 30 => v_ = undef ∧ p_ = [] | 31 => v_ = undef ∧ p_ = [] | 32 => v_ = undef ∧ p_ = [] | 33 => v_ = undef ∧ p_ = [] | 34 => v_ = undef ∧ p_ = [] | 35 => v_ = undef ∧ p_ = [] | 36 => v_ = .bool true ∧ p_ = [] | 37 => v_ = .bool true ∧ p_ = [] | 38 => v_ = undef ∧ p_ = [] | 39 => v_ = undef ∧ p_ = [] | 40 => v_ = undef ∧ p_ = [] | 41 => v_ = undef ∧ p_ = [] | 42 => v_ = undef ∧ p_ = [] | 43 => v_ = undef ∧ p_ = [] | 44 => v_ = undef ∧ p_ = [] | 45 => v_ = undef ∧ p_ = [] | 46 => v_ = undef ∧ p_ = [] | 47 => v_ = undef ∧ p_ = [] | 48 => v_ = undef ∧ p_ = [] | 49 => v_ = undef ∧ p_ = [] | 50 => v_ = .bool true ∧ p_ = [] | _ => True) (List.take_append_drop 51 _).symm (by kernel_rfl) (by kernel_rfl) rfl rfl ?_ ?_
    ·
     refine ⟨?_, ?_, ?_, ?_, ?_, ?_, ?_, ?_, ?_, ?_, ?_, ?_, ?_, ?_, ?_, ?_, ?_, ?_, ?_, ?_, ?_, ?_, ?_, ?_, ?_, ?_, ?_, ?_, ?_, ?_, ?_, ?_, ?_, ?_, ?_, ?_, ?_, ?_, ?_, ?_, ?_, ?_, ?_, ?_, ?_, ?_, ?_, ?_, ?_, ?_, ?_, trivial⟩
     ·
      intro vf pf hR
      refine Or.inl ⟨rfl, ?_⟩
      refine rq_less (sx 0 rfl (sub_nil _)) (List.sublist_append_right _ _) ?_
      exact rq_v (rv_ev rfl)
     ·
      intro vf pf hR
      refine Or.inl ⟨rfl, ?_⟩
      refine rq_less (sx 5 rfl (sub_nil _)) (List.sublist_append_right _ _) ?_
      exact rq_v (rv_ev rfl)
     ·
      intro vf pf hR
      have e0 : (vf 0) = u ∧ (pf 0) = [] := hR 0 (by decide)
      have e1 : (vf 1) = .int .i64 (j : Int) ∧ (pf 1) = [] := hR 1 (by decide)
      refine Or.inl ⟨rfl, ?_⟩
      refine rq_less (sx 17 (congrArg some e0.1) (sx 18 (congrArg some e1.1) (sub_nil _))) (List.sublist_append_right _ _) ?_
      exact rq_v (rv_index (s := 4) rfl Try.underlying37 (by kernel_rfl) rfl rfl (rd_old hu) (by omega) (by first | omega | (simp only [List.length_set]; omega)))
     ·
      intro vf pf hR
      have e2 : (vf 2) = elP u (((j : Int)).toNat * 4) ∧ (pf 2) = [] := hR 2 (by decide)
      refine Or.inl ⟨rfl, ?_⟩
      refine rq_less (sx 19 (congrArg some e2.1) (sub_nil _)) (List.sublist_append_right _ _) ?_
      exact rq_v (rv_fieldEl (k0 := 1) rfl (by kernel_rfl) rfl (rd_old hu) (by first | omega | (simp only [List.length_set]; omega)))
     ·
      intro vf pf hR
      have e3 : (vf 3) = elP u (((j : Int)).toNat * 4 + 1) ∧ (pf 3) = [] := hR 3 (by decide)
      refine Or.inl ⟨rfl, ?_⟩
      refine rq_less (sx 20 (congrArg some e3.1) (sub_nil _)) (List.sublist_append_right _ _) ?_
      exact rq_v (rv_loadEl (u := .int .i64 ((ea.getD j Le0).m)) rfl (by kernel_rfl) rfl (rd_old hu) ((flat_at Le.cells 4 (fun _ => rfl) ea Le0 (show j < _ by first | omega | (simp only [List.length_set]; omega)) (by decide)).trans rfl))
     ·
      intro vf pf hR
      refine Or.inl ⟨rfl, ?_⟩
      refine rq_less (sx 1 rfl (sub_nil _)) (List.sublist_append_right _ _) ?_
      exact rq_v (rv_ev rfl)
     ·
      intro vf pf hR
      refine Or.inl ⟨rfl, ?_⟩
      refine rq_less (sx 5 rfl (sub_nil _)) (List.sublist_append_right _ _) ?_
      exact rq_v (rv_ev rfl)
     ·
      intro vf pf hR
      have e5 : (vf 5) = v ∧ (pf 5) = [] := hR 5 (by decide)
      have e6 : (vf 6) = .int .i64 (j : Int) ∧ (pf 6) = [] := hR 6 (by decide)
      refine Or.inl ⟨rfl, ?_⟩
      refine rq_less (sx 22 (congrArg some e5.1) (sx 23 (congrArg some e6.1) (sub_nil _))) (List.sublist_append_right _ _) ?_
      exact rq_v (rv_index (s := 4) rfl Try.underlying37 (by kernel_rfl) rfl rfl (rd_old hv) (by omega) (by first | omega | (simp only [List.length_set]; omega)))
     ·
      intro vf pf hR
      have e7 : (vf 7) = elP v (((j : Int)).toNat * 4) ∧ (pf 7) = [] := hR 7 (by decide)
      refine Or.inl ⟨rfl, ?_⟩
      refine rq_less (sx 24 (congrArg some e7.1) (sub_nil _)) (List.sublist_append_right _ _) ?_
      exact rq_v (rv_fieldEl (k0 := 1) rfl (by kernel_rfl) rfl (rd_old hv) (by first | omega | (simp only [List.length_set]; omega)))
     ·
      intro vf pf hR
      have e8 : (vf 8) = elP v (((j : Int)).toNat * 4 + 1) ∧ (pf 8) = [] := hR 8 (by decide)
      refine Or.inl ⟨rfl, ?_⟩
      refine rq_less (sx 25 (congrArg some e8.1) (sub_nil _)) (List.sublist_append_right _ _) ?_
      exact rq_v (rv_loadEl (u := .int .i64 ((eb.getD j Le0).m)) rfl (by kernel_rfl) rfl (rd_old hv) ((flat_at Le.cells 4 (fun _ => rfl) eb Le0 (show j < _ by first | omega | (simp only [List.length_set]; omega)) (by decide)).trans rfl))
     ·
      intro vf pf hR
      have e4 : (vf 4) = .int .i64 ((ea.getD j Le0).m) ∧ (pf 4) = [] := hR 4 (by decide)
      have e9 : (vf 9) = .int .i64 ((eb.getD j Le0).m) ∧ (pf 9) = [] := hR 9 (by decide)
      refine Or.inl ⟨rfl, ?_⟩
      refine rq_less (sx 21 (congrArg some e4.1) (sx 26 (congrArg some e9.1) (sub_nil _))) (List.sublist_append_right _ _) ?_
      exact rq_mono (rq_v (rv_cmp rfl rfl rfl rfl)) (fun _ _ h => ⟨h.1.trans (congrArg Value.bool hb4), h.2⟩)
     ·
      intro vf pf hR
      have e10 : (vf 10) = .bool true ∧ (pf 10) = [] := hR 10 (by decide)
      refine Or.inl ⟨rfl, ?_⟩
      refine rq_less (sx 27 (congrArg some e10.1) (sub_nil _)) (List.sublist_append_right _ _) ?_
      exact rq_v (rv_ev rfl)
     ·
      intro vf pf hR
      have e11 : (vf 11) = .bool true ∧ (pf 11) = [] := hR 11 (by decide)
      exact Or.inr ⟨want_of (congrArg some e11.1) rfl, rfl, rfl⟩
     ·
      intro vf pf hR
      have e11 : (vf 11) = .bool true ∧ (pf 11) = [] := hR 11 (by decide)
      exact Or.inr ⟨want_of (congrArg some e11.1) rfl, rfl, rfl⟩
     ·
      intro vf pf hR
      have e11 : (vf 11) = .bool true ∧ (pf 11) = [] := hR 11 (by decide)
      exact Or.inr ⟨want_of (congrArg some e11.1) rfl, rfl, rfl⟩
     ·
      intro vf pf hR
      have e11 : (vf 11) = .bool true ∧ (pf 11) = [] := hR 11 (by decide)
      exact Or.inr ⟨want_of (congrArg some e11.1) rfl, rfl, rfl⟩
     ·
      intro vf pf hR
      have e11 : (vf 11) = .bool true ∧ (pf 11) = [] := hR 11 (by decide)
      exact Or.inr ⟨want_of (congrArg some e11.1) rfl, rfl, rfl⟩
     ·
      intro vf pf hR
      have e11 : (vf 11) = .bool true ∧ (pf 11) = [] := hR 11 (by decide)
      exact Or.inr ⟨want_of (congrArg some e11.1) rfl, rfl, rfl⟩
     ·
      intro vf pf hR
      have e11 : (vf 11) = .bool true ∧ (pf 11) = [] := hR 11 (by decide)
      exact Or.inr ⟨want_of (congrArg some e11.1) rfl, rfl, rfl⟩
     ·
      intro vf pf hR
      have e11 : (vf 11) = .bool true ∧ (pf 11) = [] := hR 11 (by decide)
      exact Or.inr ⟨want_of (congrArg some e11.1) rfl, rfl, rfl⟩
     ·
      intro vf pf hR
      have e11 : (vf 11) = .bool true ∧ (pf 11) = [] := hR 11 (by decide)
      exact Or.inr ⟨want_of (congrArg some e11.1) rfl, rfl, rfl⟩
     ·
      intro vf pf hR
      have e11 : (vf 11) = .bool true ∧ (pf 11) = [] := hR 11 (by decide)
      exact Or.inr ⟨want_of (congrArg some e11.1) rfl, rfl, rfl⟩
     ·
      intro vf pf hR
      have e11 : (vf 11) = .bool true ∧ (pf 11) = [] := hR 11 (by decide)
      exact Or.inr ⟨want_of (congrArg some e11.1) rfl, rfl, rfl⟩
     ·
      intro vf pf hR
      have e11 : (vf 11) = .bool true ∧ (pf 11) = [] := hR 11 (by decide)
      have e22 : (vf 22) = undef ∧ (pf 22) = [] := hR 22 (by decide)
      refine Or.inl ⟨rfl, ?_⟩
      refine rq_less (sx 28 (congrArg some e11.1) (sx 39 (congrArg some e22.1) (sub_nil _))) (List.sublist_append_right _ _) ?_
      exact rq_v (rv_ev rfl)
     ·
      intro vf pf hR
      have e23 : (vf 23) = .bool true ∧ (pf 23) = [] := hR 23 (by decide)
      refine Or.inl ⟨rfl, ?_⟩
      refine rq_less (sx 40 (congrArg some e23.1) (sub_nil _)) (List.sublist_append_right _ _) ?_
      exact rq_v (rv_ev rfl)
     ·
      intro vf pf hR
      have e24 : (vf 24) = .bool true ∧ (pf 24) = [] := hR 24 (by decide)
      exact Or.inr ⟨want_of (congrArg some e24.1) rfl, rfl, rfl⟩
     ·
      intro vf pf hR
      have e24 : (vf 24) = .bool true ∧ (pf 24) = [] := hR 24 (by decide)
      exact Or.inr ⟨want_of (congrArg some e24.1) rfl, rfl, rfl⟩
     ·
      intro vf pf hR
      have e24 : (vf 24) = .bool true ∧ (pf 24) = [] := hR 24 (by decide)
      exact Or.inr ⟨want_of (congrArg some e24.1) rfl, rfl, rfl⟩
     ·
      intro vf pf hR
      have e24 : (vf 24) = .bool true ∧ (pf 24) = [] := hR 24 (by decide)
      exact Or.inr ⟨want_of (congrArg some e24.1) rfl, rfl, rfl⟩
     ·
      intro vf pf hR
      have e24 : (vf 24) = .bool true ∧ (pf 24) = [] := hR 24 (by decide)
      exact Or.inr ⟨want_of (congrArg some e24.1) rfl, rfl, rfl⟩
     ·
      intro vf pf hR
      have e24 : (vf 24) = .bool true ∧ (pf 24) = [] := hR 24 (by decide)
      exact Or.inr ⟨want_of (congrArg some e24.1) rfl, rfl, rfl⟩
     ·
      intro vf pf hR
      have e24 : (vf 24) = .bool true ∧ (pf 24) = [] := hR 24 (by decide)
      exact Or.inr ⟨want_of (congrArg some e24.1) rfl, rfl, rfl⟩
     ·
      intro vf pf hR
      have e24 : (vf 24) = .bool true ∧ (pf 24) = [] := hR 24 (by decide)
      exact Or.inr ⟨want_of (congrArg some e24.1) rfl, rfl, rfl⟩
     ·
      intro vf pf hR
      have e24 : (vf 24) = .bool true ∧ (pf 24) = [] := hR 24 (by decide)
      exact Or.inr ⟨want_of (congrArg some e24.1) rfl, rfl, rfl⟩
     ·
      intro vf pf hR
      have e24 : (vf 24) = .bool true ∧ (pf 24) = [] := hR 24 (by decide)
      exact Or.inr ⟨want_of (congrArg some e24.1) rfl, rfl, rfl⟩
     ·
      intro vf pf hR
      have e24 : (vf 24) = .bool true ∧ (pf 24) = [] := hR 24 (by decide)
      exact Or.inr ⟨want_of (congrArg some e24.1) rfl, rfl, rfl⟩
     ·
      intro vf pf hR
      have e24 : (vf 24) = .bool true ∧ (pf 24) = [] := hR 24 (by decide)
      have e35 : (vf 35) = undef ∧ (pf 35) = [] := hR 35 (by decide)
      refine Or.inl ⟨rfl, ?_⟩
      refine rq_less (sx 41 (congrArg some e24.1) (sx 52 (congrArg some e35.1) (sub_nil _))) (List.sublist_append_right _ _) ?_
      exact rq_v (rv_ev rfl)
     ·
      intro vf pf hR
      have e36 : (vf 36) = .bool true ∧ (pf 36) = [] := hR 36 (by decide)
      refine Or.inl ⟨rfl, ?_⟩
      refine rq_less (sx 53 (congrArg some e36.1) (sub_nil _)) (List.sublist_append_right _ _) ?_
      exact rq_v (rv_ev rfl)
     ·
      intro vf pf hR
      have e37 : (vf 37) = .bool true ∧ (pf 37) = [] := hR 37 (by decide)
      exact Or.inr ⟨want_of (congrArg some e37.1) rfl, rfl, rfl⟩
     ·
      intro vf pf hR
      have e37 : (vf 37) = .bool true ∧ (pf 37) = [] := hR 37 (by decide)
      exact Or.inr ⟨want_of (congrArg some e37.1) rfl, rfl, rfl⟩
     ·
      intro vf pf hR
      have e37 : (vf 37) = .bool true ∧ (pf 37) = [] := hR 37 (by decide)
      exact Or.inr ⟨want_of (congrArg some e37.1) rfl, rfl, rfl⟩
     ·
      intro vf pf hR
      have e37 : (vf 37) = .bool true ∧ (pf 37) = [] := hR 37 (by decide)
      exact Or.inr ⟨want_of (congrArg some e37.1) rfl, rfl, rfl⟩
     ·
      intro vf pf hR
      have e37 : (vf 37) = .bool true ∧ (pf 37) = [] := hR 37 (by decide)
      exact Or.inr ⟨want_of (congrArg some e37.1) rfl, rfl, rfl⟩
     ·
      intro vf pf hR
      have e37 : (vf 37) = .bool true ∧ (pf 37) = [] := hR 37 (by decide)
      exact Or.inr ⟨want_of (congrArg some e37.1) rfl, rfl, rfl⟩
     ·
      intro vf pf hR
      have e37 : (vf 37) = .bool true ∧ (pf 37) = [] := hR 37 (by decide)
      exact Or.inr ⟨want_of (congrArg some e37.1) rfl, rfl, rfl⟩
     ·
      intro vf pf hR
      have e37 : (vf 37) = .bool true ∧ (pf 37) = [] := hR 37 (by decide)
      exact Or.inr ⟨want_of (congrArg some e37.1) rfl, rfl, rfl⟩
     ·
      intro vf pf hR
      have e37 : (vf 37) = .bool true ∧ (pf 37) = [] := hR 37 (by decide)
      exact Or.inr ⟨want_of (congrArg some e37.1) rfl, rfl, rfl⟩
     ·
      intro vf pf hR
      have e37 : (vf 37) = .bool true ∧ (pf 37) = [] := hR 37 (by decide)
      exact Or.inr ⟨want_of (congrArg some e37.1) rfl, rfl, rfl⟩
     ·
      intro vf pf hR
      have e37 : (vf 37) = .bool true ∧ (pf 37) = [] := hR 37 (by decide)
      exact Or.inr ⟨want_of (congrArg some e37.1) rfl, rfl, rfl⟩
     ·
      intro vf pf hR
      have e37 : (vf 37) = .bool true ∧ (pf 37) = [] := hR 37 (by decide)
      exact Or.inr ⟨want_of (congrArg some e37.1) rfl, rfl, rfl⟩
     ·
      intro vf pf hR
      have e37 : (vf 37) = .bool true ∧ (pf 37) = [] := hR 37 (by decide)
      have e49 : (vf 49) = undef ∧ (pf 49) = [] := hR 49 (by decide)
      refine Or.inl ⟨rfl, ?_⟩
      refine rq_less (sx 54 (congrArg some e37.1) (sx 66 (congrArg some e49.1) (sub_nil _))) (List.sublist_append_right _ _) ?_
      exact rq_v (rv_ev rfl)
    ·
     intro vf pf hR
     have e50 : (vf 50) = .bool true ∧ (pf 50) = [] := hR 50 (by decide)
     refine hl_less (l' := []) (sx 0 rfl (sx 1 rfl (sx 4 rfl (sx 5 rfl (sx 10 rfl (sx 14 rfl (sx 67 (congrArg some e50.1) (sub_nil _)))))))) (List.sublist_append_right _ _) ?_
     simp only [List.drop_succ_cons, List.drop_zero]
     refine hl_less (sx 0 rfl (sx 1 rfl (sx 4 rfl (sx 5 rfl (sx 10 rfl (sx 14 rfl (sx 67 rfl (sub_nil _)))))))) (.refl _) ?_
     refine hl_nil ?_
     refine hq_then ?_
     refine hc_true rfl ?_
     refine hc_seq ?_
     refine hc_region ?_
     refine hl_v rfl rfl rfl (rv_ev rfl) ?_
     refine hl_less (sx 0 rfl (sx 1 rfl (sx 4 rfl (sx 5 rfl (sx 10 rfl (sx 14 rfl (sx 67 rfl (sub_nil _)))))))) (.refl _) ?_
     refine hl_nil ?_
     refine hq_then ?_
     refine hc_ret ?_
     refine hq_block_ret ?_
     refine hq_then_ret ?_
     refine hq_then_ret ?_
     refine hq_block_ret ?_
     refine hq_then_ret ?_
     exact hq_ans rfl rfl (congrArg _ (decide_eq_false (fun he => by first | (have := congrArg List.length he; simp at this; omega) | (have h9 := map_at (d := Le0) he (i := j) (by omega); simp only [Le.val, Prod.mk.injEq] at h9; obtain ⟨q1, q2, q3, q4⟩ := h9; first | omega | contradiction))).symm)
   ·
    have hb4p : (ea.getD j Le0).m = (eb.getD j Le0).m := by simpa using hb4
    rcases Bool.eq_false_or_eq_true (((ea.getD j Le0).f) != ((eb.getD j Le0).f)) with hb5 | hb5
    ·
     have hb5p : (ea.getD j Le0).f ≠ (eb.getD j Le0).f := bne_iff_ne.1 hb5
     refine hc_draw (by kernel_rfl) 51 [0, 1, 2, 3, 4, 5, 6, 7, 8, 9, 10, 11, 12, 13, 14, 15, 16, 17, 18, 19, 20, 21, 22, 23, 24, 25, 26, 27, 28, 29, 30, 31, 32, 33, 34, 35, 36, 37, 38, 39, 40, 41, 42, 43, 44, 45, 46, 47, 48, 49, 50] (List.take 51 _) (List.drop 51 _) [[], [], [0, 1], [2], [3], [], [], [5, 6], [7], [8], [4, 9], [10], [11], [11], [11, 12, 13], [11, 14], [11, 15], [11], [11], [11, 17, 18], [11, 19], [11, 20], [11, 16, 21], [11, 22], [23], [24], [24], [24], [24], [24], [24], [24], [24], [24], [24], [24], [24, 35], [36], [37], [37], [37], [37], [37], [37], [37], [37], [37], [37], [37], [37], [37, 49]] [17, 18, 19, 20, 21, 22, 23, 24, 25, 26, 27, 28, 29, 30, 31, 32, 33, 34, 35, 36, 37, 38, 39, 40, 41, 42, 43, 44, 45, 46, 47, 48, 49, 50, 51, 52, 53, 54, 55, 56, 57, 58, 59, 60, 61, 62, 63, 64, 65, 66, 67] (fun i vs_ v_ p_ => match i with | 0 => v_ = u ∧ p_ = [] | 1 => v_ = .int .i64 (j : Int) ∧ p_ = [] | 2 => v_ = elP u (((j : Int)).toNat * 4) ∧ p_ = [] | 3 => v_ = elP u (((j : Int)).toNat * 4 + 1) ∧ p_ = [] | 4 => v_ = .int .i64 ((ea.getD j Le0).m) ∧ p_ = [] | 5 => v_ = v ∧ p_ = [] | 6 => v_ = .int .i64 (j : Int) ∧ p_ = [] | 7 => v_ = elP v (((j : Int)).toNat * 4) ∧ p_ = [] | 8 => v_ = elP v (((j : Int)).toNat * 4 + 1) ∧ p_ = [] | 9 => v_ = .int .i64 ((eb.getD j Le0).m) ∧ p_ = [] | 10 => v_ = .bool false ∧ p_ = [] | 11 => v_ = .bool false ∧ p_ = [] | 12 => v_ = u ∧ p_ = [] | 13 => v_ = .int .i64 (j : Int) ∧ p_ = [] | 14 => v_ = elP u (((j : Int)).toNat * 4) ∧ p_ = [] | 15 => v_ = elP u (((j : Int)).toNat * 4 + 2) ∧ p_ = [] | 16 => v_ = .int .i64 ((ea.getD j Le0).f) ∧ p_ = [] | 17 => v_ = v ∧ p_ = [] | 18 => v_ = .int .i64 (j : Int) ∧ p_ = [] | 19 => v_ = elP v (((j : Int)).toNat * 4) ∧ p_ = [] | 20 => v_ = elP v (((j : Int)).toNat * 4 + 2) ∧ p_ = [] | 21 => v_ = .int .i64 ((eb.getD j Le0).f) ∧ p_ = [] | 22 => v_ = .bool true ∧ p_ = [] | 23 => v_ = .bool true ∧ p_ = [] | 24 => v_ = .bool true ∧ p_ = [] | 25 => v_ = undef ∧ p_ = [] | 26 => v_ = undef ∧ p_ = [] | 27 => v_ = undef ∧ p_ = [] | 28 => v_ = undef ∧ p_ = [] | 29 => v_ = undef ∧ p_ = [] | 30 => v_ = undef ∧ p_ = [] | 31 => v_ = undef ∧ p_ = [] | 32 => v_ = undef ∧ p_ = [] | 33 => v_ = undef ∧ p_ = [] | 34 => v_ = undef ∧ p_ = [] | 35 => v_ = undef ∧ p_ = [] | 36 => v_ = .bool true ∧ p_ = [] | 37 => v_ = .bool true ∧ p_ = [] | 38 => v_ = undef ∧ p_ = [] | 39 => v_ = undef ∧ p_ = [] | 40 => v_ = undef ∧ p_ = [] | 41 => v_ = undef ∧ p_ = [] | 42 => v_ = undef ∧ p_ = [] | 43 => v_ = undef ∧ p_ = [] | 44 => v_ = undef ∧ p_ = [] | 45 => v_ = undef ∧ p_ = [] | 46 => v_ = undef ∧ p_ = [] | 47 => v_ = undef ∧ p_ = [] | 48 => v_ = undef ∧ p_ = [] | 49 => v_ = undef ∧ p_ = [] | 50 => v_ = .bool true ∧ p_ = [] | _ => True) (List.take_append_drop 51 _).symm (by kernel_rfl) (by kernel_rfl) rfl rfl ?_ ?_
     ·
      refine ⟨?_, ?_, ?_, ?_, ?_, ?_, ?_, ?_, ?_, ?_, ?_, ?_, ?_, ?_, ?_, ?_, ?_, ?_, ?_, ?_, ?_, ?_, ?_, ?_, ?_, ?_, ?_, ?_, ?_, ?_, ?_, ?_, ?_, ?_, ?_, ?_, ?_, ?_, ?_, ?_, ?_, ?_, ?_, ?_, ?_, ?_, ?_, ?_, ?_, ?_, ?_, trivial⟩
      ·
       intro vf pf hR
       refine Or.inl ⟨rfl, ?_⟩
       refine rq_less (sx 0 rfl (sub_nil _)) (List.sublist_append_right _ _) ?_
       exact rq_v (rv_ev rfl)
      ·
       intro vf pf hR
       refine Or.inl ⟨rfl, ?_⟩
       refine rq_less (sx 5 rfl (sub_nil _)) (List.sublist_append_right _ _) ?_
       exact rq_v (rv_ev rfl)
      ·
       intro vf pf hR
       have e0 : (vf 0) = u ∧ (pf 0) = [] := hR 0 (by decide)
       have e1 : (vf 1) = .int .i64 (j : Int) ∧ (pf 1) = [] := hR 1 (by decide)
       refine Or.inl ⟨rfl, ?_⟩
       refine rq_less (sx 17 (congrArg some e0.1) (sx 18 (congrArg some e1.1) (sub_nil _))) (List.sublist_append_right _ _) ?_
       exact rq_v (rv_index (s := 4) rfl Try.underlying37 (by kernel_rfl) rfl rfl (rd_old hu) (by omega) (by first | omega | (simp only [List.length_set]; omega)))
      ·
       intro vf pf hR
       have e2 : (vf 2) = elP u (((j : Int)).toNat * 4) ∧ (pf 2) = [] := hR 2 (by decide)
       refine Or.inl ⟨rfl, ?_⟩
       refine rq_less (sx 19 (congrArg some e2.1) (sub_nil _)) (List.sublist_append_right _ _) ?_
       exact rq_v (rv_fieldEl (k0 := 1) rfl (by kernel_rfl) rfl (rd_old hu) (by first | omega | (simp only [List.length_set]; omega)))
      ·
       intro vf pf hR
       have e3 : (vf 3) = elP u (((j : Int)).toNat * 4 + 1) ∧ (pf 3) = [] := hR 3 (by decide)
       refine Or.inl ⟨rfl, ?_⟩
       refine rq_less (sx 20 (congrArg some e3.1) (sub_nil _)) (List.sublist_append_right _ _) ?_
       exact rq_v (rv_loadEl (u := .int .i64 ((ea.getD j Le0).m)) rfl (by kernel_rfl) rfl (rd_old hu) ((flat_at Le.cells 4 (fun _ => rfl) ea Le0 (show j < _ by first | omega | (simp only [List.length_set]; omega)) (by decide)).trans rfl))
      ·
       intro vf pf hR
       refine Or.inl ⟨rfl, ?_⟩
       refine rq_less (sx 1 rfl (sub_nil _)) (List.sublist_append_right _ _) ?_
       exact rq_v (rv_ev rfl)
      ·
       intro vf pf hR
       refine Or.inl ⟨rfl, ?_⟩
       refine rq_less (sx 5 rfl (sub_nil _)) (List.sublist_append_right _ _) ?_
       exact rq_v (rv_ev rfl)
      ·
       intro vf pf hR
       have e5 : (vf 5) = v ∧ (pf 5) = [] := hR 5 (by decide)
       have e6 : (vf 6) = .int .i64 (j : Int) ∧ (pf 6) = [] := hR 6 (by decide)
       refine Or.inl ⟨rfl, ?_⟩
       refine rq_less (sx 22 (congrArg some e5.1) (sx 23 (congrArg some e6.1) (sub_nil _))) (List.sublist_append_right _ _) ?_
       exact rq_v (rv_index (s := 4) rfl Try.underlying37 (by kernel_rfl) rfl rfl (rd_old hv) (by omega) (by first | omega | (simp only [List.length_set]; omega)))
      ·
       intro vf pf hR
       have e7 : (vf 7) = elP v (((j : Int)).toNat * 4) ∧ (pf 7) = [] := hR 7 (by decide)
       refine Or.inl ⟨rfl, ?_⟩
       refine rq_less (sx 24 (congrArg some e7.1) (sub_nil _)) (List.sublist_append_right _ _) ?_
       exact rq_v (rv_fieldEl (k0 := 1) rfl (by kernel_rfl) rfl (rd_old hv) (by first | omega | (simp only [List.length_set]; omega)))
      ·
       intro vf pf hR
       have e8 : (vf 8) = elP v (((j : Int)).toNat * 4 + 1) ∧ (pf 8) = [] := hR 8 (by decide)
       refine Or.inl ⟨rfl, ?_⟩
       refine rq_less (sx 25 (congrArg some e8.1) (sub_nil _)) (List.sublist_append_right _ _) ?_
       exact rq_v (rv_loadEl (u := .int .i64 ((eb.getD j Le0).m)) rfl (by kernel_rfl) rfl (rd_old hv) ((flat_at Le.cells 4 (fun _ => rfl) eb Le0 (show j < _ by first | omega | (simp only [List.length_set]; omega)) (by decide)).trans rfl))
      ·
       intro vf pf hR
       have e4 : (vf 4) = .int .i64 ((ea.getD j Le0).m) ∧ (pf 4) = [] := hR 4 (by decide)
       have e9 : (vf 9) = .int .i64 ((eb.getD j Le0).m) ∧ (pf 9) = [] := hR 9 (by decide)
       refine Or.inl ⟨rfl, ?_⟩
       refine rq_less (sx 21 (congrArg some e4.1) (sx 26 (congrArg some e9.1) (sub_nil _))) (List.sublist_append_right _ _) ?_
       exact rq_mono (rq_v (rv_cmp rfl rfl rfl rfl)) (fun _ _ h => ⟨h.1.trans (congrArg Value.bool hb4), h.2⟩)
      ·
       intro vf pf hR
       have e10 : (vf 10) = .bool false ∧ (pf 10) = [] := hR 10 (by decide)
       refine Or.inl ⟨rfl, ?_⟩
       refine rq_less (sx 27 (congrArg some e10.1) (sub_nil _)) (List.sublist_append_right _ _) ?_
       exact rq_v (rv_ev rfl)
      ·
       intro vf pf hR
       have e11 : (vf 11) = .bool false ∧ (pf 11) = [] := hR 11 (by decide)
       refine Or.inl ⟨want_of (congrArg some e11.1) rfl, ?_⟩
       refine rq_less (sx 0 rfl (sub_nil _)) (List.sublist_append_right _ _) ?_
       exact rq_v (rv_ev rfl)
      ·
       intro vf pf hR
       have e11 : (vf 11) = .bool false ∧ (pf 11) = [] := hR 11 (by decide)
       refine Or.inl ⟨want_of (congrArg some e11.1) rfl, ?_⟩
       refine rq_less (sx 5 rfl (sub_nil _)) (List.sublist_append_right _ _) ?_
       exact rq_v (rv_ev rfl)
      ·
       intro vf pf hR
       have e11 : (vf 11) = .bool false ∧ (pf 11) = [] := hR 11 (by decide)
       have e12 : (vf 12) = u ∧ (pf 12) = [] := hR 12 (by decide)
       have e13 : (vf 13) = .int .i64 (j : Int) ∧ (pf 13) = [] := hR 13 (by decide)
       refine Or.inl ⟨want_of (congrArg some e11.1) rfl, ?_⟩
       refine rq_less (sx 29 (congrArg some e12.1) (sx 30 (congrArg some e13.1) (sub_nil _))) (List.sublist_append_right _ _) ?_
       exact rq_v (rv_index (s := 4) rfl Try.underlying37 (by kernel_rfl) rfl rfl (rd_old hu) (by omega) (by first | omega | (simp only [List.length_set]; omega)))
      ·
       intro vf pf hR
       have e11 : (vf 11) = .bool false ∧ (pf 11) = [] := hR 11 (by decide)
       have e14 : (vf 14) = elP u (((j : Int)).toNat * 4) ∧ (pf 14) = [] := hR 14 (by decide)
       refine Or.inl ⟨want_of (congrArg some e11.1) rfl, ?_⟩
       refine rq_less (sx 31 (congrArg some e14.1) (sub_nil _)) (List.sublist_append_right _ _) ?_
       exact rq_v (rv_fieldEl (k0 := 2) rfl (by kernel_rfl) rfl (rd_old hu) (by first | omega | (simp only [List.length_set]; omega)))
      ·
       intro vf pf hR
       have e11 : (vf 11) = .bool false ∧ (pf 11) = [] := hR 11 (by decide)
       have e15 : (vf 15) = elP u (((j : Int)).toNat * 4 + 2) ∧ (pf 15) = [] := hR 15 (by decide)
       refine Or.inl ⟨want_of (congrArg some e11.1) rfl, ?_⟩
       refine rq_less (sx 32 (congrArg some e15.1) (sub_nil _)) (List.sublist_append_right _ _) ?_
       exact rq_v (rv_loadEl (u := .int .i64 ((ea.getD j Le0).f)) rfl (by kernel_rfl) rfl (rd_old hu) ((flat_at Le.cells 4 (fun _ => rfl) ea Le0 (show j < _ by first | omega | (simp only [List.length_set]; omega)) (by decide)).trans rfl))
      ·
       intro vf pf hR
       have e11 : (vf 11) = .bool false ∧ (pf 11) = [] := hR 11 (by decide)
       refine Or.inl ⟨want_of (congrArg some e11.1) rfl, ?_⟩
       refine rq_less (sx 1 rfl (sub_nil _)) (List.sublist_append_right _ _) ?_
       exact rq_v (rv_ev rfl)
      ·
       intro vf pf hR
       have e11 : (vf 11) = .bool false ∧ (pf 11) = [] := hR 11 (by decide)
       refine Or.inl ⟨want_of (congrArg some e11.1) rfl, ?_⟩
       refine rq_less (sx 5 rfl (sub_nil _)) (List.sublist_append_right _ _) ?_
       exact rq_v (rv_ev rfl)
      ·
       intro vf pf hR
       have e11 : (vf 11) = .bool false ∧ (pf 11) = [] := hR 11 (by decide)
       have e17 : (vf 17) = v ∧ (pf 17) = [] := hR 17 (by decide)
       have e18 : (vf 18) = .int .i64 (j : Int) ∧ (pf 18) = [] := hR 18 (by decide)
       refine Or.inl ⟨want_of (congrArg some e11.1) rfl, ?_⟩
       refine rq_less (sx 34 (congrArg some e17.1) (sx 35 (congrArg some e18.1) (sub_nil _))) (List.sublist_append_right _ _) ?_
       exact rq_v (rv_index (s := 4) rfl Try.underlying37 (by kernel_rfl) rfl rfl (rd_old hv) (by omega) (by first | omega | (simp only [List.length_set]; omega)))
      ·
       intro vf pf hR
       have e11 : (vf 11) = .bool false ∧ (pf 11) = [] := hR 11 (by decide)
       have e19 : (vf 19) = elP v (((j : Int)).toNat * 4) ∧ (pf 19) = [] := hR 19 (by decide)
       refine Or.inl ⟨want_of (congrArg some e11.1) rfl, ?_⟩
       refine rq_less (sx 36 (congrArg some e19.1) (sub_nil _)) (List.sublist_append_right _ _) ?_
       exact rq_v (rv_fieldEl (k0 := 2) rfl (by kernel_rfl) rfl (rd_old hv) (by first | omega | (simp only [List.length_set]; omega)))
      ·
       intro vf pf hR
       have e11 : (vf 11) = .bool false ∧ (pf 11) = [] := hR 11 (by decide)
       have e20 : (vf 20) = elP v (((j : Int)).toNat * 4 + 2) ∧ (pf 20) = [] := hR 20 (by decide)
       refine Or.inl ⟨want_of (congrArg some e11.1) rfl, ?_⟩
       refine rq_less (sx 37 (congrArg some e20.1) (sub_nil _)) (List.sublist_append_right _ _) ?_
       exact rq_v (rv_loadEl (u := .int .i64 ((eb.getD j Le0).f)) rfl (by kernel_rfl) rfl (rd_old hv) ((flat_at Le.cells 4 (fun _ => rfl) eb Le0 (show j < _ by first | omega | (simp only [List.length_set]; omega)) (by decide)).trans rfl))
      ·
       intro vf pf hR
       have e11 : (vf 11) = .bool false ∧ (pf 11) = [] := hR 11 (by decide)
       have e16 : (vf 16) = .int .i64 ((ea.getD j Le0).f) ∧ (pf 16) = [] := hR 16 (by decide)
       have e21 : (vf 21) = .int .i64 ((eb.getD j Le0).f) ∧ (pf 21) = [] := hR 21 (by decide)
       refine Or.inl ⟨want_of (congrArg some e11.1) rfl, ?_⟩
       refine rq_less (sx 33 (congrArg some e16.1) (sx 38 (congrArg some e21.1) (sub_nil _))) (List.sublist_append_right _ _) ?_
       exact rq_mono (rq_v (rv_cmp rfl rfl rfl rfl)) (fun _ _ h => ⟨h.1.trans (congrArg Value.bool hb5), h.2⟩)
      ·
       intro vf pf hR
       have e11 : (vf 11) = .bool false ∧ (pf 11) = [] := hR 11 (by decide)
       have e22 : (vf 22) = .bool true ∧ (pf 22) = [] := hR 22 (by decide)
       refine Or.inl ⟨rfl, ?_⟩
       refine rq_less (sx 28 (congrArg some e11.1) (sx 39 (congrArg some e22.1) (sub_nil _))) (List.sublist_append_right _ _) ?_
       exact rq_v (rv_ev rfl)
      ·
       intro vf pf hR
       have e23 : (vf 23) = .bool true ∧ (pf 23) = [] := hR 23 (by decide)
       refine Or.inl ⟨rfl, ?_⟩
       refine rq_less (sx 40 (congrArg some e23.1) (sub_nil _)) (List.sublist_append_right _ _) ?_
       exact rq_v (rv_ev rfl)
      ·
       intro vf pf hR
       have e24 : (vf 24) = .bool true ∧ (pf 24) = [] := hR 24 (by decide)
       exact Or.inr ⟨want_of (congrArg some e24.1) rfl, rfl, rfl⟩
      ·
       intro vf pf hR
       have e24 : (vf 24) = .bool true ∧ (pf 24) = [] := hR 24 (by decide)
       exact Or.inr ⟨want_of (congrArg some e24.1) rfl, rfl, rfl⟩
      ·
       intro vf pf hR
       have e24 : (vf 24) = .bool true ∧ (pf 24) = [] := hR 24 (by decide)
       exact Or.inr ⟨want_of (congrArg some e24.1) rfl, rfl, rfl⟩
      ·
       intro vf pf hR
       have e24 : (vf 24) = .bool true ∧ (pf 24) = [] := hR 24 (by decide)
       exact Or.inr ⟨want_of (congrArg some e24.1) rfl, rfl, rfl⟩
      ·
       intro vf pf hR
       have e24 : (vf 24) = .bool true ∧ (pf 24) = [] := hR 24 (by decide)
       exact Or.inr ⟨want_of (congrArg some e24.1) rfl, rfl, rfl⟩
      ·
       intro vf pf hR
       have e24 : (vf 24) = .bool true ∧ (pf 24) = [] := hR 24 (by decide)
       exact Or.inr ⟨want_of (congrArg some e24.1) rfl, rfl, rfl⟩
      ·
       intro vf pf hR
       have e24 : (vf 24) = .bool true ∧ (pf 24) = [] := hR 24 (by decide)
       exact Or.inr ⟨want_of (congrArg some e24.1) rfl, rfl, rfl⟩
      ·
       intro vf pf hR
       have e24 : (vf 24) = .bool true ∧ (pf 24) = [] := hR 24 (by decide)
       exact Or.inr ⟨want_of (congrArg some e24.1) rfl, rfl, rfl⟩
      ·
       intro vf pf hR
       have e24 : (vf 24) = .bool true ∧ (pf 24) = [] := hR 24 (by decide)
       exact Or.inr ⟨want_of (congrArg some e24.1) rfl, rfl, rfl⟩
      ·
       intro vf pf hR
       have e24 : (vf 24) = .bool true ∧ (pf 24) = [] := hR 24 (by decide)
       exact Or.inr ⟨want_of (congrArg some e24.1) rfl, rfl, rfl⟩
      ·
       intro vf pf hR
       have e24 : (vf 24) = .bool true ∧ (pf 24) = [] := hR 24 (by decide)
       exact Or.inr ⟨want_of (congrArg some e24.1) rfl, rfl, rfl⟩
      ·
       intro vf pf hR
       have e24 : (vf 24) = .bool true ∧ (pf 24) = [] := hR 24 (by decide)
       have e35 : (vf 35) = undef ∧ (pf 35) = [] := hR 35 (by decide)
       refine Or.inl ⟨rfl, ?_⟩
       refine rq_less (sx 41 (congrArg some e24.1) (sx 52 (congrArg some e35.1) (sub_nil _))) (List.sublist_append_right _ _) ?_
       exact rq_v (rv_ev rfl)
      ·
       intro vf pf hR
       have e36 : (vf 36) = .bool true ∧ (pf 36) = [] := hR 36 (by decide)
       refine Or.inl ⟨rfl, ?_⟩
       refine rq_less (sx 53 (congrArg some e36.1) (sub_nil _)) (List.sublist_append_right _ _) ?_
       exact rq_v (rv_ev rfl)
      ·
       intro vf pf hR
       have e37 : (vf 37) = .bool true ∧ (pf 37) = [] := hR 37 (by decide)
       exact Or.inr ⟨want_of (congrArg some e37.1) rfl, rfl, rfl⟩
      ·
       intro vf pf hR
       have e37 : (vf 37) = .bool true ∧ (pf 37) = [] := hR 37 (by decide)
       exact Or.inr ⟨want_of (congrArg some e37.1) rfl, rfl, rfl⟩
      ·
       intro vf pf hR
       have e37 : (vf 37) = .bool true ∧ (pf 37) = [] := hR 37 (by decide)
       exact Or.inr ⟨want_of (congrArg some e37.1) rfl, rfl, rfl⟩
      ·
       intro vf pf hR
       have e37 : (vf 37) = .bool true ∧ (pf 37) = [] := hR 37 (by decide)
       exact Or.inr ⟨want_of (congrArg some e37.1) rfl, rfl, rfl⟩
      ·
       intro vf pf hR
       have e37 : (vf 37) = .bool true ∧ (pf 37) = [] := hR 37 (by decide)
       exact Or.inr ⟨want_of (congrArg some e37.1) rfl, rfl, rfl⟩
      ·
       intro vf pf hR
       have e37 : (vf 37) = .bool true ∧ (pf 37) = [] := hR 37 (by decide)
       exact Or.inr ⟨want_of (congrArg some e37.1) rfl, rfl, rfl⟩
      ·
       intro vf pf hR
       have e37 : (vf 37) = .bool true ∧ (pf 37) = [] := hR 37 (by decide)
       exact Or.inr ⟨want_of (congrArg some e37.1) rfl, rfl, rfl⟩
      ·
       intro vf pf hR
       have e37 : (vf 37) = .bool true ∧ (pf 37) = [] := hR 37 (by decide)
       exact Or.inr ⟨want_of (congrArg some e37.1) rfl, rfl, rfl⟩
      ·
       intro vf pf hR
       have e37 : (vf 37) = .bool true ∧ (pf 37) = [] := hR 37 (by decide)
       exact Or.inr ⟨want_of (congrArg some e37.1) rfl, rfl, rfl⟩
      ·
       intro vf pf hR
       have e37 : (vf 37) = .bool true ∧ (pf 37) = [] := hR 37 (by decide)
       exact Or.inr ⟨want_of (congrArg some e37.1) rfl, rfl, rfl⟩
      ·
       intro vf pf hR
       have e37 : (vf 37) = .bool true ∧ (pf 37) = [] := hR 37 (by decide)
       exact Or.inr ⟨want_of (congrArg some e37.1) rfl, rfl, rfl⟩
      ·
       intro vf pf hR
       have e37 : (vf 37) = .bool true ∧ (pf 37) = [] := hR 37 (by decide)
       exact Or.inr ⟨want_of (congrArg some e37.1) rfl, rfl, rfl⟩
      ·
       intro vf pf hR
       have e37 : (vf 37) = .bool true ∧ (pf 37) = [] := hR 37 (by decide)
       have e49 : (vf 49) = undef ∧ (pf 49) = [] := hR 49 (by decide)
       refine Or.inl ⟨rfl, ?_⟩
       refine rq_less (sx 54 (congrArg some e37.1) (sx 66 (congrArg some e49.1) (sub_nil _))) (List.sublist_append_right _ _) ?_
       exact rq_v (rv_ev rfl)
     ·
      intro vf pf hR
      have e50 : (vf 50) = .bool true ∧ (pf 50) = [] := hR 50 (by decide)
      refine hl_less (l' := []) (sx 0 rfl (sx 1 rfl (sx 4 rfl (sx 5 rfl (sx 10 rfl (sx 14 rfl (sx 67 (congrArg some e50.1) (sub_nil _)))))))) (List.sublist_append_right _ _) ?_
      simp only [List.drop_succ_cons, List.drop_zero]
      refine hl_less (sx 0 rfl (sx 1 rfl (sx 4 rfl (sx 5 rfl (sx 10 rfl (sx 14 rfl (sx 67 rfl (sub_nil _)))))))) (.refl _) ?_
      refine hl_nil ?_
      refine hq_then ?_
      refine hc_true rfl ?_
      refine hc_seq ?_
      refine hc_region ?_
      refine hl_v rfl rfl rfl (rv_ev rfl) ?_
      refine hl_less (sx 0 rfl (sx 1 rfl (sx 4 rfl (sx 5 rfl (sx 10 rfl (sx 14 rfl (sx 67 rfl (sub_nil _)))))))) (.refl _) ?_
      refine hl_nil ?_
      refine hq_then ?_
      refine hc_ret ?_
      refine hq_block_ret ?_
      refine hq_then_ret ?_
      refine hq_then_ret ?_
      refine hq_block_ret ?_
      refine hq_then_ret ?_
      exact hq_ans rfl rfl (congrArg _ (decide_eq_false (fun he => by first | (have := congrArg List.length he; simp at this; omega) | (have h9 := map_at (d := Le0) he (i := j) (by omega); simp only [Le.val, Prod.mk.injEq] at h9; obtain ⟨q1, q2, q3, q4⟩ := h9; first | omega | contradiction))).symm)
    ·
     have hb5p : (ea.getD j Le0).f = (eb.getD j Le0).f := by simpa using hb5
     rcases Bool.eq_false_or_eq_true (((ea.getD j Le0).i) != ((eb.getD j Le0).i)) with hb6 | hb6
     ·
      have hb6p : (ea.getD j Le0).i ≠ (eb.getD j Le0).i := bne_iff_ne.1 hb6
      refine hc_draw (by kernel_rfl) 51 [0, 1, 2, 3, 4, 5, 6, 7, 8, 9, 10, 11, 12, 13, 14, 15, 16, 17, 18, 19, 20, 21, 22, 23, 24, 25, 26, 27, 28, 29, 30, 31, 32, 33, 34, 35, 36, 37, 38, 39, 40, 41, 42, 43, 44, 45, 46, 47, 48, 49, 50] (List.take 51 _) (List.drop 51 _) [[], [], [0, 1], [2], [3], [], [], [5, 6], [7], [8], [4, 9], [10], [11], [11], [11, 12, 13], [11, 14], [11, 15], [11], [11], [11, 17, 18], [11, 19], [11, 20], [11, 16, 21], [11, 22], [23], [24], [24], [24, 25, 26], [24, 27], [24, 28], [24], [24], [24, 30, 31], [24, 32], [24, 33], [24, 29, 34], [24, 35], [36], [37], [37], [37], [37], [37], [37], [37], [37], [37], [37], [37], [37], [37, 49]] [17, 18, 19, 20, 21, 22, 23, 24, 25, 26, 27, 28, 29, 30, 31, 32, 33, 34, 35, 36, 37, 38, 39, 40, 41, 42, 43, 44, 45, 46, 47, 48, 49, 50, 51, 52, 53, 54, 55, 56, 57, 58, 59, 60, 61, 62, 63, 64, 65, 66, 67] (fun i vs_ v_ p_ => match i with | 0 => v_ = u ∧ p_ = [] | 1 => v_ = .int .i64 (j : Int) ∧ p_ = [] | 2 => v_ = elP u (((j : Int)).toNat * 4) ∧ p_ = [] | 3 => v_ = elP u (((j : Int)).toNat * 4 + 1) ∧ p_ = [] | 4 => v_ = .int .i64 ((ea.getD j Le0).m) ∧ p_ = [] | 5 => v_ = v ∧ p_ = [] | 6 => v_ = .int .i64 (j : Int) ∧ p_ = [] | 7 => v_ = elP v (((j : Int)).toNat * 4) ∧ p_ = [] | 8 => v_ = elP v (((j : Int)).toNat * 4 + 1) ∧ p_ = [] | 9 => v_ = .int .i64 ((eb.getD j Le0).m) ∧ p_ = [] | 10 => v_ = .bool false ∧ p_ = [] | 11 => v_ = .bool false ∧ p_ = [] | 12 => v_ = u ∧ p_ = [] | 13 => v_ = .int .i64 (j : Int) ∧ p_ = [] | 14 => v_ = elP u (((j : Int)).toNat * 4) ∧ p_ = [] | 15 => v_ = elP u (((j : Int)).toNat * 4 + 2) ∧ p_ = [] | 16 => v_ = .int .i64 ((ea.getD j Le0).f) ∧ p_ = [] | 17 => v_ = v ∧ p_ = [] | 18 => v_ = .int .i64 (j : Int) ∧ p_ = [] | 19 => v_ = elP v (((j : Int)).toNat * 4) ∧ p_ = [] | 20 => v_ = elP v (((j : Int)).toNat * 4 + 2) ∧ p_ = [] | 21 => v_ = .int .i64 ((eb.getD j Le0).f) ∧ p_ = [] | 22 => v_ = .bool false ∧ p_ = [] | 23 => v_ = .bool false ∧ p_ = [] | 24 => v_ = .bool false ∧ p_ = [] | 25 => v_ = u ∧ p_ = [] | 26 => v_ = .int .i64 (j : Int) ∧ p_ = [] | 27 => v_ = elP u (((j : Int)).toNat * 4) ∧ p_ = [] | 28 => v_ = elP u (((j : Int)).toNat * 4 + 3) ∧ p_ = [] | 29 => v_ = .int .i64 ((ea.getD j Le0).i) ∧ p_ = [] | 30 => v_ = v ∧ p_ = [] | 31 => v_ = .int .i64 (j : Int) ∧ p_ = [] | 32 => v_ = elP v (((j : Int)).toNat * 4) ∧ p_ = [] | 33 => v_ = elP v (((j : Int)).toNat * 4 + 3) ∧ p_ = [] | 34 => v_ = .int .i64 ((eb.getD j Le0).i) ∧ p_ = [] | 35 => v_ = .bool true ∧ p_ = [] | 36 => v_ = .bool true ∧ p_ = [] | 37 => v_ = .bool true ∧ p_ = [] | 38 => v_ = undef ∧ p_ = [] | 39 => v_ = undef ∧ p_ = [] | 40 => v_ = undef ∧ p_ = [] | 41 => v_ = undef ∧ p_ = [] | 42 => v_ = undef ∧ p_ = [] | 43 => v_ = undef ∧ p_ = [] | 44 => v_ = undef ∧ p_ = [] | 45 => v_ = undef ∧ p_ = [] | 46 => v_ = undef ∧ p_ = [] | 47 => v_ = undef ∧ p_ = [] | 48 => v_ = undef ∧ p_ = [] | 49 => v_ = undef ∧ p_ = [] | 50 => v_ = .bool true ∧ p_ = [] | _ => True) (List.take_append_drop 51 _).symm (by kernel_rfl) (by kernel_rfl) rfl rfl ?_ ?_
      ·
       refine ⟨?_, ?_, ?_, ?_, ?_, ?_, ?_, ?_, ?_, ?_, ?_, ?_, ?_, ?_, ?_, ?_, ?_, ?_, ?_, ?_, ?_, ?_, ?_, ?_, ?_, ?_, ?_, ?_, ?_, ?_, ?_, ?_, ?_, ?_, ?_, ?_, ?_, ?_, ?_, ?_, ?_, ?_, ?_, ?_, ?_, ?_, ?_, ?_, ?_, ?_, ?_, trivial⟩
       ·
        intro vf pf hR
        refine Or.inl ⟨rfl, ?_⟩
        refine rq_less (sx 0 rfl (sub_nil _)) (List.sublist_append_right _ _) ?_
        exact rq_v (rv_ev rfl)
       ·
        intro vf pf hR
        refine Or.inl ⟨rfl, ?_⟩
        refine rq_less (sx 5 rfl (sub_nil _)) (List.sublist_append_right _ _) ?_
        exact rq_v (rv_ev rfl)
       ·
        intro vf pf hR
        have e0 : (vf 0) = u ∧ (pf 0) = [] := hR 0 (by decide)
        have e1 : (vf 1) = .int .i64 (j : Int) ∧ (pf 1) = [] := hR 1 (by decide)
        refine Or.inl ⟨rfl, ?_⟩
        refine rq_less (sx 17 (congrArg some e0.1) (sx 18 (congrArg some e1.1) (sub_nil _))) (List.sublist_append_right _ _) ?_
        exact rq_v (rv_index (s := 4) rfl Try.underlying37 (by kernel_rfl) rfl rfl (rd_old hu) (by omega) (by first | omega | (simp only [List.length_set]; omega)))
       ·
        intro vf pf hR
        have e2 : (vf 2) = elP u (((j : Int)).toNat * 4) ∧ (pf 2) = [] := hR 2 (by decide)
        refine Or.inl ⟨rfl, ?_⟩
        refine rq_less (sx 19 (congrArg some e2.1) (sub_nil _)) (List.sublist_append_right _ _) ?_
        exact rq_v (rv_fieldEl (k0 := 1) rfl (by kernel_rfl) rfl (rd_old hu) (by first | omega | (simp only [List.length_set]; omega)))
       ·
        intro vf pf hR
        have e3 : (vf 3) = elP u (((j : Int)).toNat * 4 + 1) ∧ (pf 3) = [] := hR 3 (by decide)
        refine Or.inl ⟨rfl, ?_⟩
        refine rq_less (sx 20 (congrArg some e3.1) (sub_nil _)) (List.sublist_append_right _ _) ?_
        exact rq_v (rv_loadEl (u := .int .i64 ((ea.getD j Le0).m)) rfl (by kernel_rfl) rfl (rd_old hu) ((flat_at Le.cells 4 (fun _ => rfl) ea Le0 (show j < _ by first | omega | (simp only [List.length_set]; omega)) (by decide)).trans rfl))
       ·
        intro vf pf hR
        refine Or.inl ⟨rfl, ?_⟩
        refine rq_less (sx 1 rfl (sub_nil _)) (List.sublist_append_right _ _) ?_
        exact rq_v (rv_ev rfl)
       ·
        intro vf pf hR
        refine Or.inl ⟨rfl, ?_⟩
        refine rq_less (sx 5 rfl (sub_nil _)) (List.sublist_append_right _ _) ?_
        exact rq_v (rv_ev rfl)
       ·
        intro vf pf hR
        have e5 : (vf 5) = v ∧ (pf 5) = [] := hR 5 (by decide)
        have e6 : (vf 6) = .int .i64 (j : Int) ∧ (pf 6) = [] := hR 6 (by decide)
        refine Or.inl ⟨rfl, ?_⟩
        refine rq_less (sx 22 (congrArg some e5.1) (sx 23 (congrArg some e6.1) (sub_nil _))) (List.sublist_append_right _ _) ?_
        exact rq_v (rv_index (s := 4) rfl Try.underlying37 (by kernel_rfl) rfl rfl (rd_old hv) (by omega) (by first | omega | (simp only [List.length_set]; omega)))
       ·
        intro vf pf hR
        have e7 : (vf 7) = elP v (((j : Int)).toNat * 4) ∧ (pf 7) = [] := hR 7 (by decide)
        refine Or.inl ⟨rfl, ?_⟩
        refine rq_less (sx 24 (congrArg some e7.1) (sub_nil _)) (List.sublist_append_right _ _) ?_
        exact rq_v (rv_fieldEl (k0 := 1) rfl (by kernel_rfl) rfl (rd_old hv) (by first | omega | (simp only [List.length_set]; omega)))
       ·
        intro vf pf hR
        have e8 : (vf 8) = elP v (((j : Int)).toNat * 4 + 1) ∧ (pf 8) = [] := hR 8 (by decide)
        refine Or.inl ⟨rfl, ?_⟩
        refine rq_less (sx 25 (congrArg some e8.1) (sub_nil _)) (List.sublist_append_right _ _) ?_
        exact rq_v (rv_loadEl (u := .int .i64 ((eb.getD j Le0).m)) rfl (by kernel_rfl) rfl (rd_old hv) ((flat_at Le.cells 4 (fun _ => rfl) eb Le0 (show j < _ by first | omega | (simp only [List.length_set]; omega)) (by decide)).trans rfl))
       ·
        intro vf pf hR
        have e4 : (vf 4) = .int .i64 ((ea.getD j Le0).m) ∧ (pf 4) = [] := hR 4 (by decide)
        have e9 : (vf 9) = .int .i64 ((eb.getD j Le0).m) ∧ (pf 9) = [] := hR 9 (by decide)
        refine Or.inl ⟨rfl, ?_⟩
        refine rq_less (sx 21 (congrArg some e4.1) (sx 26 (congrArg some e9.1) (sub_nil _))) (List.sublist_append_right _ _) ?_
        exact rq_mono (rq_v (rv_cmp rfl rfl rfl rfl)) (fun _ _ h => ⟨h.1.trans (congrArg Value.bool hb4), h.2⟩)
       ·
        intro vf pf hR
        have e10 : (vf 10) = .bool false ∧ (pf 10) = [] := hR 10 (by decide)
        refine Or.inl ⟨rfl, ?_⟩
        refine rq_less (sx 27 (congrArg some e10.1) (sub_nil _)) (List.sublist_append_right _ _) ?_
        exact rq_v (rv_ev rfl)
       ·
        intro vf pf hR
        have e11 : (vf 11) = .bool false ∧ (pf 11) = [] := hR 11 (by decide)
        refine Or.inl ⟨want_of (congrArg some e11.1) rfl, ?_⟩
        refine rq_less (sx 0 rfl (sub_nil _)) (List.sublist_append_right _ _) ?_
        exact rq_v (rv_ev rfl)
       ·
        intro vf pf hR
        have e11 : (vf 11) = .bool false ∧ (pf 11) = [] := hR 11 (by decide)
        refine Or.inl ⟨want_of (congrArg some e11.1) rfl, ?_⟩
        refine rq_less (sx 5 rfl (sub_nil _)) (List.sublist_append_right _ _) ?_
        exact rq_v (rv_ev rfl)
       ·
        intro vf pf hR
        have e11 : (vf 11) = .bool false ∧ (pf 11) = [] := hR 11 (by decide)
        have e12 : (vf 12) = u ∧ (pf 12) = [] := hR 12 (by decide)
        have e13 : (vf 13) = .int .i64 (j : Int) ∧ (pf 13) = [] := hR 13 (by decide)
        refine Or.inl ⟨want_of (congrArg some e11.1) rfl, ?_⟩
        refine rq_less (sx 29 (congrArg some e12.1) (sx 30 (congrArg some e13.1) (sub_nil _))) (List.sublist_append_right _ _) ?_
        exact rq_v (rv_index (s := 4) rfl Try.underlying37 (by kernel_rfl) rfl rfl (rd_old hu) (by omega) (by first | omega | (simp only [List.length_set]; omega)))
       ·
        intro vf pf hR
        have e11 : (vf 11) = .bool false ∧ (pf 11) = [] := hR 11 (by decide)
        have e14 : (vf 14) = elP u (((j : Int)).toNat * 4) ∧ (pf 14) = [] := hR 14 (by decide)
        refine Or.inl ⟨want_of (congrArg some e11.1) rfl, ?_⟩
        refine rq_less (sx 31 (congrArg some e14.1) (sub_nil _)) (List.sublist_append_right _ _) ?_
        exact rq_v (rv_fieldEl (k0 := 2) rfl (by kernel_rfl) rfl (rd_old hu) (by first | omega | (simp only [List.length_set]; omega)))
       ·
        intro vf pf hR
        have e11 : (vf 11) = .bool false ∧ (pf 11) = [] := hR 11 (by decide)
        have e15 : (vf 15) = elP u (((j : Int)).toNat * 4 + 2) ∧ (pf 15) = [] := hR 15 (by decide)
        refine Or.inl ⟨want_of (congrArg some e11.1) rfl, ?_⟩
        refine rq_less (sx 32 (congrArg some e15.1) (sub_nil _)) (List.sublist_append_right _ _) ?_
        exact rq_v (rv_loadEl (u := .int .i64 ((ea.getD j Le0).f)) rfl (by kernel_rfl) rfl (rd_old hu) ((flat_at Le.cells 4 (fun _ => rfl) ea Le0 (show j < _ by first | omega | (simp only [List.length_set]; omega)) (by decide)).trans rfl))
       ·
        intro vf pf hR
        have e11 : (vf 11) = .bool false ∧ (pf 11) = [] := hR 11 (by decide)
        refine Or.inl ⟨want_of (congrArg some e11.1) rfl, ?_⟩
        refine rq_less (sx 1 rfl (sub_nil _)) (List.sublist_append_right _ _) ?_
        exact rq_v (rv_ev rfl)
       ·
        intro vf pf hR
        have e11 : (vf 11) = .bool false ∧ (pf 11) = [] := hR 11 (by decide)
        refine Or.inl ⟨want_of (congrArg some e11.1) rfl, ?_⟩
        refine rq_less (sx 5 rfl (sub_nil _)) (List.sublist_append_right _ _) ?_
        exact rq_v (rv_ev rfl)
       ·
        intro vf pf hR
        have e11 : (vf 11) = .bool false ∧ (pf 11) = [] := hR 11 (by decide)
        have e17 : (vf 17) = v ∧ (pf 17) = [] := hR 17 (by decide)
        have e18 : (vf 18) = .int .i64 (j : Int) ∧ (pf 18) = [] := hR 18 (by decide)
        refine Or.inl ⟨want_of (congrArg some e11.1) rfl, ?_⟩
        refine rq_less (sx 34 (congrArg some e17.1) (sx 35 (congrArg some e18.1) (sub_nil _))) (List.sublist_append_right _ _) ?_
        exact rq_v (rv_index (s := 4) rfl Try.underlying37 (by kernel_rfl) rfl rfl (rd_old hv) (by omega) (by first | omega | (simp only [List.length_set]; omega)))
       ·
        intro vf pf hR
        have e11 : (vf 11) = .bool false ∧ (pf 11) = [] := hR 11 (by decide)
        have e19 : (vf 19) = elP v (((j : Int)).toNat * 4) ∧ (pf 19) = [] := hR 19 (by decide)
        refine Or.inl ⟨want_of (congrArg some e11.1) rfl, ?_⟩
        refine rq_less (sx 36 (congrArg some e19.1) (sub_nil _)) (List.sublist_append_right _ _) ?_
        exact rq_v (rv_fieldEl (k0 := 2) rfl (by kernel_rfl) rfl (rd_old hv) (by first | omega | (simp only [List.length_set]; omega)))
       ·
        intro vf pf hR
        have e11 : (vf 11) = .bool false ∧ (pf 11) = [] := hR 11 (by decide)
        have e20 : (vf 20) = elP v (((j : Int)).toNat * 4 + 2) ∧ (pf 20) = [] := hR 20 (by decide)
        refine Or.inl ⟨want_of (congrArg some e11.1) rfl, ?_⟩
        refine rq_less (sx 37 (congrArg some e20.1) (sub_nil _)) (List.sublist_append_right _ _) ?_
        exact rq_v (rv_loadEl (u := .int .i64 ((eb.getD j Le0).f)) rfl (by kernel_rfl) rfl (rd_old hv) ((flat_at Le.cells 4 (fun _ => rfl) eb Le0 (show j < _ by first | omega | (simp only [List.length_set]; omega)) (by decide)).trans rfl))
       ·
        intro vf pf hR
        have e11 : (vf 11) = .bool false ∧ (pf 11) = [] := hR 11 (by decide)
        have e16 : (vf 16) = .int .i64 ((ea.getD j Le0).f) ∧ (pf 16) = [] := hR 16 (by decide)
        have e21 : (vf 21) = .int .i64 ((eb.getD j Le0).f) ∧ (pf 21) = [] := hR 21 (by decide)
        refine Or.inl ⟨want_of (congrArg some e11.1) rfl, ?_⟩
        refine rq_less (sx 33 (congrArg some e16.1) (sx 38 (congrArg some e21.1) (sub_nil _))) (List.sublist_append_right _ _) ?_
        exact rq_mono (rq_v (rv_cmp rfl rfl rfl rfl)) (fun _ _ h => ⟨h.1.trans (congrArg Value.bool hb5), h.2⟩)
       ·
        intro vf pf hR
        have e11 : (vf 11) = .bool false ∧ (pf 11) = [] := hR 11 (by decide)
        have e22 : (vf 22) = .bool false ∧ (pf 22) = [] := hR 22 (by decide)
        refine Or.inl ⟨rfl, ?_⟩
        refine rq_less (sx 28 (congrArg some e11.1) (sx 39 (congrArg some e22.1) (sub_nil _))) (List.sublist_append_right _ _) ?_
        exact rq_v (rv_ev rfl)
       ·
        intro vf pf hR
        have e23 : (vf 23) = .bool false ∧ (pf 23) = [] := hR 23 (by decide)
        refine Or.inl ⟨rfl, ?_⟩
        refine rq_less (sx 40 (congrArg some e23.1) (sub_nil _)) (List.sublist_append_right _ _) ?_
        exact rq_v (rv_ev rfl)
       ·
        intro vf pf hR
        have e24 : (vf 24) = .bool false ∧ (pf 24) = [] := hR 24 (by decide)
        refine Or.inl ⟨want_of (congrArg some e24.1) rfl, ?_⟩
        refine rq_less (sx 0 rfl (sub_nil _)) (List.sublist_append_right _ _) ?_
        exact rq_v (rv_ev rfl)
       ·
        intro vf pf hR
        have e24 : (vf 24) = .bool false ∧ (pf 24) = [] := hR 24 (by decide)
        refine Or.inl ⟨want_of (congrArg some e24.1) rfl, ?_⟩
        refine rq_less (sx 5 rfl (sub_nil _)) (List.sublist_append_right _ _) ?_
        exact rq_v (rv_ev rfl)
       ·
        intro vf pf hR
        have e24 : (vf 24) = .bool false ∧ (pf 24) = [] := hR 24 (by decide)
        have e25 : (vf 25) = u ∧ (pf 25) = [] := hR 25 (by decide)
        have e26 : (vf 26) = .int .i64 (j : Int) ∧ (pf 26) = [] := hR 26 (by decide)
        refine Or.inl ⟨want_of (congrArg some e24.1) rfl, ?_⟩
        refine rq_less (sx 42 (congrArg some e25.1) (sx 43 (congrArg some e26.1) (sub_nil _))) (List.sublist_append_right _ _) ?_
        exact rq_v (rv_index (s := 4) rfl Try.underlying37 (by kernel_rfl) rfl rfl (rd_old hu) (by omega) (by first | omega | (simp only [List.length_set]; omega)))
       ·
        intro vf pf hR
        have e24 : (vf 24) = .bool false ∧ (pf 24) = [] := hR 24 (by decide)
        have e27 : (vf 27) = elP u (((j : Int)).toNat * 4) ∧ (pf 27) = [] := hR 27 (by decide)
        refine Or.inl ⟨want_of (congrArg some e24.1) rfl, ?_⟩
        refine rq_less (sx 44 (congrArg some e27.1) (sub_nil _)) (List.sublist_append_right _ _) ?_
        exact rq_v (rv_fieldEl (k0 := 3) rfl (by kernel_rfl) rfl (rd_old hu) (by first | omega | (simp only [List.length_set]; omega)))
       ·
        intro vf pf hR
        have e24 : (vf 24) = .bool false ∧ (pf 24) = [] := hR 24 (by decide)
        have e28 : (vf 28) = elP u (((j : Int)).toNat * 4 + 3) ∧ (pf 28) = [] := hR 28 (by decide)
        refine Or.inl ⟨want_of (congrArg some e24.1) rfl, ?_⟩
        refine rq_less (sx 45 (congrArg some e28.1) (sub_nil _)) (List.sublist_append_right _ _) ?_
        exact rq_v (rv_loadEl (u := .int .i64 ((ea.getD j Le0).i)) rfl (by kernel_rfl) rfl (rd_old hu) ((flat_at Le.cells 4 (fun _ => rfl) ea Le0 (show j < _ by first | omega | (simp only [List.length_set]; omega)) (by decide)).trans rfl))
       ·
        intro vf pf hR
        have e24 : (vf 24) = .bool false ∧ (pf 24) = [] := hR 24 (by decide)
        refine Or.inl ⟨want_of (congrArg some e24.1) rfl, ?_⟩
        refine rq_less (sx 1 rfl (sub_nil _)) (List.sublist_append_right _ _) ?_
        exact rq_v (rv_ev rfl)
       ·
        intro vf pf hR
        have e24 : (vf 24) = .bool false ∧ (pf 24) = [] := hR 24 (by decide)
        refine Or.inl ⟨want_of (congrArg some e24.1) rfl, ?_⟩
        refine rq_less (sx 5 rfl (sub_nil _)) (List.sublist_append_right _ _) ?_
        exact rq_v (rv_ev rfl)
       ·
        intro vf pf hR
        have e24 : (vf 24) = .bool false ∧ (pf 24) = [] := hR 24 (by decide)
        have e30 : (vf 30) = v ∧ (pf 30) = [] := hR 30 (by decide)
        have e31 : (vf 31) = .int .i64 (j : Int) ∧ (pf 31) = [] := hR 31 (by decide)
        refine Or.inl ⟨want_of (congrArg some e24.1) rfl, ?_⟩
        refine rq_less (sx 47 (congrArg some e30.1) (sx 48 (congrArg some e31.1) (sub_nil _))) (List.sublist_append_right _ _) ?_
        exact rq_v (rv_index (s := 4) rfl Try.underlying37 (by kernel_rfl) rfl rfl (rd_old hv) (by omega) (by first | omega | (simp only [List.length_set]; omega)))
       ·
        intro vf pf hR
        have e24 : (vf 24) = .bool false ∧ (pf 24) = [] := hR 24 (by decide)
        have e32 : (vf 32) = elP v (((j : Int)).toNat * 4) ∧ (pf 32) = [] := hR 32 (by decide)
        refine Or.inl ⟨want_of (congrArg some e24.1) rfl, ?_⟩
        refine rq_less (sx 49 (congrArg some e32.1) (sub_nil _)) (List.sublist_append_right _ _) ?_
        exact rq_v (rv_fieldEl (k0 := 3) rfl (by kernel_rfl) rfl (rd_old hv) (by first | omega | (simp only [List.length_set]; omega)))
       ·
        intro vf pf hR
        have e24 : (vf 24) = .bool false ∧ (pf 24) = [] := hR 24 (by decide)
        have e33 : (vf 33) = elP v (((j : Int)).toNat * 4 + 3) ∧ (pf 33) = [] := hR 33 (by decide)
        refine Or.inl ⟨want_of (congrArg some e24.1) rfl, ?_⟩
        refine rq_less (sx 50 (congrArg some e33.1) (sub_nil _)) (List.sublist_append_right _ _) ?_
        exact rq_v (rv_loadEl (u := .int .i64 ((eb.getD j Le0).i)) rfl (by kernel_rfl) rfl (rd_old hv) ((flat_at Le.cells 4 (fun _ => rfl) eb Le0 (show j < _ by first | omega | (simp only [List.length_set]; omega)) (by decide)).trans rfl))
       ·
        intro vf pf hR
        have e24 : (vf 24) = .bool false ∧ (pf 24) = [] := hR 24 (by decide)
        have e29 : (vf 29) = .int .i64 ((ea.getD j Le0).i) ∧ (pf 29) = [] := hR 29 (by decide)
        have e34 : (vf 34) = .int .i64 ((eb.getD j Le0).i) ∧ (pf 34) = [] := hR 34 (by decide)
        refine Or.inl ⟨want_of (congrArg some e24.1) rfl, ?_⟩
        refine rq_less (sx 46 (congrArg some e29.1) (sx 51 (congrArg some e34.1) (sub_nil _))) (List.sublist_append_right _ _) ?_
        exact rq_mono (rq_v (rv_cmp rfl rfl rfl rfl)) (fun _ _ h => ⟨h.1.trans (congrArg Value.bool hb6), h.2⟩)
       ·
        intro vf pf hR
        have e24 : (vf 24) = .bool false ∧ (pf 24) = [] := hR 24 (by decide)
        have e35 : (vf 35) = .bool true ∧ (pf 35) = [] := hR 35 (by decide)
        refine Or.inl ⟨rfl, ?_⟩
        refine rq_less (sx 41 (congrArg some e24.1) (sx 52 (congrArg some e35.1) (sub_nil _))) (List.sublist_append_right _ _) ?_
        exact rq_v (rv_ev rfl)
       ·
        intro vf pf hR
        have e36 : (vf 36) = .bool true ∧ (pf 36) = [] := hR 36 (by decide)
        refine Or.inl ⟨rfl, ?_⟩
        refine rq_less (sx 53 (congrArg some e36.1) (sub_nil _)) (List.sublist_append_right _ _) ?_
        exact rq_v (rv_ev rfl)
       ·
        intro vf pf hR
        have e37 : (vf 37) = .bool true ∧ (pf 37) = [] := hR 37 (by decide)
        exact Or.inr ⟨want_of (congrArg some e37.1) rfl, rfl, rfl⟩
       ·
        intro vf pf hR
        have e37 : (vf 37) = .bool true ∧ (pf 37) = [] := hR 37 (by decide)
        exact Or.inr ⟨want_of (congrArg some e37.1) rfl, rfl, rfl⟩
       ·
        intro vf pf hR
        have e37 : (vf 37) = .bool true ∧ (pf 37) = [] := hR 37 (by decide)
        exact Or.inr ⟨want_of (congrArg some e37.1) rfl, rfl, rfl⟩
       ·
        intro vf pf hR
        have e37 : (vf 37) = .bool true ∧ (pf 37) = [] := hR 37 (by decide)
        exact Or.inr ⟨want_of (congrArg some e37.1) rfl, rfl, rfl⟩
       ·
        intro vf pf hR
        have e37 : (vf 37) = .bool true ∧ (pf 37) = [] := hR 37 (by decide)
        exact Or.inr ⟨want_of (congrArg some e37.1) rfl, rfl, rfl⟩
       ·
        intro vf pf hR
        have e37 : (vf 37) = .bool true ∧ (pf 37) = [] := hR 37 (by decide)
        exact Or.inr ⟨want_of (congrArg some e37.1) rfl, rfl, rfl⟩
       ·
        intro vf pf hR
        have e37 : (vf 37) = .bool true ∧ (pf 37) = [] := hR 37 (by decide)
        exact Or.inr ⟨want_of (congrArg some e37.1) rfl, rfl, rfl⟩
       ·
        intro vf pf hR
        have e37 : (vf 37) = .bool true ∧ (pf 37) = [] := hR 37 (by decide)
        exact Or.inr ⟨want_of (congrArg some e37.1) rfl, rfl, rfl⟩
       ·
        intro vf pf hR
        have e37 : (vf 37) = .bool true ∧ (pf 37) = [] := hR 37 (by decide)
        exact Or.inr ⟨want_of (congrArg some e37.1) rfl, rfl, rfl⟩
       ·
        intro vf pf hR
        have e37 : (vf 37) = .bool true ∧ (pf 37) = [] := hR 37 (by decide)
        exact Or.inr ⟨want_of (congrArg some e37.1) rfl, rfl, rfl⟩
       ·
        intro vf pf hR
        have e37 : (vf 37) = .bool true ∧ (pf 37) = [] := hR 37 (by decide)
        exact Or.inr ⟨want_of (congrArg some e37.1) rfl, rfl, rfl⟩
       ·
        intro vf pf hR
        have e37 : (vf 37) = .bool true ∧ (pf 37) = [] := hR 37 (by decide)
        exact Or.inr ⟨want_of (congrArg some e37.1) rfl, rfl, rfl⟩
       ·
        intro vf pf hR
        have e37 : (vf 37) = .bool true ∧ (pf 37) = [] := hR 37 (by decide)
        have e49 : (vf 49) = undef ∧ (pf 49) = [] := hR 49 (by decide)
        refine Or.inl ⟨rfl, ?_⟩
        refine rq_less (sx 54 (congrArg some e37.1) (sx 66 (congrArg some e49.1) (sub_nil _))) (List.sublist_append_right _ _) ?_
        exact rq_v (rv_ev rfl)
      ·
       intro vf pf hR
       have e50 : (vf 50) = .bool true ∧ (pf 50) = [] := hR 50 (by decide)
       refine hl_less (l' := []) (sx 0 rfl (sx 1 rfl (sx 4 rfl (sx 5 rfl (sx 10 rfl (sx 14 rfl (sx 67 (congrArg some e50.1) (sub_nil _)))))))) (List.sublist_append_right _ _) ?_
       simp only [List.drop_succ_cons, List.drop_zero]
       refine hl_less (sx 0 rfl (sx 1 rfl (sx 4 rfl (sx 5 rfl (sx 10 rfl (sx 14 rfl (sx 67 rfl (sub_nil _)))))))) (.refl _) ?_
       refine hl_nil ?_
       refine hq_then ?_
       refine hc_true rfl ?_
       refine hc_seq ?_
       refine hc_region ?_
       refine hl_v rfl rfl rfl (rv_ev rfl) ?_
       refine hl_less (sx 0 rfl (sx 1 rfl (sx 4 rfl (sx 5 rfl (sx 10 rfl (sx 14 rfl (sx 67 rfl (sub_nil _)))))))) (.refl _) ?_
       refine hl_nil ?_
       refine hq_then ?_
       refine hc_ret ?_
       refine hq_block_ret ?_
       refine hq_then_ret ?_
       refine hq_then_ret ?_
       refine hq_block_ret ?_
       refine hq_then_ret ?_
       exact hq_ans rfl rfl (congrArg _ (decide_eq_false (fun he => by first | (have := congrArg List.length he; simp at this; omega) | (have h9 := map_at (d := Le0) he (i := j) (by omega); simp only [Le.val, Prod.mk.injEq] at h9; obtain ⟨q1, q2, q3, q4⟩ := h9; first | omega | contradiction))).symm)
     ·
      have hb6p : (ea.getD j Le0).i = (eb.getD j Le0).i := by simpa using hb6
      rcases Bool.eq_false_or_eq_true (decide ((ea.getD j Le0).xs = (eb.getD j Le0).xs)) with hb7 | hb7
      ·
       have hb7p := of_decide_eq_true hb7
       refine hc_draw (by kernel_rfl) 51 [0, 1, 2, 3, 4, 5, 6, 7, 8, 9, 10, 11, 12, 13, 14, 15, 16, 17, 18, 19, 20, 21, 22, 23, 24, 25, 26, 27, 28, 29, 30, 31, 32, 33, 34, 35, 36, 37, 38, 39, 40, 41, 42, 43, 44, 45, 46, 47, 48, 49, 50] (List.take 51 _) (List.drop 51 _) [[], [], [0, 1], [2], [3], [], [], [5, 6], [7], [8], [4, 9], [10], [11], [11], [11, 12, 13], [11, 14], [11, 15], [11], [11], [11, 17, 18], [11, 19], [11, 20], [11, 16, 21], [11, 22], [23], [24], [24], [24, 25, 26], [24, 27], [24, 28], [24], [24], [24, 30, 31], [24, 32], [24, 33], [24, 29, 34], [24, 35], [36], [37], [37], [37, 38, 39], [37, 40], [37, 41], [37], [37], [37, 43, 44], [37, 45], [37, 46], [37, 42, 47], [37, 48], [37, 49]] [17, 18, 19, 20, 21, 22, 23, 24, 25, 26, 27, 28, 29, 30, 31, 32, 33, 34, 35, 36, 37, 38, 39, 40, 41, 42, 43, 44, 45, 46, 47, 48, 49, 50, 51, 52, 53, 54, 55, 56, 57, 58, 59, 60, 61, 62, 63, 64, 65, 66, 67] (fun i vs_ v_ p_ => match i with | 0 => v_ = u ∧ p_ = [] | 1 => v_ = .int .i64 (j : Int) ∧ p_ = [] | 2 => v_ = elP u (((j : Int)).toNat * 4) ∧ p_ = [] | 3 => v_ = elP u (((j : Int)).toNat * 4 + 1) ∧ p_ = [] | 4 => v_ = .int .i64 ((ea.getD j Le0).m) ∧ p_ = [] | 5 => v_ = v ∧ p_ = [] | 6 => v_ = .int .i64 (j : Int) ∧ p_ = [] | 7 => v_ = elP v (((j : Int)).toNat * 4) ∧ p_ = [] | 8 => v_ = elP v (((j : Int)).toNat * 4 + 1) ∧ p_ = [] | 9 => v_ = .int .i64 ((eb.getD j Le0).m) ∧ p_ = [] | 10 => v_ = .bool false ∧ p_ = [] | 11 => v_ = .bool false ∧ p_ = [] | 12 => v_ = u ∧ p_ = [] | 13 => v_ = .int .i64 (j : Int) ∧ p_ = [] | 14 => v_ = elP u (((j : Int)).toNat * 4) ∧ p_ = [] | 15 => v_ = elP u (((j : Int)).toNat * 4 + 2) ∧ p_ = [] | 16 => v_ = .int .i64 ((ea.getD j Le0).f) ∧ p_ = [] | 17 => v_ = v ∧ p_ = [] | 18 => v_ = .int .i64 (j : Int) ∧ p_ = [] | 19 => v_ = elP v (((j : Int)).toNat * 4) ∧ p_ = [] | 20 => v_ = elP v (((j : Int)).toNat * 4 + 2) ∧ p_ = [] | 21 => v_ = .int .i64 ((eb.getD j Le0).f) ∧ p_ = [] | 22 => v_ = .bool false ∧ p_ = [] | 23 => v_ = .bool false ∧ p_ = [] | 24 => v_ = .bool false ∧ p_ = [] | 25 => v_ = u ∧ p_ = [] | 26 => v_ = .int .i64 (j : Int) ∧ p_ = [] | 27 => v_ = elP u (((j : Int)).toNat * 4) ∧ p_ = [] | 28 => v_ = elP u (((j : Int)).toNat * 4 + 3) ∧ p_ = [] | 29 => v_ = .int .i64 ((ea.getD j Le0).i) ∧ p_ = [] | 30 => v_ = v ∧ p_ = [] | 31 => v_ = .int .i64 (j : Int) ∧ p_ = [] | 32 => v_ = elP v (((j : Int)).toNat * 4) ∧ p_ = [] | 33 => v_ = elP v (((j : Int)).toNat * 4 + 3) ∧ p_ = [] | 34 => v_ = .int .i64 ((eb.getD j Le0).i) ∧ p_ = [] | 35 => v_ = .bool false ∧ p_ = [] | 36 => v_ = .bool false ∧ p_ = [] | 37 => v_ = .bool false ∧ p_ = [] | 38 => v_ = u ∧ p_ = [] | 39 => v_ = .int .i64 (j : Int) ∧ p_ = [] | 40 => v_ = elP u (((j : Int)).toNat * 4) ∧ p_ = [] | 41 => v_ = elP u (((j : Int)).toNat * 4 + 0) ∧ p_ = [] | 42 => v_ = (ea.getD j Le0).v ∧ p_ = [] | 43 => v_ = v ∧ p_ = [] | 44 => v_ = .int .i64 (j : Int) ∧ p_ = [] | 45 => v_ = elP v (((j : Int)).toNat * 4) ∧ p_ = [] | 46 => v_ = elP v (((j : Int)).toNat * 4 + 0) ∧ p_ = [] | 47 => v_ = (eb.getD j Le0).v ∧ p_ = [] | 48 => v_ = .bool true ∧ p_ = [] | 49 => v_ = .bool false ∧ p_ = [] | 50 => v_ = .bool false ∧ p_ = [] | _ => True) (List.take_append_drop 51 _).symm (by kernel_rfl) (by kernel_rfl) rfl rfl ?_ ?_
       ·
        refine ⟨?_, ?_, ?_, ?_, ?_, ?_, ?_, ?_, ?_, ?_, ?_, ?_, ?_, ?_, ?_, ?_, ?_, ?_, ?_, ?_, ?_, ?_, ?_, ?_, ?_, ?_, ?_, ?_, ?_, ?_, ?_, ?_, ?_, ?_, ?_, ?_, ?_, ?_, ?_, ?_, ?_, ?_, ?_, ?_, ?_, ?_, ?_, ?_, ?_, ?_, ?_, trivial⟩
        ·
         intro vf pf hR
         refine Or.inl ⟨rfl, ?_⟩
         refine rq_less (sx 0 rfl (sub_nil _)) (List.sublist_append_right _ _) ?_
         exact rq_v (rv_ev rfl)
        ·
         intro vf pf hR
         refine Or.inl ⟨rfl, ?_⟩
         refine rq_less (sx 5 rfl (sub_nil _)) (List.sublist_append_right _ _) ?_
         exact rq_v (rv_ev rfl)
        ·
         intro vf pf hR
         have e0 : (vf 0) = u ∧ (pf 0) = [] := hR 0 (by decide)
         have e1 : (vf 1) = .int .i64 (j : Int) ∧ (pf 1) = [] := hR 1 (by decide)
         refine Or.inl ⟨rfl, ?_⟩
         refine rq_less (sx 17 (congrArg some e0.1) (sx 18 (congrArg some e1.1) (sub_nil _))) (List.sublist_append_right _ _) ?_
         exact rq_v (rv_index (s := 4) rfl Try.underlying37 (by kernel_rfl) rfl rfl (rd_old hu) (by omega) (by first | omega | (simp only [List.length_set]; omega)))
        ·
         intro vf pf hR
         have e2 : (vf 2) = elP u (((j : Int)).toNat * 4) ∧ (pf 2) = [] := hR 2 (by decide)
         refine Or.inl ⟨rfl, ?_⟩
         refine rq_less (sx 19 (congrArg some e2.1) (sub_nil _)) (List.sublist_append_right _ _) ?_
         exact rq_v (rv_fieldEl (k0 := 1) rfl (by kernel_rfl) rfl (rd_old hu) (by first | omega | (simp only [List.length_set]; omega)))
        ·
         intro vf pf hR
         have e3 : (vf 3) = elP u (((j : Int)).toNat * 4 + 1) ∧ (pf 3) = [] := hR 3 (by decide)
         refine Or.inl ⟨rfl, ?_⟩
         refine rq_less (sx 20 (congrArg some e3.1) (sub_nil _)) (List.sublist_append_right _ _) ?_
         exact rq_v (rv_loadEl (u := .int .i64 ((ea.getD j Le0).m)) rfl (by kernel_rfl) rfl (rd_old hu) ((flat_at Le.cells 4 (fun _ => rfl) ea Le0 (show j < _ by first | omega | (simp only [List.length_set]; omega)) (by decide)).trans rfl))
        ·
         intro vf pf hR
         refine Or.inl ⟨rfl, ?_⟩
         refine rq_less (sx 1 rfl (sub_nil _)) (List.sublist_append_right _ _) ?_
         exact rq_v (rv_ev rfl)
        ·
         intro vf pf hR
         refine Or.inl ⟨rfl, ?_⟩
         refine rq_less (sx 5 rfl (sub_nil _)) (List.sublist_append_right _ _) ?_
         exact rq_v (rv_ev rfl)
        ·
         intro vf pf hR
         have e5 : (vf 5) = v ∧ (pf 5) = [] := hR 5 (by decide)
         have e6 : (vf 6) = .int .i64 (j : Int) ∧ (pf 6) = [] := hR 6 (by decide)
         refine Or.inl ⟨rfl, ?_⟩
         refine rq_less (sx 22 (congrArg some e5.1) (sx 23 (congrArg some e6.1) (sub_nil _))) (List.sublist_append_right _ _) ?_
         exact rq_v (rv_index (s := 4) rfl Try.underlying37 (by kernel_rfl) rfl rfl (rd_old hv) (by omega) (by first | omega | (simp only [List.length_set]; omega)))
        ·
         intro vf pf hR
         have e7 : (vf 7) = elP v (((j : Int)).toNat * 4) ∧ (pf 7) = [] := hR 7 (by decide)
         refine Or.inl ⟨rfl, ?_⟩
         refine rq_less (sx 24 (congrArg some e7.1) (sub_nil _)) (List.sublist_append_right _ _) ?_
         exact rq_v (rv_fieldEl (k0 := 1) rfl (by kernel_rfl) rfl (rd_old hv) (by first | omega | (simp only [List.length_set]; omega)))
        ·
         intro vf pf hR
         have e8 : (vf 8) = elP v (((j : Int)).toNat * 4 + 1) ∧ (pf 8) = [] := hR 8 (by decide)
         refine Or.inl ⟨rfl, ?_⟩
         refine rq_less (sx 25 (congrArg some e8.1) (sub_nil _)) (List.sublist_append_right _ _) ?_
         exact rq_v (rv_loadEl (u := .int .i64 ((eb.getD j Le0).m)) rfl (by kernel_rfl) rfl (rd_old hv) ((flat_at Le.cells 4 (fun _ => rfl) eb Le0 (show j < _ by first | omega | (simp only [List.length_set]; omega)) (by decide)).trans rfl))
        ·
         intro vf pf hR
         have e4 : (vf 4) = .int .i64 ((ea.getD j Le0).m) ∧ (pf 4) = [] := hR 4 (by decide)
         have e9 : (vf 9) = .int .i64 ((eb.getD j Le0).m) ∧ (pf 9) = [] := hR 9 (by decide)
         refine Or.inl ⟨rfl, ?_⟩
         refine rq_less (sx 21 (congrArg some e4.1) (sx 26 (congrArg some e9.1) (sub_nil _))) (List.sublist_append_right _ _) ?_
         exact rq_mono (rq_v (rv_cmp rfl rfl rfl rfl)) (fun _ _ h => ⟨h.1.trans (congrArg Value.bool hb4), h.2⟩)
        ·
         intro vf pf hR
         have e10 : (vf 10) = .bool false ∧ (pf 10) = [] := hR 10 (by decide)
         refine Or.inl ⟨rfl, ?_⟩
         refine rq_less (sx 27 (congrArg some e10.1) (sub_nil _)) (List.sublist_append_right _ _) ?_
         exact rq_v (rv_ev rfl)
        ·
         intro vf pf hR
         have e11 : (vf 11) = .bool false ∧ (pf 11) = [] := hR 11 (by decide)
         refine Or.inl ⟨want_of (congrArg some e11.1) rfl, ?_⟩
         refine rq_less (sx 0 rfl (sub_nil _)) (List.sublist_append_right _ _) ?_
         exact rq_v (rv_ev rfl)
        ·
         intro vf pf hR
         have e11 : (vf 11) = .bool false ∧ (pf 11) = [] := hR 11 (by decide)
         refine Or.inl ⟨want_of (congrArg some e11.1) rfl, ?_⟩
         refine rq_less (sx 5 rfl (sub_nil _)) (List.sublist_append_right _ _) ?_
         exact rq_v (rv_ev rfl)
        ·
         intro vf pf hR
         have e11 : (vf 11) = .bool false ∧ (pf 11) = [] := hR 11 (by decide)
         have e12 : (vf 12) = u ∧ (pf 12) = [] := hR 12 (by decide)
         have e13 : (vf 13) = .int .i64 (j : Int) ∧ (pf 13) = [] := hR 13 (by decide)
         refine Or.inl ⟨want_of (congrArg some e11.1) rfl, ?_⟩
         refine rq_less (sx 29 (congrArg some e12.1) (sx 30 (congrArg some e13.1) (sub_nil _))) (List.sublist_append_right _ _) ?_
         exact rq_v (rv_index (s := 4) rfl Try.underlying37 (by kernel_rfl) rfl rfl (rd_old hu) (by omega) (by first | omega | (simp only [List.length_set]; omega)))
        ·
         intro vf pf hR
         have e11 : (vf 11) = .bool false ∧ (pf 11) = [] := hR 11 (by decide)
         have e14 : (vf 14) = elP u (((j : Int)).toNat * 4) ∧ (pf 14) = [] := hR 14 (by decide)
         refine Or.inl ⟨want_of (congrArg some e11.1) rfl, ?_⟩
         refine rq_less (sx 31 (congrArg some e14.1) (sub_nil _)) (List.sublist_append_right _ _) ?_
         exact rq_v (rv_fieldEl (k0 := 2) rfl (by kernel_rfl) rfl (rd_old hu) (by first | omega | (simp only [List.length_set]; omega)))
        ·
         intro vf pf hR
         have e11 : (vf 11) = .bool false ∧ (pf 11) = [] := hR 11 (by decide)
         have e15 : (vf 15) = elP u (((j : Int)).toNat * 4 + 2) ∧ (pf 15) = [] := hR 15 (by decide)
         refine Or.inl ⟨want_of (congrArg some e11.1) rfl, ?_⟩
         refine rq_less (sx 32 (congrArg some e15.1) (sub_nil _)) (List.sublist_append_right _ _) ?_
         exact rq_v (rv_loadEl (u := .int .i64 ((ea.getD j Le0).f)) rfl (by kernel_rfl) rfl (rd_old hu) ((flat_at Le.cells 4 (fun _ => rfl) ea Le0 (show j < _ by first | omega | (simp only [List.length_set]; omega)) (by decide)).trans rfl))
        ·
         intro vf pf hR
         have e11 : (vf 11) = .bool false ∧ (pf 11) = [] := hR 11 (by decide)
         refine Or.inl ⟨want_of (congrArg some e11.1) rfl, ?_⟩
         refine rq_less (sx 1 rfl (sub_nil _)) (List.sublist_append_right _ _) ?_
         exact rq_v (rv_ev rfl)
        ·
         intro vf pf hR
         have e11 : (vf 11) = .bool false ∧ (pf 11) = [] := hR 11 (by decide)
         refine Or.inl ⟨want_of (congrArg some e11.1) rfl, ?_⟩
         refine rq_less (sx 5 rfl (sub_nil _)) (List.sublist_append_right _ _) ?_
         exact rq_v (rv_ev rfl)
        ·
         intro vf pf hR
         have e11 : (vf 11) = .bool false ∧ (pf 11) = [] := hR 11 (by decide)
         have e17 : (vf 17) = v ∧ (pf 17) = [] := hR 17 (by decide)
         have e18 : (vf 18) = .int .i64 (j : Int) ∧ (pf 18) = [] := hR 18 (by decide)
         refine Or.inl ⟨want_of (congrArg some e11.1) rfl, ?_⟩
         refine rq_less (sx 34 (congrArg some e17.1) (sx 35 (congrArg some e18.1) (sub_nil _))) (List.sublist_append_right _ _) ?_
         exact rq_v (rv_index (s := 4) rfl Try.underlying37 (by kernel_rfl) rfl rfl (rd_old hv) (by omega) (by first | omega | (simp only [List.length_set]; omega)))
        ·
         intro vf pf hR
         have e11 : (vf 11) = .bool false ∧ (pf 11) = [] := hR 11 (by decide)
         have e19 : (vf 19) = elP v (((j : Int)).toNat * 4) ∧ (pf 19) = [] := hR 19 (by decide)
         refine Or.inl ⟨want_of (congrArg some e11.1) rfl, ?_⟩
         refine rq_less (sx 36 (congrArg some e19.1) (sub_nil _)) (List.sublist_append_right _ _) ?_
         exact rq_v (rv_fieldEl (k0 := 2) rfl (by kernel_rfl) rfl (rd_old hv) (by first | omega | (simp only [List.length_set]; omega)))
        ·
         intro vf pf hR
         have e11 : (vf 11) = .bool false ∧ (pf 11) = [] := hR 11 (by decide)
         have e20 : (vf 20) = elP v (((j : Int)).toNat * 4 + 2) ∧ (pf 20) = [] := hR 20 (by decide)
         refine Or.inl ⟨want_of (congrArg some e11.1) rfl, ?_⟩
         refine rq_less (sx 37 (congrArg some e20.1) (sub_nil _)) (List.sublist_append_right _ _) ?_
         exact rq_v (rv_loadEl (u := .int .i64 ((eb.getD j Le0).f)) rfl (by kernel_rfl) rfl (rd_old hv) ((flat_at Le.cells 4 (fun _ => rfl) eb Le0 (show j < _ by first | omega | (simp only [List.length_set]; omega)) (by decide)).trans rfl))
        ·
         intro vf pf hR
         have e11 : (vf 11) = .bool false ∧ (pf 11) = [] := hR 11 (by decide)
         have e16 : (vf 16) = .int .i64 ((ea.getD j Le0).f) ∧ (pf 16) = [] := hR 16 (by decide)
         have e21 : (vf 21) = .int .i64 ((eb.getD j Le0).f) ∧ (pf 21) = [] := hR 21 (by decide)
         refine Or.inl ⟨want_of (congrArg some e11.1) rfl, ?_⟩
         refine rq_less (sx 33 (congrArg some e16.1) (sx 38 (congrArg some e21.1) (sub_nil _))) (List.sublist_append_right _ _) ?_
         exact rq_mono (rq_v (rv_cmp rfl rfl rfl rfl)) (fun _ _ h => ⟨h.1.trans (congrArg Value.bool hb5), h.2⟩)
        ·
         intro vf pf hR
         have e11 : (vf 11) = .bool false ∧ (pf 11) = [] := hR 11 (by decide)
         have e22 : (vf 22) = .bool false ∧ (pf 22) = [] := hR 22 (by decide)
         refine Or.inl ⟨rfl, ?_⟩
         refine rq_less (sx 28 (congrArg some e11.1) (sx 39 (congrArg some e22.1) (sub_nil _))) (List.sublist_append_right _ _) ?_
         exact rq_v (rv_ev rfl)
        ·
         intro vf pf hR
         have e23 : (vf 23) = .bool false ∧ (pf 23) = [] := hR 23 (by decide)
         refine Or.inl ⟨rfl, ?_⟩
         refine rq_less (sx 40 (congrArg some e23.1) (sub_nil _)) (List.sublist_append_right _ _) ?_
         exact rq_v (rv_ev rfl)
        ·
         intro vf pf hR
         have e24 : (vf 24) = .bool false ∧ (pf 24) = [] := hR 24 (by decide)
         refine Or.inl ⟨want_of (congrArg some e24.1) rfl, ?_⟩
         refine rq_less (sx 0 rfl (sub_nil _)) (List.sublist_append_right _ _) ?_
         exact rq_v (rv_ev rfl)
        ·
         intro vf pf hR
         have e24 : (vf 24) = .bool false ∧ (pf 24) = [] := hR 24 (by decide)
         refine Or.inl ⟨want_of (congrArg some e24.1) rfl, ?_⟩
         refine rq_less (sx 5 rfl (sub_nil _)) (List.sublist_append_right _ _) ?_
         exact rq_v (rv_ev rfl)
        ·
         intro vf pf hR
         have e24 : (vf 24) = .bool false ∧ (pf 24) = [] := hR 24 (by decide)
         have e25 : (vf 25) = u ∧ (pf 25) = [] := hR 25 (by decide)
         have e26 : (vf 26) = .int .i64 (j : Int) ∧ (pf 26) = [] := hR 26 (by decide)
         refine Or.inl ⟨want_of (congrArg some e24.1) rfl, ?_⟩
         refine rq_less (sx 42 (congrArg some e25.1) (sx 43 (congrArg some e26.1) (sub_nil _))) (List.sublist_append_right _ _) ?_
         exact rq_v (rv_index (s := 4) rfl Try.underlying37 (by kernel_rfl) rfl rfl (rd_old hu) (by omega) (by first | omega | (simp only [List.length_set]; omega)))
        ·
         intro vf pf hR
         have e24 : (vf 24) = .bool false ∧ (pf 24) = [] := hR 24 (by decide)
         have e27 : (vf 27) = elP u (((j : Int)).toNat * 4) ∧ (pf 27) = [] := hR 27 (by decide)
         refine Or.inl ⟨want_of (congrArg some e24.1) rfl, ?_⟩
         refine rq_less (sx 44 (congrArg some e27.1) (sub_nil _)) (List.sublist_append_right _ _) ?_
         exact rq_v (rv_fieldEl (k0 := 3) rfl (by kernel_rfl) rfl (rd_old hu) (by first | omega | (simp only [List.length_set]; omega)))
        ·
         intro vf pf hR
         have e24 : (vf 24) = .bool false ∧ (pf 24) = [] := hR 24 (by decide)
         have e28 : (vf 28) = elP u (((j : Int)).toNat * 4 + 3) ∧ (pf 28) = [] := hR 28 (by decide)
         refine Or.inl ⟨want_of (congrArg some e24.1) rfl, ?_⟩
         refine rq_less (sx 45 (congrArg some e28.1) (sub_nil _)) (List.sublist_append_right _ _) ?_
         exact rq_v (rv_loadEl (u := .int .i64 ((ea.getD j Le0).i)) rfl (by kernel_rfl) rfl (rd_old hu) ((flat_at Le.cells 4 (fun _ => rfl) ea Le0 (show j < _ by first | omega | (simp only [List.length_set]; omega)) (by decide)).trans rfl))
        ·
         intro vf pf hR
         have e24 : (vf 24) = .bool false ∧ (pf 24) = [] := hR 24 (by decide)
         refine Or.inl ⟨want_of (congrArg some e24.1) rfl, ?_⟩
         refine rq_less (sx 1 rfl (sub_nil _)) (List.sublist_append_right _ _) ?_
         exact rq_v (rv_ev rfl)
        ·
         intro vf pf hR
         have e24 : (vf 24) = .bool false ∧ (pf 24) = [] := hR 24 (by decide)
         refine Or.inl ⟨want_of (congrArg some e24.1) rfl, ?_⟩
         refine rq_less (sx 5 rfl (sub_nil _)) (List.sublist_append_right _ _) ?_
         exact rq_v (rv_ev rfl)
        ·
         intro vf pf hR
         have e24 : (vf 24) = .bool false ∧ (pf 24) = [] := hR 24 (by decide)
         have e30 : (vf 30) = v ∧ (pf 30) = [] := hR 30 (by decide)
         have e31 : (vf 31) = .int .i64 (j : Int) ∧ (pf 31) = [] := hR 31 (by decide)
         refine Or.inl ⟨want_of (congrArg some e24.1) rfl, ?_⟩
         refine rq_less (sx 47 (congrArg some e30.1) (sx 48 (congrArg some e31.1) (sub_nil _))) (List.sublist_append_right _ _) ?_
         exact rq_v (rv_index (s := 4) rfl Try.underlying37 (by kernel_rfl) rfl rfl (rd_old hv) (by omega) (by first | omega | (simp only [List.length_set]; omega)))
        ·
         intro vf pf hR
         have e24 : (vf 24) = .bool false ∧ (pf 24) = [] := hR 24 (by decide)
         have e32 : (vf 32) = elP v (((j : Int)).toNat * 4) ∧ (pf 32) = [] := hR 32 (by decide)
         refine Or.inl ⟨want_of (congrArg some e24.1) rfl, ?_⟩
         refine rq_less (sx 49 (congrArg some e32.1) (sub_nil _)) (List.sublist_append_right _ _) ?_
         exact rq_v (rv_fieldEl (k0 := 3) rfl (by kernel_rfl) rfl (rd_old hv) (by first | omega | (simp only [List.length_set]; omega)))
        ·
         intro vf pf hR
         have e24 : (vf 24) = .bool false ∧ (pf 24) = [] := hR 24 (by decide)
         have e33 : (vf 33) = elP v (((j : Int)).toNat * 4 + 3) ∧ (pf 33) = [] := hR 33 (by decide)
         refine Or.inl ⟨want_of (congrArg some e24.1) rfl, ?_⟩
         refine rq_less (sx 50 (congrArg some e33.1) (sub_nil _)) (List.sublist_append_right _ _) ?_
         exact rq_v (rv_loadEl (u := .int .i64 ((eb.getD j Le0).i)) rfl (by kernel_rfl) rfl (rd_old hv) ((flat_at Le.cells 4 (fun _ => rfl) eb Le0 (show j < _ by first | omega | (simp only [List.length_set]; omega)) (by decide)).trans rfl))
        ·
         intro vf pf hR
         have e24 : (vf 24) = .bool false ∧ (pf 24) = [] := hR 24 (by decide)
         have e29 : (vf 29) = .int .i64 ((ea.getD j Le0).i) ∧ (pf 29) = [] := hR 29 (by decide)
         have e34 : (vf 34) = .int .i64 ((eb.getD j Le0).i) ∧ (pf 34) = [] := hR 34 (by decide)
         refine Or.inl ⟨want_of (congrArg some e24.1) rfl, ?_⟩
         refine rq_less (sx 46 (congrArg some e29.1) (sx 51 (congrArg some e34.1) (sub_nil _))) (List.sublist_append_right _ _) ?_
         exact rq_mono (rq_v (rv_cmp rfl rfl rfl rfl)) (fun _ _ h => ⟨h.1.trans (congrArg Value.bool hb6), h.2⟩)
        ·
         intro vf pf hR
         have e24 : (vf 24) = .bool false ∧ (pf 24) = [] := hR 24 (by decide)
         have e35 : (vf 35) = .bool false ∧ (pf 35) = [] := hR 35 (by decide)
         refine Or.inl ⟨rfl, ?_⟩
         refine rq_less (sx 41 (congrArg some e24.1) (sx 52 (congrArg some e35.1) (sub_nil _))) (List.sublist_append_right _ _) ?_
         exact rq_v (rv_ev rfl)
        ·
         intro vf pf hR
         have e36 : (vf 36) = .bool false ∧ (pf 36) = [] := hR 36 (by decide)
         refine Or.inl ⟨rfl, ?_⟩
         refine rq_less (sx 53 (congrArg some e36.1) (sub_nil _)) (List.sublist_append_right _ _) ?_
         exact rq_v (rv_ev rfl)
        ·
         intro vf pf hR
         have e37 : (vf 37) = .bool false ∧ (pf 37) = [] := hR 37 (by decide)
         refine Or.inl ⟨want_of (congrArg some e37.1) rfl, ?_⟩
         refine rq_less (sx 0 rfl (sub_nil _)) (List.sublist_append_right _ _) ?_
         exact rq_v (rv_ev rfl)
        ·
         intro vf pf hR
         have e37 : (vf 37) = .bool false ∧ (pf 37) = [] := hR 37 (by decide)
         refine Or.inl ⟨want_of (congrArg some e37.1) rfl, ?_⟩
         refine rq_less (sx 5 rfl (sub_nil _)) (List.sublist_append_right _ _) ?_
         exact rq_v (rv_ev rfl)
        ·
         intro vf pf hR
         have e37 : (vf 37) = .bool false ∧ (pf 37) = [] := hR 37 (by decide)
         have e38 : (vf 38) = u ∧ (pf 38) = [] := hR 38 (by decide)
         have e39 : (vf 39) = .int .i64 (j : Int) ∧ (pf 39) = [] := hR 39 (by decide)
         refine Or.inl ⟨want_of (congrArg some e37.1) rfl, ?_⟩
         refine rq_less (sx 55 (congrArg some e38.1) (sx 56 (congrArg some e39.1) (sub_nil _))) (List.sublist_append_right _ _) ?_
         exact rq_v (rv_index (s := 4) rfl Try.underlying37 (by kernel_rfl) rfl rfl (rd_old hu) (by omega) (by first | omega | (simp only [List.length_set]; omega)))
        ·
         intro vf pf hR
         have e37 : (vf 37) = .bool false ∧ (pf 37) = [] := hR 37 (by decide)
         have e40 : (vf 40) = elP u (((j : Int)).toNat * 4) ∧ (pf 40) = [] := hR 40 (by decide)
         refine Or.inl ⟨want_of (congrArg some e37.1) rfl, ?_⟩
         refine rq_less (sx 57 (congrArg some e40.1) (sub_nil _)) (List.sublist_append_right _ _) ?_
         exact rq_v (rv_fieldEl (k0 := 0) rfl (by kernel_rfl) rfl (rd_old hu) (by first | omega | (simp only [List.length_set]; omega)))
        ·
         intro vf pf hR
         have e37 : (vf 37) = .bool false ∧ (pf 37) = [] := hR 37 (by decide)
         have e41 : (vf 41) = elP u (((j : Int)).toNat * 4 + 0) ∧ (pf 41) = [] := hR 41 (by decide)
         refine Or.inl ⟨want_of (congrArg some e37.1) rfl, ?_⟩
         refine rq_less (sx 58 (congrArg some e41.1) (sub_nil _)) (List.sublist_append_right _ _) ?_
         exact rq_v (rv_loadEl (u := (ea.getD j Le0).v) rfl (by kernel_rfl) rfl (rd_old hu) ((flat_at Le.cells 4 (fun _ => rfl) ea Le0 (show j < _ by first | omega | (simp only [List.length_set]; omega)) (by decide)).trans rfl))
        ·
         intro vf pf hR
         have e37 : (vf 37) = .bool false ∧ (pf 37) = [] := hR 37 (by decide)
         refine Or.inl ⟨want_of (congrArg some e37.1) rfl, ?_⟩
         refine rq_less (sx 1 rfl (sub_nil _)) (List.sublist_append_right _ _) ?_
         exact rq_v (rv_ev rfl)
        ·
         intro vf pf hR
         have e37 : (vf 37) = .bool false ∧ (pf 37) = [] := hR 37 (by decide)
         refine Or.inl ⟨want_of (congrArg some e37.1) rfl, ?_⟩
         refine rq_less (sx 5 rfl (sub_nil _)) (List.sublist_append_right _ _) ?_
         exact rq_v (rv_ev rfl)
        ·
         intro vf pf hR
         have e37 : (vf 37) = .bool false ∧ (pf 37) = [] := hR 37 (by decide)
         have e43 : (vf 43) = v ∧ (pf 43) = [] := hR 43 (by decide)
         have e44 : (vf 44) = .int .i64 (j : Int) ∧ (pf 44) = [] := hR 44 (by decide)
         refine Or.inl ⟨want_of (congrArg some e37.1) rfl, ?_⟩
         refine rq_less (sx 60 (congrArg some e43.1) (sx 61 (congrArg some e44.1) (sub_nil _))) (List.sublist_append_right _ _) ?_
         exact rq_v (rv_index (s := 4) rfl Try.underlying37 (by kernel_rfl) rfl rfl (rd_old hv) (by omega) (by first | omega | (simp only [List.length_set]; omega)))
        ·
         intro vf pf hR
         have e37 : (vf 37) = .bool false ∧ (pf 37) = [] := hR 37 (by decide)
         have e45 : (vf 45) = elP v (((j : Int)).toNat * 4) ∧ (pf 45) = [] := hR 45 (by decide)
         refine Or.inl ⟨want_of (congrArg some e37.1) rfl, ?_⟩
         refine rq_less (sx 62 (congrArg some e45.1) (sub_nil _)) (List.sublist_append_right _ _) ?_
         exact rq_v (rv_fieldEl (k0 := 0) rfl (by kernel_rfl) rfl (rd_old hv) (by first | omega | (simp only [List.length_set]; omega)))
        ·
         intro vf pf hR
         have e37 : (vf 37) = .bool false ∧ (pf 37) = [] := hR 37 (by decide)
         have e46 : (vf 46) = elP v (((j : Int)).toNat * 4 + 0) ∧ (pf 46) = [] := hR 46 (by decide)
         refine Or.inl ⟨want_of (congrArg some e37.1) rfl, ?_⟩
         refine rq_less (sx 63 (congrArg some e46.1) (sub_nil _)) (List.sublist_append_right _ _) ?_
         exact rq_v (rv_loadEl (u := (eb.getD j Le0).v) rfl (by kernel_rfl) rfl (rd_old hv) ((flat_at Le.cells 4 (fun _ => rfl) eb Le0 (show j < _ by first | omega | (simp only [List.length_set]; omega)) (by decide)).trans rfl))
        ·
         intro vf pf hR
         have e37 : (vf 37) = .bool false ∧ (pf 37) = [] := hR 37 (by decide)
         have e42 : (vf 42) = (ea.getD j Le0).v ∧ (pf 42) = [] := hR 42 (by decide)
         have e47 : (vf 47) = (eb.getD j Le0).v ∧ (pf 47) = [] := hR 47 (by decide)
         refine Or.inl ⟨want_of (congrArg some e37.1) rfl, ?_⟩
         refine rq_less (sx 59 (congrArg some e42.1) (sx 64 (congrArg some e47.1) (sub_nil _))) (List.sublist_append_right _ _) ?_
         exact rq_mono (rq_call (by kernel_rfl) rfl (fun w hm => ret_ans (sameInts_ans (ea.getD j Le0).xs (eb.getD j Le0).xs _ _ w ((has _ (getD_mem' (by omega))).1.below hm.bel) ((hbs _ (getD_mem' (by omega))).1.below hm.bel) (by have := (has _ (getD_mem' (es := ea) (i := j) (d := Le0) (by omega))).2; omega)))) (fun _ _ h => ⟨h.1.trans (congrArg Value.bool hb7), h.2⟩)
        ·
         intro vf pf hR
         have e37 : (vf 37) = .bool false ∧ (pf 37) = [] := hR 37 (by decide)
         have e48 : (vf 48) = .bool true ∧ (pf 48) = [] := hR 48 (by decide)
         refine Or.inl ⟨want_of (congrArg some e37.1) rfl, ?_⟩
         refine rq_less (sx 65 (congrArg some e48.1) (sub_nil _)) (List.sublist_append_right _ _) ?_
         exact rq_v (rv_ev rfl)
        ·
         intro vf pf hR
         have e37 : (vf 37) = .bool false ∧ (pf 37) = [] := hR 37 (by decide)
         have e49 : (vf 49) = .bool false ∧ (pf 49) = [] := hR 49 (by decide)
         refine Or.inl ⟨rfl, ?_⟩
         refine rq_less (sx 54 (congrArg some e37.1) (sx 66 (congrArg some e49.1) (sub_nil _))) (List.sublist_append_right _ _) ?_
         exact rq_v (rv_ev rfl)
       ·
        intro vf pf hR
        have e50 : (vf 50) = .bool false ∧ (pf 50) = [] := hR 50 (by decide)
        refine hl_less (l' := []) (sx 0 rfl (sx 1 rfl (sx 4 rfl (sx 5 rfl (sx 10 rfl (sx 14 rfl (sx 67 (congrArg some e50.1) (sub_nil _)))))))) (List.sublist_append_right _ _) ?_
        simp only [List.drop_succ_cons, List.drop_zero]
        refine hl_less (sx 0 rfl (sx 1 rfl (sx 4 rfl (sx 5 rfl (sx 10 rfl (sx 14 rfl (sx 67 rfl (sub_nil _)))))))) (.refl _) ?_
        refine hl_nil ?_
        refine hq_then ?_
        refine hc_false rfl ?_
        refine hc_skip ?_
        refine hq_block_normal ?_
        refine hq_then ?_
        refine hc_region ?_
        refine hl_v rfl rfl rfl (rv_ev rfl) ?_
        refine hl_v rfl rfl rfl (rv_add rfl rfl rfl (by constructor <;> omega)) ?_
        refine hl_v rfl rfl rfl (rv_ev rfl) ?_
        refine hl_less (sx 0 rfl (sx 1 rfl (sx 4 rfl (sx 5 rfl (sx 10 rfl (sx 14 rfl (sx 67 rfl (sub_nil _)))))))) (.refl _) ?_
        refine hl_nil ?_
        exact hq_round1 (j + 1) ⟨by omega, fun i hi => by by_cases hij : i = j; (rw [hij]; simp only [Le.val, Prod.mk.injEq]; exact ⟨by assumption, by omega, by omega, by omega⟩); exact hk2 i (by omega)⟩ (by omega) (sx 0 rfl (sx 1 rfl (sx 4 rfl (sx 5 rfl (sx 10 rfl (sub_nil _)))))) (.slnil)
      ·
       have hb7p := of_decide_eq_false hb7
       refine hc_draw (by kernel_rfl) 51 [0, 1, 2, 3, 4, 5, 6, 7, 8, 9, 10, 11, 12, 13, 14, 15, 16, 17, 18, 19, 20, 21, 22, 23, 24, 25, 26, 27, 28, 29, 30, 31, 32, 33, 34, 35, 36, 37, 38, 39, 40, 41, 42, 43, 44, 45, 46, 47, 48, 49, 50] (List.take 51 _) (List.drop 51 _) [[], [], [0, 1], [2], [3], [], [], [5, 6], [7], [8], [4, 9], [10], [11], [11], [11, 12, 13], [11, 14], [11, 15], [11], [11], [11, 17, 18], [11, 19], [11, 20], [11, 16, 21], [11, 22], [23], [24], [24], [24, 25, 26], [24, 27], [24, 28], [24], [24], [24, 30, 31], [24, 32], [24, 33], [24, 29, 34], [24, 35], [36], [37], [37], [37, 38, 39], [37, 40], [37, 41], [37], [37], [37, 43, 44], [37, 45], [37, 46], [37, 42, 47], [37, 48], [37, 49]] [17, 18, 19, 20, 21, 22, 23, 24, 25, 26, 27, 28, 29, 30, 31, 32, 33, 34, 35, 36, 37, 38, 39, 40, 41, 42, 43, 44, 45, 46, 47, 48, 49, 50, 51, 52, 53, 54, 55, 56, 57, 58, 59, 60, 61, 62, 63, 64, 65, 66, 67] (fun i vs_ v_ p_ => match i with | 0 => v_ = u ∧ p_ = [] | 1 => v_ = .int .i64 (j : Int) ∧ p_ = [] | 2 => v_ = elP u (((j : Int)).toNat * 4) ∧ p_ = [] | 3 => v_ = elP u (((j : Int)).toNat * 4 + 1) ∧ p_ = [] | 4 => v_ = .int .i64 ((ea.getD j Le0).m) ∧ p_ = [] | 5 => v_ = v ∧ p_ = [] | 6 => v_ = .int .i64 (j : Int) ∧ p_ = [] | 7 => v_ = elP v (((j : Int)).toNat * 4) ∧ p_ = [] | 8 => v_ = elP v (((j : Int)).toNat * 4 + 1) ∧ p_ = [] | 9 => v_ = .int .i64 ((eb.getD j Le0).m) ∧ p_ = [] | 10 => v_ = .bool false ∧ p_ = [] | 11 => v_ = .bool false ∧ p_ = [] | 12 => v_ = u ∧ p_ = [] | 13 => v_ = .int .i64 (j : Int) ∧ p_ = [] | 14 => v_ = elP u (((j : Int)).toNat * 4) ∧ p_ = [] | 15 => v_ = elP u (((j : Int)).toNat * 4 + 2) ∧ p_ = [] | 16 => v_ = .int .i64 ((ea.getD j Le0).f) ∧ p_ = [] | 17 => v_ = v ∧ p_ = [] | 18 => v_ = .int .i64 (j : Int) ∧ p_ = [] | 19 => v_ = elP v (((j : Int)).toNat * 4) ∧ p_ = [] | 20 => v_ = elP v (((j : Int)).toNat * 4 + 2) ∧ p_ = [] | 21 => v_ = .int .i64 ((eb.getD j Le0).f) ∧ p_ = [] | 22 => v_ = .bool false ∧ p_ = [] | 23 => v_ = .bool false ∧ p_ = [] | 24 => v_ = .bool false ∧ p_ = [] | 25 => v_ = u ∧ p_ = [] | 26 => v_ = .int .i64 (j : Int) ∧ p_ = [] | 27 => v_ = elP u (((j : Int)).toNat * 4) ∧ p_ = [] | 28 => v_ = elP u (((j : Int)).toNat * 4 + 3) ∧ p_ = [] | 29 => v_ = .int .i64 ((ea.getD j Le0).i) ∧ p_ = [] | 30 => v_ = v ∧ p_ = [] | 31 => v_ = .int .i64 (j : Int) ∧ p_ = [] | 32 => v_ = elP v (((j : Int)).toNat * 4) ∧ p_ = [] | 33 => v_ = elP v (((j : Int)).toNat * 4 + 3) ∧ p_ = [] | 34 => v_ = .int .i64 ((eb.getD j Le0).i) ∧ p_ = [] | 35 => v_ = .bool false ∧ p_ = [] | 36 => v_ = .bool false ∧ p_ = [] | 37 => v_ = .bool false ∧ p_ = [] | 38 => v_ = u ∧ p_ = [] | 39 => v_ = .int .i64 (j : Int) ∧ p_ = [] | 40 => v_ = elP u (((j : Int)).toNat * 4) ∧ p_ = [] | 41 => v_ = elP u (((j : Int)).toNat * 4 + 0) ∧ p_ = [] | 42 => v_ = (ea.getD j Le0).v ∧ p_ = [] | 43 => v_ = v ∧ p_ = [] | 44 => v_ = .int .i64 (j : Int) ∧ p_ = [] | 45 => v_ = elP v (((j : Int)).toNat * 4) ∧ p_ = [] | 46 => v_ = elP v (((j : Int)).toNat * 4 + 0) ∧ p_ = [] | 47 => v_ = (eb.getD j Le0).v ∧ p_ = [] | 48 => v_ = .bool false ∧ p_ = [] | 49 => v_ = .bool true ∧ p_ = [] | 50 => v_ = .bool true ∧ p_ = [] | _ => True) (List.take_append_drop 51 _).symm (by kernel_rfl) (by kernel_rfl) rfl rfl ?_ ?_
       ·
        refine ⟨?_, ?_, ?_, ?_, ?_, ?_, ?_, ?_, ?_, ?_, ?_, ?_, ?_, ?_, ?_, ?_, ?_, ?_, ?_, ?_, ?_, ?_, ?_, ?_, ?_, ?_, ?_, ?_, ?_, ?_, ?_, ?_, ?_, ?_, ?_, ?_, ?_, ?_, ?_, ?_, ?_, ?_, ?_, ?_, ?_, ?_, ?_, ?_, ?_, ?_, ?_, trivial⟩
        ·
         intro vf pf hR
         refine Or.inl ⟨rfl, ?_⟩
         refine rq_less (sx 0 rfl (sub_nil _)) (List.sublist_append_right _ _) ?_
         exact rq_v (rv_ev rfl)
        ·
         intro vf pf hR
         refine Or.inl ⟨rfl, ?_⟩
         refine rq_less (sx 5 rfl (sub_nil _)) (List.sublist_append_right _ _) ?_
         exact rq_v (rv_ev rfl)
        ·
         intro vf pf hR
         have e0 : (vf 0) = u ∧ (pf 0) = [] := hR 0 (by decide)
         have e1 : (vf 1) = .int .i64 (j : Int) ∧ (pf 1) = [] := hR 1 (by decide)
         refine Or.inl ⟨rfl, ?_⟩
         refine rq_less (sx 17 (congrArg some e0.1) (sx 18 (congrArg some e1.1) (sub_nil _))) (List.sublist_append_right _ _) ?_
         exact rq_v (rv_index (s := 4) rfl Try.underlying37 (by kernel_rfl) rfl rfl (rd_old hu) (by omega) (by first | omega | (simp only [List.length_set]; omega)))
        ·
         intro vf pf hR
         have e2 : (vf 2) = elP u (((j : Int)).toNat * 4) ∧ (pf 2) = [] := hR 2 (by decide)
         refine Or.inl ⟨rfl, ?_⟩
         refine rq_less (sx 19 (congrArg some e2.1) (sub_nil _)) (List.sublist_append_right _ _) ?_
         exact rq_v (rv_fieldEl (k0 := 1) rfl (by kernel_rfl) rfl (rd_old hu) (by first | omega | (simp only [List.length_set]; omega)))
        ·
         intro vf pf hR
         have e3 : (vf 3) = elP u (((j : Int)).toNat * 4 + 1) ∧ (pf 3) = [] := hR 3 (by decide)
         refine Or.inl ⟨rfl, ?_⟩
         refine rq_less (sx 20 (congrArg some e3.1) (sub_nil _)) (List.sublist_append_right _ _) ?_
         exact rq_v (rv_loadEl (u := .int .i64 ((ea.getD j Le0).m)) rfl (by kernel_rfl) rfl (rd_old hu) ((flat_at Le.cells 4 (fun _ => rfl) ea Le0 (show j < _ by first | omega | (simp only [List.length_set]; omega)) (by decide)).trans rfl))
        ·
         intro vf pf hR
         refine Or.inl ⟨rfl, ?_⟩
         refine rq_less (sx 1 rfl (sub_nil _)) (List.sublist_append_right _ _) ?_
         exact rq_v (rv_ev rfl)
        ·
         intro vf pf hR
         refine Or.inl ⟨rfl, ?_⟩
         refine rq_less (sx 5 rfl (sub_nil _)) (List.sublist_append_right _ _) ?_
         exact rq_v (rv_ev rfl)
        ·
         intro vf pf hR
         have e5 : (vf 5) = v ∧ (pf 5) = [] := hR 5 (by decide)
         have e6 : (vf 6) = .int .i64 (j : Int) ∧ (pf 6) = [] := hR 6 (by decide)
         refine Or.inl ⟨rfl, ?_⟩
         refine rq_less (sx 22 (congrArg some e5.1) (sx 23 (congrArg some e6.1) (sub_nil _))) (List.sublist_append_right _ _) ?_
         exact rq_v (rv_index (s := 4) rfl Try.underlying37 (by kernel_rfl) rfl rfl (rd_old hv) (by omega) (by first | omega | (simp only [List.length_set]; omega)))
        ·
         intro vf pf hR
         have e7 : (vf 7) = elP v (((j : Int)).toNat * 4) ∧ (pf 7) = [] := hR 7 (by decide)
         refine Or.inl ⟨rfl, ?_⟩
         refine rq_less (sx 24 (congrArg some e7.1) (sub_nil _)) (List.sublist_append_right _ _) ?_
         exact rq_v (rv_fieldEl (k0 := 1) rfl (by kernel_rfl) rfl (rd_old hv) (by first | omega | (simp only [List.length_set]; omega)))
        ·
         intro vf pf hR
         have e8 : (vf 8) = elP v (((j : Int)).toNat * 4 + 1) ∧ (pf 8) = [] := hR 8 (by decide)
         refine Or.inl ⟨rfl, ?_⟩
         refine rq_less (sx 25 (congrArg some e8.1) (sub_nil _)) (List.sublist_append_right _ _) ?_
         exact rq_v (rv_loadEl (u := .int .i64 ((eb.getD j Le0).m)) rfl (by kernel_rfl) rfl (rd_old hv) ((flat_at Le.cells 4 (fun _ => rfl) eb Le0 (show j < _ by first | omega | (simp only [List.length_set]; omega)) (by decide)).trans rfl))
        ·
         intro vf pf hR
         have e4 : (vf 4) = .int .i64 ((ea.getD j Le0).m) ∧ (pf 4) = [] := hR 4 (by decide)
         have e9 : (vf 9) = .int .i64 ((eb.getD j Le0).m) ∧ (pf 9) = [] := hR 9 (by decide)
         refine Or.inl ⟨rfl, ?_⟩
         refine rq_less (sx 21 (congrArg some e4.1) (sx 26 (congrArg some e9.1) (sub_nil _))) (List.sublist_append_right _ _) ?_
         exact rq_mono (rq_v (rv_cmp rfl rfl rfl rfl)) (fun _ _ h => ⟨h.1.trans (congrArg Value.bool hb4), h.2⟩)
        ·
         intro vf pf hR
         have e10 : (vf 10) = .bool false ∧ (pf 10) = [] := hR 10 (by decide)
         refine Or.inl ⟨rfl, ?_⟩
         refine rq_less (sx 27 (congrArg some e10.1) (sub_nil _)) (List.sublist_append_right _ _) ?_
         exact rq_v (rv_ev rfl)
        ·
         intro vf pf hR
         have e11 : (vf 11) = .bool false ∧ (pf 11) = [] := hR 11 (by decide)
         refine Or.inl ⟨want_of (congrArg some e11.1) rfl, ?_⟩
         refine rq_less (sx 0 rfl (sub_nil _)) (List.sublist_append_right _ _) ?_
         exact rq_v (rv_ev rfl)
        ·
         intro vf pf hR
         have e11 : (vf 11) = .bool false ∧ (pf 11) = [] := hR 11 (by decide)
         refine Or.inl ⟨want_of (congrArg some e11.1) rfl, ?_⟩
         refine rq_less (sx 5 rfl (sub_nil _)) (List.sublist_append_right _ _) ?_
         exact rq_v (rv_ev rfl)
        ·
         intro vf pf hR
         have e11 : (vf 11) = .bool false ∧ (pf 11) = [] := hR 11 (by decide)
         have e12 : (vf 12) = u ∧ (pf 12) = [] := hR 12 (by decide)
         have e13 : (vf 13) = .int .i64 (j : Int) ∧ (pf 13) = [] := hR 13 (by decide)
         refine Or.inl ⟨want_of (congrArg some e11.1) rfl, ?_⟩
         refine rq_less (sx 29 (congrArg some e12.1) (sx 30 (congrArg some e13.1) (sub_nil _))) (List.sublist_append_right _ _) ?_
         exact rq_v (rv_index (s := 4) rfl Try.underlying37 (by kernel_rfl) rfl rfl (rd_old hu) (by omega) (by first | omega | (simp only [List.length_set]; omega)))
        ·
         intro vf pf hR
         have e11 : (vf 11) = .bool false ∧ (pf 11) = [] := hR 11 (by decide)
         have e14 : (vf 14) = elP u (((j : Int)).toNat * 4) ∧ (pf 14) = [] := hR 14 (by decide)
         refine Or.inl ⟨want_of (congrArg some e11.1) rfl, ?_⟩
         refine rq_less (sx 31 (congrArg some e14.1) (sub_nil _)) (List.sublist_append_right _ _) ?_
         exact rq_v (rv_fieldEl (k0 := 2) rfl (by kernel_rfl) rfl (rd_old hu) (by first | omega | (simp only [List.length_set]; omega)))
        ·
         intro vf pf hR
         have e11 : (vf 11) = .bool false ∧ (pf 11) = [] := hR 11 (by decide)
         have e15 : (vf 15) = elP u (((j : Int)).toNat * 4 + 2) ∧ (pf 15) = [] := hR 15 (by decide)
         refine Or.inl ⟨want_of (congrArg some e11.1) rfl, ?_⟩
         refine rq_less (sx 32 (congrArg some e15.1) (sub_nil _)) (List.sublist_append_right _ _) ?_
         exact rq_v (rv_loadEl (u := .int .i64 ((ea.getD j Le0).f)) rfl (by kernel_rfl) rfl (rd_old hu) ((flat_at Le.cells 4 (fun _ => rfl) ea Le0 (show j < _ by first | omega | (simp only [List.length_set]; omega)) (by decide)).trans rfl))
        ·
         intro vf pf hR
         have e11 : (vf 11) = .bool false ∧ (pf 11) = [] := hR 11 (by decide)
         refine Or.inl ⟨want_of (congrArg some e11.1) rfl, ?_⟩
         refine rq_less (sx 1 rfl (sub_nil _)) (List.sublist_append_right _ _) ?_
         exact rq_v (rv_ev rfl)
        ·
         intro vf pf hR
         have e11 : (vf 11) = .bool false ∧ (pf 11) = [] := hR 11 (by decide)
         refine Or.inl ⟨want_of (congrArg some e11.1) rfl, ?_⟩
         refine rq_less (sx 5 rfl (sub_nil _)) (List.sublist_append_right _ _) ?_
         exact rq_v (rv_ev rfl)
        ·
         intro vf pf hR
         have e11 : (vf 11) = .bool false ∧ (pf 11) = [] := hR 11 (by decide)
         have e17 : (vf 17) = v ∧ (pf 17) = [] := hR 17 (by decide)
         have e18 : (vf 18) = .int .i64 (j : Int) ∧ (pf 18) = [] := hR 18 (by decide)
         refine Or.inl ⟨want_of (congrArg some e11.1) rfl, ?_⟩
         refine rq_less (sx 34 (congrArg some e17.1) (sx 35 (congrArg some e18.1) (sub_nil _))) (List.sublist_append_right _ _) ?_
         exact rq_v (rv_index (s := 4) rfl Try.underlying37 (by kernel_rfl) rfl rfl (rd_old hv) (by omega) (by first | omega | (simp only [List.length_set]; omega)))
        ·
         intro vf pf hR
         have e11 : (vf 11) = .bool false ∧ (pf 11) = [] := hR 11 (by decide)
         have e19 : (vf 19) = elP v (((j : Int)).toNat * 4) ∧ (pf 19) = [] := hR 19 (by decide)
         refine Or.inl ⟨want_of (congrArg some e11.1) rfl, ?_⟩
         refine rq_less (sx 36 (congrArg some e19.1) (sub_nil _)) (List.sublist_append_right _ _) ?_
         exact rq_v (rv_fieldEl (k0 := 2) rfl (by kernel_rfl) rfl (rd_old hv) (by first | omega | (simp only [List.length_set]; omega)))
        ·
         intro vf pf hR
         have e11 : (vf 11) = .bool false ∧ (pf 11) = [] := hR 11 (by decide)
         have e20 : (vf 20) = elP v (((j : Int)).toNat * 4 + 2) ∧ (pf 20) = [] := hR 20 (by decide)
         refine Or.inl ⟨want_of (congrArg some e11.1) rfl, ?_⟩
         refine rq_less (sx 37 (congrArg some e20.1) (sub_nil _)) (List.sublist_append_right _ _) ?_
         exact rq_v (rv_loadEl (u := .int .i64 ((eb.getD j Le0).f)) rfl (by kernel_rfl) rfl (rd_old hv) ((flat_at Le.cells 4 (fun _ => rfl) eb Le0 (show j < _ by first | omega | (simp only [List.length_set]; omega)) (by decide)).trans rfl))
        ·
         intro vf pf hR
         have e11 : (vf 11) = .bool false ∧ (pf 11) = [] := hR 11 (by decide)
         have e16 : (vf 16) = .int .i64 ((ea.getD j Le0).f) ∧ (pf 16) = [] := hR 16 (by decide)
         have e21 : (vf 21) = .int .i64 ((eb.getD j Le0).f) ∧ (pf 21) = [] := hR 21 (by decide)
         refine Or.inl ⟨want_of (congrArg some e11.1) rfl, ?_⟩
         refine rq_less (sx 33 (congrArg some e16.1) (sx 38 (congrArg some e21.1) (sub_nil _))) (List.sublist_append_right _ _) ?_
         exact rq_mono (rq_v (rv_cmp rfl rfl rfl rfl)) (fun _ _ h => ⟨h.1.trans (congrArg Value.bool hb5), h.2⟩)
        ·
         intro vf pf hR
         have e11 : (vf 11) = .bool false ∧ (pf 11) = [] := hR 11 (by decide)
         have e22 : (vf 22) = .bool false ∧ (pf 22) = [] := hR 22 (by decide)
         refine Or.inl ⟨rfl, ?_⟩
         refine rq_less (sx 28 (congrArg some e11.1) (sx 39 (congrArg some e22.1) (sub_nil _))) (List.sublist_append_right _ _) ?_
         exact rq_v (rv_ev rfl)
        ·
         intro vf pf hR
         have e23 : (vf 23) = .bool false ∧ (pf 23) = [] := hR 23 (by decide)
         refine Or.inl ⟨rfl, ?_⟩
         refine rq_less (sx 40 (congrArg some e23.1) (sub_nil _)) (List.sublist_append_right _ _) ?_
         exact rq_v (rv_ev rfl)
        ·
         intro vf pf hR
         have e24 : (vf 24) = .bool false ∧ (pf 24) = [] := hR 24 (by decide)
         refine Or.inl ⟨want_of (congrArg some e24.1) rfl, ?_⟩
         refine rq_less (sx 0 rfl (sub_nil _)) (List.sublist_append_right _ _) ?_
         exact rq_v (rv_ev rfl)
        ·
         intro vf pf hR
         have e24 : (vf 24) = .bool false ∧ (pf 24) = [] := hR 24 (by decide)
         refine Or.inl ⟨want_of (congrArg some e24.1) rfl, ?_⟩
         refine rq_less (sx 5 rfl (sub_nil _)) (List.sublist_append_right _ _) ?_
         exact rq_v (rv_ev rfl)
        ·
         intro vf pf hR
         have e24 : (vf 24) = .bool false ∧ (pf 24) = [] := hR 24 (by decide)
         have e25 : (vf 25) = u ∧ (pf 25) = [] := hR 25 (by decide)
         have e26 : (vf 26) = .int .i64 (j : Int) ∧ (pf 26) = [] := hR 26 (by decide)
         refine Or.inl ⟨want_of (congrArg some e24.1) rfl, ?_⟩
         refine rq_less (sx 42 (congrArg some e25.1) (sx 43 (congrArg some e26.1) (sub_nil _))) (List.sublist_append_right _ _) ?_
         exact rq_v (rv_index (s := 4) rfl Try.underlying37 (by kernel_rfl) rfl rfl (rd_old hu) (by omega) (by first | omega | (simp only [List.length_set]; omega)))
        ·
         intro vf pf hR
         have e24 : (vf 24) = .bool false ∧ (pf 24) = [] := hR 24 (by decide)
         have e27 : (vf 27) = elP u (((j : Int)).toNat * 4) ∧ (pf 27) = [] := hR 27 (by decide)
         refine Or.inl ⟨want_of (congrArg some e24.1) rfl, ?_⟩
         refine rq_less (sx 44 (congrArg some e27.1) (sub_nil _)) (List.sublist_append_right _ _) ?_
         exact rq_v (rv_fieldEl (k0 := 3) rfl (by kernel_rfl) rfl (rd_old hu) (by first | omega | (simp only [List.length_set]; omega)))
        ·
         intro vf pf hR
         have e24 : (vf 24) = .bool false ∧ (pf 24) = [] := hR 24 (by decide)
         have e28 : (vf 28) = elP u (((j : Int)).toNat * 4 + 3) ∧ (pf 28) = [] := hR 28 (by decide)
         refine Or.inl ⟨want_of (congrArg some e24.1) rfl, ?_⟩
         refine rq_less (sx 45 (congrArg some e28.1) (sub_nil _)) (List.sublist_append_right _ _) ?_
         exact rq_v (rv_loadEl (u := .int .i64 ((ea.getD j Le0).i)) rfl (by kernel_rfl) rfl (rd_old hu) ((flat_at Le.cells 4 (fun _ => rfl) ea Le0 (show j < _ by first | omega | (simp only [List.length_set]; omega)) (by decide)).trans rfl))
        ·
         intro vf pf hR
         have e24 : (vf 24) = .bool false ∧ (pf 24) = [] := hR 24 (by decide)
         refine Or.inl ⟨want_of (congrArg some e24.1) rfl, ?_⟩
         refine rq_less (sx 1 rfl (sub_nil _)) (List.sublist_append_right _ _) ?_
         exact rq_v (rv_ev rfl)
        ·
         intro vf pf hR
         have e24 : (vf 24) = .bool false ∧ (pf 24) = [] := hR 24 (by decide)
         refine Or.inl ⟨want_of (congrArg some e24.1) rfl, ?_⟩
         refine rq_less (sx 5 rfl (sub_nil _)) (List.sublist_append_right _ _) ?_
         exact rq_v (rv_ev rfl)
        ·
         intro vf pf hR
         have e24 : (vf 24) = .bool false ∧ (pf 24) = [] := hR 24 (by decide)
         have e30 : (vf 30) = v ∧ (pf 30) = [] := hR 30 (by decide)
         have e31 : (vf 31) = .int .i64 (j : Int) ∧ (pf 31) = [] := hR 31 (by decide)
         refine Or.inl ⟨want_of (congrArg some e24.1) rfl, ?_⟩
         refine rq_less (sx 47 (congrArg some e30.1) (sx 48 (congrArg some e31.1) (sub_nil _))) (List.sublist_append_right _ _) ?_
         exact rq_v (rv_index (s := 4) rfl Try.underlying37 (by kernel_rfl) rfl rfl (rd_old hv) (by omega) (by first | omega | (simp only [List.length_set]; omega)))
        ·
         intro vf pf hR
         have e24 : (vf 24) = .bool false ∧ (pf 24) = [] := hR 24 (by decide)
         have e32 : (vf 32) = elP v (((j : Int)).toNat * 4) ∧ (pf 32) = [] := hR 32 (by decide)
         refine Or.inl ⟨want_of (congrArg some e24.1) rfl, ?_⟩
         refine rq_less (sx 49 (congrArg some e32.1) (sub_nil _)) (List.sublist_append_right _ _) ?_
         exact rq_v (rv_fieldEl (k0 := 3) rfl (by kernel_rfl) rfl (rd_old hv) (by first | omega | (simp only [List.length_set]; omega)))
        ·
         intro vf pf hR
         have e24 : (vf 24) = .bool false ∧ (pf 24) = [] := hR 24 (by decide)
         have e33 : (vf 33) = elP v (((j : Int)).toNat * 4 + 3) ∧ (pf 33) = [] := hR 33 (by decide)
         refine Or.inl ⟨want_of (congrArg some e24.1) rfl, ?_⟩
         refine rq_less (sx 50 (congrArg some e33.1) (sub_nil _)) (List.sublist_append_right _ _) ?_
         exact rq_v (rv_loadEl (u := .int .i64 ((eb.getD j Le0).i)) rfl (by kernel_rfl) rfl (rd_old hv) ((flat_at Le.cells 4 (fun _ => rfl) eb Le0 (show j < _ by first | omega | (simp only [List.length_set]; omega)) (by decide)).trans rfl))
        ·
         intro vf pf hR
         have e24 : (vf 24) = .bool false ∧ (pf 24) = [] := hR 24 (by decide)
         have e29 : (vf 29) = .int .i64 ((ea.getD j Le0).i) ∧ (pf 29) = [] := hR 29 (by decide)
         have e34 : (vf 34) = .int .i64 ((eb.getD j Le0).i) ∧ (pf 34) = [] := hR 34 (by decide)
         refine Or.inl ⟨want_of (congrArg some e24.1) rfl, ?_⟩
         refine rq_less (sx 46 (congrArg some e29.1) (sx 51 (congrArg some e34.1) (sub_nil _))) (List.sublist_append_right _ _) ?_
         exact rq_mono (rq_v (rv_cmp rfl rfl rfl rfl)) (fun _ _ h => ⟨h.1.trans (congrArg Value.bool hb6), h.2⟩)
        ·
         intro vf pf hR
         have e24 : (vf 24) = .bool false ∧ (pf 24) = [] := hR 24 (by decide)
         have e35 : (vf 35) = .bool false ∧ (pf 35) = [] := hR 35 (by decide)
         refine Or.inl ⟨rfl, ?_⟩
         refine rq_less (sx 41 (congrArg some e24.1) (sx 52 (congrArg some e35.1) (sub_nil _))) (List.sublist_append_right _ _) ?_
         exact rq_v (rv_ev rfl)
        ·
         intro vf pf hR
         have e36 : (vf 36) = .bool false ∧ (pf 36) = [] := hR 36 (by decide)
         refine Or.inl ⟨rfl, ?_⟩
         refine rq_less (sx 53 (congrArg some e36.1) (sub_nil _)) (List.sublist_append_right _ _) ?_
         exact rq_v (rv_ev rfl)
        ·
         intro vf pf hR
         have e37 : (vf 37) = .bool false ∧ (pf 37) = [] := hR 37 (by decide)
         refine Or.inl ⟨want_of (congrArg some e37.1) rfl, ?_⟩
         refine rq_less (sx 0 rfl (sub_nil _)) (List.sublist_append_right _ _) ?_
         exact rq_v (rv_ev rfl)
        ·
         intro vf pf hR
         have e37 : (vf 37) = .bool false ∧ (pf 37) = [] := hR 37 (by decide)
         refine Or.inl ⟨want_of (congrArg some e37.1) rfl, ?_⟩
         refine rq_less (sx 5 rfl (sub_nil _)) (List.sublist_append_right _ _) ?_
         exact rq_v (rv_ev rfl)
        ·
         intro vf pf hR
         have e37 : (vf 37) = .bool false ∧ (pf 37) = [] := hR 37 (by decide)
         have e38 : (vf 38) = u ∧ (pf 38) = [] := hR 38 (by decide)
         have e39 : (vf 39) = .int .i64 (j : Int) ∧ (pf 39) = [] := hR 39 (by decide)
         refine Or.inl ⟨want_of (congrArg some e37.1) rfl, ?_⟩
         refine rq_less (sx 55 (congrArg some e38.1) (sx 56 (congrArg some e39.1) (sub_nil _))) (List.sublist_append_right _ _) ?_
         exact rq_v (rv_index (s := 4) rfl Try.underlying37 (by kernel_rfl) rfl rfl (rd_old hu) (by omega) (by first | omega | (simp only [List.length_set]; omega)))
        ·
         intro vf pf hR
         have e37 : (vf 37) = .bool false ∧ (pf 37) = [] := hR 37 (by decide)
         have e40 : (vf 40) = elP u (((j : Int)).toNat * 4) ∧ (pf 40) = [] := hR 40 (by decide)
         refine Or.inl ⟨want_of (congrArg some e37.1) rfl, ?_⟩
         refine rq_less (sx 57 (congrArg some e40.1) (sub_nil _)) (List.sublist_append_right _ _) ?_
         exact rq_v (rv_fieldEl (k0 := 0) rfl (by kernel_rfl) rfl (rd_old hu) (by first | omega | (simp only [List.length_set]; omega)))
        ·
         intro vf pf hR
         have e37 : (vf 37) = .bool false ∧ (pf 37) = [] := hR 37 (by decide)
         have e41 : (vf 41) = elP u (((j : Int)).toNat * 4 + 0) ∧ (pf 41) = [] := hR 41 (by decide)
         refine Or.inl ⟨want_of (congrArg some e37.1) rfl, ?_⟩
         refine rq_less (sx 58 (congrArg some e41.1) (sub_nil _)) (List.sublist_append_right _ _) ?_
         exact rq_v (rv_loadEl (u := (ea.getD j Le0).v) rfl (by kernel_rfl) rfl (rd_old hu) ((flat_at Le.cells 4 (fun _ => rfl) ea Le0 (show j < _ by first | omega | (simp only [List.length_set]; omega)) (by decide)).trans rfl))
        ·
         intro vf pf hR
         have e37 : (vf 37) = .bool false ∧ (pf 37) = [] := hR 37 (by decide)
         refine Or.inl ⟨want_of (congrArg some e37.1) rfl, ?_⟩
         refine rq_less (sx 1 rfl (sub_nil _)) (List.sublist_append_right _ _) ?_
         exact rq_v (rv_ev rfl)
        ·
         intro vf pf hR
         have e37 : (vf 37) = .bool false ∧ (pf 37) = [] := hR 37 (by decide)
         refine Or.inl ⟨want_of (congrArg some e37.1) rfl, ?_⟩
         refine rq_less (sx 5 rfl (sub_nil _)) (List.sublist_append_right _ _) ?_
         exact rq_v (rv_ev rfl)
        ·
         intro vf pf hR
         have e37 : (vf 37) = .bool false ∧ (pf 37) = [] := hR 37 (by decide)
         have e43 : (vf 43) = v ∧ (pf 43) = [] := hR 43 (by decide)
         have e44 : (vf 44) = .int .i64 (j : Int) ∧ (pf 44) = [] := hR 44 (by decide)
         refine Or.inl ⟨want_of (congrArg some e37.1) rfl, ?_⟩
         refine rq_less (sx 60 (congrArg some e43.1) (sx 61 (congrArg some e44.1) (sub_nil _))) (List.sublist_append_right _ _) ?_
         exact rq_v (rv_index (s := 4) rfl Try.underlying37 (by kernel_rfl) rfl rfl (rd_old hv) (by omega) (by first | omega | (simp only [List.length_set]; omega)))
        ·
         intro vf pf hR
         have e37 : (vf 37) = .bool false ∧ (pf 37) = [] := hR 37 (by decide)
         have e45 : (vf 45) = elP v (((j : Int)).toNat * 4) ∧ (pf 45) = [] := hR 45 (by decide)
         refine Or.inl ⟨want_of (congrArg some e37.1) rfl, ?_⟩
         refine rq_less (sx 62 (congrArg some e45.1) (sub_nil _)) (List.sublist_append_right _ _) ?_
         exact rq_v (rv_fieldEl (k0 := 0) rfl (by kernel_rfl) rfl (rd_old hv) (by first | omega | (simp only [List.length_set]; omega)))
        ·
         intro vf pf hR
         have e37 : (vf 37) = .bool false ∧ (pf 37) = [] := hR 37 (by decide)
         have e46 : (vf 46) = elP v (((j : Int)).toNat * 4 + 0) ∧ (pf 46) = [] := hR 46 (by decide)
         refine Or.inl ⟨want_of (congrArg some e37.1) rfl, ?_⟩
         refine rq_less (sx 63 (congrArg some e46.1) (sub_nil _)) (List.sublist_append_right _ _) ?_
         exact rq_v (rv_loadEl (u := (eb.getD j Le0).v) rfl (by kernel_rfl) rfl (rd_old hv) ((flat_at Le.cells 4 (fun _ => rfl) eb Le0 (show j < _ by first | omega | (simp only [List.length_set]; omega)) (by decide)).trans rfl))
        ·
         intro vf pf hR
         have e37 : (vf 37) = .bool false ∧ (pf 37) = [] := hR 37 (by decide)
         have e42 : (vf 42) = (ea.getD j Le0).v ∧ (pf 42) = [] := hR 42 (by decide)
         have e47 : (vf 47) = (eb.getD j Le0).v ∧ (pf 47) = [] := hR 47 (by decide)
         refine Or.inl ⟨want_of (congrArg some e37.1) rfl, ?_⟩
         refine rq_less (sx 59 (congrArg some e42.1) (sx 64 (congrArg some e47.1) (sub_nil _))) (List.sublist_append_right _ _) ?_
         exact rq_mono (rq_call (by kernel_rfl) rfl (fun w hm => ret_ans (sameInts_ans (ea.getD j Le0).xs (eb.getD j Le0).xs _ _ w ((has _ (getD_mem' (by omega))).1.below hm.bel) ((hbs _ (getD_mem' (by omega))).1.below hm.bel) (by have := (has _ (getD_mem' (es := ea) (i := j) (d := Le0) (by omega))).2; omega)))) (fun _ _ h => ⟨h.1.trans (congrArg Value.bool hb7), h.2⟩)
        ·
         intro vf pf hR
         have e37 : (vf 37) = .bool false ∧ (pf 37) = [] := hR 37 (by decide)
         have e48 : (vf 48) = .bool false ∧ (pf 48) = [] := hR 48 (by decide)
         refine Or.inl ⟨want_of (congrArg some e37.1) rfl, ?_⟩
         refine rq_less (sx 65 (congrArg some e48.1) (sub_nil _)) (List.sublist_append_right _ _) ?_
         exact rq_v (rv_ev rfl)
        ·
         intro vf pf hR
         have e37 : (vf 37) = .bool false ∧ (pf 37) = [] := hR 37 (by decide)
         have e49 : (vf 49) = .bool true ∧ (pf 49) = [] := hR 49 (by decide)
         refine Or.inl ⟨rfl, ?_⟩
         refine rq_less (sx 54 (congrArg some e37.1) (sx 66 (congrArg some e49.1) (sub_nil _))) (List.sublist_append_right _ _) ?_
         exact rq_v (rv_ev rfl)
       ·
        intro vf pf hR
        have e50 : (vf 50) = .bool true ∧ (pf 50) = [] := hR 50 (by decide)
        refine hl_less (l' := []) (sx 0 rfl (sx 1 rfl (sx 4 rfl (sx 5 rfl (sx 10 rfl (sx 14 rfl (sx 67 (congrArg some e50.1) (sub_nil _)))))))) (List.sublist_append_right _ _) ?_
        simp only [List.drop_succ_cons, List.drop_zero]
        refine hl_less (sx 0 rfl (sx 1 rfl (sx 4 rfl (sx 5 rfl (sx 10 rfl (sx 14 rfl (sx 67 rfl (sub_nil _)))))))) (.refl _) ?_
        refine hl_nil ?_
        refine hq_then ?_
        refine hc_true rfl ?_
        refine hc_seq ?_
        refine hc_region ?_
        refine hl_v rfl rfl rfl (rv_ev rfl) ?_
        refine hl_less (sx 0 rfl (sx 1 rfl (sx 4 rfl (sx 5 rfl (sx 10 rfl (sx 14 rfl (sx 67 rfl (sub_nil _)))))))) (.refl _) ?_
        refine hl_nil ?_
        refine hq_then ?_
        refine hc_ret ?_
        refine hq_block_ret ?_
        refine hq_then_ret ?_
        refine hq_then_ret ?_
        refine hq_block_ret ?_
        refine hq_then_ret ?_
        exact hq_ans rfl rfl (congrArg _ (decide_eq_false (fun he => by first | (have := congrArg List.length he; simp at this; omega) | (have h9 := map_at (d := Le0) he (i := j) (by omega); simp only [Le.val, Prod.mk.injEq] at h9; obtain ⟨q1, q2, q3, q4⟩ := h9; first | omega | contradiction))).symm)
  ·
   refine hl_less (sx 0 rfl (sx 1 rfl (sx 4 rfl (sx 5 rfl (sx 10 rfl (sx 14 rfl (sub_nil _))))))) (.refl _) ?_
   refine hl_nil ?_
   refine hq_then ?_
   refine hc_false rfl ?_
   refine hc_exit ?_
   refine hq_then_exit ?_
   refine hq_then_exit ?_
   refine hq_block_exit ?_
   refine hq_then ?_
   refine hc_seq ?_
   refine hc_region ?_
   refine hl_v rfl rfl rfl (rv_ev rfl) ?_
   refine hl_less (sx 0 rfl (sx 1 rfl (sx 4 rfl (sx 5 rfl (sx 10 rfl (sx 14 rfl (sub_nil _))))))) (.refl _) ?_
   refine hl_nil ?_
   refine hq_then ?_
   refine hc_ret ?_
   exact hq_ans rfl rfl (congrArg _ (decide_eq_true (map_ext_getD (d := Le0) (by omega) (fun i hi => hk2 i (by omega)))).symm)
set_option maxHeartbeats 4000000 in
set_option maxRecDepth 100000 in
theorem sameTile_ans (a b : Tc) (w : World) (ha : a.Rds w) (hb : b.Rds w) :
  Calls Try.prog 69 #[.agg #[a.mv, a.lv, .int .i64 a.pad, .int .i64 a.ram], .agg #[b.mv, b.lv, .int .i64 b.pad, .int .i64 b.ram]] w (Ans w (.bool (decide (a.val = b.val)))) := by
 have hal := ha.nmx
 refine calls_hc (N := 31) (args := [.agg #[a.mv, a.lv, .int .i64 a.pad, .int .i64 a.ram], .agg #[b.mv, b.lv, .int .i64 b.pad, .int .i64 b.ram]]) Try.func69 rfl rfl ?_
 refine hc_less _ (sx 0 rfl (sx 1 rfl (sub_nil _))) (.refl _) ?_
 refine hc_seq ?_
 refine hc_region ?_
 refine hl_box rfl rfl rfl (rq_box rfl rfl) ?_
 intro b1
 refine hl_box rfl rfl rfl (rq_box rfl rfl) ?_
 intro b2
 refine hl_v rfl rfl rfl (rv_ev rfl) ?_
 refine hl_less (sx 0 rfl (sx 1 rfl (sx 2 rfl (sx 3 rfl (sx 4 rfl (sub_nil _)))))) (.refl _) ?_
 refine hl_nil ?_
 refine hq_then ?_
 refine hc_seq ?_
 refine hc_region ?_
 refine hl_v rfl rfl rfl (rv_field (k0 := 2) rfl (by kernel_rfl) rfl) ?_
 refine hl_v rfl rfl rfl (rv_load rfl (by kernel_rfl) rfl (box_cell 1 rfl rfl)) ?_
 refine hl_v rfl rfl rfl (rv_field (k0 := 2) rfl (by kernel_rfl) rfl) ?_
 refine hl_v rfl rfl rfl (rv_load rfl (by kernel_rfl) rfl (box_cell 0 rfl rfl)) ?_
 refine hl_eql rfl rfl rfl rfl rfl rfl (fun h3 => ?_) (fun h3 => ?_)
 ·
  refine hl_v rfl rfl rfl (rv_ev rfl) ?_
  refine hl_v rfl rfl rfl (rv_field (k0 := 3) rfl (by kernel_rfl) rfl) ?_
  refine hl_v rfl rfl rfl (rv_load rfl (by kernel_rfl) rfl (box_cell 1 rfl rfl)) ?_
  refine hl_v rfl rfl rfl (rv_field (k0 := 3) rfl (by kernel_rfl) rfl) ?_
  refine hl_v rfl rfl rfl (rv_load rfl (by kernel_rfl) rfl (box_cell 0 rfl rfl)) ?_
  refine hl_eql rfl rfl rfl rfl rfl rfl (fun h4 => ?_) (fun h4 => ?_)
  ·
   refine hl_v rfl rfl rfl (rv_ev rfl) ?_
   refine hl_v rfl rfl rfl (rv_ev rfl) ?_
   refine hl_v rfl rfl rfl (rv_field (k0 := 0) rfl (by kernel_rfl) rfl) ?_
   refine hl_v rfl rfl rfl (rv_load rfl (by kernel_rfl) rfl (box_cell 1 rfl rfl)) ?_
   refine hl_v rfl rfl rfl (rv_field (k0 := 0) rfl (by kernel_rfl) rfl) ?_
   refine hl_v rfl rfl rfl (rv_load rfl (by kernel_rfl) rfl (box_cell 0 rfl rfl)) ?_
   refine hl_callV rfl rfl rfl (rq_call (by kernel_rfl) rfl (fun w hm => ret_ans (sameInts_ans a.mx b.mx _ _ w (ha.mx.below hm.bel) (hb.mx.below hm.bel) (by omega)))) ?_
   refine hl_bool (fun h5 => ?_) (fun h5 => ?_)
   ·
    have h5p := of_decide_eq_true h5
    refine hl_v rfl rfl rfl (rv_ev rfl) ?_
    refine hl_v rfl rfl rfl (rv_ev rfl) ?_
    refine hl_v rfl rfl rfl (rv_field (k0 := 1) rfl (by kernel_rfl) rfl) ?_
    refine hl_v rfl rfl rfl (rv_load rfl (by kernel_rfl) rfl (box_cell 1 rfl rfl)) ?_
    refine hl_v rfl rfl rfl (rv_field (k0 := 1) rfl (by kernel_rfl) rfl) ?_
    refine hl_v rfl rfl rfl (rv_load rfl (by kernel_rfl) rfl (box_cell 0 rfl rfl)) ?_
    refine hl_callV rfl rfl rfl (rq_call (by kernel_rfl) rfl (fun w hm => ret_ans (sameLes_ans a.es b.es _ _ w (ha.lv.below hm.bel) (hb.lv.below hm.bel) (fun e he => (ha.es e he).below hm.bel) (fun e he => (hb.es e he).below hm.bel) ha.nes))) ?_
    refine hl_bool (fun h6 => ?_) (fun h6 => ?_)
    ·
     have h6p := of_decide_eq_true h6
     refine hl_v rfl rfl rfl (rv_ev rfl) ?_
     refine hl_v rfl rfl rfl (rv_ev rfl) ?_
     refine hl_less (sx 0 rfl (sx 1 rfl (sx 2 rfl (sx 3 rfl (sx 4 rfl (sub_nil _)))))) (.refl _) ?_
     refine hl_nil ?_
     refine hq_then ?_
     refine hc_ret ?_
     exact hq_ans rfl rfl (congrArg _ (decide_eq_true (by simp only [Tc.val, Prod.mk.injEq]; exact ⟨by assumption, by assumption, by omega, by omega⟩)).symm)
    ·
     have h6p := of_decide_eq_false h6
     refine hl_v rfl rfl rfl (rv_ev rfl) ?_
     refine hl_v rfl rfl rfl (rv_ev rfl) ?_
     refine hl_less (sx 0 rfl (sx 1 rfl (sx 2 rfl (sx 3 rfl (sx 4 rfl (sub_nil _)))))) (.refl _) ?_
     refine hl_nil ?_
     refine hq_then ?_
     refine hc_ret ?_
     exact hq_ans rfl rfl (congrArg _ (decide_eq_false (by simp only [Tc.val, Prod.mk.injEq]; rintro ⟨q1, q2, q3, q4⟩; first | omega | contradiction)).symm)
   ·
    have h5p := of_decide_eq_false h5
    refine hl_v rfl rfl rfl (rv_ev rfl) ?_
    refine hl_v rfl rfl rfl (rv_ev rfl) ?_
    refine hl_skip rfl rfl rfl ?_
    refine hl_skip rfl rfl rfl ?_
    refine hl_skip rfl rfl rfl ?_
    refine hl_skip rfl rfl rfl ?_
    refine hl_skip rfl rfl rfl ?_
    refine hl_v rfl rfl rfl (rv_ev rfl) ?_
    refine hl_v rfl rfl rfl (rv_ev rfl) ?_
    refine hl_less (sx 0 rfl (sx 1 rfl (sx 2 rfl (sx 3 rfl (sx 4 rfl (sub_nil _)))))) (.refl _) ?_
    refine hl_nil ?_
    refine hq_then ?_
    refine hc_ret ?_
    exact hq_ans rfl rfl (congrArg _ (decide_eq_false (by simp only [Tc.val, Prod.mk.injEq]; rintro ⟨q1, q2, q3, q4⟩; first | omega | contradiction)).symm)
  ·
   refine hl_v rfl rfl rfl (rv_ev rfl) ?_
   refine hl_v rfl rfl rfl (rv_ev rfl) ?_
   refine hl_skip rfl rfl rfl ?_
   refine hl_skip rfl rfl rfl ?_
   refine hl_skip rfl rfl rfl ?_
   refine hl_skip rfl rfl rfl ?_
   refine hl_skip rfl rfl rfl ?_
   refine hl_v rfl rfl rfl (rv_ev rfl) ?_
   refine hl_v rfl rfl rfl (rv_ev rfl) ?_
   refine hl_skip rfl rfl rfl ?_
   refine hl_skip rfl rfl rfl ?_
   refine hl_skip rfl rfl rfl ?_
   refine hl_skip rfl rfl rfl ?_
   refine hl_skip rfl rfl rfl ?_
   refine hl_v rfl rfl rfl (rv_ev rfl) ?_
   refine hl_v rfl rfl rfl (rv_ev rfl) ?_
   refine hl_less (sx 0 rfl (sx 1 rfl (sx 2 rfl (sx 3 rfl (sx 4 rfl (sub_nil _)))))) (.refl _) ?_
   refine hl_nil ?_
   refine hq_then ?_
   refine hc_ret ?_
   exact hq_ans rfl rfl (congrArg _ (decide_eq_false (by simp only [Tc.val, Prod.mk.injEq]; rintro ⟨q1, q2, q3, q4⟩; first | omega | contradiction)).symm)
 ·
  refine hl_v rfl rfl rfl (rv_ev rfl) ?_
  refine hl_skip rfl rfl rfl ?_
  refine hl_skip rfl rfl rfl ?_
  refine hl_skip rfl rfl rfl ?_
  refine hl_skip rfl rfl rfl ?_
  refine hl_skip rfl rfl rfl ?_
  refine hl_v rfl rfl rfl (rv_ev rfl) ?_
  refine hl_v rfl rfl rfl (rv_ev rfl) ?_
  refine hl_skip rfl rfl rfl ?_
  refine hl_skip rfl rfl rfl ?_
  refine hl_skip rfl rfl rfl ?_
  refine hl_skip rfl rfl rfl ?_
  refine hl_skip rfl rfl rfl ?_
  refine hl_v rfl rfl rfl (rv_ev rfl) ?_
  refine hl_v rfl rfl rfl (rv_ev rfl) ?_
  refine hl_skip rfl rfl rfl ?_
  refine hl_skip rfl rfl rfl ?_
  refine hl_skip rfl rfl rfl ?_
  refine hl_skip rfl rfl rfl ?_
  refine hl_skip rfl rfl rfl ?_
  refine hl_v rfl rfl rfl (rv_ev rfl) ?_
  refine hl_v rfl rfl rfl (rv_ev rfl) ?_
  refine hl_less (sx 0 rfl (sx 1 rfl (sx 2 rfl (sx 3 rfl (sx 4 rfl (sub_nil _)))))) (.refl _) ?_
  refine hl_nil ?_
  refine hq_then ?_
  refine hc_ret ?_
  exact hq_ans rfl rfl (congrArg _ (decide_eq_false (by simp only [Tc.val, Prod.mk.injEq]; rintro ⟨q1, q2, q3, q4⟩; first | omega | contradiction)).symm)
set_option maxHeartbeats 4000000 in
set_option maxRecDepth 100000 in
theorem pickInt_mut (g : Nat) (a : Option Addr) (len cap : Nat) (z : List Int) (v : Value) (L : List Int) (w0 : World) (l : List HP) (w : World) (hm0 : Mem w0 (curE g a len cap :: l) w) (hb : BRow .u8 w0 a len cap z) (hv : Rd w0 l v 1 L.length (L.map (Value.int .i64))) (hL : 1 ≤ L.length ∧ L.length ≤ 256) :
  Calls Try.prog 140 #[.pointer (some ⟨g, 0, none⟩), v] w (fun e_ w_ => ∃ v_ p_, e_ = .returned v_ ∧ (fun u_ p_ => (∃ x : Int, u_ = .int .i64 x ∧ x ∈ L) ∧ p_ = curE g a len cap) v_ p_ ∧ Mem w0 (p_ :: l) w_) := by
 refine calls_hcM (N := 12) (args := [.pointer (some ⟨g, 0, none⟩), v]) Try.func140 rfl rfl hm0 ?_
 refine hc_less _ (sx 0 rfl (sx 1 rfl (sub_nil _))) (.refl _) ?_
 refine hc_seq ?_
 refine hc_region ?_
 refine hl_v rfl rfl rfl (rv_ev rfl) ?_
 refine hl_less (sx 0 rfl (sx 1 rfl (sx 4 rfl (sub_nil _)))) (.refl _) ?_
 refine hl_nil ?_
 refine hq_then ?_
 refine hc_seq ?_
 refine hc_region ?_
 refine hl_v rfl rfl rfl (rv_ev rfl) ?_
 refine hl_v rfl rfl rfl (rv_ev rfl) ?_
 refine hl_v rfl rfl rfl (rv_ev rfl) ?_
 refine hl_v rfl rfl rfl (rv_len rfl Try.underlying30 rfl (fun w hm => hv w (hm.sub (.cons _ (.refl _))))) ?_
 refine hl_callM (R := (fun u_ p_ => (∃ x : Int, u_ = .int .i64 x ∧ 0 ≤ x ∧ x < (L.length : Int)) ∧ p_ = curE g a len cap)) 0 rfl rfl (by kernel_rfl) rfl rfl (fun l' w hm => belowN_mut g a len cap z _ _ _ _ hm hb (by constructor <;> omega)) ?_
 intro v1 p2 hR3
 obtain ⟨⟨xhR3, rfl, xhR30, xhR31⟩, rfl⟩ := hR3
 refine hl_eqL (l' := (curE g a len cap :: l)) rfl ?_
 refine hl_v rfl rfl rfl (rv_index (s := 1) rfl Try.underlying30 (by kernel_rfl) rfl rfl (fun w hm => hv w (hm.sub (.cons _ (.refl _)))) (by omega) (by first | omega | (simp only [List.length_set]; omega))) ?_
 refine hl_v rfl rfl rfl (rv_loadEl (u := .int .i64 (L.getD ((xhR3).toNat) 0)) rfl (by kernel_rfl) rfl (fun w hm => hv w (hm.sub (.cons _ (.refl _)))) (ints_at1 (show _ < L.length by first | omega | (simp only [List.length_set]; omega)))) ?_
 refine hl_v rfl rfl rfl (rv_ev rfl) ?_
 refine hl_less (sx 0 rfl (sx 1 rfl (sx 4 rfl (sub_nil _)))) (.refl _) ?_
 refine hl_nil ?_
 refine hq_then ?_
 refine hc_ret ?_
 exact hq_ret (rs := [.tmp 4]) (vs := [.int .i64 (L.getD ((xhR3).toNat) 0)]) rfl ⟨rfl, trivial⟩ rfl (fun w hm => ⟨_, curE g a len cap, rfl, ⟨⟨_, rfl, getD_mem' (es := L) (d := 0) (by omega)⟩, rfl⟩, hm.sub ((.cons_cons _ (.refl _)))⟩)
/-- the number in a value -/
def intOf_o : Value → Int
  | .int _ n => n
  | _ => 0
/-- a cell of an aggregate -/
def aggAt (v : Value) (k : Nat) : Value := match v with | .agg xs => xs.getD k undef | _ => undef
open Go.RowKit
theorem mem_six {x : Int} (h : x ∈ [1, 1, 2, 2, 0, 3]) : 0 ≤ x ∧ x ≤ 3 := by
  simp only [List.mem_cons, List.not_mem_nil, or_false] at h; omega
def InR (xs : List Int) (lo hi : Int) : Prop := ∀ i, i < xs.length → lo ≤ xs.getD i 0 ∧ xs.getD i 0 ≤ hi
theorem inr_set {xs : List Int} {lo hi x : Int} {j : Nat} (h : InR xs lo hi) (hx : lo ≤ x ∧ x ≤ hi) : InR (xs.set j x) lo hi := fun i hi => by
  rw [List.length_set] at hi
  by_cases hij : i = j
  · subst hij; rw [getD_set_self' hi]; exact hx
  · rw [getD_set_ne' (fun e => hij e.symm)]; exact h i hi
theorem inr_app {xs : List Int} {lo hi x : Int} (h : InR xs lo hi) (hx : lo ≤ x ∧ x ≤ hi) : InR (xs ++ [x]) lo hi := fun i hi => by
  rw [List.length_append, List.length_singleton] at hi
  by_cases hij : i = xs.length
  · subst hij; rw [List.getD_eq_getElem?_getD, List.getElem?_append_right (by omega), Nat.sub_self]; exact hx
  · rw [List.getD_eq_getElem?_getD, List.getElem?_append_left (by omega), ← List.getD_eq_getElem?_getD]; exact h i (by omega)
theorem empty_mx {d : Dev} {t : Tc} (hv : devB d = true) (h : t.val = emptyT d) : InR t.mx 0 31 := by
  unfold emptyT at h
  rw [if_pos hv] at h
  simp only [Tc.val, Prod.mk.injEq] at h
  intro i hi
  rw [h.1, List.getD_eq_getElem?_getD, List.getElem?_replicate]
  split <;> decide
theorem ok_tc {d : Dev} {t : Tc} (hd : devB d = true) (h1 : t.mx.length = (muxs d).toNat) (hm : InR t.mx 0 31) (hl : t.es.length = 2) (he : ∀ i, i < 2 → leOkV (t.es.getD i Le0).val = true) (hp : 0 ≤ t.pad ∧ t.pad ≤ 3) (hr : 0 ≤ t.ram ∧ t.ram ≤ 31) : tcOkV d t.val = true := by
  obtain ⟨-, -, ⟨l1, l2⟩, -⟩ := (devB_iff d).1 hd
  rw [tcOkV_iff]
  refine ⟨hd, by rw [h1]; unfold muxs; omega, hl, hp, hr, hm, fun i hi => he i (by omega)⟩
theorem le_ok {v : Value} {ys : List Int} {m f i : Int} (h : ys.length = 4) (hy : InR ys 0 7) (hm : 0 ≤ m ∧ m < 65536) (hf : 0 ≤ f ∧ f < 2) (hi : 0 ≤ i ∧ i < 2) : leOkV (Le.mk v ys m f i).val = true := by
  rw [leOkV_iff]; exact ⟨h, by show 0 ≤ m ∧ m ≤ 65535; omega, by show 0 ≤ f ∧ f ≤ 1; omega, by show 0 ≤ i ∧ i ≤ 1; omega, hy⟩
theorem les_small {es : List Le} (hl : es.length = 2) (h : ∀ i, i < 2 → leOkV (es.getD i Le0).val = true) : ∀ e ∈ es, e.xs.length ≤ 2000000 := fun e he => by
  obtain ⟨i, hi, rfl⟩ := List.mem_iff_getElem.1 he
  have h1 := h i (by omega)
  rw [List.getD_eq_getElem?_getD, List.getElem?_eq_getElem hi] at h1
  have := ((leOkV_iff _).1 h1).1
  simp only [Option.getD_some] at this
  omega
set_option maxHeartbeats 4000000 in
set_option maxRecDepth 100000 in
theorem l38Tile_mut (g : Nat) (a : Option Addr) (len cap : Nat) (z : List Int) (d : Dev) (x : Int) (w0 : World) (l : List HP) (w : World) (hm0 : Mem w0 (curE g a len cap :: l) w) (hb : BRow .u8 w0 a len cap z) (hd : devB d = true) :
  Calls Try.prog 121 #[.pointer (some ⟨g, 0, none⟩), .agg #[.int .i64 d.W, .int .i64 d.H, .int .i64 d.T, .int .i64 d.R], .int .i64 x] w (fun e_ w_ => ∃ v_ p_, e_ = .returned v_ ∧ (fun u_ p_ => ∃ t : Tc, u_ = t.agg ∧ p_ = bigE [curE g a len cap, tcE t] ∧ (t.mv.oneCell' = true ∧ t.lv.oneCell' = true) ∧ tcOkV d t.val = true ∧ t.mx.length ≤ 2000000 ∧ t.es.length ≤ 2000000 ∧ ∀ e ∈ t.es, e.xs.length ≤ 2000000) v_ p_ ∧ Mem w0 (p_ :: l) w_) := by
 obtain ⟨-, -, ⟨l1, l2⟩, -⟩ := (devB_iff d).1 hd
 have hmu0 : muxs d = 5 + 4 * d.T := rfl
 refine calls_hcM (N := 92) (args := [.pointer (some ⟨g, 0, none⟩), .agg #[.int .i64 d.W, .int .i64 d.H, .int .i64 d.T, .int .i64 d.R], .int .i64 x]) Try.func121 rfl rfl hm0 ?_
 refine hc_less _ (sub_cons (d := 0) rfl (sub_cons (d := 1) rfl (sub_cons (d := 2) rfl (sub_nil _)))) (.refl _) ?_
 refine hc_seq ?_
 refine hc_region ?_
 refine hl_box rfl rfl rfl (rq_box rfl rfl) ?_
 intro b1
 refine hl_box rfl rfl rfl (rq_alloc (z := .agg #[.slice none 0 0, .slice none 0 0, .int .i64 0, .int .i64 0]) rfl (by kernel_rfl)) ?_
 intro b2
 refine hl_less (sub_cons (d := 0) rfl (sub_cons (d := 1) rfl (sub_cons (d := 2) rfl (sub_cons (d := 4) rfl (sub_cons (d := 6) rfl (sub_nil _)))))) (.refl _) ?_
 refine hl_nil ?_
 refine hq_then ?_
 refine hc_seq ?_
 refine hc_region ?_
 refine hl_v rfl rfl rfl (rv_loadN (cs := [.int .i64 d.W, .int .i64 d.H, .int .i64 d.T, .int .i64 d.R]) rfl (by kernel_rfl) (by kernel_rfl) rfl rfl (box_part 1 rfl 0 rfl)) ?_
 refine hl_q rfl rfl rfl (rq_call (by kernel_rfl) rfl (fun w hm => specEmptyTile_ret d w)) ?_
 intro v3 p4 hR5
 obtain ⟨t, rfl, rfl, ⟨c1t, c2t⟩, valt, n1t, n2t, n3t⟩ := hR5
 have emx := empty_mx hd valt
 obtain ⟨ht1, ht2, ht3, ht4, ht5⟩ := empty_at hd valt
 refine hl_box rfl rfl rfl (rq_alloc (z := .agg #[.slice none 0 0, .slice none 0 0, .int .i64 0, .int .i64 0]) rfl (by kernel_rfl)) ?_
 intro b6
 refine hl_storeBoxN (i := 0) (off := 0) (us := [t.mv, t.lv, .int .i64 t.pad, .int .i64 t.ram]) (l' := (boxE b6 #[t.mv, t.lv, .int .i64 t.pad, .int .i64 t.ram] 39 :: tcE t :: boxE b2 #[.slice none 0 0, .slice none 0 0, .int .i64 0, .int .i64 0] 39 :: boxE b1 #[.int .i64 d.W, .int .i64 d.H, .int .i64 d.T, .int .i64 d.R] 25 :: curE g a len cap :: l)) rfl rfl rfl (by kernel_rfl) rfl rfl rfl (all_cons c1t (all_cons c2t (all_cons rfl (all_cons rfl all_nil)))) rfl rfl rfl ?_
 refine hl_less (sub_cons (d := 0) rfl (sub_cons (d := 1) rfl (sub_cons (d := 2) rfl (sub_cons (d := 4) rfl (sub_cons (d := 6) rfl (sub_cons (d := 7) rfl (sub_nil _))))))) (.refl _) ?_
 refine hl_nil ?_
 refine hq_then ?_
 refine hc_seq ?_
 refine hc_seq ?_
 refine hc_region ?_
 refine hl_v rfl rfl rfl (rv_ev rfl) ?_
 refine hl_less (sub_cons (d := 0) rfl (sub_cons (d := 1) rfl (sub_cons (d := 2) rfl (sub_cons (d := 4) rfl (sub_cons (d := 6) rfl (sub_cons (d := 7) rfl (sub_cons (d := 8) rfl (sub_nil _)))))))) (.refl _) ?_
 refine hl_nil ?_
 refine hq_then ?_
 refine hc_block ?_
 refine hc_conv (tcE t :: boxE b6 #[t.mv, t.lv, .int .i64 t.pad, .int .i64 t.ram] 39 :: boxE b2 #[.slice none 0 0, .slice none 0 0, .int .i64 0, .int .i64 0] 39 :: boxE b1 #[.int .i64 d.W, .int .i64 d.H, .int .i64 d.T, .int .i64 d.R] 25 :: curE g a len cap :: l) (conv_pick (src := [boxE b6 #[t.mv, t.lv, .int .i64 t.pad, .int .i64 t.ram] 39, tcE t, boxE b2 #[.slice none 0 0, .slice none 0 0, .int .i64 0, .int .i64 0] 39, boxE b1 #[.int .i64 d.W, .int .i64 d.H, .int .i64 d.T, .int .i64 d.R] 25, curE g a len cap]) (dst := [tcE t, boxE b6 #[t.mv, t.lv, .int .i64 t.pad, .int .i64 t.ram] 39, boxE b2 #[.slice none 0 0, .slice none 0 0, .int .i64 0, .int .i64 0] 39, boxE b1 #[.int .i64 d.W, .int .i64 d.H, .int .i64 d.T, .int .i64 d.R] 25, curE g a len cap]) (l := l) [1, 0, 2, 3, 4] (by decide) rfl) ?_
 refine hc_conv (rowE 3 1 t.mv t.mx.length (t.mx.map (Value.int .i64)) :: lesE t.lv t.es :: boxE b6 #[t.mv, t.lv, .int .i64 t.pad, .int .i64 t.ram] 39 :: boxE b2 #[.slice none 0 0, .slice none 0 0, .int .i64 0, .int .i64 0] 39 :: boxE b1 #[.int .i64 d.W, .int .i64 d.H, .int .i64 d.T, .int .i64 d.R] 25 :: curE g a len cap :: l) conv_unbig ?_
 refine hc_conv (lesE t.lv t.es :: rowE 3 1 t.mv t.mx.length (t.mx.map (Value.int .i64)) :: boxE b6 #[t.mv, t.lv, .int .i64 t.pad, .int .i64 t.ram] 39 :: boxE b2 #[.slice none 0 0, .slice none 0 0, .int .i64 0, .int .i64 0] 39 :: boxE b1 #[.int .i64 d.W, .int .i64 d.H, .int .i64 d.T, .int .i64 d.R] 25 :: curE g a len cap :: l) (conv_pick (src := [rowE 3 1 t.mv t.mx.length (t.mx.map (Value.int .i64)), lesE t.lv t.es, boxE b6 #[t.mv, t.lv, .int .i64 t.pad, .int .i64 t.ram] 39, boxE b2 #[.slice none 0 0, .slice none 0 0, .int .i64 0, .int .i64 0] 39, boxE b1 #[.int .i64 d.W, .int .i64 d.H, .int .i64 d.T, .int .i64 d.R] 25, curE g a len cap]) (dst := [lesE t.lv t.es, rowE 3 1 t.mv t.mx.length (t.mx.map (Value.int .i64)), boxE b6 #[t.mv, t.lv, .int .i64 t.pad, .int .i64 t.ram] 39, boxE b2 #[.slice none 0 0, .slice none 0 0, .int .i64 0, .int .i64 0] 39, boxE b1 #[.int .i64 d.W, .int .i64 d.H, .int .i64 d.T, .int .i64 d.R] 25, curE g a len cap]) (l := l) [1, 0, 2, 3, 4, 5] (by decide) rfl) ?_
 refine hc_conv (bigE (t.es.map lePart) :: rowE 87 4 t.lv t.es.length (t.es.flatMap Le.cells) :: rowE 3 1 t.mv t.mx.length (t.mx.map (Value.int .i64)) :: boxE b6 #[t.mv, t.lv, .int .i64 t.pad, .int .i64 t.ram] 39 :: boxE b2 #[.slice none 0 0, .slice none 0 0, .int .i64 0, .int .i64 0] 39 :: boxE b1 #[.int .i64 d.W, .int .i64 d.H, .int .i64 d.T, .int .i64 d.R] 25 :: curE g a len cap :: l) conv_unbig ?_
 refine hc_loop2 (α := Nat) (β := List Int) (fun m zs => (bigE (t.es.map lePart) :: rowE 87 4 t.lv t.es.length (t.es.flatMap Le.cells) :: rowE 3 1 t.mv zs.length (zs.map (Value.int .i64)) :: boxE b6 #[t.mv, t.lv, .int .i64 t.pad, .int .i64 t.ram] 39 :: boxE b2 #[.slice none 0 0, .slice none 0 0, .int .i64 0, .int .i64 0] 39 :: boxE b1 #[.int .i64 d.W, .int .i64 d.H, .int .i64 d.T, .int .i64 d.R] 25 :: curE g a len cap :: l)) (fun m zs => [(0, .pointer (some ⟨g, 0, none⟩)), (1, .agg #[.int .i64 d.W, .int .i64 d.H, .int .i64 d.T, .int .i64 d.R]), (2, .int .i64 x), (4, .pointer (some ⟨b1, 0, none⟩)), (6, .pointer (some ⟨b2, 0, none⟩)), (7, .pointer (some ⟨b6, 0, none⟩)), (8, .int .i64 (m : Int))]) (fun m zs => m ≤ t.mx.length ∧ zs.length = t.mx.length ∧ InR zs 0 31) (fun m zs => t.mx.length - m) 0 t.mx ⟨by omega, rfl, emx⟩ (sub_cons (d := 0) rfl (sub_cons (d := 1) rfl (sub_cons (d := 2) rfl (sub_cons (d := 4) rfl (sub_cons (d := 6) rfl (sub_cons (d := 7) rfl (sub_cons (d := 8) rfl (sub_nil _)))))))) ((.cons_cons _ (.cons_cons _ (.cons_cons _ (.cons_cons _ (.cons_cons _ (.cons_cons _ (.cons_cons _ (.refl _))))))))) ?_
 intro m zs hi7
 obtain ⟨hm1, hml, hmz⟩ := hi7
 refine hc_seq ?_
 refine hc_seq ?_
 refine hc_region ?_
 refine hl_v rfl rfl rfl (rv_ev rfl) ?_
 refine hl_v rfl rfl rfl (rv_field (k0 := 0) rfl (by kernel_rfl) rfl) ?_
 refine hl_v rfl rfl rfl (rv_load rfl (by kernel_rfl) rfl (box_cell 3 rfl rfl)) ?_
 refine hl_v rfl rfl rfl (rv_len rfl Try.underlying30 rfl (rd_row 2 rfl)) ?_
 refine hl_lss rfl rfl rfl rfl rfl rfl (fun h8 => ?_) (fun h8 => ?_)
 ·
  refine hl_less (sub_cons (d := 0) rfl (sub_cons (d := 1) rfl (sub_cons (d := 2) rfl (sub_cons (d := 4) rfl (sub_cons (d := 6) rfl (sub_cons (d := 7) rfl (sub_cons (d := 8) rfl (sub_cons (d := 20) rfl (sub_nil _))))))))) (.refl _) ?_
  refine hl_nil ?_
  refine hq_then ?_
  refine hc_true rfl ?_
  refine hc_skip ?_
  refine hq_then ?_
  refine hc_seq ?_
  refine hc_block ?_
  refine hc_seq ?_
  refine hc_draw (by kernel_rfl) 7 [0, 1, 2, 3, 4, 5, 6] (List.take 7 _) (List.drop 7 _) [[], [], [], [], [1, 2, 3], [0, 4], [5]] [23, 24, 25, 26, 27, 28, 29] (fun i vs_ v_ p_ => match i with | 0 => v_ = .agg #[.int .i64 d.W, .int .i64 d.H, .int .i64 d.T, .int .i64 d.R] ∧ p_ = [] | 1 => v_ = .agg #[.int .i64 d.W, .int .i64 d.H, .int .i64 d.T, .int .i64 d.R] ∧ p_ = [] | 2 => v_ = .int .i64 x ∧ p_ = [] | 3 => v_ = .int .i64 (m : Int) ∧ p_ = [] | 4 => v_ = .int .i64 (muxNodeI d x (m : Int)) ∧ p_ = [] | 5 => (fun v' post => post = [rowE 3 1 v' (srcS d (muxNodeI d x (m : Int))).length ((srcS d (muxNodeI d x (m : Int))).map (Value.int .i64))]) v_ p_ | 6 => v_ = .int .i64 ((srcS d (muxNodeI d x (m : Int))).length : Int) ∧ p_ = [] | _ => True) (List.take_append_drop 7 _).symm (by kernel_rfl) (by kernel_rfl) rfl rfl ?_ ?_
  ·
   refine ⟨?_, ?_, ?_, ?_, ?_, ?_, ?_, trivial⟩
   ·
    intro vf pf hR
    refine Or.inl ⟨rfl, ?_⟩
    refine rq_less (sub_cons (d := 4) rfl (sub_nil _)) (List.sublist_append_right _ _) ?_
    exact rq_v (rv_loadN (cs := [.int .i64 d.W, .int .i64 d.H, .int .i64 d.T, .int .i64 d.R]) rfl (by kernel_rfl) (by kernel_rfl) rfl rfl (box_part 5 rfl 0 rfl))
   ·
    intro vf pf hR
    refine Or.inl ⟨rfl, ?_⟩
    refine rq_less (sub_cons (d := 4) rfl (sub_nil _)) (List.sublist_append_right _ _) ?_
    exact rq_v (rv_loadN (cs := [.int .i64 d.W, .int .i64 d.H, .int .i64 d.T, .int .i64 d.R]) rfl (by kernel_rfl) (by kernel_rfl) rfl rfl (box_part 5 rfl 0 rfl))
   ·
    intro vf pf hR
    refine Or.inl ⟨rfl, ?_⟩
    refine rq_less (sub_cons (d := 2) rfl (sub_nil _)) (List.sublist_append_right _ _) ?_
    exact rq_v (rv_ev rfl)
   ·
    intro vf pf hR
    refine Or.inl ⟨rfl, ?_⟩
    refine rq_less (sub_cons (d := 8) rfl (sub_nil _)) (List.sublist_append_right _ _) ?_
    exact rq_v (rv_ev rfl)
   ·
    intro vf pf hR
    have e1 : (vf 1) = .agg #[.int .i64 d.W, .int .i64 d.H, .int .i64 d.T, .int .i64 d.R] ∧ (pf 1) = [] := hR 1 (by decide)
    have e2 : (vf 2) = .int .i64 x ∧ (pf 2) = [] := hR 2 (by decide)
    have e3 : (vf 3) = .int .i64 (m : Int) ∧ (pf 3) = [] := hR 3 (by decide)
    refine Or.inl ⟨rfl, ?_⟩
    refine rq_less (sub_cons (d := 24) (congrArg some e1.1) (sub_cons (d := 25) (congrArg some e2.1) (sub_cons (d := 26) (congrArg some e3.1) (sub_nil _)))) (List.sublist_append_right _ _) ?_
    exact (rq_call (by kernel_rfl) rfl (fun w hm => ret_ans (specMuxNode_any d x (m : Int) w)))
   ·
    intro vf pf hR
    have e0 : (vf 0) = .agg #[.int .i64 d.W, .int .i64 d.H, .int .i64 d.T, .int .i64 d.R] ∧ (pf 0) = [] := hR 0 (by decide)
    have e4 : (vf 4) = .int .i64 (muxNodeI d x (m : Int)) ∧ (pf 4) = [] := hR 4 (by decide)
    refine Or.inl ⟨rfl, ?_⟩
    refine rq_less (sub_cons (d := 23) (congrArg some e0.1) (sub_cons (d := 27) (congrArg some e4.1) (sub_nil _))) (List.sublist_append_right _ _) ?_
    exact rq_call (by kernel_rfl) rfl (fun w hm => specSources_ret d _ w)
   ·
    intro vf pf hR
    have e5 : (fun v' post => post = [rowE 3 1 v' (srcS d (muxNodeI d x (m : Int))).length ((srcS d (muxNodeI d x (m : Int))).map (Value.int .i64))]) (vf 5) (pf 5) := hR 5 (by decide)
    obtain ⟨v9, v5⟩ : ∃ x, vf 5 = x := ⟨_, rfl⟩
    obtain ⟨p10, p5⟩ : ∃ x, pf 5 = x := ⟨_, rfl⟩
    have hR11 := e5
    rw [v5, p5] at hR11
    subst hR11
    refine Or.inl ⟨rfl, ?_⟩
    refine rq_less (l' := (rowE 3 1 v9 ((srcS d (muxNodeI d x (m : Int))).length) ((srcS d (muxNodeI d x (m : Int))).map (Value.int .i64)) :: bigE (t.es.map lePart) :: rowE 87 4 t.lv t.es.length (t.es.flatMap Le.cells) :: rowE 3 1 t.mv zs.length (zs.map (Value.int .i64)) :: boxE b6 #[t.mv, t.lv, .int .i64 t.pad, .int .i64 t.ram] 39 :: boxE b2 #[.slice none 0 0, .slice none 0 0, .int .i64 0, .int .i64 0] 39 :: boxE b1 #[.int .i64 d.W, .int .i64 d.H, .int .i64 d.T, .int .i64 d.R] 25 :: curE g a len cap :: l)) (sub_cons (d := 28) (congrArg some v5) (sub_nil _)) (by first | (simp only [p5, v5, List.flatMap_cons, List.flatMap_nil, List.append_nil, List.nil_append, List.cons_append]; exact List.Sublist.refl _) | simp [p5, v5]) ?_
    exact rq_v (rv_len rfl Try.underlying30 rfl (rd_row 0 rfl))
  ·
   intro vf pf hR
   have e5 : (fun v' post => post = [rowE 3 1 v' (srcS d (muxNodeI d x (m : Int))).length ((srcS d (muxNodeI d x (m : Int))).map (Value.int .i64))]) (vf 5) (pf 5) := hR 5 (by decide)
   obtain ⟨v9, v5⟩ : ∃ x, vf 5 = x := ⟨_, rfl⟩
   obtain ⟨p10, p5⟩ : ∃ x, pf 5 = x := ⟨_, rfl⟩
   have hR11 := e5
   rw [v5, p5] at hR11
   subst hR11
   have e6 : (vf 6) = .int .i64 ((srcS d (muxNodeI d x (m : Int))).length : Int) ∧ (pf 6) = [] := hR 6 (by decide)
   have q0 : (vf 0) = .agg #[.int .i64 d.W, .int .i64 d.H, .int .i64 d.T, .int .i64 d.R] ∧ (pf 0) = [] := hR 0 (by decide)
   have q1 : (vf 1) = .agg #[.int .i64 d.W, .int .i64 d.H, .int .i64 d.T, .int .i64 d.R] ∧ (pf 1) = [] := hR 1 (by decide)
   have q2 : (vf 2) = .int .i64 x ∧ (pf 2) = [] := hR 2 (by decide)
   have q3 : (vf 3) = .int .i64 (m : Int) ∧ (pf 3) = [] := hR 3 (by decide)
   have q4 : (vf 4) = .int .i64 (muxNodeI d x (m : Int)) ∧ (pf 4) = [] := hR 4 (by decide)
   have q6 : (vf 6) = .int .i64 ((srcS d (muxNodeI d x (m : Int))).length : Int) ∧ (pf 6) = [] := hR 6 (by decide)
   refine hl_less (l' := (rowE 3 1 v9 ((srcS d (muxNodeI d x (m : Int))).length) ((srcS d (muxNodeI d x (m : Int))).map (Value.int .i64)) :: bigE (t.es.map lePart) :: rowE 87 4 t.lv t.es.length (t.es.flatMap Le.cells) :: rowE 3 1 t.mv zs.length (zs.map (Value.int .i64)) :: boxE b6 #[t.mv, t.lv, .int .i64 t.pad, .int .i64 t.ram] 39 :: boxE b2 #[.slice none 0 0, .slice none 0 0, .int .i64 0, .int .i64 0] 39 :: boxE b1 #[.int .i64 d.W, .int .i64 d.H, .int .i64 d.T, .int .i64 d.R] 25 :: curE g a len cap :: l)) (sub_cons (d := 0) rfl (sub_cons (d := 1) rfl (sub_cons (d := 2) rfl (sub_cons (d := 4) rfl (sub_cons (d := 6) rfl (sub_cons (d := 7) rfl (sub_cons (d := 8) rfl (sub_cons (d := 20) rfl (sub_cons (d := 29) (congrArg some e6.1) (sub_nil _)))))))))) (by first | (simp only [p5, v5, q0.2, q1.2, q2.2, q3.2, q4.2, q6.2, List.flatMap_cons, List.flatMap_nil, List.append_nil, List.nil_append, List.cons_append]; exact List.Sublist.refl _) | simp [p5, v5, q0.2, q1.2, q2.2, q3.2, q4.2, q6.2]) ?_
   simp only [List.drop_succ_cons, List.drop_zero]
   refine hl_v rfl rfl rfl (rv_ev rfl) ?_
   refine hl_less (sub_cons (d := 0) rfl (sub_cons (d := 1) rfl (sub_cons (d := 2) rfl (sub_cons (d := 4) rfl (sub_cons (d := 6) rfl (sub_cons (d := 7) rfl (sub_cons (d := 8) rfl (sub_cons (d := 9) rfl (sub_cons (d := 20) rfl (sub_nil _)))))))))) (.refl _) ?_
   refine hl_nil ?_
   refine hq_then ?_
   refine hc_meet1 (α := List Int) (fun ys2 => (rowE 3 1 v9 ((srcS d (muxNodeI d x (m : Int))).length) ((srcS d (muxNodeI d x (m : Int))).map (Value.int .i64)) :: bigE (t.es.map lePart) :: rowE 87 4 t.lv t.es.length (t.es.flatMap Le.cells) :: rowE 3 1 t.mv ys2.length (ys2.map (Value.int .i64)) :: boxE b6 #[t.mv, t.lv, .int .i64 t.pad, .int .i64 t.ram] 39 :: boxE b2 #[.slice none 0 0, .slice none 0 0, .int .i64 0, .int .i64 0] 39 :: boxE b1 #[.int .i64 d.W, .int .i64 d.H, .int .i64 d.T, .int .i64 d.R] 25 :: curE g a len cap :: l)) (fun ys2 => [(0, .pointer (some ⟨g, 0, none⟩)), (1, .agg #[.int .i64 d.W, .int .i64 d.H, .int .i64 d.T, .int .i64 d.R]), (2, .int .i64 x), (4, .pointer (some ⟨b1, 0, none⟩)), (6, .pointer (some ⟨b2, 0, none⟩)), (7, .pointer (some ⟨b6, 0, none⟩)), (8, .int .i64 (m : Int)), (9, .int .i64 ((srcS d (muxNodeI d x (m : Int))).length : Int)), (20, .bool true)]) (fun ys2 => ys2.length = t.mx.length ∧ InR ys2 0 31) ?_ ?_
   ·
    refine hc_seq ?_
    refine hc_region ?_
    have hsl : (srcS d (muxNodeI d x m)).length ≤ 16 := by rw [src_eq]; exact src_len16 _ _
    refine hl_v rfl rfl rfl (rv_ev rfl) ?_
    refine hl_gtr rfl rfl rfl rfl rfl rfl (fun h12 => ?_) (fun h12 => ?_)
    ·
     refine hl_v rfl rfl rfl (rv_ev rfl) ?_
     refine hl_v rfl rfl rfl (rv_ev rfl) ?_
     refine hl_callM (R := (fun u_ p_ => (∃ b : Bool, u_ = .bool b) ∧ p_ = curE g a len cap)) 7 rfl rfl (by kernel_rfl) rfl rfl (fun l' w hm => once_mut hm hb (2) (by omega) (by omega)) ?_
     intro v13 p14 hR15
     obtain ⟨⟨xhR15, rfl⟩, rfl⟩ := hR15
     refine hl_eqL (l' := (rowE 3 1 v9 ((srcS d (muxNodeI d x (m : Int))).length) ((srcS d (muxNodeI d x (m : Int))).map (Value.int .i64)) :: bigE (t.es.map lePart) :: rowE 87 4 t.lv t.es.length (t.es.flatMap Le.cells) :: rowE 3 1 t.mv zs.length (zs.map (Value.int .i64)) :: boxE b6 #[t.mv, t.lv, .int .i64 t.pad, .int .i64 t.ram] 39 :: boxE b2 #[.slice none 0 0, .slice none 0 0, .int .i64 0, .int .i64 0] 39 :: boxE b1 #[.int .i64 d.W, .int .i64 d.H, .int .i64 d.T, .int .i64 d.R] 25 :: curE g a len cap :: l)) rfl ?_
     refine hl_bool (fun h16 => ?_) (fun h16 => ?_)
     ·
      refine hl_v rfl rfl rfl (rv_ev rfl) ?_
      refine hl_less (sub_cons (d := 0) rfl (sub_cons (d := 1) rfl (sub_cons (d := 2) rfl (sub_cons (d := 4) rfl (sub_cons (d := 6) rfl (sub_cons (d := 7) rfl (sub_cons (d := 8) rfl (sub_cons (d := 9) rfl (sub_cons (d := 20) rfl (sub_cons (d := 35) rfl (sub_nil _))))))))))) (.refl _) ?_
      refine hl_nil ?_
      refine hq_then ?_
      refine hc_true rfl ?_
      refine hc_conv (curE g a len cap :: rowE 3 1 v9 ((srcS d (muxNodeI d x (m : Int))).length) ((srcS d (muxNodeI d x (m : Int))).map (Value.int .i64)) :: bigE (t.es.map lePart) :: rowE 87 4 t.lv t.es.length (t.es.flatMap Le.cells) :: rowE 3 1 t.mv zs.length (zs.map (Value.int .i64)) :: boxE b6 #[t.mv, t.lv, .int .i64 t.pad, .int .i64 t.ram] 39 :: boxE b2 #[.slice none 0 0, .slice none 0 0, .int .i64 0, .int .i64 0] 39 :: boxE b1 #[.int .i64 d.W, .int .i64 d.H, .int .i64 d.T, .int .i64 d.R] 25 :: l) (conv_pick (src := [rowE 3 1 v9 ((srcS d (muxNodeI d x (m : Int))).length) ((srcS d (muxNodeI d x (m : Int))).map (Value.int .i64)), bigE (t.es.map lePart), rowE 87 4 t.lv t.es.length (t.es.flatMap Le.cells), rowE 3 1 t.mv zs.length (zs.map (Value.int .i64)), boxE b6 #[t.mv, t.lv, .int .i64 t.pad, .int .i64 t.ram] 39, boxE b2 #[.slice none 0 0, .slice none 0 0, .int .i64 0, .int .i64 0] 39, boxE b1 #[.int .i64 d.W, .int .i64 d.H, .int .i64 d.T, .int .i64 d.R] 25, curE g a len cap]) (dst := [curE g a len cap, rowE 3 1 v9 ((srcS d (muxNodeI d x (m : Int))).length) ((srcS d (muxNodeI d x (m : Int))).map (Value.int .i64)), bigE (t.es.map lePart), rowE 87 4 t.lv t.es.length (t.es.flatMap Le.cells), rowE 3 1 t.mv zs.length (zs.map (Value.int .i64)), boxE b6 #[t.mv, t.lv, .int .i64 t.pad, .int .i64 t.ram] 39, boxE b2 #[.slice none 0 0, .slice none 0 0, .int .i64 0, .int .i64 0] 39, boxE b1 #[.int .i64 d.W, .int .i64 d.H, .int .i64 d.T, .int .i64 d.R] 25]) (l := l) [7, 0, 1, 2, 3, 4, 5, 6] (by decide) rfl) ?_
      refine hc_draw2 (l := (rowE 3 1 v9 ((srcS d (muxNodeI d x (m : Int))).length) ((srcS d (muxNodeI d x (m : Int))).map (Value.int .i64)) :: bigE (t.es.map lePart) :: rowE 87 4 t.lv t.es.length (t.es.flatMap Le.cells) :: rowE 3 1 t.mv zs.length (zs.map (Value.int .i64)) :: boxE b6 #[t.mv, t.lv, .int .i64 t.pad, .int .i64 t.ram] 39 :: boxE b2 #[.slice none 0 0, .slice none 0 0, .int .i64 0, .int .i64 0] 39 :: boxE b1 #[.int .i64 d.W, .int .i64 d.H, .int .i64 d.T, .int .i64 d.R] 25 :: l)) (by kernel_rfl) 8 [0, 1, 2, 3, 4, 5, 6, 7] (List.take 8 _) (List.drop 8 _) [[], [0], [], [], [], [3, 4], [5], [1, 2]] [36, 37, 38, 39, 40, 41, 42, 43] (fun i vs_ v_ p_ => match i with | 0 => v_ = .pointer (some ⟨b6, 0 + 0, none⟩) ∧ p_ = [] | 1 => v_ = t.mv ∧ p_ = [] | 2 => v_ = .int .i64 (m : Int) ∧ p_ = [] | 3 => v_ = .pointer (some ⟨g, 0, none⟩) ∧ p_ = [] | 4 => v_ = .int .i64 ((srcS d (muxNodeI d x (m : Int))).length : Int) ∧ p_ = [] | 5 => (∃ pm_, p_ = [pm_] ∧ (fun u_ p_ => (∃ x_ : Int, u_ = .int .i64 x_ ∧ 0 ≤ x_ ∧ x_ < ((srcS d (muxNodeI d x (m : Int))).length : Int)) ∧ p_ = curE g a len cap) v_ pm_) | 6 => v_ = .int .i64 (1 + (intOf_o (List.getD vs_ 0 undef))) ∧ p_ = [] | 7 => v_ = elP t.mv (((m : Int)).toNat * 1) ∧ p_ = [] | _ => True) [[], [0], [], [], [], [3, 4], [5], [1, 2]] [none, none, none, none, none, some 9, none, none] [curE g a len cap] [0, 1, 2, 3, 4, 5, 6, 7] 9 (List.take_append_drop 8 _).symm (by kernel_rfl) (by kernel_rfl) (by kernel_rfl) rfl rfl ?_ ?_
      ·
       refine ⟨?_, ?_, ?_, ?_, ?_, ?_, ?_, ?_, trivial⟩
       ·
        intro vf pf hmu hR
        refine Or.inl ⟨rfl, ?_⟩
        show RunQ _ _ _ (([] : List Nat).flatMap pf ++ _) (envOf _ vf [] ++ _) _ _
        refine rq_less (sub_cons (d := 7) rfl (sub_nil _)) (List.sublist_append_right _ _) ?_
        exact rq_v (rv_field (k0 := 0) rfl (by kernel_rfl) rfl)
       ·
        intro vf pf hmu hR
        have e0 : (vf 0) = .pointer (some ⟨b6, 0 + 0, none⟩) ∧ (pf 0) = [] := hR 0 (by decide)
        refine Or.inl ⟨rfl, ?_⟩
        show RunQ _ _ _ (([0] : List Nat).flatMap pf ++ _) (envOf _ vf [0] ++ _) _ _
        refine rq_less (sub_cons (d := 36) (congrArg some e0.1) (sub_nil _)) (List.sublist_append_right _ _) ?_
        exact rq_v (rv_load rfl (by kernel_rfl) rfl (box_cell 4 rfl rfl))
       ·
        intro vf pf hmu hR
        refine Or.inl ⟨rfl, ?_⟩
        show RunQ _ _ _ (([] : List Nat).flatMap pf ++ _) (envOf _ vf [] ++ _) _ _
        refine rq_less (sub_cons (d := 8) rfl (sub_nil _)) (List.sublist_append_right _ _) ?_
        exact rq_v (rv_ev rfl)
       ·
        intro vf pf hmu hR
        refine Or.inl ⟨rfl, ?_⟩
        show RunQ _ _ _ (([] : List Nat).flatMap pf ++ _) (envOf _ vf [] ++ _) _ _
        refine rq_less (sub_cons (d := 0) rfl (sub_nil _)) (List.sublist_append_right _ _) ?_
        exact rq_v (rv_ev rfl)
       ·
        intro vf pf hmu hR
        refine Or.inl ⟨rfl, ?_⟩
        show RunQ _ _ _ (([] : List Nat).flatMap pf ++ _) (envOf _ vf [] ++ _) _ _
        refine rq_less (sub_cons (d := 9) rfl (sub_nil _)) (List.sublist_append_right _ _) ?_
        exact rq_v (rv_ev rfl)
       ·
        intro vf pf hmu hR
        have e3 : (vf 3) = .pointer (some ⟨g, 0, none⟩) ∧ (pf 3) = [] := hR 3 (by decide)
        have e4 : (vf 4) = .int .i64 ((srcS d (muxNodeI d x (m : Int))).length : Int) ∧ (pf 4) = [] := hR 4 (by decide)
        refine Or.inl ⟨rfl, ?_⟩
        show RunM _ _ _ (pf 9) (([3, 4] : List Nat).flatMap pf ++ _) (envOf _ vf [3, 4] ++ _) _ _
        rw [hmu]
        refine rm_less (X' := (rowE 3 1 v9 ((srcS d (muxNodeI d x (m : Int))).length) ((srcS d (muxNodeI d x (m : Int))).map (Value.int .i64)) :: bigE (t.es.map lePart) :: rowE 87 4 t.lv t.es.length (t.es.flatMap Le.cells) :: rowE 3 1 t.mv zs.length (zs.map (Value.int .i64)) :: boxE b6 #[t.mv, t.lv, .int .i64 t.pad, .int .i64 t.ram] 39 :: boxE b2 #[.slice none 0 0, .slice none 0 0, .int .i64 0, .int .i64 0] 39 :: boxE b1 #[.int .i64 d.W, .int .i64 d.H, .int .i64 d.T, .int .i64 d.R] 25 :: l)) (sub_cons (d := 39) (congrArg some e3.1) (sub_cons (d := 40) (congrArg some e4.1) (sub_nil _))) (by first | (simp only [e3.2, e4.2, List.flatMap_cons, List.flatMap_nil, List.append_nil, List.nil_append, List.cons_append]; exact List.Sublist.refl _) | simp [e3.2, e4.2]) ?_
        exact rq_callM (R := (fun u_ p_ => (∃ x_ : Int, u_ = .int .i64 x_ ∧ 0 ≤ x_ ∧ x_ < ((srcS d (muxNodeI d x (m : Int))).length : Int)) ∧ p_ = curE g a len cap)) (by kernel_rfl) rfl (fun L w hX hm => belowN_mut g a len cap z ((srcS d (muxNodeI d x (m : Int))).length : Int) _ _ _ hm hb (by constructor <;> omega))
       ·
        intro vf pf hmu hR
        have e5 : (∃ pm_, (pf 5) = [pm_] ∧ (fun u_ p_ => (∃ x_ : Int, u_ = .int .i64 x_ ∧ 0 ≤ x_ ∧ x_ < ((srcS d (muxNodeI d x (m : Int))).length : Int)) ∧ p_ = curE g a len cap) (vf 5) pm_) := hR 5 (by decide)
        obtain ⟨p18, p5, hR19⟩ := e5
        obtain ⟨v17, v5⟩ : ∃ x, vf 5 = x := ⟨_, rfl⟩
        rw [v5] at hR19
        obtain ⟨⟨xhR19, rfl, xhR190, xhR191⟩, rfl⟩ := hR19
        refine Or.inl ⟨rfl, ?_⟩
        show RunQ _ _ _ (([5] : List Nat).flatMap pf ++ _) (envOf _ vf [5] ++ _) _ _
        refine rq_less (l' := (curE g a len cap :: rowE 3 1 v9 ((srcS d (muxNodeI d x (m : Int))).length) ((srcS d (muxNodeI d x (m : Int))).map (Value.int .i64)) :: bigE (t.es.map lePart) :: rowE 87 4 t.lv t.es.length (t.es.flatMap Le.cells) :: rowE 3 1 t.mv zs.length (zs.map (Value.int .i64)) :: boxE b6 #[t.mv, t.lv, .int .i64 t.pad, .int .i64 t.ram] 39 :: boxE b2 #[.slice none 0 0, .slice none 0 0, .int .i64 0, .int .i64 0] 39 :: boxE b1 #[.int .i64 d.W, .int .i64 d.H, .int .i64 d.T, .int .i64 d.R] 25 :: l)) (sub_cons (d := 41) (congrArg some v5) (sub_nil _)) (by first | (simp only [p5, v5, List.flatMap_cons, List.flatMap_nil, List.append_nil, List.nil_append, List.cons_append]; exact List.Sublist.refl _) | simp [p5, v5]) ?_
        exact rq_mono (rq_v (rv_add rfl rfl rfl (by constructor <;> omega))) (fun _ _ h => ⟨h.1.trans (by show _ = (.int .i64 (1 + (intOf_o (vf 5))) : Value); first | (rw [v5]; done) | (rw [v5]; rfl)), h.2⟩)
       ·
        intro vf pf hmu hR
        have e1 : (vf 1) = t.mv ∧ (pf 1) = [] := hR 1 (by decide)
        have e2 : (vf 2) = .int .i64 (m : Int) ∧ (pf 2) = [] := hR 2 (by decide)
        refine Or.inl ⟨rfl, ?_⟩
        show RunQ _ _ _ (([1, 2] : List Nat).flatMap pf ++ _) (envOf _ vf [1, 2] ++ _) _ _
        refine rq_less (sub_cons (d := 37) (congrArg some e1.1) (sub_cons (d := 38) (congrArg some e2.1) (sub_nil _))) (List.sublist_append_right _ _) ?_
        exact rq_v (rv_index (s := 1) rfl Try.underlying30 (by kernel_rfl) rfl rfl (rd_row 3 rfl) (by omega) (by first | omega | (simp only [List.length_set]; omega)))
      ·
       intro vf pf hmu hR
       have e5 : (∃ pm_, (pf 5) = [pm_] ∧ (fun u_ p_ => (∃ x_ : Int, u_ = .int .i64 x_ ∧ 0 ≤ x_ ∧ x_ < ((srcS d (muxNodeI d x (m : Int))).length : Int)) ∧ p_ = curE g a len cap) (vf 5) pm_) := hR 5 (by decide)
       obtain ⟨p18, p5, hR19⟩ := e5
       obtain ⟨v17, v5⟩ : ∃ x, vf 5 = x := ⟨_, rfl⟩
       rw [v5] at hR19
       obtain ⟨⟨xhR19, rfl, xhR190, xhR191⟩, rfl⟩ := hR19
       have e6 : (vf 6) = .int .i64 (1 + (intOf_o (vf 5))) ∧ (pf 6) = [] := hR 6 (by decide)
       rw [v5] at e6
       have e7 : (vf 7) = elP t.mv (((m : Int)).toNat * 1) ∧ (pf 7) = [] := hR 7 (by decide)
       have q0 : (vf 0) = .pointer (some ⟨b6, 0 + 0, none⟩) ∧ (pf 0) = [] := hR 0 (by decide)
       have q1 : (vf 1) = t.mv ∧ (pf 1) = [] := hR 1 (by decide)
       have q2 : (vf 2) = .int .i64 (m : Int) ∧ (pf 2) = [] := hR 2 (by decide)
       have q3 : (vf 3) = .pointer (some ⟨g, 0, none⟩) ∧ (pf 3) = [] := hR 3 (by decide)
       have q4 : (vf 4) = .int .i64 ((srcS d (muxNodeI d x (m : Int))).length : Int) ∧ (pf 4) = [] := hR 4 (by decide)
       have q6 : (vf 6) = .int .i64 (1 + (intOf_o (vf 5))) ∧ (pf 6) = [] := hR 6 (by decide)
       have q7 : (vf 7) = elP t.mv (((m : Int)).toNat * 1) ∧ (pf 7) = [] := hR 7 (by decide)
       refine hl_less (l' := (curE g a len cap :: rowE 3 1 v9 ((srcS d (muxNodeI d x (m : Int))).length) ((srcS d (muxNodeI d x (m : Int))).map (Value.int .i64)) :: bigE (t.es.map lePart) :: rowE 87 4 t.lv t.es.length (t.es.flatMap Le.cells) :: rowE 3 1 t.mv zs.length (zs.map (Value.int .i64)) :: boxE b6 #[t.mv, t.lv, .int .i64 t.pad, .int .i64 t.ram] 39 :: boxE b2 #[.slice none 0 0, .slice none 0 0, .int .i64 0, .int .i64 0] 39 :: boxE b1 #[.int .i64 d.W, .int .i64 d.H, .int .i64 d.T, .int .i64 d.R] 25 :: l)) (sub_cons (d := 0) rfl (sub_cons (d := 1) rfl (sub_cons (d := 2) rfl (sub_cons (d := 4) rfl (sub_cons (d := 6) rfl (sub_cons (d := 7) rfl (sub_cons (d := 8) rfl (sub_cons (d := 9) rfl (sub_cons (d := 20) rfl (sub_cons (d := 35) rfl (sub_cons (d := 42) (congrArg some e6.1) (sub_cons (d := 43) (congrArg some e7.1) (sub_nil _))))))))))))) (by first | (simp only [p5, v5, q0.2, q1.2, q2.2, q3.2, q4.2, q6.2, q7.2, List.flatMap_cons, List.flatMap_nil, List.append_nil, List.nil_append, List.cons_append]; exact List.Sublist.refl _) | simp [p5, v5, q0.2, q1.2, q2.2, q3.2, q4.2, q6.2, q7.2]) ?_
       simp only [List.drop_succ_cons, List.drop_zero]
       refine hl_storeEl (i := 4) (n' := (zs.set m (1 + xhR19)).length) (xs' := ((zs.set m (1 + xhR19)).map (Value.int .i64))) (l' := (curE g a len cap :: rowE 3 1 v9 ((srcS d (muxNodeI d x (m : Int))).length) ((srcS d (muxNodeI d x (m : Int))).map (Value.int .i64)) :: bigE (t.es.map lePart) :: rowE 87 4 t.lv t.es.length (t.es.flatMap Le.cells) :: rowE 3 1 t.mv ((zs.set m (1 + xhR19)).length) ((zs.set m (1 + xhR19)).map (Value.int .i64)) :: boxE b6 #[t.mv, t.lv, .int .i64 t.pad, .int .i64 t.ram] 39 :: boxE b2 #[.slice none 0 0, .slice none 0 0, .int .i64 0, .int .i64 0] 39 :: boxE b1 #[.int .i64 d.W, .int .i64 d.H, .int .i64 d.T, .int .i64 d.R] 25 :: l)) rfl rfl rfl (by kernel_rfl) rfl rfl rfl rfl (by first | omega | (simp only [List.length_set]; omega)) List.length_set.symm (ints_set _ _ _) rfl ?_
       refine hl_less (sub_cons (d := 0) rfl (sub_cons (d := 1) rfl (sub_cons (d := 2) rfl (sub_cons (d := 4) rfl (sub_cons (d := 6) rfl (sub_cons (d := 7) rfl (sub_cons (d := 8) rfl (sub_cons (d := 9) rfl (sub_cons (d := 20) rfl (sub_cons (d := 35) rfl (sub_nil _))))))))))) (.refl _) ?_
       refine hl_nil ?_
       refine hq_conv (rowE 3 1 v9 ((srcS d (muxNodeI d x (m : Int))).length) ((srcS d (muxNodeI d x (m : Int))).map (Value.int .i64)) :: bigE (t.es.map lePart) :: rowE 87 4 t.lv t.es.length (t.es.flatMap Le.cells) :: rowE 3 1 t.mv ((zs.set m (1 + xhR19)).length) ((zs.set m (1 + xhR19)).map (Value.int .i64)) :: boxE b6 #[t.mv, t.lv, .int .i64 t.pad, .int .i64 t.ram] 39 :: boxE b2 #[.slice none 0 0, .slice none 0 0, .int .i64 0, .int .i64 0] 39 :: boxE b1 #[.int .i64 d.W, .int .i64 d.H, .int .i64 d.T, .int .i64 d.R] 25 :: curE g a len cap :: l) (conv_pick (src := [curE g a len cap, rowE 3 1 v9 ((srcS d (muxNodeI d x (m : Int))).length) ((srcS d (muxNodeI d x (m : Int))).map (Value.int .i64)), bigE (t.es.map lePart), rowE 87 4 t.lv t.es.length (t.es.flatMap Le.cells), rowE 3 1 t.mv ((zs.set m (1 + xhR19)).length) ((zs.set m (1 + xhR19)).map (Value.int .i64)), boxE b6 #[t.mv, t.lv, .int .i64 t.pad, .int .i64 t.ram] 39, boxE b2 #[.slice none 0 0, .slice none 0 0, .int .i64 0, .int .i64 0] 39, boxE b1 #[.int .i64 d.W, .int .i64 d.H, .int .i64 d.T, .int .i64 d.R] 25]) (dst := [rowE 3 1 v9 ((srcS d (muxNodeI d x (m : Int))).length) ((srcS d (muxNodeI d x (m : Int))).map (Value.int .i64)), bigE (t.es.map lePart), rowE 87 4 t.lv t.es.length (t.es.flatMap Le.cells), rowE 3 1 t.mv ((zs.set m (1 + xhR19)).length) ((zs.set m (1 + xhR19)).map (Value.int .i64)), boxE b6 #[t.mv, t.lv, .int .i64 t.pad, .int .i64 t.ram] 39, boxE b2 #[.slice none 0 0, .slice none 0 0, .int .i64 0, .int .i64 0] 39, boxE b1 #[.int .i64 d.W, .int .i64 d.H, .int .i64 d.T, .int .i64 d.R] 25, curE g a len cap]) (l := l) [1, 2, 3, 4, 5, 6, 7, 0] (by decide) rfl) ?_
       exact hq_meet1 (zs.set m (1 + xhR19)) ⟨by first | omega | (simp only [List.length_set]; omega), by first | exact hmz | exact inr_set hmz (by omega)⟩ (sub_cons (d := 0) rfl (sub_cons (d := 1) rfl (sub_cons (d := 2) rfl (sub_cons (d := 4) rfl (sub_cons (d := 6) rfl (sub_cons (d := 7) rfl (sub_cons (d := 8) rfl (sub_cons (d := 9) rfl (sub_cons (d := 20) rfl (sub_nil _)))))))))) ((.cons_cons _ (.cons_cons _ (.cons_cons _ (.cons_cons _ (.cons_cons _ (.cons_cons _ (.cons_cons _ (.cons_cons _ (.refl _))))))))))
     ·
      refine hl_v rfl rfl rfl (rv_ev rfl) ?_
      refine hl_less (sub_cons (d := 0) rfl (sub_cons (d := 1) rfl (sub_cons (d := 2) rfl (sub_cons (d := 4) rfl (sub_cons (d := 6) rfl (sub_cons (d := 7) rfl (sub_cons (d := 8) rfl (sub_cons (d := 9) rfl (sub_cons (d := 20) rfl (sub_cons (d := 35) rfl (sub_nil _))))))))))) (.refl _) ?_
      refine hl_nil ?_
      refine hq_then ?_
      refine hc_false rfl ?_
      refine hc_skip ?_
      exact hq_meet1 zs ⟨by first | omega | (simp only [List.length_set]; omega), by first | exact hmz | exact inr_set hmz (by omega)⟩ (sub_cons (d := 0) rfl (sub_cons (d := 1) rfl (sub_cons (d := 2) rfl (sub_cons (d := 4) rfl (sub_cons (d := 6) rfl (sub_cons (d := 7) rfl (sub_cons (d := 8) rfl (sub_cons (d := 9) rfl (sub_cons (d := 20) rfl (sub_nil _)))))))))) ((.cons_cons _ (.cons_cons _ (.cons_cons _ (.cons_cons _ (.cons_cons _ (.cons_cons _ (.cons_cons _ (.cons_cons _ (.refl _))))))))))
    ·
     refine hl_v rfl rfl rfl (rv_ev rfl) ?_
     refine hl_skip rfl rfl rfl ?_
     refine hl_skip rfl rfl rfl ?_
     refine hl_v rfl rfl rfl (rv_ev rfl) ?_
     refine hl_less (sub_cons (d := 0) rfl (sub_cons (d := 1) rfl (sub_cons (d := 2) rfl (sub_cons (d := 4) rfl (sub_cons (d := 6) rfl (sub_cons (d := 7) rfl (sub_cons (d := 8) rfl (sub_cons (d := 9) rfl (sub_cons (d := 20) rfl (sub_cons (d := 35) rfl (sub_nil _))))))))))) (.refl _) ?_
     refine hl_nil ?_
     refine hq_then ?_
     refine hc_false rfl ?_
     refine hc_skip ?_
     exact hq_meet1 zs ⟨by first | omega | (simp only [List.length_set]; omega), by first | exact hmz | exact inr_set hmz (by omega)⟩ (sub_cons (d := 0) rfl (sub_cons (d := 1) rfl (sub_cons (d := 2) rfl (sub_cons (d := 4) rfl (sub_cons (d := 6) rfl (sub_cons (d := 7) rfl (sub_cons (d := 8) rfl (sub_cons (d := 9) rfl (sub_cons (d := 20) rfl (sub_nil _)))))))))) ((.cons_cons _ (.cons_cons _ (.cons_cons _ (.cons_cons _ (.cons_cons _ (.cons_cons _ (.cons_cons _ (.cons_cons _ (.refl _))))))))))
   intro ys2 hm20
   obtain ⟨hlys2, hmy⟩ := hm20
   refine hc_seq ?_
   refine hc_region ?_
   refine hl_v rfl rfl rfl (rv_ev rfl) ?_
   refine hl_callM (R := (fun u_ p_ => (∃ b : Bool, u_ = .bool b) ∧ p_ = curE g a len cap)) 7 rfl rfl (by kernel_rfl) rfl rfl (fun l' w hm => once_mut hm hb (40) (by omega) (by omega)) ?_
   intro v21 p22 hR23
   obtain ⟨⟨xhR23, rfl⟩, rfl⟩ := hR23
   refine hl_eqL (l' := (rowE 3 1 v9 ((srcS d (muxNodeI d x (m : Int))).length) ((srcS d (muxNodeI d x (m : Int))).map (Value.int .i64)) :: bigE (t.es.map lePart) :: rowE 87 4 t.lv t.es.length (t.es.flatMap Le.cells) :: rowE 3 1 t.mv ys2.length (ys2.map (Value.int .i64)) :: boxE b6 #[t.mv, t.lv, .int .i64 t.pad, .int .i64 t.ram] 39 :: boxE b2 #[.slice none 0 0, .slice none 0 0, .int .i64 0, .int .i64 0] 39 :: boxE b1 #[.int .i64 d.W, .int .i64 d.H, .int .i64 d.T, .int .i64 d.R] 25 :: curE g a len cap :: l)) rfl ?_
   refine hl_bool (fun h24 => ?_) (fun h24 => ?_)
   ·
    refine hl_less (sub_cons (d := 0) rfl (sub_cons (d := 1) rfl (sub_cons (d := 2) rfl (sub_cons (d := 4) rfl (sub_cons (d := 6) rfl (sub_cons (d := 7) rfl (sub_cons (d := 8) rfl (sub_cons (d := 9) rfl (sub_cons (d := 20) rfl (sub_cons (d := 45) rfl (sub_nil _))))))))))) (.refl _) ?_
    refine hl_nil ?_
    refine hq_then ?_
    refine hc_true rfl ?_
    refine hc_conv (curE g a len cap :: rowE 3 1 v9 ((srcS d (muxNodeI d x (m : Int))).length) ((srcS d (muxNodeI d x (m : Int))).map (Value.int .i64)) :: bigE (t.es.map lePart) :: rowE 87 4 t.lv t.es.length (t.es.flatMap Le.cells) :: rowE 3 1 t.mv ys2.length (ys2.map (Value.int .i64)) :: boxE b6 #[t.mv, t.lv, .int .i64 t.pad, .int .i64 t.ram] 39 :: boxE b2 #[.slice none 0 0, .slice none 0 0, .int .i64 0, .int .i64 0] 39 :: boxE b1 #[.int .i64 d.W, .int .i64 d.H, .int .i64 d.T, .int .i64 d.R] 25 :: l) (conv_pick (src := [rowE 3 1 v9 ((srcS d (muxNodeI d x (m : Int))).length) ((srcS d (muxNodeI d x (m : Int))).map (Value.int .i64)), bigE (t.es.map lePart), rowE 87 4 t.lv t.es.length (t.es.flatMap Le.cells), rowE 3 1 t.mv ys2.length (ys2.map (Value.int .i64)), boxE b6 #[t.mv, t.lv, .int .i64 t.pad, .int .i64 t.ram] 39, boxE b2 #[.slice none 0 0, .slice none 0 0, .int .i64 0, .int .i64 0] 39, boxE b1 #[.int .i64 d.W, .int .i64 d.H, .int .i64 d.T, .int .i64 d.R] 25, curE g a len cap]) (dst := [curE g a len cap, rowE 3 1 v9 ((srcS d (muxNodeI d x (m : Int))).length) ((srcS d (muxNodeI d x (m : Int))).map (Value.int .i64)), bigE (t.es.map lePart), rowE 87 4 t.lv t.es.length (t.es.flatMap Le.cells), rowE 3 1 t.mv ys2.length (ys2.map (Value.int .i64)), boxE b6 #[t.mv, t.lv, .int .i64 t.pad, .int .i64 t.ram] 39, boxE b2 #[.slice none 0 0, .slice none 0 0, .int .i64 0, .int .i64 0] 39, boxE b1 #[.int .i64 d.W, .int .i64 d.H, .int .i64 d.T, .int .i64 d.R] 25]) (l := l) [7, 0, 1, 2, 3, 4, 5, 6] (by decide) rfl) ?_
    refine hc_draw2 (l := (rowE 3 1 v9 ((srcS d (muxNodeI d x (m : Int))).length) ((srcS d (muxNodeI d x (m : Int))).map (Value.int .i64)) :: bigE (t.es.map lePart) :: rowE 87 4 t.lv t.es.length (t.es.flatMap Le.cells) :: rowE 3 1 t.mv ys2.length (ys2.map (Value.int .i64)) :: boxE b6 #[t.mv, t.lv, .int .i64 t.pad, .int .i64 t.ram] 39 :: boxE b2 #[.slice none 0 0, .slice none 0 0, .int .i64 0, .int .i64 0] 39 :: boxE b1 #[.int .i64 d.W, .int .i64 d.H, .int .i64 d.T, .int .i64 d.R] 25 :: l)) (by kernel_rfl) 6 [0, 1, 2, 3, 4, 5] (List.take 6 _) (List.drop 6 _) [[], [0], [], [], [3], [1, 2]] [46, 47, 48, 49, 50, 51] (fun i vs_ v_ p_ => match i with | 0 => v_ = .pointer (some ⟨b6, 0 + 0, none⟩) ∧ p_ = [] | 1 => v_ = t.mv ∧ p_ = [] | 2 => v_ = .int .i64 (m : Int) ∧ p_ = [] | 3 => v_ = .pointer (some ⟨g, 0, none⟩) ∧ p_ = [] | 4 => (∃ pm_, p_ = [pm_] ∧ (fun u_ p_ => (∃ x_ : Int, u_ = .int .i64 x_ ∧ 0 ≤ x_ ∧ x_ < 32) ∧ p_ = curE g a len cap) v_ pm_) | 5 => v_ = elP t.mv (((m : Int)).toNat * 1) ∧ p_ = [] | _ => True) [[], [0], [], [], [3], [1, 2]] [none, none, none, none, some 7, none] [curE g a len cap] [0, 1, 2, 3, 4, 5] 7 (List.take_append_drop 6 _).symm (by kernel_rfl) (by kernel_rfl) (by kernel_rfl) rfl rfl ?_ ?_
    ·
     refine ⟨?_, ?_, ?_, ?_, ?_, ?_, trivial⟩
     ·
      intro vf pf hmu hR
      refine Or.inl ⟨rfl, ?_⟩
      show RunQ _ _ _ (([] : List Nat).flatMap pf ++ _) (envOf _ vf [] ++ _) _ _
      refine rq_less (sub_cons (d := 7) rfl (sub_nil _)) (List.sublist_append_right _ _) ?_
      exact rq_v (rv_field (k0 := 0) rfl (by kernel_rfl) rfl)
     ·
      intro vf pf hmu hR
      have e0 : (vf 0) = .pointer (some ⟨b6, 0 + 0, none⟩) ∧ (pf 0) = [] := hR 0 (by decide)
      refine Or.inl ⟨rfl, ?_⟩
      show RunQ _ _ _ (([0] : List Nat).flatMap pf ++ _) (envOf _ vf [0] ++ _) _ _
      refine rq_less (sub_cons (d := 46) (congrArg some e0.1) (sub_nil _)) (List.sublist_append_right _ _) ?_
      exact rq_v (rv_load rfl (by kernel_rfl) rfl (box_cell 4 rfl rfl))
     ·
      intro vf pf hmu hR
      refine Or.inl ⟨rfl, ?_⟩
      show RunQ _ _ _ (([] : List Nat).flatMap pf ++ _) (envOf _ vf [] ++ _) _ _
      refine rq_less (sub_cons (d := 8) rfl (sub_nil _)) (List.sublist_append_right _ _) ?_
      exact rq_v (rv_ev rfl)
     ·
      intro vf pf hmu hR
      refine Or.inl ⟨rfl, ?_⟩
      show RunQ _ _ _ (([] : List Nat).flatMap pf ++ _) (envOf _ vf [] ++ _) _ _
      refine rq_less (sub_cons (d := 0) rfl (sub_nil _)) (List.sublist_append_right _ _) ?_
      exact rq_v (rv_ev rfl)
     ·
      intro vf pf hmu hR
      have e3 : (vf 3) = .pointer (some ⟨g, 0, none⟩) ∧ (pf 3) = [] := hR 3 (by decide)
      refine Or.inl ⟨rfl, ?_⟩
      show RunM _ _ _ (pf 7) (([3] : List Nat).flatMap pf ++ _) (envOf _ vf [3] ++ _) _ _
      rw [hmu]
      refine rm_less (X' := (rowE 3 1 v9 ((srcS d (muxNodeI d x (m : Int))).length) ((srcS d (muxNodeI d x (m : Int))).map (Value.int .i64)) :: bigE (t.es.map lePart) :: rowE 87 4 t.lv t.es.length (t.es.flatMap Le.cells) :: rowE 3 1 t.mv ys2.length (ys2.map (Value.int .i64)) :: boxE b6 #[t.mv, t.lv, .int .i64 t.pad, .int .i64 t.ram] 39 :: boxE b2 #[.slice none 0 0, .slice none 0 0, .int .i64 0, .int .i64 0] 39 :: boxE b1 #[.int .i64 d.W, .int .i64 d.H, .int .i64 d.T, .int .i64 d.R] 25 :: l)) (sub_cons (d := 49) (congrArg some e3.1) (sub_nil _)) (by first | (simp only [e3.2, List.flatMap_cons, List.flatMap_nil, List.append_nil, List.nil_append, List.cons_append]; exact List.Sublist.refl _) | simp [e3.2]) ?_
      exact rq_callM (R := (fun u_ p_ => (∃ x_ : Int, u_ = .int .i64 x_ ∧ 0 ≤ x_ ∧ x_ < 32) ∧ p_ = curE g a len cap)) (by kernel_rfl) rfl (fun L w hX hm => belowN_mut g a len cap z 32 _ _ _ hm hb (by constructor <;> omega))
     ·
      intro vf pf hmu hR
      have e1 : (vf 1) = t.mv ∧ (pf 1) = [] := hR 1 (by decide)
      have e2 : (vf 2) = .int .i64 (m : Int) ∧ (pf 2) = [] := hR 2 (by decide)
      refine Or.inl ⟨rfl, ?_⟩
      show RunQ _ _ _ (([1, 2] : List Nat).flatMap pf ++ _) (envOf _ vf [1, 2] ++ _) _ _
      refine rq_less (sub_cons (d := 47) (congrArg some e1.1) (sub_cons (d := 48) (congrArg some e2.1) (sub_nil _))) (List.sublist_append_right _ _) ?_
      exact rq_v (rv_index (s := 1) rfl Try.underlying30 (by kernel_rfl) rfl rfl (rd_row 3 rfl) (by omega) (by first | omega | (simp only [List.length_set]; omega)))
    ·
     intro vf pf hmu hR
     have e4 : (∃ pm_, (pf 4) = [pm_] ∧ (fun u_ p_ => (∃ x_ : Int, u_ = .int .i64 x_ ∧ 0 ≤ x_ ∧ x_ < 32) ∧ p_ = curE g a len cap) (vf 4) pm_) := hR 4 (by decide)
     obtain ⟨p26, p4, hR27⟩ := e4
     obtain ⟨v25, v4⟩ : ∃ x, vf 4 = x := ⟨_, rfl⟩
     rw [v4] at hR27
     obtain ⟨⟨xhR27, rfl, xhR270, xhR271⟩, rfl⟩ := hR27
     have e5 : (vf 5) = elP t.mv (((m : Int)).toNat * 1) ∧ (pf 5) = [] := hR 5 (by decide)
     have q0 : (vf 0) = .pointer (some ⟨b6, 0 + 0, none⟩) ∧ (pf 0) = [] := hR 0 (by decide)
     have q1 : (vf 1) = t.mv ∧ (pf 1) = [] := hR 1 (by decide)
     have q2 : (vf 2) = .int .i64 (m : Int) ∧ (pf 2) = [] := hR 2 (by decide)
     have q3 : (vf 3) = .pointer (some ⟨g, 0, none⟩) ∧ (pf 3) = [] := hR 3 (by decide)
     have q5 : (vf 5) = elP t.mv (((m : Int)).toNat * 1) ∧ (pf 5) = [] := hR 5 (by decide)
     refine hl_less (l' := (curE g a len cap :: rowE 3 1 v9 ((srcS d (muxNodeI d x (m : Int))).length) ((srcS d (muxNodeI d x (m : Int))).map (Value.int .i64)) :: bigE (t.es.map lePart) :: rowE 87 4 t.lv t.es.length (t.es.flatMap Le.cells) :: rowE 3 1 t.mv ys2.length (ys2.map (Value.int .i64)) :: boxE b6 #[t.mv, t.lv, .int .i64 t.pad, .int .i64 t.ram] 39 :: boxE b2 #[.slice none 0 0, .slice none 0 0, .int .i64 0, .int .i64 0] 39 :: boxE b1 #[.int .i64 d.W, .int .i64 d.H, .int .i64 d.T, .int .i64 d.R] 25 :: l)) (sub_cons (d := 0) rfl (sub_cons (d := 1) rfl (sub_cons (d := 2) rfl (sub_cons (d := 4) rfl (sub_cons (d := 6) rfl (sub_cons (d := 7) rfl (sub_cons (d := 8) rfl (sub_cons (d := 9) rfl (sub_cons (d := 20) rfl (sub_cons (d := 45) rfl (sub_cons (d := 50) (congrArg some v4) (sub_cons (d := 51) (congrArg some e5.1) (sub_nil _))))))))))))) (by first | (simp only [p4, v4, q0.2, q1.2, q2.2, q3.2, q5.2, List.flatMap_cons, List.flatMap_nil, List.append_nil, List.nil_append, List.cons_append]; exact List.Sublist.refl _) | simp [p4, v4, q0.2, q1.2, q2.2, q3.2, q5.2]) ?_
     simp only [List.drop_succ_cons, List.drop_zero]
     refine hl_storeEl (i := 4) (n' := (ys2.set m xhR27).length) (xs' := ((ys2.set m xhR27).map (Value.int .i64))) (l' := (curE g a len cap :: rowE 3 1 v9 ((srcS d (muxNodeI d x (m : Int))).length) ((srcS d (muxNodeI d x (m : Int))).map (Value.int .i64)) :: bigE (t.es.map lePart) :: rowE 87 4 t.lv t.es.length (t.es.flatMap Le.cells) :: rowE 3 1 t.mv ((ys2.set m xhR27).length) ((ys2.set m xhR27).map (Value.int .i64)) :: boxE b6 #[t.mv, t.lv, .int .i64 t.pad, .int .i64 t.ram] 39 :: boxE b2 #[.slice none 0 0, .slice none 0 0, .int .i64 0, .int .i64 0] 39 :: boxE b1 #[.int .i64 d.W, .int .i64 d.H, .int .i64 d.T, .int .i64 d.R] 25 :: l)) rfl rfl rfl (by kernel_rfl) rfl rfl rfl rfl (by first | omega | (simp only [List.length_set]; omega)) List.length_set.symm (ints_set _ _ _) rfl ?_
     refine hl_less (sub_cons (d := 0) rfl (sub_cons (d := 1) rfl (sub_cons (d := 2) rfl (sub_cons (d := 4) rfl (sub_cons (d := 6) rfl (sub_cons (d := 7) rfl (sub_cons (d := 8) rfl (sub_cons (d := 9) rfl (sub_cons (d := 20) rfl (sub_cons (d := 45) rfl (sub_nil _))))))))))) (.refl _) ?_
     refine hl_nil ?_
     refine hq_block_normal ?_
     refine hq_then ?_
     refine hc_region ?_
     refine hl_v rfl rfl rfl (rv_ev rfl) ?_
     refine hl_v rfl rfl rfl (rv_add rfl rfl rfl (by constructor <;> omega)) ?_
     refine hl_v rfl rfl rfl (rv_ev rfl) ?_
     refine hl_less (sub_cons (d := 0) rfl (sub_cons (d := 1) rfl (sub_cons (d := 2) rfl (sub_cons (d := 4) rfl (sub_cons (d := 6) rfl (sub_cons (d := 7) rfl (sub_cons (d := 8) rfl (sub_cons (d := 9) rfl (sub_cons (d := 20) rfl (sub_cons (d := 45) rfl (sub_nil _))))))))))) (.refl _) ?_
     refine hl_nil ?_
     refine hq_conv (bigE (t.es.map lePart) :: rowE 87 4 t.lv t.es.length (t.es.flatMap Le.cells) :: rowE 3 1 t.mv ((ys2.set m xhR27).length) ((ys2.set m xhR27).map (Value.int .i64)) :: boxE b6 #[t.mv, t.lv, .int .i64 t.pad, .int .i64 t.ram] 39 :: boxE b2 #[.slice none 0 0, .slice none 0 0, .int .i64 0, .int .i64 0] 39 :: boxE b1 #[.int .i64 d.W, .int .i64 d.H, .int .i64 d.T, .int .i64 d.R] 25 :: curE g a len cap :: l) (conv_pick (src := [curE g a len cap, rowE 3 1 v9 ((srcS d (muxNodeI d x (m : Int))).length) ((srcS d (muxNodeI d x (m : Int))).map (Value.int .i64)), bigE (t.es.map lePart), rowE 87 4 t.lv t.es.length (t.es.flatMap Le.cells), rowE 3 1 t.mv ((ys2.set m xhR27).length) ((ys2.set m xhR27).map (Value.int .i64)), boxE b6 #[t.mv, t.lv, .int .i64 t.pad, .int .i64 t.ram] 39, boxE b2 #[.slice none 0 0, .slice none 0 0, .int .i64 0, .int .i64 0] 39, boxE b1 #[.int .i64 d.W, .int .i64 d.H, .int .i64 d.T, .int .i64 d.R] 25]) (dst := [bigE (t.es.map lePart), rowE 87 4 t.lv t.es.length (t.es.flatMap Le.cells), rowE 3 1 t.mv ((ys2.set m xhR27).length) ((ys2.set m xhR27).map (Value.int .i64)), boxE b6 #[t.mv, t.lv, .int .i64 t.pad, .int .i64 t.ram] 39, boxE b2 #[.slice none 0 0, .slice none 0 0, .int .i64 0, .int .i64 0] 39, boxE b1 #[.int .i64 d.W, .int .i64 d.H, .int .i64 d.T, .int .i64 d.R] 25, curE g a len cap]) (l := l) [2, 3, 4, 5, 6, 7, 0] (by decide) rfl) ?_
     exact hq_round2 (m + 1) (ys2.set m xhR27) ⟨by omega, by first | omega | (simp only [List.length_set]; omega), by first | exact hmy | exact inr_set hmy (by omega)⟩ (by omega) (sub_cons (d := 0) rfl (sub_cons (d := 1) rfl (sub_cons (d := 2) rfl (sub_cons (d := 4) rfl (sub_cons (d := 6) rfl (sub_cons (d := 7) rfl (sub_cons (d := 8) rfl (sub_nil _)))))))) ((.cons_cons _ (.cons_cons _ (.cons_cons _ (.cons_cons _ (.cons_cons _ (.cons_cons _ (.cons_cons _ (.refl _)))))))))
   ·
    refine hl_less (sub_cons (d := 0) rfl (sub_cons (d := 1) rfl (sub_cons (d := 2) rfl (sub_cons (d := 4) rfl (sub_cons (d := 6) rfl (sub_cons (d := 7) rfl (sub_cons (d := 8) rfl (sub_cons (d := 9) rfl (sub_cons (d := 20) rfl (sub_cons (d := 45) rfl (sub_nil _))))))))))) (.refl _) ?_
    refine hl_nil ?_
    refine hq_then ?_
    refine hc_false rfl ?_
    refine hc_skip ?_
    refine hq_block_normal ?_
    refine hq_then ?_
    refine hc_region ?_
    refine hl_v rfl rfl rfl (rv_ev rfl) ?_
    refine hl_v rfl rfl rfl (rv_add rfl rfl rfl (by constructor <;> omega)) ?_
    refine hl_v rfl rfl rfl (rv_ev rfl) ?_
    refine hl_less (sub_cons (d := 0) rfl (sub_cons (d := 1) rfl (sub_cons (d := 2) rfl (sub_cons (d := 4) rfl (sub_cons (d := 6) rfl (sub_cons (d := 7) rfl (sub_cons (d := 8) rfl (sub_cons (d := 9) rfl (sub_cons (d := 20) rfl (sub_cons (d := 45) rfl (sub_nil _))))))))))) (.refl _) ?_
    refine hl_nil ?_
    exact hq_round2 (m + 1) ys2 ⟨by omega, by first | omega | (simp only [List.length_set]; omega), by first | exact hmy | exact inr_set hmy (by omega)⟩ (by omega) (sub_cons (d := 0) rfl (sub_cons (d := 1) rfl (sub_cons (d := 2) rfl (sub_cons (d := 4) rfl (sub_cons (d := 6) rfl (sub_cons (d := 7) rfl (sub_cons (d := 8) rfl (sub_nil _)))))))) ((.cons _ (.cons_cons _ (.cons_cons _ (.cons_cons _ (.cons_cons _ (.cons_cons _ (.cons_cons _ (.cons_cons _ (.refl _))))))))))
 ·
  refine hl_less (sub_cons (d := 0) rfl (sub_cons (d := 1) rfl (sub_cons (d := 2) rfl (sub_cons (d := 4) rfl (sub_cons (d := 6) rfl (sub_cons (d := 7) rfl (sub_cons (d := 8) rfl (sub_cons (d := 20) rfl (sub_nil _))))))))) (.refl _) ?_
  refine hl_nil ?_
  refine hq_then ?_
  refine hc_false rfl ?_
  refine hc_exit ?_
  refine hq_then_exit ?_
  refine hq_then_exit ?_
  refine hq_block_exit ?_
  refine hq_then ?_
  refine hc_seq ?_
  refine hc_seq ?_
  refine hc_region ?_
  refine hl_v rfl rfl rfl (rv_ev rfl) ?_
  refine hl_less (sub_cons (d := 0) rfl (sub_cons (d := 1) rfl (sub_cons (d := 2) rfl (sub_cons (d := 4) rfl (sub_cons (d := 6) rfl (sub_cons (d := 7) rfl (sub_cons (d := 8) rfl (sub_cons (d := 10) rfl (sub_cons (d := 20) rfl (sub_nil _)))))))))) (.refl _) ?_
  refine hl_nil ?_
  refine hq_then ?_
  refine hc_block ?_
  refine hc_loop2 (α := Nat) (β := List Le) (fun e es => (bigE (es.map lePart) :: rowE 87 4 t.lv es.length (es.flatMap Le.cells) :: rowE 3 1 t.mv zs.length (zs.map (Value.int .i64)) :: boxE b6 #[t.mv, t.lv, .int .i64 t.pad, .int .i64 t.ram] 39 :: boxE b2 #[.slice none 0 0, .slice none 0 0, .int .i64 0, .int .i64 0] 39 :: boxE b1 #[.int .i64 d.W, .int .i64 d.H, .int .i64 d.T, .int .i64 d.R] 25 :: curE g a len cap :: l)) (fun e es => [(0, .pointer (some ⟨g, 0, none⟩)), (1, .agg #[.int .i64 d.W, .int .i64 d.H, .int .i64 d.T, .int .i64 d.R]), (2, .int .i64 x), (4, .pointer (some ⟨b1, 0, none⟩)), (6, .pointer (some ⟨b2, 0, none⟩)), (7, .pointer (some ⟨b6, 0, none⟩)), (8, .int .i64 (m : Int)), (10, .int .i64 (e : Int)), (20, .bool false)]) (fun e es => e ≤ 2 ∧ es.length = 2 ∧ ∀ i, i < e → leOkV (es.getD i Le0).val = true) (fun e es => 2 - e) 0 t.es ⟨by omega, ht2, fun i hi => absurd hi (by omega)⟩ (sub_cons (d := 0) rfl (sub_cons (d := 1) rfl (sub_cons (d := 2) rfl (sub_cons (d := 4) rfl (sub_cons (d := 6) rfl (sub_cons (d := 7) rfl (sub_cons (d := 8) rfl (sub_cons (d := 10) rfl (sub_cons (d := 20) rfl (sub_nil _)))))))))) ((.cons_cons _ (.cons_cons _ (.cons_cons _ (.cons_cons _ (.cons_cons _ (.cons_cons _ (.cons_cons _ (.refl _))))))))) ?_
  intro e es hi28
  obtain ⟨he1, hel, hez⟩ := hi28
  refine hc_seq ?_
  refine hc_seq ?_
  refine hc_region ?_
  refine hl_v rfl rfl rfl (rv_ev rfl) ?_
  refine hl_lss rfl rfl rfl rfl rfl rfl (fun h29 => ?_) (fun h29 => ?_)
  ·
   refine hl_less (sub_cons (d := 0) rfl (sub_cons (d := 1) rfl (sub_cons (d := 2) rfl (sub_cons (d := 4) rfl (sub_cons (d := 6) rfl (sub_cons (d := 7) rfl (sub_cons (d := 8) rfl (sub_cons (d := 10) rfl (sub_cons (d := 20) rfl (sub_cons (d := 53) rfl (sub_nil _))))))))))) (.refl _) ?_
   refine hl_nil ?_
   refine hq_then ?_
   refine hc_true rfl ?_
   refine hc_skip ?_
   refine hq_then ?_
   refine hc_seq ?_
   refine hc_block ?_
   refine hc_seq ?_
   refine hc_region ?_
   refine hl_v rfl rfl rfl (rv_ev rfl) ?_
   refine hl_callM (R := (fun u_ p_ => (∃ x_ : Int, u_ = .int .i64 x_ ∧ 0 ≤ x_ ∧ x_ < 65536) ∧ p_ = curE g a len cap)) 6 rfl rfl (by kernel_rfl) rfl rfl (fun l' w hm => belowN_mut g a len cap z 65536 _ _ _ hm hb (by constructor <;> omega)) ?_
   intro v30 p31 hR32
   obtain ⟨⟨xhR32, rfl, xhR320, xhR321⟩, rfl⟩ := hR32
   refine hl_eqL (l' := (bigE (es.map lePart) :: rowE 87 4 t.lv es.length (es.flatMap Le.cells) :: rowE 3 1 t.mv zs.length (zs.map (Value.int .i64)) :: boxE b6 #[t.mv, t.lv, .int .i64 t.pad, .int .i64 t.ram] 39 :: boxE b2 #[.slice none 0 0, .slice none 0 0, .int .i64 0, .int .i64 0] 39 :: boxE b1 #[.int .i64 d.W, .int .i64 d.H, .int .i64 d.T, .int .i64 d.R] 25 :: curE g a len cap :: l)) rfl ?_
   refine hl_v rfl rfl rfl (rv_ev rfl) ?_
   refine hl_callM (R := (fun u_ p_ => (∃ x_ : Int, u_ = .int .i64 x_ ∧ 0 ≤ x_ ∧ x_ < 2) ∧ p_ = curE g a len cap)) 6 rfl rfl (by kernel_rfl) rfl rfl (fun l' w hm => belowN_mut g a len cap z 2 _ _ _ hm hb (by constructor <;> omega)) ?_
   intro v33 p34 hR35
   obtain ⟨⟨xhR35, rfl, xhR350, xhR351⟩, rfl⟩ := hR35
   refine hl_eqL (l' := (bigE (es.map lePart) :: rowE 87 4 t.lv es.length (es.flatMap Le.cells) :: rowE 3 1 t.mv zs.length (zs.map (Value.int .i64)) :: boxE b6 #[t.mv, t.lv, .int .i64 t.pad, .int .i64 t.ram] 39 :: boxE b2 #[.slice none 0 0, .slice none 0 0, .int .i64 0, .int .i64 0] 39 :: boxE b1 #[.int .i64 d.W, .int .i64 d.H, .int .i64 d.T, .int .i64 d.R] 25 :: curE g a len cap :: l)) rfl ?_
   refine hl_v rfl rfl rfl (rv_ev rfl) ?_
   refine hl_callM (R := (fun u_ p_ => (∃ x_ : Int, u_ = .int .i64 x_ ∧ 0 ≤ x_ ∧ x_ < 2) ∧ p_ = curE g a len cap)) 6 rfl rfl (by kernel_rfl) rfl rfl (fun l' w hm => belowN_mut g a len cap z 2 _ _ _ hm hb (by constructor <;> omega)) ?_
   intro v36 p37 hR38
   obtain ⟨⟨xhR38, rfl, xhR380, xhR381⟩, rfl⟩ := hR38
   refine hl_eqL (l' := (bigE (es.map lePart) :: rowE 87 4 t.lv es.length (es.flatMap Le.cells) :: rowE 3 1 t.mv zs.length (zs.map (Value.int .i64)) :: boxE b6 #[t.mv, t.lv, .int .i64 t.pad, .int .i64 t.ram] 39 :: boxE b2 #[.slice none 0 0, .slice none 0 0, .int .i64 0, .int .i64 0] 39 :: boxE b1 #[.int .i64 d.W, .int .i64 d.H, .int .i64 d.T, .int .i64 d.R] 25 :: curE g a len cap :: l)) rfl ?_
   refine hl_v rfl rfl rfl (rv_build (cs := #[.slice none 0 0, .int .i64 xhR32, .int .i64 xhR35, .int .i64 xhR38]) rfl rfl (by kernel_rfl)) ?_
   refine hl_box rfl rfl rfl (rq_alloc (z := .agg #[.slice none 0 0, .int .i64 0, .int .i64 0, .int .i64 0]) rfl (by kernel_rfl)) ?_
   intro b39
   refine hl_storeBoxN (i := 0) (off := 0) (us := [.slice none 0 0, .int .i64 xhR32, .int .i64 xhR35, .int .i64 xhR38]) (l' := (boxE b39 #[.slice none 0 0, .int .i64 xhR32, .int .i64 xhR35, .int .i64 xhR38] 87 :: bigE (es.map lePart) :: rowE 87 4 t.lv es.length (es.flatMap Le.cells) :: rowE 3 1 t.mv zs.length (zs.map (Value.int .i64)) :: boxE b6 #[t.mv, t.lv, .int .i64 t.pad, .int .i64 t.ram] 39 :: boxE b2 #[.slice none 0 0, .slice none 0 0, .int .i64 0, .int .i64 0] 39 :: boxE b1 #[.int .i64 d.W, .int .i64 d.H, .int .i64 d.T, .int .i64 d.R] 25 :: curE g a len cap :: l)) rfl rfl rfl (by kernel_rfl) rfl rfl rfl (all_cons rfl (all_cons rfl (all_cons rfl (all_cons rfl all_nil)))) rfl rfl rfl ?_
   refine hl_less (sub_cons (d := 0) rfl (sub_cons (d := 1) rfl (sub_cons (d := 2) rfl (sub_cons (d := 4) rfl (sub_cons (d := 6) rfl (sub_cons (d := 7) rfl (sub_cons (d := 8) rfl (sub_cons (d := 10) rfl (sub_cons (d := 11) rfl (sub_cons (d := 20) rfl (sub_cons (d := 53) rfl (sub_nil _)))))))))))) (.refl _) ?_
   refine hl_nil ?_
   refine hq_then ?_
   refine hc_seq ?_
   refine hc_seq ?_
   refine hc_region ?_
   refine hl_v rfl rfl rfl (rv_ev rfl) ?_
   refine hl_less (sub_cons (d := 0) rfl (sub_cons (d := 1) rfl (sub_cons (d := 2) rfl (sub_cons (d := 4) rfl (sub_cons (d := 6) rfl (sub_cons (d := 7) rfl (sub_cons (d := 8) rfl (sub_cons (d := 10) rfl (sub_cons (d := 11) rfl (sub_cons (d := 12) rfl (sub_cons (d := 20) rfl (sub_cons (d := 53) rfl (sub_nil _))))))))))))) (.refl _) ?_
   refine hl_nil ?_
   refine hq_then ?_
   refine hc_block ?_
   refine hc_conv (rowE 3 1 (.slice none 0 0) 0 ([]) :: boxE b39 #[.slice none 0 0, .int .i64 xhR32, .int .i64 xhR35, .int .i64 xhR38] 87 :: bigE (es.map lePart) :: rowE 87 4 t.lv es.length (es.flatMap Le.cells) :: rowE 3 1 t.mv zs.length (zs.map (Value.int .i64)) :: boxE b6 #[t.mv, t.lv, .int .i64 t.pad, .int .i64 t.ram] 39 :: boxE b2 #[.slice none 0 0, .slice none 0 0, .int .i64 0, .int .i64 0] 39 :: boxE b1 #[.int .i64 d.W, .int .i64 d.H, .int .i64 d.T, .int .i64 d.R] 25 :: curE g a len cap :: l) (fun w hm => hm.nilRow 3 1) ?_
   refine hc_loop3 (α := Nat) (β := Value) (γ := List Int) (fun k u ys => (rowE 3 1 u ys.length (ys.map (Value.int .i64)) :: boxE b39 #[u, .int .i64 xhR32, .int .i64 xhR35, .int .i64 xhR38] 87 :: bigE (es.map lePart) :: rowE 87 4 t.lv es.length (es.flatMap Le.cells) :: rowE 3 1 t.mv zs.length (zs.map (Value.int .i64)) :: boxE b6 #[t.mv, t.lv, .int .i64 t.pad, .int .i64 t.ram] 39 :: boxE b2 #[.slice none 0 0, .slice none 0 0, .int .i64 0, .int .i64 0] 39 :: boxE b1 #[.int .i64 d.W, .int .i64 d.H, .int .i64 d.T, .int .i64 d.R] 25 :: curE g a len cap :: l)) (fun k u ys => [(0, .pointer (some ⟨g, 0, none⟩)), (1, .agg #[.int .i64 d.W, .int .i64 d.H, .int .i64 d.T, .int .i64 d.R]), (2, .int .i64 x), (4, .pointer (some ⟨b1, 0, none⟩)), (6, .pointer (some ⟨b2, 0, none⟩)), (7, .pointer (some ⟨b6, 0, none⟩)), (8, .int .i64 (m : Int)), (10, .int .i64 (e : Int)), (11, .pointer (some ⟨b39, 0, none⟩)), (12, .int .i64 (k : Int)), (20, .bool false), (53, .bool true)]) (fun k u ys => k ≤ 4 ∧ ys.length = k ∧ InR ys 0 7) (fun k u ys => 4 - k) 0 _ [] ⟨by omega, rfl, fun i hi => absurd hi (by simp)⟩ (sub_cons (d := 0) rfl (sub_cons (d := 1) rfl (sub_cons (d := 2) rfl (sub_cons (d := 4) rfl (sub_cons (d := 6) rfl (sub_cons (d := 7) rfl (sub_cons (d := 8) rfl (sub_cons (d := 10) rfl (sub_cons (d := 11) rfl (sub_cons (d := 12) rfl (sub_cons (d := 20) rfl (sub_cons (d := 53) rfl (sub_nil _))))))))))))) ((.cons_cons _ (.cons_cons _ (.cons_cons _ (.cons_cons _ (.cons_cons _ (.cons_cons _ (.cons_cons _ (.cons_cons _ (.cons_cons _ (.refl _))))))))))) ?_
   intro k u ys hi40
   obtain ⟨hk1, hyl, hyr⟩ := hi40
   refine hc_seq ?_
   refine hc_seq ?_
   refine hc_region ?_
   refine hl_v rfl rfl rfl (rv_ev rfl) ?_
   refine hl_lss rfl rfl rfl rfl rfl rfl (fun h41 => ?_) (fun h41 => ?_)
   ·
    refine hl_less (sub_cons (d := 0) rfl (sub_cons (d := 1) rfl (sub_cons (d := 2) rfl (sub_cons (d := 4) rfl (sub_cons (d := 6) rfl (sub_cons (d := 7) rfl (sub_cons (d := 8) rfl (sub_cons (d := 10) rfl (sub_cons (d := 11) rfl (sub_cons (d := 12) rfl (sub_cons (d := 20) rfl (sub_cons (d := 53) rfl (sub_cons (d := 64) rfl (sub_nil _)))))))))))))) (.refl _) ?_
    refine hl_nil ?_
    refine hq_then ?_
    refine hc_true rfl ?_
    refine hc_skip ?_
    refine hq_then ?_
    refine hc_seq ?_
    refine hc_block ?_
    refine hc_seq ?_
    refine hc_region ?_
    refine hl_v rfl rfl rfl (rv_ev rfl) ?_
    refine hl_callM (R := (fun u_ p_ => (∃ x_ : Int, u_ = .int .i64 x_ ∧ 0 ≤ x_ ∧ x_ < 6) ∧ p_ = curE g a len cap)) 8 rfl rfl (by kernel_rfl) rfl rfl (fun l' w hm => belowN_mut g a len cap z 6 _ _ _ hm hb (by constructor <;> omega)) ?_
    intro v42 p43 hR44
    obtain ⟨⟨xhR44, rfl, xhR440, xhR441⟩, rfl⟩ := hR44
    refine hl_eqL (l' := (rowE 3 1 u ys.length (ys.map (Value.int .i64)) :: boxE b39 #[u, .int .i64 xhR32, .int .i64 xhR35, .int .i64 xhR38] 87 :: bigE (es.map lePart) :: rowE 87 4 t.lv es.length (es.flatMap Le.cells) :: rowE 3 1 t.mv zs.length (zs.map (Value.int .i64)) :: boxE b6 #[t.mv, t.lv, .int .i64 t.pad, .int .i64 t.ram] 39 :: boxE b2 #[.slice none 0 0, .slice none 0 0, .int .i64 0, .int .i64 0] 39 :: boxE b1 #[.int .i64 d.W, .int .i64 d.H, .int .i64 d.T, .int .i64 d.R] 25 :: curE g a len cap :: l)) rfl ?_
    refine hl_v rfl rfl rfl (rv_ev rfl) ?_
    refine hl_less (sub_cons (d := 0) rfl (sub_cons (d := 1) rfl (sub_cons (d := 2) rfl (sub_cons (d := 4) rfl (sub_cons (d := 6) rfl (sub_cons (d := 7) rfl (sub_cons (d := 8) rfl (sub_cons (d := 10) rfl (sub_cons (d := 11) rfl (sub_cons (d := 12) rfl (sub_cons (d := 13) rfl (sub_cons (d := 20) rfl (sub_cons (d := 53) rfl (sub_cons (d := 64) rfl (sub_nil _))))))))))))))) (.refl _) ?_
    refine hl_nil ?_
    refine hq_then ?_
    refine hc_meet1 (α := Int) (fun sx => (rowE 3 1 u ys.length (ys.map (Value.int .i64)) :: boxE b39 #[u, .int .i64 xhR32, .int .i64 xhR35, .int .i64 xhR38] 87 :: bigE (es.map lePart) :: rowE 87 4 t.lv es.length (es.flatMap Le.cells) :: rowE 3 1 t.mv zs.length (zs.map (Value.int .i64)) :: boxE b6 #[t.mv, t.lv, .int .i64 t.pad, .int .i64 t.ram] 39 :: boxE b2 #[.slice none 0 0, .slice none 0 0, .int .i64 0, .int .i64 0] 39 :: boxE b1 #[.int .i64 d.W, .int .i64 d.H, .int .i64 d.T, .int .i64 d.R] 25 :: curE g a len cap :: l)) (fun sx => [(0, .pointer (some ⟨g, 0, none⟩)), (1, .agg #[.int .i64 d.W, .int .i64 d.H, .int .i64 d.T, .int .i64 d.R]), (2, .int .i64 x), (4, .pointer (some ⟨b1, 0, none⟩)), (6, .pointer (some ⟨b2, 0, none⟩)), (7, .pointer (some ⟨b6, 0, none⟩)), (8, .int .i64 (m : Int)), (10, .int .i64 (e : Int)), (11, .pointer (some ⟨b39, 0, none⟩)), (12, .int .i64 (k : Int)), (13, .int .i64 sx), (20, .bool false), (53, .bool true), (64, .bool true)]) (fun sx => 0 ≤ sx ∧ sx ≤ 7) ?_ ?_
    ·
     refine hc_seq ?_
     refine hc_region ?_
     refine hl_v rfl rfl rfl (rv_ev rfl) ?_
     refine hl_callM (R := (fun u_ p_ => (∃ b : Bool, u_ = .bool b) ∧ p_ = curE g a len cap)) 8 rfl rfl (by kernel_rfl) rfl rfl (fun l' w hm => once_mut hm hb (6) (by omega) (by omega)) ?_
     intro v45 p46 hR47
     obtain ⟨⟨xhR47, rfl⟩, rfl⟩ := hR47
     refine hl_eqL (l' := (rowE 3 1 u ys.length (ys.map (Value.int .i64)) :: boxE b39 #[u, .int .i64 xhR32, .int .i64 xhR35, .int .i64 xhR38] 87 :: bigE (es.map lePart) :: rowE 87 4 t.lv es.length (es.flatMap Le.cells) :: rowE 3 1 t.mv zs.length (zs.map (Value.int .i64)) :: boxE b6 #[t.mv, t.lv, .int .i64 t.pad, .int .i64 t.ram] 39 :: boxE b2 #[.slice none 0 0, .slice none 0 0, .int .i64 0, .int .i64 0] 39 :: boxE b1 #[.int .i64 d.W, .int .i64 d.H, .int .i64 d.T, .int .i64 d.R] 25 :: curE g a len cap :: l)) rfl ?_
     refine hl_bool (fun h48 => ?_) (fun h48 => ?_)
     ·
      refine hl_less (sub_cons (d := 0) rfl (sub_cons (d := 1) rfl (sub_cons (d := 2) rfl (sub_cons (d := 4) rfl (sub_cons (d := 6) rfl (sub_cons (d := 7) rfl (sub_cons (d := 8) rfl (sub_cons (d := 10) rfl (sub_cons (d := 11) rfl (sub_cons (d := 12) rfl (sub_cons (d := 13) rfl (sub_cons (d := 20) rfl (sub_cons (d := 53) rfl (sub_cons (d := 64) rfl (sub_cons (d := 70) rfl (sub_nil _)))))))))))))))) (.refl _) ?_
      refine hl_nil ?_
      refine hq_then ?_
      refine hc_true rfl ?_
      refine hc_region ?_
      refine hl_v rfl rfl rfl (rv_ev rfl) ?_
      refine hl_callM (R := (fun u_ p_ => (∃ x_ : Int, u_ = .int .i64 x_ ∧ 0 ≤ x_ ∧ x_ < 8) ∧ p_ = curE g a len cap)) 8 rfl rfl (by kernel_rfl) rfl rfl (fun l' w hm => belowN_mut g a len cap z 8 _ _ _ hm hb (by constructor <;> omega)) ?_
      intro v49 p50 hR51
      obtain ⟨⟨xhR51, rfl, xhR510, xhR511⟩, rfl⟩ := hR51
      refine hl_eqL (l' := (rowE 3 1 u ys.length (ys.map (Value.int .i64)) :: boxE b39 #[u, .int .i64 xhR32, .int .i64 xhR35, .int .i64 xhR38] 87 :: bigE (es.map lePart) :: rowE 87 4 t.lv es.length (es.flatMap Le.cells) :: rowE 3 1 t.mv zs.length (zs.map (Value.int .i64)) :: boxE b6 #[t.mv, t.lv, .int .i64 t.pad, .int .i64 t.ram] 39 :: boxE b2 #[.slice none 0 0, .slice none 0 0, .int .i64 0, .int .i64 0] 39 :: boxE b1 #[.int .i64 d.W, .int .i64 d.H, .int .i64 d.T, .int .i64 d.R] 25 :: curE g a len cap :: l)) rfl ?_
      refine hl_v rfl rfl rfl (rv_ev rfl) ?_
      refine hl_less (sub_cons (d := 0) rfl (sub_cons (d := 1) rfl (sub_cons (d := 2) rfl (sub_cons (d := 4) rfl (sub_cons (d := 6) rfl (sub_cons (d := 7) rfl (sub_cons (d := 8) rfl (sub_cons (d := 10) rfl (sub_cons (d := 11) rfl (sub_cons (d := 12) rfl (sub_cons (d := 13) rfl (sub_cons (d := 20) rfl (sub_cons (d := 53) rfl (sub_cons (d := 64) rfl (sub_cons (d := 70) rfl (sub_nil _)))))))))))))))) (.refl _) ?_
      refine hl_nil ?_
      exact hq_meet1 xhR51 (by omega) (sub_cons (d := 0) rfl (sub_cons (d := 1) rfl (sub_cons (d := 2) rfl (sub_cons (d := 4) rfl (sub_cons (d := 6) rfl (sub_cons (d := 7) rfl (sub_cons (d := 8) rfl (sub_cons (d := 10) rfl (sub_cons (d := 11) rfl (sub_cons (d := 12) rfl (sub_cons (d := 13) rfl (sub_cons (d := 20) rfl (sub_cons (d := 53) rfl (sub_cons (d := 64) rfl (sub_nil _))))))))))))))) ((.cons_cons _ (.cons_cons _ (.cons_cons _ (.cons_cons _ (.cons_cons _ (.cons_cons _ (.cons_cons _ (.cons_cons _ (.cons_cons _ (.refl _)))))))))))
     ·
      refine hl_less (sub_cons (d := 0) rfl (sub_cons (d := 1) rfl (sub_cons (d := 2) rfl (sub_cons (d := 4) rfl (sub_cons (d := 6) rfl (sub_cons (d := 7) rfl (sub_cons (d := 8) rfl (sub_cons (d := 10) rfl (sub_cons (d := 11) rfl (sub_cons (d := 12) rfl (sub_cons (d := 13) rfl (sub_cons (d := 20) rfl (sub_cons (d := 53) rfl (sub_cons (d := 64) rfl (sub_cons (d := 70) rfl (sub_nil _)))))))))))))))) (.refl _) ?_
      refine hl_nil ?_
      refine hq_then ?_
      refine hc_false rfl ?_
      refine hc_skip ?_
      exact hq_meet1 xhR44 (by omega) (sub_cons (d := 0) rfl (sub_cons (d := 1) rfl (sub_cons (d := 2) rfl (sub_cons (d := 4) rfl (sub_cons (d := 6) rfl (sub_cons (d := 7) rfl (sub_cons (d := 8) rfl (sub_cons (d := 10) rfl (sub_cons (d := 11) rfl (sub_cons (d := 12) rfl (sub_cons (d := 13) rfl (sub_cons (d := 20) rfl (sub_cons (d := 53) rfl (sub_cons (d := 64) rfl (sub_nil _))))))))))))))) ((.cons_cons _ (.cons_cons _ (.cons_cons _ (.cons_cons _ (.cons_cons _ (.cons_cons _ (.cons_cons _ (.cons_cons _ (.cons_cons _ (.refl _)))))))))))
    intro sx hm52
    have hsx := hm52
    refine hc_region ?_
    refine hl_v rfl rfl rfl (rv_field (k0 := 0) rfl (by kernel_rfl) rfl) ?_
    refine hl_v rfl rfl rfl (rv_load rfl (by kernel_rfl) rfl (box_cell 1 rfl rfl)) ?_
    refine hl_v rfl rfl rfl (rv_ev rfl) ?_
    refine hl_row rfl rfl rfl (rq_buildSlice (z := .int .i64 0) (s := 1) (cs := ([sx].map (Value.int .i64))) rfl Try.underlying30 (by kernel_rfl) (by decide) rfl (by kernel_rfl) rfl) ?_
    intro g53
    refine hl_append (i := 1) (z := .int .i64 0) (bytes := 8) (n' := (ys ++ ([sx])).length) (xs' := ((ys ++ ([sx])).map (Value.int .i64))) (L := fun v54 => (rowE 3 1 (.slice (some ⟨g53, 0, none⟩) 1 1) 1 ([sx].map (Value.int .i64)) :: rowE 3 1 v54 ((ys ++ ([sx])).length) ((ys ++ ([sx])).map (Value.int .i64)) :: boxE b39 #[u, .int .i64 xhR32, .int .i64 xhR35, .int .i64 xhR38] 87 :: bigE (es.map lePart) :: rowE 87 4 t.lv es.length (es.flatMap Le.cells) :: rowE 3 1 t.mv zs.length (zs.map (Value.int .i64)) :: boxE b6 #[t.mv, t.lv, .int .i64 t.pad, .int .i64 t.ram] 39 :: boxE b2 #[.slice none 0 0, .slice none 0 0, .int .i64 0, .int .i64 0] 39 :: boxE b1 #[.int .i64 d.W, .int .i64 d.H, .int .i64 d.T, .int .i64 d.R] 25 :: curE g a len cap :: l)) rfl rfl rfl rfl Try.underlying30 (by kernel_rfl) (by kernel_rfl) rfl rfl rfl (rd_row 0 rfl) (ints_one _) (by simp; omega) (len_app ys ([sx])) (ints_app ys ([sx])) (fun _ => rfl) ?_
    intro v54
    refine hl_v rfl rfl rfl (rv_field (k0 := 0) rfl (by kernel_rfl) rfl) ?_
    refine hl_one (i := 1) rfl (fun ho55 => ?_)
    refine hl_storeBox (i := 2) (l' := (rowE 3 1 (.slice (some ⟨g53, 0, none⟩) 1 1) 1 ([sx].map (Value.int .i64)) :: rowE 3 1 v54 ((ys ++ ([sx])).length) ((ys ++ ([sx])).map (Value.int .i64)) :: boxE b39 #[v54, .int .i64 xhR32, .int .i64 xhR35, .int .i64 xhR38] 87 :: bigE (es.map lePart) :: rowE 87 4 t.lv es.length (es.flatMap Le.cells) :: rowE 3 1 t.mv zs.length (zs.map (Value.int .i64)) :: boxE b6 #[t.mv, t.lv, .int .i64 t.pad, .int .i64 t.ram] 39 :: boxE b2 #[.slice none 0 0, .slice none 0 0, .int .i64 0, .int .i64 0] 39 :: boxE b1 #[.int .i64 d.W, .int .i64 d.H, .int .i64 d.T, .int .i64 d.R] 25 :: curE g a len cap :: l)) rfl rfl rfl (by kernel_rfl) rfl rfl ho55 rfl rfl rfl ?_
    refine hl_less (sub_cons (d := 0) rfl (sub_cons (d := 1) rfl (sub_cons (d := 2) rfl (sub_cons (d := 4) rfl (sub_cons (d := 6) rfl (sub_cons (d := 7) rfl (sub_cons (d := 8) rfl (sub_cons (d := 10) rfl (sub_cons (d := 11) rfl (sub_cons (d := 12) rfl (sub_cons (d := 13) rfl (sub_cons (d := 20) rfl (sub_cons (d := 53) rfl (sub_cons (d := 64) rfl (sub_nil _))))))))))))))) (.refl _) ?_
    refine hl_nil ?_
    refine hq_block_normal ?_
    refine hq_then ?_
    refine hc_region ?_
    refine hl_v rfl rfl rfl (rv_ev rfl) ?_
    refine hl_v rfl rfl rfl (rv_add rfl rfl rfl (by constructor <;> omega)) ?_
    refine hl_v rfl rfl rfl (rv_ev rfl) ?_
    refine hl_less (sub_cons (d := 0) rfl (sub_cons (d := 1) rfl (sub_cons (d := 2) rfl (sub_cons (d := 4) rfl (sub_cons (d := 6) rfl (sub_cons (d := 7) rfl (sub_cons (d := 8) rfl (sub_cons (d := 10) rfl (sub_cons (d := 11) rfl (sub_cons (d := 12) rfl (sub_cons (d := 13) rfl (sub_cons (d := 20) rfl (sub_cons (d := 53) rfl (sub_cons (d := 64) rfl (sub_nil _))))))))))))))) (.refl _) ?_
    refine hl_nil ?_
    exact hq_round3 (k + 1) v54 (ys ++ ([sx])) ⟨by omega, by simp; omega, inr_app hyr (by omega)⟩ (by omega) (sub_cons (d := 0) rfl (sub_cons (d := 1) rfl (sub_cons (d := 2) rfl (sub_cons (d := 4) rfl (sub_cons (d := 6) rfl (sub_cons (d := 7) rfl (sub_cons (d := 8) rfl (sub_cons (d := 10) rfl (sub_cons (d := 11) rfl (sub_cons (d := 12) rfl (sub_cons (d := 20) rfl (sub_cons (d := 53) rfl (sub_nil _))))))))))))) ((.cons _ (.cons_cons _ (.cons_cons _ (.cons_cons _ (.cons_cons _ (.cons_cons _ (.cons_cons _ (.cons_cons _ (.cons_cons _ (.cons_cons _ (.refl _))))))))))))
   ·
    refine hl_less (sub_cons (d := 0) rfl (sub_cons (d := 1) rfl (sub_cons (d := 2) rfl (sub_cons (d := 4) rfl (sub_cons (d := 6) rfl (sub_cons (d := 7) rfl (sub_cons (d := 8) rfl (sub_cons (d := 10) rfl (sub_cons (d := 11) rfl (sub_cons (d := 12) rfl (sub_cons (d := 20) rfl (sub_cons (d := 53) rfl (sub_cons (d := 64) rfl (sub_nil _)))))))))))))) (.refl _) ?_
    refine hl_nil ?_
    refine hq_then ?_
    refine hc_false rfl ?_
    refine hc_exit ?_
    refine hq_then_exit ?_
    refine hq_then_exit ?_
    refine hq_block_exit ?_
    refine hq_then ?_
    refine hc_region ?_
    refine hl_v rfl rfl rfl (rv_field (k0 := 1) rfl (by kernel_rfl) rfl) ?_
    refine hl_v rfl rfl rfl (rv_load rfl (by kernel_rfl) rfl (box_cell 5 rfl rfl)) ?_
    refine hl_v rfl rfl rfl (rv_ev rfl) ?_
    refine hl_v rfl rfl rfl (rv_loadN (cs := [u, .int .i64 xhR32, .int .i64 xhR35, .int .i64 xhR38]) rfl (by kernel_rfl) (by kernel_rfl) rfl rfl (box_part 1 rfl 0 rfl)) ?_
    refine hl_v rfl rfl rfl (rv_index (s := 4) rfl Try.underlying37 (by kernel_rfl) rfl rfl (rd_row 3 rfl) (by omega) (by first | omega | (simp only [List.length_set]; omega))) ?_
    refine hl_one (i := 0) rfl (fun ho56 => ?_)
    refine hl_storeElN (i := 3) (us := [u, .int .i64 xhR32, .int .i64 xhR35, .int .i64 xhR38]) (n' := (es.set e (Le.mk u ys xhR32 xhR35 xhR38)).length) (xs' := ((es.set e (Le.mk u ys xhR32 xhR35 xhR38)).flatMap Le.cells)) (l' := (rowE 3 1 u ys.length (ys.map (Value.int .i64)) :: boxE b39 #[u, .int .i64 xhR32, .int .i64 xhR35, .int .i64 xhR38] 87 :: bigE (es.map lePart) :: rowE 87 4 t.lv ((es.set e (Le.mk u ys xhR32 xhR35 xhR38)).length) ((es.set e (Le.mk u ys xhR32 xhR35 xhR38)).flatMap Le.cells) :: rowE 3 1 t.mv zs.length (zs.map (Value.int .i64)) :: boxE b6 #[t.mv, t.lv, .int .i64 t.pad, .int .i64 t.ram] 39 :: boxE b2 #[.slice none 0 0, .slice none 0 0, .int .i64 0, .int .i64 0] 39 :: boxE b1 #[.int .i64 d.W, .int .i64 d.H, .int .i64 d.T, .int .i64 d.R] 25 :: curE g a len cap :: l)) rfl rfl rfl (by kernel_rfl) rfl rfl (all_cons ho56 (all_cons rfl (all_cons rfl (all_cons rfl all_nil)))) rfl (by first | omega | (simp only [List.length_set]; omega)) (by simp only [List.length_cons, List.length_nil]; first | omega | (simp only [List.length_set]; omega)) List.length_set.symm (flat_put Le.cells 4 (fun _ => rfl) _ (Le.mk u ys xhR32 xhR35 xhR38) (by first | omega | (simp only [List.length_set]; omega))) rfl ?_
    refine hl_less (sub_cons (d := 0) rfl (sub_cons (d := 1) rfl (sub_cons (d := 2) rfl (sub_cons (d := 4) rfl (sub_cons (d := 6) rfl (sub_cons (d := 7) rfl (sub_cons (d := 8) rfl (sub_cons (d := 10) rfl (sub_cons (d := 11) rfl (sub_cons (d := 12) rfl (sub_cons (d := 20) rfl (sub_cons (d := 53) rfl (sub_cons (d := 64) rfl (sub_nil _)))))))))))))) (.refl _) ?_
    refine hl_nil ?_
    refine hq_block_normal ?_
    refine hq_then ?_
    refine hc_region ?_
    refine hl_v rfl rfl rfl (rv_ev rfl) ?_
    refine hl_v rfl rfl rfl (rv_add rfl rfl rfl (by constructor <;> omega)) ?_
    refine hl_v rfl rfl rfl (rv_ev rfl) ?_
    refine hl_less (sub_cons (d := 0) rfl (sub_cons (d := 1) rfl (sub_cons (d := 2) rfl (sub_cons (d := 4) rfl (sub_cons (d := 6) rfl (sub_cons (d := 7) rfl (sub_cons (d := 8) rfl (sub_cons (d := 10) rfl (sub_cons (d := 11) rfl (sub_cons (d := 12) rfl (sub_cons (d := 20) rfl (sub_cons (d := 53) rfl (sub_cons (d := 64) rfl (sub_nil _)))))))))))))) (.refl _) ?_
    refine hl_nil ?_
    refine hq_conv (bigE (es.map lePart) :: rowE 3 1 u ys.length (ys.map (Value.int .i64)) :: boxE b39 #[u, .int .i64 xhR32, .int .i64 xhR35, .int .i64 xhR38] 87 :: rowE 87 4 t.lv ((es.set e (Le.mk u ys xhR32 xhR35 xhR38)).length) ((es.set e (Le.mk u ys xhR32 xhR35 xhR38)).flatMap Le.cells) :: rowE 3 1 t.mv zs.length (zs.map (Value.int .i64)) :: boxE b6 #[t.mv, t.lv, .int .i64 t.pad, .int .i64 t.ram] 39 :: boxE b2 #[.slice none 0 0, .slice none 0 0, .int .i64 0, .int .i64 0] 39 :: boxE b1 #[.int .i64 d.W, .int .i64 d.H, .int .i64 d.T, .int .i64 d.R] 25 :: curE g a len cap :: l) (conv_pick (src := [rowE 3 1 u ys.length (ys.map (Value.int .i64)), boxE b39 #[u, .int .i64 xhR32, .int .i64 xhR35, .int .i64 xhR38] 87, bigE (es.map lePart), rowE 87 4 t.lv ((es.set e (Le.mk u ys xhR32 xhR35 xhR38)).length) ((es.set e (Le.mk u ys xhR32 xhR35 xhR38)).flatMap Le.cells), rowE 3 1 t.mv zs.length (zs.map (Value.int .i64)), boxE b6 #[t.mv, t.lv, .int .i64 t.pad, .int .i64 t.ram] 39, boxE b2 #[.slice none 0 0, .slice none 0 0, .int .i64 0, .int .i64 0] 39, boxE b1 #[.int .i64 d.W, .int .i64 d.H, .int .i64 d.T, .int .i64 d.R] 25, curE g a len cap]) (dst := [bigE (es.map lePart), rowE 3 1 u ys.length (ys.map (Value.int .i64)), boxE b39 #[u, .int .i64 xhR32, .int .i64 xhR35, .int .i64 xhR38] 87, rowE 87 4 t.lv ((es.set e (Le.mk u ys xhR32 xhR35 xhR38)).length) ((es.set e (Le.mk u ys xhR32 xhR35 xhR38)).flatMap Le.cells), rowE 3 1 t.mv zs.length (zs.map (Value.int .i64)), boxE b6 #[t.mv, t.lv, .int .i64 t.pad, .int .i64 t.ram] 39, boxE b2 #[.slice none 0 0, .slice none 0 0, .int .i64 0, .int .i64 0] 39, boxE b1 #[.int .i64 d.W, .int .i64 d.H, .int .i64 d.T, .int .i64 d.R] 25, curE g a len cap]) (l := l) [2, 0, 1, 3, 4, 5, 6, 7, 8] (by decide) rfl) ?_
    refine hq_conv (bigE ((es.map lePart).eraseIdx e) :: rowE 3 1 u ys.length (ys.map (Value.int .i64)) :: boxE b39 #[u, .int .i64 xhR32, .int .i64 xhR35, .int .i64 xhR38] 87 :: rowE 87 4 t.lv ((es.set e (Le.mk u ys xhR32 xhR35 xhR38)).length) ((es.set e (Le.mk u ys xhR32 xhR35 xhR38)).flatMap Le.cells) :: rowE 3 1 t.mv zs.length (zs.map (Value.int .i64)) :: boxE b6 #[t.mv, t.lv, .int .i64 t.pad, .int .i64 t.ram] 39 :: boxE b2 #[.slice none 0 0, .slice none 0 0, .int .i64 0, .int .i64 0] 39 :: boxE b1 #[.int .i64 d.W, .int .i64 d.H, .int .i64 d.T, .int .i64 d.R] 25 :: curE g a len cap :: l) ((conv_focus (j := e) (by rw [List.getElem?_map, getD_at (d := Le0) (by omega)]; rfl)).trans conv_cons) ?_
    refine hq_conv (rowE 3 1 u ys.length (ys.map (Value.int .i64)) :: bigE ((es.map lePart).eraseIdx e) :: boxE b39 #[u, .int .i64 xhR32, .int .i64 xhR35, .int .i64 xhR38] 87 :: rowE 87 4 t.lv ((es.set e (Le.mk u ys xhR32 xhR35 xhR38)).length) ((es.set e (Le.mk u ys xhR32 xhR35 xhR38)).flatMap Le.cells) :: rowE 3 1 t.mv zs.length (zs.map (Value.int .i64)) :: boxE b6 #[t.mv, t.lv, .int .i64 t.pad, .int .i64 t.ram] 39 :: boxE b2 #[.slice none 0 0, .slice none 0 0, .int .i64 0, .int .i64 0] 39 :: boxE b1 #[.int .i64 d.W, .int .i64 d.H, .int .i64 d.T, .int .i64 d.R] 25 :: curE g a len cap :: l) (conv_perm (.swap _ _ _)) ?_
    refine hq_conv (bigE ((es.set e (Le.mk u ys xhR32 xhR35 xhR38)).map lePart) :: boxE b39 #[u, .int .i64 xhR32, .int .i64 xhR35, .int .i64 xhR38] 87 :: rowE 87 4 t.lv ((es.set e (Le.mk u ys xhR32 xhR35 xhR38)).length) ((es.set e (Le.mk u ys xhR32 xhR35 xhR38)).flatMap Le.cells) :: rowE 3 1 t.mv zs.length (zs.map (Value.int .i64)) :: boxE b6 #[t.mv, t.lv, .int .i64 t.pad, .int .i64 t.ram] 39 :: boxE b2 #[.slice none 0 0, .slice none 0 0, .int .i64 0, .int .i64 0] 39 :: boxE b1 #[.int .i64 d.W, .int .i64 d.H, .int .i64 d.T, .int .i64 d.R] 25 :: curE g a len cap :: l) (fun w hm => by have h2 := conv_unfocus (p' := lePart (Le.mk u ys xhR32 xhR35 xhR38)) (ps := es.map lePart) (j := e) (by rw [List.length_map]; omega) w hm; rw [← List.map_set] at h2; exact h2) ?_
    exact hq_round2 (e + 1) (es.set e (Le.mk u ys xhR32 xhR35 xhR38)) ⟨by omega, by rw [List.length_set]; exact hel, fun i hi => by by_cases hie : i = e; (rw [hie]; exact (by rw [getD_set_self' (by omega)]; exact le_ok (by omega) hyr (by omega) (by omega) (by omega))); rw [getD_set_ne' (fun h => hie h.symm)]; exact hez i (by omega)⟩ (by omega) (sub_cons (d := 0) rfl (sub_cons (d := 1) rfl (sub_cons (d := 2) rfl (sub_cons (d := 4) rfl (sub_cons (d := 6) rfl (sub_cons (d := 7) rfl (sub_cons (d := 8) rfl (sub_cons (d := 10) rfl (sub_cons (d := 20) rfl (sub_nil _)))))))))) ((.cons_cons _ (.cons _ (.cons_cons _ (.cons_cons _ (.cons_cons _ (.cons_cons _ (.cons_cons _ (.cons_cons _ (.refl _))))))))))
  ·
   refine hl_less (sub_cons (d := 0) rfl (sub_cons (d := 1) rfl (sub_cons (d := 2) rfl (sub_cons (d := 4) rfl (sub_cons (d := 6) rfl (sub_cons (d := 7) rfl (sub_cons (d := 8) rfl (sub_cons (d := 10) rfl (sub_cons (d := 20) rfl (sub_cons (d := 53) rfl (sub_nil _))))))))))) (.refl _) ?_
   refine hl_nil ?_
   refine hq_then ?_
   refine hc_false rfl ?_
   refine hc_exit ?_
   refine hq_then_exit ?_
   refine hq_then_exit ?_
   refine hq_block_exit ?_
   refine hq_then ?_
   refine hc_seq ?_
   refine hc_region ?_
   refine hl_v rfl rfl rfl (rv_ev rfl) ?_
   refine hl_row rfl rfl rfl (rq_buildSlice (z := .int .i64 0) (s := 1) (cs := ([1, 1, 2, 2, 0, 3].map (Value.int .i64))) rfl Try.underlying30 (by kernel_rfl) (by decide) rfl (by kernel_rfl) rfl) ?_
   intro g57
   refine hl_callM2 (R := (fun u_ p_ => (∃ x : Int, u_ = .int .i64 x ∧ x ∈ [1, 1, 2, 2, 0, 3]) ∧ p_ = curE g a len cap)) 7 rfl rfl (by kernel_rfl) rfl rfl (fun L w hX hm => pickInt_mut g a len cap z (.slice (some ⟨g57, 0, none⟩) 6 6) [1, 1, 2, 2, 0, 3] _ _ _ hm hb (fun w hm => (rd_row (l := (rowE 3 1 (.slice (some ⟨g57, 0, none⟩) 6 6) 6 ([1, 1, 2, 2, 0, 3].map (Value.int .i64)) :: bigE (es.map lePart) :: rowE 87 4 t.lv es.length (es.flatMap Le.cells) :: rowE 3 1 t.mv zs.length (zs.map (Value.int .i64)) :: boxE b6 #[t.mv, t.lv, .int .i64 t.pad, .int .i64 t.ram] 39 :: boxE b2 #[.slice none 0 0, .slice none 0 0, .int .i64 0, .int .i64 0] 39 :: boxE b1 #[.int .i64 d.W, .int .i64 d.H, .int .i64 d.T, .int .i64 d.R] 25 :: l)) 0 rfl) w (hX w hm)) (by decide)) ?_
   intro v58 p59 hR60
   obtain ⟨⟨xhR60, rfl, mhR60⟩, rfl⟩ := hR60
   have qhR60 := mem_six mhR60
   refine hl_eqL (l' := (rowE 3 1 (.slice (some ⟨g57, 0, none⟩) 6 6) 6 ([1, 1, 2, 2, 0, 3].map (Value.int .i64)) :: bigE (es.map lePart) :: rowE 87 4 t.lv es.length (es.flatMap Le.cells) :: rowE 3 1 t.mv zs.length (zs.map (Value.int .i64)) :: boxE b6 #[t.mv, t.lv, .int .i64 t.pad, .int .i64 t.ram] 39 :: boxE b2 #[.slice none 0 0, .slice none 0 0, .int .i64 0, .int .i64 0] 39 :: boxE b1 #[.int .i64 d.W, .int .i64 d.H, .int .i64 d.T, .int .i64 d.R] 25 :: curE g a len cap :: l)) rfl ?_
   refine hl_v rfl rfl rfl (rv_field (k0 := 2) rfl (by kernel_rfl) rfl) ?_
   refine hl_storeBox (i := 4) (l' := (rowE 3 1 (.slice (some ⟨g57, 0, none⟩) 6 6) 6 ([1, 1, 2, 2, 0, 3].map (Value.int .i64)) :: bigE (es.map lePart) :: rowE 87 4 t.lv es.length (es.flatMap Le.cells) :: rowE 3 1 t.mv zs.length (zs.map (Value.int .i64)) :: boxE b6 #[t.mv, t.lv, .int .i64 xhR60, .int .i64 t.ram] 39 :: boxE b2 #[.slice none 0 0, .slice none 0 0, .int .i64 0, .int .i64 0] 39 :: boxE b1 #[.int .i64 d.W, .int .i64 d.H, .int .i64 d.T, .int .i64 d.R] 25 :: curE g a len cap :: l)) rfl rfl rfl (by kernel_rfl) rfl rfl rfl rfl rfl rfl ?_
   refine hl_less (sub_cons (d := 0) rfl (sub_cons (d := 1) rfl (sub_cons (d := 2) rfl (sub_cons (d := 4) rfl (sub_cons (d := 6) rfl (sub_cons (d := 7) rfl (sub_cons (d := 8) rfl (sub_cons (d := 10) rfl (sub_cons (d := 20) rfl (sub_cons (d := 53) rfl (sub_nil _))))))))))) (.refl _) ?_
   refine hl_nil ?_
   refine hq_then ?_
   refine hc_seq ?_
   refine hc_region ?_
   refine hl_v rfl rfl rfl (rv_ev rfl) ?_
   refine hl_callM (R := (fun u_ p_ => (∃ x_ : Int, u_ = .int .i64 x_ ∧ 0 ≤ x_ ∧ x_ < 32) ∧ p_ = curE g a len cap)) 7 rfl rfl (by kernel_rfl) rfl rfl (fun l' w hm => belowN_mut g a len cap z 32 _ _ _ hm hb (by constructor <;> omega)) ?_
   intro v61 p62 hR63
   obtain ⟨⟨xhR63, rfl, xhR630, xhR631⟩, rfl⟩ := hR63
   refine hl_eqL (l' := (rowE 3 1 (.slice (some ⟨g57, 0, none⟩) 6 6) 6 ([1, 1, 2, 2, 0, 3].map (Value.int .i64)) :: bigE (es.map lePart) :: rowE 87 4 t.lv es.length (es.flatMap Le.cells) :: rowE 3 1 t.mv zs.length (zs.map (Value.int .i64)) :: boxE b6 #[t.mv, t.lv, .int .i64 xhR60, .int .i64 t.ram] 39 :: boxE b2 #[.slice none 0 0, .slice none 0 0, .int .i64 0, .int .i64 0] 39 :: boxE b1 #[.int .i64 d.W, .int .i64 d.H, .int .i64 d.T, .int .i64 d.R] 25 :: curE g a len cap :: l)) rfl ?_
   refine hl_v rfl rfl rfl (rv_field (k0 := 3) rfl (by kernel_rfl) rfl) ?_
   refine hl_storeBox (i := 4) (l' := (rowE 3 1 (.slice (some ⟨g57, 0, none⟩) 6 6) 6 ([1, 1, 2, 2, 0, 3].map (Value.int .i64)) :: bigE (es.map lePart) :: rowE 87 4 t.lv es.length (es.flatMap Le.cells) :: rowE 3 1 t.mv zs.length (zs.map (Value.int .i64)) :: boxE b6 #[t.mv, t.lv, .int .i64 xhR60, .int .i64 xhR63] 39 :: boxE b2 #[.slice none 0 0, .slice none 0 0, .int .i64 0, .int .i64 0] 39 :: boxE b1 #[.int .i64 d.W, .int .i64 d.H, .int .i64 d.T, .int .i64 d.R] 25 :: curE g a len cap :: l)) rfl rfl rfl (by kernel_rfl) rfl rfl rfl rfl rfl rfl ?_
   refine hl_less (sub_cons (d := 0) rfl (sub_cons (d := 1) rfl (sub_cons (d := 2) rfl (sub_cons (d := 4) rfl (sub_cons (d := 6) rfl (sub_cons (d := 7) rfl (sub_cons (d := 8) rfl (sub_cons (d := 10) rfl (sub_cons (d := 20) rfl (sub_cons (d := 53) rfl (sub_nil _))))))))))) (.refl _) ?_
   refine hl_nil ?_
   refine hq_then ?_
   refine hc_seq ?_
   refine hc_region ?_
   refine hl_v rfl rfl rfl (rv_loadN (cs := [t.mv, t.lv, .int .i64 xhR60, .int .i64 xhR63]) rfl (by kernel_rfl) (by kernel_rfl) rfl rfl (box_part 4 rfl 0 rfl)) ?_
   refine hl_storeBoxN (i := 5) (off := 0) (us := [t.mv, t.lv, .int .i64 xhR60, .int .i64 xhR63]) (l' := (rowE 3 1 (.slice (some ⟨g57, 0, none⟩) 6 6) 6 ([1, 1, 2, 2, 0, 3].map (Value.int .i64)) :: bigE (es.map lePart) :: rowE 87 4 t.lv es.length (es.flatMap Le.cells) :: rowE 3 1 t.mv zs.length (zs.map (Value.int .i64)) :: boxE b6 #[t.mv, t.lv, .int .i64 xhR60, .int .i64 xhR63] 39 :: boxE b2 #[t.mv, t.lv, .int .i64 xhR60, .int .i64 xhR63] 39 :: boxE b1 #[.int .i64 d.W, .int .i64 d.H, .int .i64 d.T, .int .i64 d.R] 25 :: curE g a len cap :: l)) rfl rfl rfl (by kernel_rfl) rfl rfl rfl (all_cons c1t (all_cons c2t (all_cons rfl (all_cons rfl all_nil)))) rfl rfl rfl ?_
   refine hl_less (sub_cons (d := 0) rfl (sub_cons (d := 1) rfl (sub_cons (d := 2) rfl (sub_cons (d := 4) rfl (sub_cons (d := 6) rfl (sub_cons (d := 7) rfl (sub_cons (d := 8) rfl (sub_cons (d := 10) rfl (sub_cons (d := 20) rfl (sub_cons (d := 53) rfl (sub_nil _))))))))))) (.refl _) ?_
   refine hl_nil ?_
   refine hq_then ?_
   refine hc_ret ?_
   refine hq_conv (bigE (es.map lePart) :: rowE 87 4 t.lv es.length (es.flatMap Le.cells) :: rowE 3 1 t.mv zs.length (zs.map (Value.int .i64)) :: curE g a len cap :: boxE b2 #[t.mv, t.lv, .int .i64 xhR60, .int .i64 xhR63] 39 :: l) (conv_pick (src := [rowE 3 1 (.slice (some ⟨g57, 0, none⟩) 6 6) 6 ([1, 1, 2, 2, 0, 3].map (Value.int .i64)), bigE (es.map lePart), rowE 87 4 t.lv es.length (es.flatMap Le.cells), rowE 3 1 t.mv zs.length (zs.map (Value.int .i64)), boxE b6 #[t.mv, t.lv, .int .i64 xhR60, .int .i64 xhR63] 39, boxE b2 #[t.mv, t.lv, .int .i64 xhR60, .int .i64 xhR63] 39, boxE b1 #[.int .i64 d.W, .int .i64 d.H, .int .i64 d.T, .int .i64 d.R] 25, curE g a len cap]) (dst := [bigE (es.map lePart), rowE 87 4 t.lv es.length (es.flatMap Le.cells), rowE 3 1 t.mv zs.length (zs.map (Value.int .i64)), curE g a len cap, boxE b2 #[t.mv, t.lv, .int .i64 xhR60, .int .i64 xhR63] 39]) (l := l) [1, 2, 3, 7, 5] (by decide) rfl) ?_
   refine hq_conv (bigE [curE g a len cap, tcE (Tc.mk t.mv zs t.lv es xhR60 xhR63)] :: boxE b2 #[t.mv, t.lv, .int .i64 xhR60, .int .i64 xhR63] 39 :: l) (fun w hm => by
  have h1 : Mem _ (([bigE (es.map lePart), rowE 87 4 t.lv es.length (es.flatMap Le.cells)]) ++ (rowE 3 1 t.mv zs.length (zs.map (Value.int .i64)) :: curE g a len cap :: boxE b2 #[t.mv, t.lv, .int .i64 xhR60, .int .i64 xhR63] 39 :: l)) w := hm
  have h2 : Mem _ ([rowE 3 1 t.mv zs.length (zs.map (Value.int .i64)), lesE t.lv es] ++ (curE g a len cap :: boxE b2 #[t.mv, t.lv, .int .i64 xhR60, .int .i64 xhR63] 39 :: l)) w := h1.big.perm (.swap _ _ _)
  have h3 : Mem _ (tcE (Tc.mk t.mv zs t.lv es xhR60 xhR63) :: curE g a len cap :: boxE b2 #[t.mv, t.lv, .int .i64 xhR60, .int .i64 xhR63] 39 :: l) w := Mem.big h2
  exact Mem.big (ps := [curE g a len cap, tcE (Tc.mk t.mv zs t.lv es xhR60 xhR63)]) (h3.perm (.swap _ _ _))) ?_
   exact hq_ret (rs := [.cell 6 39]) (vs := [.agg #[t.mv, t.lv, .int .i64 xhR60, .int .i64 xhR63]]) rfl ⟨⟨b2, 0, [t.mv, t.lv, .int .i64 xhR60, .int .i64 xhR63], rfl, rfl, by kernel_rfl, by kernel_rfl, box_part 1 rfl 0 rfl⟩, trivial⟩ rfl (fun w hm => ⟨_, bigE [curE g a len cap, tcE (Tc.mk t.mv zs t.lv es xhR60 xhR63)], rfl, ⟨Tc.mk t.mv zs t.lv es xhR60 xhR63, rfl, rfl, ⟨c1t, c2t⟩, ok_tc (t := Tc.mk t.mv zs t.lv es xhR60 xhR63) hd (by show zs.length = _; omega) hmz hel (fun i hi => hez i (by omega)) (by dsimp only; omega) (by dsimp only; omega), by show zs.length ≤ 2000000; omega, by show es.length ≤ 2000000; omega, fun x hx => les_small hel (fun i hi => hez i (by omega)) x hx⟩, hm.sub (.cons_cons _ (.cons _ (.refl _)))⟩)
theorem nodup_shift (n k : Nat) : ((List.range k).map (n + ·)).Nodup := by
  rw [List.Nodup, List.pairwise_map]
  exact List.nodup_range.imp (fun h e => h (by omega))
theorem range_getD {α : Type} (P0 : List (List α)) : (List.range P0.length).map (fun a => P0.getD a []) = P0 := by
  apply List.ext_getElem (by simp)
  intro i h1 h2
  simp [List.getD_eq_getElem?_getD, List.getElem?_eq_getElem h2]
def tauOk3 (os : List Oper) (m K : Nat) (dps qd : List (List Nat)) (tau : List (Option Nat)) (fl : List Nat) : Bool :=
  (List.range m).all (fun i => (qd.getD i []).all (fun j => (dps.getD i []).contains j && (List.range m).all (fun k => tau.getD k none != some j)) && decide ((qd.getD i []).Nodup)) &&
  (List.range m).all (fun i => match tau.getD i none with | none => true | some h => ((Nat.ble os.length h && Nat.blt h (os.length + K)) || (dps.getD i []).contains h) && (List.range m).all (fun k => k == i || tau.getD k none != some h)) &&
  fl.all (fun j => (Nat.blt j m || (Nat.ble os.length j && Nat.blt j (os.length + K))) && (List.range m).all (fun k => tau.getD k none != some j)) && decide fl.Nodup
def envOf3 (dsts : List (Option Nat)) (vf : Nat → Value) (is : List Nat) : List (Nat × Value) := is.filterMap fun i => (dsts.getD i none).map fun d => (d, vf i)
def drawOk3 (os : List Oper) (m : Nat) (dps : List (List Nat)) (dsts : List (Option Nat)) : Bool :=
  Nat.ble m os.length &&
  (List.range os.length).all (fun i => (depsOf os i).all (fun j => Nat.blt j i)) &&
  (List.range os.length).all (fun k => Nat.blt k m || (List.range m).all (fun j => ((msk ((List.range os.length).map (depsOf os)) []).getD k 0).testBit j)) &&
  (List.range (os.length - m)).all (fun t => Region.ready .any os.toArray (List.replicate (m + t) true ++ List.replicate (os.length - (m + t)) false).toArray == [m + t]) &&
  (os.take m).map (·.dst) == dsts && (List.range m).all (fun i => (List.range m).all (fun j => i == j || dsts.getD i none == none || dsts.getD i none != dsts.getD j none)) &&
  (List.range m).all (fun i => (dps.getD i []).all (fun j => ((msk ((List.range os.length).map (depsOf os)) []).getD i 0).testBit j) && decide ((dps.getD i []).Nodup))
section
variable {P : Program} {N : Nat} {w0 : World} {l : List HP} {env : List (Nat × Value)} {Q : Post} {os : List Oper} {m : Nat} {dps : List (List Nat)} {dsts : List (Option Nat)} {R : Nat → List Value → Value → List HP → Prop}
/-- where the quiet part stands -/
structure Mid3 (N : Nat) (w0 : World) (l : List HP) (env : List (Nat × Value)) (os : List Oper) (m : Nat) (dps : List (List Nat)) (dsts : List (Option Nat)) (R : Nat → List Value → Value → List HP → Prop) (tau : List (Option Nat)) (P0 : List (List HP)) (listed : Array Bool) (ord held : List Nat) (vf : Nat → Value) (pf : Nat → List HP) (a : Act) (w : World) : Prop where
  size : listed.size = os.length
  iff : ∀ i, i < os.length → (listed.getD i true = true ↔ i ∈ ord)
  low : ∀ i ∈ ord, i < m
  closed : ∀ i ∈ ord, ∀ j ∈ depsOf os i, j ∈ ord
  nodup : ord.Nodup
  dcl : ∀ i ∈ ord, ∀ j ∈ dps.getD i [], j ∈ ord
  rel : ∀ i ∈ ord, R i ((dps.getD i []).map vf) (vf i) (pf i)
  hn : held.Nodup
  hin : ∀ i ∈ held, i ∈ ord ∨ (os.length ≤ i ∧ i < os.length + P0.length)
  hall : ∀ i, (i ∈ ord ∨ (os.length ≤ i ∧ i < os.length + P0.length)) → (∀ j ∈ ord, tau.getD j none ≠ some i) → i ∈ held
  hP : ∀ k, k < P0.length → pf (os.length + k) = P0.getD k []
  mem : Mem w0 (held.flatMap pf ++ l) w
  asize : a.tmps.size = N
  defers : a.defers = []
  env : ∀ d v, lk env d = some v → a.tmps[d]? = some v
  slots : ∀ i ∈ ord, ∀ d, dsts[i]? = some (some d) → a.tmps[d]? = some (vf i)
theorem Mid3.st {tau P0 listed ord held vf pf a w} (h : Mid3 N w0 l env os m dps dsts R tau P0 listed ord held vf pf a w) (hm : m ≤ dsts.length) {is : List Nat} (hs : ∀ j ∈ is, j ∈ ord) {L : List HP} (hM : Mem w0 L w) : St N w0 L (envOf3 dsts vf is ++ env) a w := by
  refine ⟨hM, h.asize, h.defers, fun d v hd => ?_⟩
  rcases lk_append _ _ _ _ hd with h1 | h1
  · unfold envOf3 at h1
    rw [List.mem_filterMap] at h1
    obtain ⟨i, hi, he⟩ := h1
    rw [Option.map_eq_some_iff] at he
    obtain ⟨d', hd', he⟩ := he
    simp only [Prod.mk.injEq] at he
    obtain ⟨rfl, rfl⟩ := he
    have : dsts[i]? = some (some d') := by
      rw [List.getD_eq_getElem?_getD] at hd'
      cases hx : dsts[i]? with
      | none => rw [hx] at hd'; cases hd'
      | some y => rw [hx] at hd'; exact congrArg some hd'
    exact h.slots i (hs i hi) _ this
  · exact h.env d v h1
theorem hc_drawn3 {id : Nat} (hmix : P.follows .mixedOrders = true) (m : Nat) (dps : List (List Nat)) (dsts : List (Option Nat)) (R : Nat → List Value → Value → List HP → Prop) (qd : List (List Nat)) (tau : List (Option Nat)) (P0 : List (List HP)) (fl : List Nat) (hok : drawOk3 os m dps dsts = true) (htau : tauOk3 os m P0.length dps qd tau fl = true) (hfresh : dsts.all (fun d => match d with | some d => (lk env d).isNone | none => true) = true) (hN : dsts.all (fun d => match d with | some d => Nat.blt d N | none => true) = true)
    (due : ∀ i o, os[i]? = some o → i < m → ∀ vf pf, (∀ k, k < P0.length → pf (os.length + k) = P0.getD k []) → (∀ j ∈ dps.getD i [], R j ((dps.getD j []).map vf) (vf j) (pf j)) → Obl2 P os.toArray N w0 (tau.getD i none) pf ((qd.getD i []).flatMap pf ++ l) (envOf3 dsts vf (dps.getD i []) ++ env) o (R i ((dps.getD i []).map vf)))
    (fin : ∀ vf pf, (∀ k, k < P0.length → pf (os.length + k) = P0.getD k []) → (∀ i, i < m → R i ((dps.getD i []).map vf) (vf i) (pf i)) → HL P N os.toArray w0 (fl.flatMap pf ++ l) (envOf3 dsts vf (List.range m) ++ env) (os.drop m) Q) : HC P N w0 (P0.flatten ++ l) env (.region id os.toArray true) Q := by
  intro a w st
  refine wp_region_any hmix ?_
  simp only [drawOk3, Bool.and_eq_true, Nat.ble_eq, List.all_eq_true, List.mem_range, Bool.or_eq_true, Nat.blt_eq, beq_iff_eq, decide_eq_true_eq, Array.all_eq_true', bne_iff_ne] at hok
  obtain ⟨⟨⟨⟨⟨⟨hml, hback⟩, hcov⟩, hready⟩, hdst⟩, hdn⟩, hdp⟩ := hok
  simp only [tauOk3, Bool.and_eq_true, List.all_eq_true, List.mem_range, Bool.or_eq_true, Nat.blt_eq, Nat.ble_eq, beq_iff_eq, bne_iff_ne, decide_eq_true_eq, List.contains_iff_mem] at htau
  obtain ⟨⟨⟨hqd, hth⟩, hfl⟩, hfn⟩ := htau
  have hml' : m ≤ dsts.length := by have := congrArg List.length hdst; simp at this; omega
  have hlen : dsts.length = m := by have := congrArg List.length hdst; simp at this; omega
  have hrdy : ∀ k, m ≤ k → k < os.length → Region.ready .any os.toArray (preT os.length k) = [k] := fun k h1 h2 => by
    have := hready (k - m) (by omega)
    rw [show m + (k - m) = k by omega] at this
    exact this
  have hmsk : ∀ i j, ((msk ((List.range os.length).map (depsOf os)) []).getD i 0).testBit j = true → Dep os i j := msk_dep os _ _ (fun t ds ht d hd => by
    rw [List.getElem?_map] at ht
    by_cases h : t < os.length
    · rw [List.getElem?_range h] at ht; simp at ht; subst ht; simpa using hd
    · rw [List.getElem?_eq_none (by simp; omega)] at ht; cases ht) (fun i j h => by simp at h)
  have dstAt : ∀ i, i < m → ∀ o, os[i]? = some o → o.dst = dsts.getD i none := fun i hi o ho => by
    have h1 : ((os.take m).map (·.dst))[i]? = some o.dst := by rw [List.getElem?_map, List.getElem?_take, if_pos hi, ho]; rfl
    rw [hdst] at h1
    rw [List.getD_eq_getElem?_getD, h1]; rfl
  -- what may come up
  have key : ∀ (f : Nat) (listed : Array Bool) (ord held : List Nat) (vf : Nat → Value) (pf : Nat → List HP) (a : Act) (w : World), f + ord.length = os.length → Mid3 N w0 l env os m dps dsts R tau P0 listed ord held vf pf a w → wpAny P .any os.toArray Q f listed a w := by
    intro f
    induction f with
    | zero =>
      intro listed ord held vf pf a w hf h
      -- all are listed: m = the length
      have hall : ∀ i, i < os.length → i ∈ ord := by
        intro i hi
        have hsub : ord.Perm (List.range os.length) ∨ True := .inr trivial
        obtain ⟨r, hr⟩ := pick_perm ord (List.range os.length) h.nodup (fun j hj => by have := h.low j hj; simp; omega)
        have hl := hr.length_eq
        simp at hl
        have : r = [] := List.length_eq_zero_iff.1 (by omega)
        subst this
        have := hr.mem_iff.1 (List.mem_range.2 hi)
        simpa using this
      have hm2 : m = os.length := by
        by_cases hc : m < os.length
        · have := h.low m (hall m hc); omega
        · omega
      have hp : listed = preT os.length m := by
        apply Array.ext
        · rw [h.size, preT_size _ _ hml]
        · intro i h1 h2
          have hi : i < os.length := by rw [h.size] at h1; exact h1
          have e1 := (h.iff i hi).2 (hall i hi)
          have e2 := preT_get os.length m i hml hi
          rw [Array.getD_eq_getD_getElem?, Array.getElem?_eq_getElem h1] at e1
          rw [Array.getD_eq_getD_getElem?, Array.getElem?_eq_getElem h2] at e2
          simp only [Option.getD_some] at e1 e2
          rw [e1, e2]; simp; omega
      rw [hp]
      refine tail_any hrdy 0 m (Nat.le_refl _) (by omega) a w ?_
      exact fin vf pf h.hP (fun i hi => h.rel i (hall i (by omega))) a w (h.st hml' (fun j hj => hall j (by rw [List.mem_range] at hj; omega)) (h.mem.pick hfn (fun j hj => h.hall j ((hfl j hj).1.imp (fun hlt => hall j (by omega)) (fun x => x)) (fun k hk => (hfl j hj).2 k (h.low k hk)))))
    | succ f ih =>
      intro listed ord held vf pf a w hf h
      by_cases hall : ∀ i, i < m → i ∈ ord
      · -- the tail's turn
        have hp : listed = preT os.length m := by
          apply Array.ext
          · rw [h.size, preT_size _ _ hml]
          · intro i h1 h2
            have hi : i < os.length := by rw [h.size] at h1; exact h1
            have e1 := h.iff i hi
            have e2 := preT_get os.length m i hml hi
            rw [Array.getD_eq_getD_getElem?, Array.getElem?_eq_getElem h1] at e1
            rw [Array.getD_eq_getD_getElem?, Array.getElem?_eq_getElem h2] at e2
            simp only [Option.getD_some] at e1 e2
            rw [e2, Bool.eq_iff_iff, e1, decide_eq_true_eq]
            exact ⟨fun hx => h.low i hx, fun hx => hall i hx⟩
        have hord : ord.length = m := by
          obtain ⟨r, hr⟩ := pick_perm ord (List.range m) h.nodup (fun j hj => by have := h.low j hj; simpa using this)
          obtain ⟨r', hr'⟩ := pick_perm (List.range m) ord List.nodup_range (fun j hj => hall j (by simpa using hj))
          have h1 := hr.length_eq
          have h2 := hr'.length_eq
          simp at h1 h2
          omega
        rw [hp]
        refine tail_any hrdy (f + 1) m (Nat.le_refl _) (by omega) a w ?_
        exact fin vf pf h.hP (fun i hi => h.rel i (hall i hi)) a w (h.st hml' (fun j hj => hall j (by simpa using hj)) (h.mem.pick hfn (fun j hj => h.hall j ((hfl j hj).1.imp (fun hlt => hall j hlt) (fun x => x)) (fun k hk => (hfl j hj).2 k (h.low k hk)))))
      · -- some quiet one is not done yet
        have hsome : ∃ i, i < m ∧ i ∉ ord := by
          by_cases hx : ∃ i, i < m ∧ i ∉ ord
          · exact hx
          · exact absurd (fun i hi => Decidable.byContradiction fun hn => hx ⟨i, hi, hn⟩) hall
        have mem_rdy : ∀ i, i ∈ Region.ready .any os.toArray listed ↔ i < os.length ∧ i ∉ ord ∧ ∀ j ∈ depsOf os i, j ∈ ord := by
          intro i
          unfold Region.ready
          rw [List.mem_filter, List.mem_range]
          simp only [List.size_toArray]
          constructor
          · rintro ⟨hi, hb⟩
            rw [Bool.and_eq_true] at hb
            have hno : i ∉ ord := fun hx => by rw [(h.iff i hi).2 hx] at hb; simp at hb
            refine ⟨hi, hno, fun j hj => ?_⟩
            have ho : os.toArray[i]? = some os[i] := by simp [hi]
            rw [ho] at hb
            simp only [Option.map_some, Option.getD_some, Array.all_eq_true'] at hb
            unfold depsOf at hj
            rw [List.getElem?_eq_getElem hi] at hj
            simp only [List.mem_map, List.mem_filter] at hj
            obtain ⟨e, ⟨he, hbd⟩, rfl⟩ := hj
            have hb2 := hb.2 e (by simpa using he)
            rw [hbd] at hb2
            simp at hb2
            have hlt := hback i hi e.on (by unfold depsOf; rw [List.getElem?_eq_getElem hi]; exact List.mem_map.2 ⟨e, List.mem_filter.2 ⟨he, hbd⟩, rfl⟩)
            refine (h.iff e.on (by omega)).1 ?_
            have hs : e.on < listed.size := by rw [h.size]; omega
            rw [Array.getD_eq_getD_getElem?, Array.getElem?_eq_getElem hs] 
            simp only [Option.getD_some]
            rw [Array.getElem?_eq_getElem hs] at hb2
            simpa using hb2
          · rintro ⟨hi, hno, hd⟩
            refine ⟨hi, ?_⟩
            have ho : os.toArray[i]? = some os[i] := by simp [hi]
            rw [ho]
            simp only [Option.map_some, Option.getD_some, Bool.and_eq_true, Array.all_eq_true']
            refine ⟨?_, fun e he => ?_⟩
            · cases hb : listed.getD i true with
              | true => exact absurd ((h.iff i hi).1 hb) hno
              | false => rfl
            · rw [Bool.or_eq_true]
              by_cases hbd : Region.binds .any e = true
              rotate_left
              · left; simpa using hbd
              right
              have hon : e.on ∈ depsOf os i := by unfold depsOf; rw [List.getElem?_eq_getElem hi]; exact List.mem_map.2 ⟨e, List.mem_filter.2 ⟨by simpa using he, hbd⟩, rfl⟩
              have hlt := hback i hi e.on hon
              have := (h.iff e.on (by omega)).2 (hd e.on hon)
              have hs : e.on < listed.size := by rw [h.size]; omega
              rw [Array.getD_eq_getD_getElem?, Array.getElem?_eq_getElem hs] at this
              simp only [Option.getD_some] at this
              rw [Array.getD_eq_getD_getElem?, Array.getElem?_eq_getElem hs]
              simpa using this
        have hdep : ∀ k j, Dep os k j → (∀ d ∈ depsOf os k, d ∈ ord) → j ∈ ord := by
          intro k j hd
          induction hd with
          | one hj => intro hx; exact hx _ hj
          | more hk _ ih2 => intro hx; exact ih2 (fun d hd => h.closed _ (hx _ hk) d hd)
        have hlow : ∀ i ∈ Region.ready .any os.toArray listed, i < m := by
          intro i hi
          obtain ⟨h1, h2, h3⟩ := (mem_rdy i).1 hi
          by_cases hc : i < m
          · exact hc
          · exfalso
            obtain ⟨q, hq, hqn⟩ := hsome
            rcases hcov i h1 with h4 | h4
            · exact hc h4
            · exact hqn (hdep i q (hmsk i q (h4 q hq)) h3)
        refine ⟨fun h0 => ?_, fun i hi => ?_⟩
        · -- the least one that is not done may come up
          exfalso
          obtain ⟨q, hq, hqn⟩ := hsome
          obtain ⟨p, hp, hmin⟩ := exists_least (p := fun i => i < m ∧ i ∉ ord) ⟨q, hq, hqn⟩
          have : p ∈ Region.ready .any os.toArray listed := by
            rw [mem_rdy]
            refine ⟨by omega, hp.2, fun j hj => ?_⟩
            have hlt := hback p (by omega) j hj
            apply Decidable.byContradiction
            intro hn
            have := hmin j ⟨by omega, hn⟩
            omega
          rw [h0] at this
          cases this
        · have him := hlow i hi
          obtain ⟨h1, h2, h3⟩ := (mem_rdy i).1 hi
          have ho : os[i]? = some os[i] := List.getElem?_eq_getElem h1
          have hdps := hdp i him
          have hsub : ∀ j ∈ dps.getD i [], j ∈ ord := fun j hj => hdep i j (hmsk i j (hdps.1 j hj)) h3
          have hqi := hqd i him
          have hqheld : ∀ j ∈ qd.getD i [], j ∈ held := fun j hj => h.hall j (.inl (hsub j ((hqi.1 j hj).1))) (fun k hk => (hqi.1 j hj).2 k (h.low k hk))
          have hobl := due i os[i] ho him vf pf h.hP (fun j hj => h.rel j (hsub j hj))
          have hdd := dstAt i him _ ho
          have hdlt : ∀ d, dsts.getD i none = some d → d < N := fun d hd => by
            have := List.all_eq_true.1 hN (some d) (by rw [← hd, List.getD_eq_getElem?_getD, List.getElem?_eq_getElem (by omega)]; exact List.getElem_mem _)
            simpa [Nat.blt_eq] using this
          have hdnone : ∀ d, dsts.getD i none = some d → lk env d = none := fun d hd => by
            have := List.all_eq_true.1 hfresh (some d) (by rw [← hd, List.getD_eq_getElem?_getD, List.getElem?_eq_getElem (by omega)]; exact List.getElem_mem _)
            simpa using this
          have hne : ∀ j ∈ ord, j ≠ i := fun j hj e => h2 (e ▸ hj)
          have hneh : ∀ j ∈ held, j ≠ i := fun j hj e => by
            rcases h.hin j hj with h5 | h5
            · exact hne j h5 e
            · omega
          have next : ∀ (held' : List Nat) v post w', held'.Nodup → (∀ k ∈ held', k ∈ i :: ord ∨ (os.length ≤ k ∧ k < os.length + P0.length)) → (∀ k, (k ∈ i :: ord ∨ (os.length ≤ k ∧ k < os.length + P0.length)) → (∀ j ∈ i :: ord, tau.getD j none ≠ some k) → k ∈ held') → R i ((dps.getD i []).map vf) v post →
              Mem w0 (held'.flatMap (fun k => if k = i then post else pf k) ++ l) w' → wpAny P .any os.toArray Q f (listed.setIfInBounds i true) (a.put (dsts.getD i none) v) w' := by
            intro held' v post w' hh1 hh2 hh3 hv hm
            refine ih (listed.setIfInBounds i true) (i :: ord) held' (fun k => if k = i then v else vf k) (fun k => if k = i then post else pf k) _ w' (by simp; omega) ⟨?_, ?_, ?_, ?_, ?_, ?_, ?_, hh1, hh2, hh3, ?_, hm, ?_, ?_, ?_, ?_⟩
            · simp [h.size]
            · intro k hk
              by_cases hki : k = i
              · subst hki
                have hs : k < listed.size := by rw [h.size]; exact hk
                simp [Array.getD_eq_getD_getElem?, hs]
              · rw [getD_set_ne true (fun e => hki e.symm), h.iff k hk]
                simp [hki]
            · intro k hk; rcases List.mem_cons.1 hk with rfl | hk; exact him; exact h.low k hk
            · intro k hk j hj
              rcases List.mem_cons.1 hk with rfl | hk
              · exact List.mem_cons_of_mem _ (h3 j hj)
              · exact List.mem_cons_of_mem _ (h.closed k hk j hj)
            · exact List.nodup_cons.2 ⟨h2, h.nodup⟩
            · intro k hk j hj
              rcases List.mem_cons.1 hk with rfl | hk
              · exact List.mem_cons_of_mem _ (hsub j hj)
              · exact List.mem_cons_of_mem _ (h.dcl k hk j hj)
            · intro k hk
              rcases List.mem_cons.1 hk with rfl | hk
              · have e : (dps.getD k []).map (fun j => if j = k then v else vf j) = (dps.getD k []).map vf := List.map_congr_left fun j hj => if_neg (hne j (hsub j hj))
                rw [e, if_pos rfl, if_pos rfl]; exact hv
              · have e : (dps.getD k []).map (fun j => if j = i then v else vf j) = (dps.getD k []).map vf := List.map_congr_left fun j hj => if_neg (hne j (h.dcl k hk j hj))
                rw [e, if_neg (hne k hk), if_neg (hne k hk)]; exact h.rel k hk
            · intro k hk; rw [if_neg (by omega)]; exact h.hP k hk
            · cases hdi : dsts.getD i none <;> simp [Act.put, h.asize]
            · cases hdi : dsts.getD i none <;> exact h.defers
            · intro d u hd
              cases hdi : dsts.getD i none with
              | none => exact h.env d u hd
              | some d0 =>
                have hdne : d0 ≠ d := fun e => by rw [← e, hdnone _ hdi] at hd; cases hd
                simp only [Act.put]
                rw [Array.getElem?_setIfInBounds_ne hdne]
                exact h.env d u hd
            · intro k hk d hd
              cases hdi : dsts.getD i none with
              | none =>
                rcases List.mem_cons.1 hk with rfl | hk
                · rw [List.getD_eq_getElem?_getD, hd] at hdi; cases hdi
                · show a.tmps[d]? = _
                  rw [if_neg (hne k hk)]; exact h.slots k hk d hd
              | some d0 =>
                have hlt : d0 < a.tmps.size := by rw [h.asize]; exact hdlt _ hdi
                rcases List.mem_cons.1 hk with rfl | hk
                · have : d = d0 := by rw [List.getD_eq_getElem?_getD, hd] at hdi; exact Option.some.inj hdi
                  subst this
                  simp only [Act.put, if_true]
                  simp only [Array.getElem?_setIfInBounds_self_of_lt hlt]
                · have hdne : d0 ≠ d := by
                    intro e
                    have hk2 : k < dsts.length := (List.getElem?_eq_some_iff.1 hd).1
                    have hdk : dsts.getD k none = some d := by rw [List.getD_eq_getElem?_getD, hd]; rfl
                    rcases hdn i him k (by omega) with (hx | hx) | hx
                    · exact hne k hk hx.symm
                    · rw [hdi] at hx; cases hx
                    · exact hx (by rw [hdi, hdk, e])
                  simp only [Act.put]
                  rw [Array.getElem?_setIfInBounds_ne hdne, if_neg (hne k hk)]
                  exact h.slots k hk d hd
          unfold wpOp
          have hoa : os.toArray[i]? = some os[i] := by simp [h1]
          rw [hoa]
          simp only
          have hpost : ∀ (hs : List Nat) (post : List HP), (∀ k ∈ hs, k ≠ i) → (i :: hs).flatMap (fun k => if k = i then post else pf k) = post ++ hs.flatMap pf := fun hs post hx => by
            rw [List.flatMap_cons, if_pos rfl]
            congr 1
            rw [List.flatMap_def, List.flatMap_def]
            congr 1
            exact List.map_congr_left fun k hk => if_neg (hx k hk)
          cases ht : tau.getD i none with
          | none =>
            rw [ht] at hobl
            have hst := h.st hml' hsub (h.mem.pick hqi.2 hqheld)
            have next1 : ∀ v post w', R i ((dps.getD i []).map vf) v post → Mem w post w' → wpAny P .any os.toArray Q f (listed.setIfInBounds i true) (a.put (dsts.getD i none) v) w' := fun v post w' hv hm => by
              refine next (i :: held) v post w' (List.nodup_cons.2 ⟨fun hx => hneh i hx rfl, h.hn⟩) (fun k hk => ?_) (fun k hk hk2 => ?_) hv ?_
              · rcases List.mem_cons.1 hk with rfl | hk
                · exact .inl List.mem_cons_self
                · exact (h.hin k hk).imp (List.mem_cons_of_mem _) (fun x => x)
              · by_cases hki : k = i
                · rw [hki]; exact List.mem_cons_self
                · refine List.mem_cons_of_mem _ (h.hall k (hk.imp (fun hx => by rcases List.mem_cons.1 hx with hx | hx; exact absurd hx hki; exact hx) (fun x => x)) (fun j hj => hk2 j (List.mem_cons_of_mem _ hj)))
              · rw [hpost held post hneh, List.append_assoc]; exact h.mem.app hm
            rcases hobl with ⟨hw, hq⟩ | ⟨hw, hq⟩
            · rw [if_pos (hst.wanted hw)]
              refine .inl (hq a w hst Q _ fun v post w' hv hm => ?_)
              rw [hdd]
              exact next1 v post w' hv hm
            · rw [if_neg (by rw [hst.wanted hw]; decide), hdd]
              exact next1 undef [] w hq (Mem.refl w)
          | some hh =>
            rw [ht] at hobl
            have hth2 := hth i him
            rw [ht] at hth2
            simp only [Bool.and_eq_true, Bool.or_eq_true, Nat.ble_eq, Nat.blt_eq, beq_iff_eq, List.all_eq_true, List.mem_range, bne_iff_ne, List.contains_iff_mem] at hth2
            have hheld : hh ∈ held := h.hall hh (hth2.1.symm.imp (fun hx => hsub hh hx) (fun x => x)) (fun k hk => (hth2.2 k (h.low k hk)).resolve_left (hne k hk))
            have hperm := List.perm_cons_erase hheld
            have hmem : Mem w0 (pf hh ++ ((held.erase hh).flatMap pf ++ l)) w := by
              have := h.mem.perm ((hperm.flatMap_right pf).append_right l)
              rwa [List.flatMap_cons, List.append_assoc] at this
            have hnin : hh ∉ qd.getD i [] := fun hx => (hqi.1 hh hx).2 i him ht
            have hconv : ∀ w, Mem w0 ((held.erase hh).flatMap pf ++ l) w → Mem w0 ((qd.getD i []).flatMap pf ++ l) w := fun w hm => hm.pick hqi.2 (fun j hj => (List.mem_erase_of_ne (fun (e : j = hh) => hnin (by rw [← e]; exact hj))).2 (hqheld j hj))
            have hst := h.st hml' hsub hmem
            have hneh2 : ∀ k ∈ held.erase hh, k ≠ i := fun k hk => hneh k (List.mem_of_mem_erase hk)
            have next2 : ∀ v post w', R i ((dps.getD i []).map vf) v post → Mem w0 (post ++ ((held.erase hh).flatMap pf ++ l)) w' → wpAny P .any os.toArray Q f (listed.setIfInBounds i true) (a.put (dsts.getD i none) v) w' := fun v post w' hv hm => by
              refine next (i :: held.erase hh) v post w' (List.nodup_cons.2 ⟨fun hx => hneh2 i hx rfl, h.hn.erase hh⟩) (fun k hk => ?_) (fun k hk hk2 => ?_) hv ?_
              · rcases List.mem_cons.1 hk with rfl | hk
                · exact .inl List.mem_cons_self
                · exact (h.hin k (List.mem_of_mem_erase hk)).imp (List.mem_cons_of_mem _) (fun x => x)
              · by_cases hki : k = i
                · rw [hki]; exact List.mem_cons_self
                · have hkh : k ≠ hh := fun e => hk2 i List.mem_cons_self (by rw [ht, e])
                  exact List.mem_cons_of_mem _ ((List.mem_erase_of_ne hkh).2 (h.hall k (hk.imp (fun hx => by rcases List.mem_cons.1 hx with hx | hx; exact absurd hx hki; exact hx) (fun x => x)) (fun j hj => hk2 j (List.mem_cons_of_mem _ hj))))
              · rw [hpost _ post hneh2, List.append_assoc]; exact hm
            rcases hobl with ⟨hw, hq⟩ | ⟨hw, hq⟩
            · rw [if_pos (hst.wanted hw)]
              refine .inl (hq _ hconv a w hst Q _ fun v post w' hv hm => ?_)
              rw [hdd]
              exact next2 v post w' hv hm
            · rw [if_neg (by rw [hst.wanted hw]; decide), hdd]
              exact next2 undef (pf hh) w hq hmem
  refine key os.length (Array.replicate os.length false) [] ((List.range P0.length).map (os.length + ·)) (fun _ => undef) (fun k => if os.length ≤ k then P0.getD (k - os.length) [] else []) a _ (by simp) ⟨by simp, ?_, by simp, by simp, by simp, by simp, by simp, ?_, ?_, ?_, ?_, ?_, st.size, st.defers, st.env, by simp⟩
  · intro i hi; simp [hi]
  · exact nodup_shift _ _
  · intro i hi
    simp only [List.mem_map, List.mem_range] at hi
    obtain ⟨k, hk, rfl⟩ := hi
    exact .inr ⟨by omega, by omega⟩
  · rintro i (hi | ⟨h1, h2⟩) _
    · cases hi
    · simp only [List.mem_map, List.mem_range]; exact ⟨i - os.length, by omega, by omega⟩
  · intro k hk; rw [if_pos (by omega), Nat.add_sub_cancel_left]
  · have e : ((List.range P0.length).map (os.length + ·)).flatMap (fun k => if os.length ≤ k then P0.getD (k - os.length) [] else []) = P0.flatten := by
      rw [List.flatMap_map]
      have : (fun a : Nat => (if os.length ≤ os.length + a then P0.getD (os.length + a - os.length) [] else [])) = fun a => P0.getD a [] := by
        funext a; rw [if_pos (by omega), Nat.add_sub_cancel_left]
      rw [List.flatMap_def]
      rw [show (List.map (fun a : Nat => (if os.length ≤ os.length + a then P0.getD (os.length + a - os.length) [] else [])) (List.range P0.length)) = P0 from by rw [this]; exact range_getD P0]
    rw [e]; exact st.mem.drawn _
/-- each quiet operation's due, in the order of the text -/
def Dues3 (P : Program) (ops : Array Oper) (N : Nat) (w0 : World) (l : List HP) (env : List (Nat × Value)) (P0 : List (List HP)) (mu : Nat) (dsts : List (Option Nat)) (all qall : List (List Nat)) (tau : List (Option Nat)) (R : Nat → List Value → Value → List HP → Prop) : Nat → List (List Nat) → List Oper → Prop
  | _, _, [] => True
  | k, dss, o :: os => (∀ (vf : Nat → Value) (pf : Nat → List HP), (∀ k, k < P0.length → pf (mu + k) = P0.getD k []) → (∀ j ∈ all.getD k [], R j ((all.getD j []).map vf) (vf j) (pf j)) → Obl2 P ops N w0 (tau.getD k none) pf ((qall.getD k []).flatMap pf ++ l) (envOf3 dsts vf (all.getD k []) ++ env) o (R k ((all.getD k []).map vf))) ∧ Dues3 P ops N w0 l env P0 mu dsts all qall tau R (k + 1) dss os
theorem dues3_at {P : Program} {ops : Array Oper} {N : Nat} {w0 : World} {l : List HP} {env : List (Nat × Value)} {P0 : List (List HP)} {mu : Nat} {dsts : List (Option Nat)} {all qall : List (List Nat)} {tau : List (Option Nat)} {R : Nat → List Value → Value → List HP → Prop} : ∀ (os : List Oper) (dss : List (List Nat)) (k : Nat), Dues3 P ops N w0 l env P0 mu dsts all qall tau R k dss os → ∀ i o, os[i]? = some o → ∀ vf pf, (∀ k, k < P0.length → pf (mu + k) = P0.getD k []) → (∀ j ∈ all.getD (k + i) [], R j ((all.getD j []).map vf) (vf j) (pf j)) → Obl2 P ops N w0 (tau.getD (k + i) none) pf ((qall.getD (k + i) []).flatMap pf ++ l) (envOf3 dsts vf (all.getD (k + i) []) ++ env) o (R (k + i) ((all.getD (k + i) []).map vf))
  | [], _, _, _, i, o, ho, _, _, _, _ => by simp at ho
  | o' :: os, dss, k, h, 0, o, ho, vf, pf, hP, hR => by simp at ho; subst ho; exact h.1 vf pf hP hR
  | o' :: os, dss, k, h, i + 1, o, ho, vf, pf, hP, hR => by
    have e : k + 1 + i = k + (i + 1) := by omega
    have := dues3_at os dss (k + 1) h.2 i o (by simpa using ho) vf pf hP (by rw [e]; exact hR)
    rwa [e] at this
theorem hc_draw3 {id : Nat} (hmix : P.follows .mixedOrders = true) (m : Nat) (qs : List Nat) (quiet tail : List Oper) (dps : List (List Nat)) (dsts : List (Option Nat)) (R : Nat → List Value → Value → List HP → Prop) (qd : List (List Nat)) (tau : List (Option Nat)) (P0 : List (List HP)) (fl : List Nat) (mu : Nat)
    (hos : os = quiet ++ tail) (hq : (Nat.beq quiet.length m && (List.range m == qs) && Nat.beq os.length mu) = true) (hok : drawOk3 os m dps dsts = true) (htau : tauOk3 os m P0.length dps qd tau fl = true) (hfresh : dsts.all (fun d => match d with | some d => (lk env d).isNone | none => true) = true) (hN : dsts.all (fun d => match d with | some d => Nat.blt d N | none => true) = true)
    (due : Dues3 P os.toArray N w0 l env P0 mu dsts dps qd tau R 0 [] quiet)
    (fin : ∀ vf pf, (∀ k, k < P0.length → pf (mu + k) = P0.getD k []) → (∀ i, i < m → R i ((dps.getD i []).map vf) (vf i) (pf i)) → HL P N os.toArray w0 (fl.flatMap pf ++ l) (envOf3 dsts vf qs ++ env) tail Q) : HC P N w0 (P0.flatten ++ l) env (.region id os.toArray true) Q := by
  simp only [Bool.and_eq_true, Nat.beq_eq, beq_iff_eq] at hq
  obtain ⟨⟨hq1, hq2⟩, hq3⟩ := hq
  refine hc_drawn3 hmix m dps dsts R qd tau P0 fl hok htau hfresh hN (fun i o ho hi vf pf hP hR => ?_) (fun vf pf hP hR => ?_)
  · have ho' : quiet[i]? = some o := by rw [hos, List.getElem?_append_left (by omega)] at ho; exact ho
    have := dues3_at quiet [] 0 due i o ho' vf pf (by rw [← hq3]; exact hP) (by rw [Nat.zero_add]; exact hR)
    rwa [Nat.zero_add] at this
  · rw [hq2, hos, List.drop_left' hq1, ← hos]; exact fin vf pf (by rw [← hq3]; exact hP) hR
/-- a whole struct stored into a variable -/
theorem rm_storeBoxN {P0 X : List HP} {o : Oper} {t b off : Nat} {x y : Operand} {cs cs' : Array Value} {tb : TypeId} {us : List Value} (i : Nat) (hd : o.dst = none) (ho : o.op = .store t x y) (hs : (P.info? t).map (·.size) = some us.length)
    (hx : ev env x = some (.pointer (some ⟨b, off, none⟩))) (hy : ev env y = some (.agg us.toArray)) (hi : P0[i]? = some (boxE b cs tb)) (h1 : ∀ u ∈ us, u.oneCell' = true) (hlt : Nat.ble (off + us.length) cs.size = true) (hcs : putN cs off us = cs') :
    RunM P N w0 P0 X env o (fun v post => post = P0.set i (boxE b cs' tb)) := fun L hL a w st Q K hK => by
  subst hcs
  rw [Nat.ble_eq] at hlt
  have hil : i < P0.length := (List.getElem?_eq_some_iff.1 hi).1
  obtain ⟨w', hr, hm⟩ := run_storeN (P := P) (off := off) us 0 cs (P0 ++ L) w st.mem (by rw [List.getElem?_append_left hil]; exact hi) h1 (by omega)
  have hce : (Value.agg us.toArray).cells = us.toArray := rfl
  have hrun : (execOp a.eval o).run P w = .ok .skip w' := by simp [execOp, ho, st.eval hx, st.eval hy, Instr.storeAt, Instr.sureAddr, storeVar, hce, run_size hs, hr]
  unfold Oper.wp
  rw [hrun, Oper.upon_skip]
  exact hK undef _ w' rfl (by rw [List.set_append_left _ _ hil] at hm; exact hm)
end
open Go.RowKit
theorem enc_yes (d : Dev) (t : Tc) (h : tcOkV d t.val = true) (w : World) (ht : t.Rds w) : Calls Try.prog 53 #[.agg #[.int .i64 d.W, .int .i64 d.H, .int .i64 d.T, .int .i64 d.R], .agg #[t.mv, t.lv, .int .i64 t.pad, .int .i64 t.ram]] w (Ret w (fun v post => ∃ u, v = .tuple #[u, .bool true] ∧ post = [rowE 3 1 u (encV d t.val).length ((encV d t.val).map (Value.int .i64))])) :=
  (implEncodeTile_ret d t w ht).mono fun e w' ⟨v, p, he, ⟨u, hu, hp⟩, hm⟩ => ⟨v, p, he, ⟨u, by rw [hu, h], hp⟩, hm⟩
theorem dec_yes (d : Dev) (t : Tc) (h : tcOkV d t.val = true) (v : Value) (w : World) (hv : RdsW w v 1 (encV d t.val).length ((encV d t.val).map (Value.int .i64))) (hlen : (encV d t.val).length ≤ 2000000) :
    Calls Try.prog 49 #[.agg #[.int .i64 d.W, .int .i64 d.H, .int .i64 d.T, .int .i64 d.R], v] w (Ret w (fun v post => ∃ y : Tc, v = .tuple #[y.agg, .bool true] ∧ post = [tcE y] ∧ (y.mv.oneCell' = true ∧ y.lv.oneCell' = true) ∧ y.val = t.val ∧ y.mx.length ≤ 2000000 ∧ y.es.length ≤ 2000000 ∧ ∀ e ∈ y.es, e.xs.length ≤ 2000000)) :=
  (implDecodeTile_ret d _ v w hv hlen).mono fun e w' ⟨v, p, he, ⟨y, hy, hp, h1, h2, h3⟩, hm⟩ => by
    obtain ⟨e1, e2, -⟩ := dec_enc d t.val h
    exact ⟨v, p, he, ⟨y, by rw [hy, e2], hp, h1, by rw [h2, e1], h3⟩, hm⟩
theorem sameTile_enc {d : Dev} {a b : Tc} (ha : tcOkV d a.val = true) (hb : tcOkV d b.val = true) {w : World} (h : Calls Try.prog 69 #[.agg #[a.mv, a.lv, .int .i64 a.pad, .int .i64 a.ram], .agg #[b.mv, b.lv, .int .i64 b.pad, .int .i64 b.ram]] w (Ans w (.bool (decide (a.val = b.val))))) :
    Calls Try.prog 69 #[.agg #[a.mv, a.lv, .int .i64 a.pad, .int .i64 a.ram], .agg #[b.mv, b.lv, .int .i64 b.pad, .int .i64 b.ram]] w (Ans w (.bool (decide (encV d a.val = encV d b.val)))) := by
  have e : decide (encV d a.val = encV d b.val) = decide (a.val = b.val) := by simp only [enc_inj d _ _ ha hb]
  rw [e]; exact h
set_option maxHeartbeats 4000000 in
set_option maxRecDepth 100000 in
theorem DrawTile_ret (a : Option Addr) (len cap : Nat) (z : List Int) (w : World) (hb : BRow .u8 w a len cap z) (hlen : len ≤ 1048576) :
  Calls Try.prog 66 #[.slice a len cap] w (Ret w (fun v' post => ∃ (d : Dev) (x : Int) (t : Tc), Drawn d ∧ (0 ≤ x ∧ x < d.W * d.H) ∧ tcOkV d t.val = true ∧ v' = .tuple #[.agg #[.int .i64 d.W, .int .i64 d.H, .int .i64 d.T, .int .i64 d.R], .int .i64 x, t.agg] ∧ post = [tcE t] ∧ (t.mv.oneCell' = true ∧ t.lv.oneCell' = true) ∧ t.mx.length ≤ 2000000 ∧ t.es.length ≤ 2000000 ∧ ∀ e ∈ t.es, e.xs.length ≤ 2000000)) := by
 refine calls_hc (N := 25) (args := [.slice a len cap]) Try.func66 rfl rfl ?_
 refine hc_less _ (sx 0 rfl (sub_nil _)) (.refl _) ?_
 refine hc_seq ?_
 refine hc_region ?_
 refine hl_box rfl rfl rfl (rq_alloc (z := .agg #[.int .i64 0, .int .i64 0, .int .i64 0, .int .i64 0]) rfl (by kernel_rfl)) ?_
 intro b1
 refine hl_v rfl rfl rfl (rv_ev rfl) ?_
 refine hl_box rfl rfl rfl (rq_alloc (z := .agg #[.slice none 0 0, .slice none 0 0, .int .i64 0, .int .i64 0]) rfl (by kernel_rfl)) ?_
 intro b2
 refine hl_less (sx 0 rfl (sx 2 rfl (sx 3 rfl (sx 4 rfl (sub_nil _))))) (.refl _) ?_
 refine hl_nil ?_
 refine hq_then ?_
 refine hc_seq ?_
 refine hc_region ?_
 refine hl_v rfl rfl rfl (rv_ev rfl) ?_
 refine hl_q rfl rfl rfl (rq_call (by kernel_rfl) rfl (fun w hm => new_ret (hb.below hm.bel) hlen)) ?_
 intro v3 p4 hR5
 obtain ⟨ghR5, rfl, rfl⟩ := hR5
 refine hl_v rfl rfl rfl (rv_ev rfl) ?_
 refine hl_less (sx 0 rfl (sx 2 rfl (sx 3 rfl (sx 4 rfl (sx 5 rfl (sub_nil _)))))) (.refl _) ?_
 refine hl_nil ?_
 refine hq_then ?_
 refine hc_seq ?_
 refine hc_region ?_
 refine hl_v rfl rfl rfl (rv_ev rfl) ?_
 refine hl_callM (R := (fun u_ p_ => (∃ d : Dev, Drawn d ∧ u_ = .agg #[.int .i64 d.W, .int .i64 d.H, .int .i64 d.T, .int .i64 d.R]) ∧ p_ = curE ghR5 a len cap)) 0 rfl rfl (by kernel_rfl) rfl rfl (fun l' w hm => device_mut hm hb) ?_
 intro v6 p7 hR8
 obtain ⟨⟨d, hdr, rfl⟩, rfl⟩ := hR8
 have hd := hdr.ok
 obtain ⟨dr1, dr2, dr3, dr4, dr5, dr6, -⟩ := id hdr
 have har : 0 ≤ (d.W - 1) * (d.H - 1) ∧ 0 ≤ (5 - d.W) * d.H := ⟨Int.mul_nonneg (by omega) (by omega), Int.mul_nonneg (by omega) (by omega)⟩
 have e1 : (d.W - 1) * (d.H - 1) = d.W * d.H - d.W - d.H + 1 := by rw [Int.sub_mul, Int.mul_sub]; omega
 have e2 : (5 - d.W) * d.H = 5 * d.H - d.W * d.H := by rw [Int.sub_mul]
 rw [e1, e2] at har
 refine hl_eqL (l' := [curE ghR5 a len cap, boxE b2 #[.slice none 0 0, .slice none 0 0, .int .i64 0, .int .i64 0] 39, boxE b1 #[.int .i64 0, .int .i64 0, .int .i64 0, .int .i64 0] 25]) rfl ?_
 refine hl_box rfl rfl rfl (rq_alloc (z := .agg #[.int .i64 0, .int .i64 0, .int .i64 0, .int .i64 0]) rfl (by kernel_rfl)) ?_
 intro b9
 refine hl_storeBoxN (i := 0) (off := 0) (us := [.int .i64 d.W, .int .i64 d.H, .int .i64 d.T, .int .i64 d.R]) (l' := [boxE b9 #[.int .i64 d.W, .int .i64 d.H, .int .i64 d.T, .int .i64 d.R] 25, curE ghR5 a len cap, boxE b2 #[.slice none 0 0, .slice none 0 0, .int .i64 0, .int .i64 0] 39, boxE b1 #[.int .i64 0, .int .i64 0, .int .i64 0, .int .i64 0] 25]) rfl rfl rfl (by kernel_rfl) rfl rfl rfl (all_cons rfl (all_cons rfl (all_cons rfl (all_cons rfl all_nil)))) rfl rfl rfl ?_
 refine hl_less (sx 0 rfl (sx 2 rfl (sx 3 rfl (sx 4 rfl (sx 5 rfl (sx 6 rfl (sub_nil _))))))) (.refl _) ?_
 refine hl_nil ?_
 refine hq_then ?_
 refine hc_seq ?_
 refine hc_region ?_
 refine hl_v rfl rfl rfl (rv_ev rfl) ?_
 refine hl_v rfl rfl rfl (rv_field (k0 := 0) rfl (by kernel_rfl) rfl) ?_
 refine hl_v rfl rfl rfl (rv_load rfl (by kernel_rfl) rfl (box_cell 0 rfl rfl)) ?_
 refine hl_v rfl rfl rfl (rv_field (k0 := 1) rfl (by kernel_rfl) rfl) ?_
 refine hl_v rfl rfl rfl (rv_load rfl (by kernel_rfl) rfl (box_cell 0 rfl rfl)) ?_
 refine hl_v rfl rfl rfl (rv_mul rfl rfl rfl (by constructor <;> omega)) ?_
 refine hl_callM (R := (fun u_ p_ => (∃ x_ : Int, u_ = .int .i64 x_ ∧ 0 ≤ x_ ∧ x_ < d.W * d.H) ∧ p_ = curE ghR5 a len cap)) 1 rfl rfl (by kernel_rfl) rfl rfl (fun l' w hm => belowN_mut ghR5 a len cap z (d.W * d.H) _ _ _ hm hb (by constructor <;> omega)) ?_
 intro v10 p11 hR12
 obtain ⟨⟨xhR12, rfl, xhR120, xhR121⟩, rfl⟩ := hR12
 refine hl_eqL (l' := [boxE b9 #[.int .i64 d.W, .int .i64 d.H, .int .i64 d.T, .int .i64 d.R] 25, curE ghR5 a len cap, boxE b2 #[.slice none 0 0, .slice none 0 0, .int .i64 0, .int .i64 0] 39, boxE b1 #[.int .i64 0, .int .i64 0, .int .i64 0, .int .i64 0] 25]) rfl ?_
 refine hl_v rfl rfl rfl (rv_ev rfl) ?_
 refine hl_less (sx 0 rfl (sx 2 rfl (sx 3 rfl (sx 4 rfl (sx 5 rfl (sx 6 rfl (sx 7 rfl (sub_nil _)))))))) (.refl _) ?_
 refine hl_nil ?_
 refine hq_then ?_
 refine hc_seq ?_
 refine hc_less _ (sx 0 rfl (sx 2 rfl (sx 4 rfl (sx 5 rfl (sx 6 rfl (sx 7 rfl (sub_nil _))))))) (.refl _) ?_
 refine hc_conv [curE ghR5 a len cap, boxE b1 #[.int .i64 0, .int .i64 0, .int .i64 0, .int .i64 0] 25, boxE b2 #[.slice none 0 0, .slice none 0 0, .int .i64 0, .int .i64 0] 39, boxE b9 #[.int .i64 d.W, .int .i64 d.H, .int .i64 d.T, .int .i64 d.R] 25] (conv_pick (src := [boxE b9 #[.int .i64 d.W, .int .i64 d.H, .int .i64 d.T, .int .i64 d.R] 25, curE ghR5 a len cap, boxE b2 #[.slice none 0 0, .slice none 0 0, .int .i64 0, .int .i64 0] 39, boxE b1 #[.int .i64 0, .int .i64 0, .int .i64 0, .int .i64 0] 25]) (dst := [curE ghR5 a len cap, boxE b1 #[.int .i64 0, .int .i64 0, .int .i64 0, .int .i64 0] 25, boxE b2 #[.slice none 0 0, .slice none 0 0, .int .i64 0, .int .i64 0] 39, boxE b9 #[.int .i64 d.W, .int .i64 d.H, .int .i64 d.T, .int .i64 d.R] 25]) (l := []) [1, 3, 2, 0] (by decide) rfl) ?_
 refine hc_draw3 (l := [boxE b9 #[.int .i64 d.W, .int .i64 d.H, .int .i64 d.T, .int .i64 d.R] 25]) (by kernel_rfl) 9 [0, 1, 2, 3, 4, 5, 6, 7, 8] (List.take 9 _) (List.drop 9 _) [[], [], [], [], [], [2, 3, 4], [0], [1], [5]] [some 19, some 20, some 21, some 22, some 23, some 24, none, some 3, none] (fun i vs_ v_ p_ => match i with | 0 => v_ = .agg #[.int .i64 d.W, .int .i64 d.H, .int .i64 d.T, .int .i64 d.R] ∧ p_ = [] | 1 => v_ = .int .i64 xhR12 ∧ p_ = [] | 2 => v_ = .pointer (some ⟨ghR5, 0, none⟩) ∧ p_ = [] | 3 => v_ = .agg #[.int .i64 d.W, .int .i64 d.H, .int .i64 d.T, .int .i64 d.R] ∧ p_ = [] | 4 => v_ = .int .i64 xhR12 ∧ p_ = [] | 5 => (∃ pm_, p_ = [pm_] ∧ (fun u_ p_ => ∃ t : Tc, u_ = t.agg ∧ p_ = bigE [curE ghR5 a len cap, tcE t] ∧ (t.mv.oneCell' = true ∧ t.lv.oneCell' = true) ∧ tcOkV d t.val = true ∧ t.mx.length ≤ 2000000 ∧ t.es.length ≤ 2000000 ∧ ∀ e ∈ t.es, e.xs.length ≤ 2000000) v_ pm_) | 6 => p_ = [boxE b1 #[.int .i64 d.W, .int .i64 d.H, .int .i64 d.T, .int .i64 d.R] 25] | 7 => v_ = .int .i64 xhR12 ∧ p_ = [] | 8 => p_ = [boxE b2 #[(aggAt (List.getD vs_ 0 undef) 0), (aggAt (List.getD vs_ 0 undef) 1), .int .i64 (intOf_o (aggAt (List.getD vs_ 0 undef) 2)), .int .i64 (intOf_o (aggAt (List.getD vs_ 0 undef) 3))] 39] | _ => True) [[], [], [], [], [], [2, 3, 4], [0], [1], [5]] [none, none, none, none, none, some 9, some 10, none, some 11] [[curE ghR5 a len cap], [boxE b1 #[.int .i64 0, .int .i64 0, .int .i64 0, .int .i64 0] 25], [boxE b2 #[.slice none 0 0, .slice none 0 0, .int .i64 0, .int .i64 0] 39]] [0, 1, 2, 3, 4, 5, 6, 7, 8] 9 (List.take_append_drop 9 _).symm (by kernel_rfl) (by kernel_rfl) (by kernel_rfl) rfl rfl ?_ ?_
 ·
  refine ⟨?_, ?_, ?_, ?_, ?_, ?_, ?_, ?_, ?_, trivial⟩
  ·
   intro vf pf hmu hR
   refine Or.inl ⟨rfl, ?_⟩
   show RunQ _ _ _ (([] : List Nat).flatMap pf ++ _) (envOf3 _ vf [] ++ _) _ _
   refine rq_less (sx 6 rfl (sub_nil _)) (List.sublist_append_right _ _) ?_
   exact rq_v (rv_loadN (cs := [.int .i64 d.W, .int .i64 d.H, .int .i64 d.T, .int .i64 d.R]) rfl (by kernel_rfl) (by kernel_rfl) rfl rfl (box_part 0 rfl 0 rfl))
  ·
   intro vf pf hmu hR
   refine Or.inl ⟨rfl, ?_⟩
   show RunQ _ _ _ (([] : List Nat).flatMap pf ++ _) (envOf3 _ vf [] ++ _) _ _
   refine rq_less (sx 7 rfl (sub_nil _)) (List.sublist_append_right _ _) ?_
   exact rq_v (rv_ev rfl)
  ·
   intro vf pf hmu hR
   refine Or.inl ⟨rfl, ?_⟩
   show RunQ _ _ _ (([] : List Nat).flatMap pf ++ _) (envOf3 _ vf [] ++ _) _ _
   refine rq_less (sx 5 rfl (sub_nil _)) (List.sublist_append_right _ _) ?_
   exact rq_v (rv_ev rfl)
  ·
   intro vf pf hmu hR
   refine Or.inl ⟨rfl, ?_⟩
   show RunQ _ _ _ (([] : List Nat).flatMap pf ++ _) (envOf3 _ vf [] ++ _) _ _
   refine rq_less (sx 6 rfl (sub_nil _)) (List.sublist_append_right _ _) ?_
   exact rq_v (rv_loadN (cs := [.int .i64 d.W, .int .i64 d.H, .int .i64 d.T, .int .i64 d.R]) rfl (by kernel_rfl) (by kernel_rfl) rfl rfl (box_part 0 rfl 0 rfl))
  ·
   intro vf pf hmu hR
   refine Or.inl ⟨rfl, ?_⟩
   show RunQ _ _ _ (([] : List Nat).flatMap pf ++ _) (envOf3 _ vf [] ++ _) _ _
   refine rq_less (sx 7 rfl (sub_nil _)) (List.sublist_append_right _ _) ?_
   exact rq_v (rv_ev rfl)
  ·
   intro vf pf hmu hR
   have e2 : (vf 2) = .pointer (some ⟨ghR5, 0, none⟩) ∧ (pf 2) = [] := hR 2 (by decide)
   have e3 : (vf 3) = .agg #[.int .i64 d.W, .int .i64 d.H, .int .i64 d.T, .int .i64 d.R] ∧ (pf 3) = [] := hR 3 (by decide)
   have e4 : (vf 4) = .int .i64 xhR12 ∧ (pf 4) = [] := hR 4 (by decide)
   refine Or.inl ⟨rfl, ?_⟩
   show RunM _ _ _ (pf 9) (([2, 3, 4] : List Nat).flatMap pf ++ _) (envOf3 _ vf [2, 3, 4] ++ _) _ _
   have hmu0 : pf 9 = [curE ghR5 a len cap] := hmu 0 (show 0 < 3 by omega)
   rw [hmu0]
   refine rm_less (X' := [boxE b9 #[.int .i64 d.W, .int .i64 d.H, .int .i64 d.T, .int .i64 d.R] 25]) (sx 21 (congrArg some e2.1) (sx 22 (congrArg some e3.1) (sx 23 (congrArg some e4.1) (sub_nil _)))) (by first | (simp only [e2.2, e3.2, e4.2, List.flatMap_cons, List.flatMap_nil, List.append_nil, List.nil_append, List.cons_append]; exact List.Sublist.refl _) | simp [e2.2, e3.2, e4.2]) ?_
   exact rq_callM (R := (fun u_ p_ => ∃ t : Tc, u_ = t.agg ∧ p_ = bigE [curE ghR5 a len cap, tcE t] ∧ (t.mv.oneCell' = true ∧ t.lv.oneCell' = true) ∧ tcOkV d t.val = true ∧ t.mx.length ≤ 2000000 ∧ t.es.length ≤ 2000000 ∧ ∀ e ∈ t.es, e.xs.length ≤ 2000000)) (by kernel_rfl) rfl (fun L w hX hm => l38Tile_mut ghR5 a len cap z d _ _ _ _ hm hb hd)
  ·
   intro vf pf hmu hR
   have e0 : (vf 0) = .agg #[.int .i64 d.W, .int .i64 d.H, .int .i64 d.T, .int .i64 d.R] ∧ (pf 0) = [] := hR 0 (by decide)
   refine Or.inl ⟨rfl, ?_⟩
   show RunM _ _ _ (pf 10) (([0] : List Nat).flatMap pf ++ _) (envOf3 _ vf [0] ++ _) _ _
   have hmu1 : pf 10 = [boxE b1 #[.int .i64 0, .int .i64 0, .int .i64 0, .int .i64 0] 25] := hmu 1 (show 1 < 3 by omega)
   rw [hmu1]
   refine rm_less (X' := [boxE b9 #[.int .i64 d.W, .int .i64 d.H, .int .i64 d.T, .int .i64 d.R] 25]) (sx 2 rfl (sx 19 (congrArg some e0.1) (sub_nil _))) (by first | (simp only [e0.2, List.flatMap_cons, List.flatMap_nil, List.append_nil, List.nil_append, List.cons_append]; exact List.Sublist.refl _) | simp [e0.2]) ?_
   exact rm_mono (rm_storeBoxN (us := [.int .i64 d.W, .int .i64 d.H, .int .i64 d.T, .int .i64 d.R]) (off := 0) 0 rfl rfl (by kernel_rfl) rfl rfl rfl (all_cons rfl (all_cons rfl (all_cons rfl (all_cons rfl all_nil)))) rfl rfl) (fun v_ p_ h => by show p_ = [boxE b1 #[.int .i64 d.W, .int .i64 d.H, .int .i64 d.T, .int .i64 d.R] 25]; exact h)
  ·
   intro vf pf hmu hR
   have e1 : (vf 1) = .int .i64 xhR12 ∧ (pf 1) = [] := hR 1 (by decide)
   refine Or.inl ⟨rfl, ?_⟩
   show RunQ _ _ _ (([1] : List Nat).flatMap pf ++ _) (envOf3 _ vf [1] ++ _) _ _
   refine rq_less (sx 20 (congrArg some e1.1) (sub_nil _)) (List.sublist_append_right _ _) ?_
   exact rq_v (rv_ev rfl)
  ·
   intro vf pf hmu hR
   have e5 : (∃ pm_, (pf 5) = [pm_] ∧ (fun u_ p_ => ∃ t : Tc, u_ = t.agg ∧ p_ = bigE [curE ghR5 a len cap, tcE t] ∧ (t.mv.oneCell' = true ∧ t.lv.oneCell' = true) ∧ tcOkV d t.val = true ∧ t.mx.length ≤ 2000000 ∧ t.es.length ≤ 2000000 ∧ ∀ e ∈ t.es, e.xs.length ≤ 2000000) (vf 5) pm_) := hR 5 (by decide)
   obtain ⟨p14, p5, hR15⟩ := e5
   obtain ⟨v13, v5⟩ : ∃ x, vf 5 = x := ⟨_, rfl⟩
   rw [v5] at hR15
   obtain ⟨t, rfl, rfl, ⟨c1t, c2t⟩, okt, n1t, n2t, n3t⟩ := hR15
   refine Or.inl ⟨rfl, ?_⟩
   show RunM _ _ _ (pf 11) (([5] : List Nat).flatMap pf ++ _) (envOf3 _ vf [5] ++ _) _ _
   have hmu2 : pf 11 = [boxE b2 #[.slice none 0 0, .slice none 0 0, .int .i64 0, .int .i64 0] 39] := hmu 2 (show 2 < 3 by omega)
   rw [hmu2]
   refine rm_less (X' := [bigE [curE ghR5 a len cap, tcE t], boxE b9 #[.int .i64 d.W, .int .i64 d.H, .int .i64 d.T, .int .i64 d.R] 25]) (sx 4 rfl (sx 24 (congrArg some v5) (sub_nil _))) (by first | (simp only [p5, v5, List.flatMap_cons, List.flatMap_nil, List.append_nil, List.nil_append, List.cons_append]; exact List.Sublist.refl _) | simp [p5, v5]) ?_
   exact rm_mono (rm_storeBoxN (us := [t.mv, t.lv, .int .i64 t.pad, .int .i64 t.ram]) (off := 0) 0 rfl rfl (by kernel_rfl) rfl rfl rfl (all_cons c1t (all_cons c2t (all_cons rfl (all_cons rfl all_nil)))) rfl rfl) (fun v_ p_ h => by show p_ = [boxE b2 #[(aggAt (vf 5) 0), (aggAt (vf 5) 1), .int .i64 (intOf_o (aggAt (vf 5) 2)), .int .i64 (intOf_o (aggAt (vf 5) 3))] 39]; rw [v5]; exact h)
 ·
  intro vf pf hmu hR
  have e5 : (∃ pm_, (pf 5) = [pm_] ∧ (fun u_ p_ => ∃ t : Tc, u_ = t.agg ∧ p_ = bigE [curE ghR5 a len cap, tcE t] ∧ (t.mv.oneCell' = true ∧ t.lv.oneCell' = true) ∧ tcOkV d t.val = true ∧ t.mx.length ≤ 2000000 ∧ t.es.length ≤ 2000000 ∧ ∀ e ∈ t.es, e.xs.length ≤ 2000000) (vf 5) pm_) := hR 5 (by decide)
  obtain ⟨p14, p5, hR15⟩ := e5
  obtain ⟨v13, v5⟩ : ∃ x, vf 5 = x := ⟨_, rfl⟩
  rw [v5] at hR15
  obtain ⟨t, rfl, rfl, ⟨c1t, c2t⟩, okt, n1t, n2t, n3t⟩ := hR15
  have e6 : (pf 6) = [boxE b1 #[.int .i64 d.W, .int .i64 d.H, .int .i64 d.T, .int .i64 d.R] 25] := hR 6 (by decide)
  have p6 := e6
  have e7 : (vf 7) = .int .i64 xhR12 ∧ (pf 7) = [] := hR 7 (by decide)
  have e8 : (pf 8) = [boxE b2 #[(aggAt (vf 5) 0), (aggAt (vf 5) 1), .int .i64 (intOf_o (aggAt (vf 5) 2)), .int .i64 (intOf_o (aggAt (vf 5) 3))] 39] := hR 8 (by decide)
  rw [v5] at e8
  have p8 := e8
  have q0 : (vf 0) = .agg #[.int .i64 d.W, .int .i64 d.H, .int .i64 d.T, .int .i64 d.R] ∧ (pf 0) = [] := hR 0 (by decide)
  have q1 : (vf 1) = .int .i64 xhR12 ∧ (pf 1) = [] := hR 1 (by decide)
  have q2 : (vf 2) = .pointer (some ⟨ghR5, 0, none⟩) ∧ (pf 2) = [] := hR 2 (by decide)
  have q3 : (vf 3) = .agg #[.int .i64 d.W, .int .i64 d.H, .int .i64 d.T, .int .i64 d.R] ∧ (pf 3) = [] := hR 3 (by decide)
  have q4 : (vf 4) = .int .i64 xhR12 ∧ (pf 4) = [] := hR 4 (by decide)
  have q7 : (vf 7) = .int .i64 xhR12 ∧ (pf 7) = [] := hR 7 (by decide)
  refine hl_less (l' := [bigE [curE ghR5 a len cap, tcE t], boxE b1 #[.int .i64 d.W, .int .i64 d.H, .int .i64 d.T, .int .i64 d.R] 25, boxE b2 #[t.mv, t.lv, .int .i64 t.pad, .int .i64 t.ram] 39, boxE b9 #[.int .i64 d.W, .int .i64 d.H, .int .i64 d.T, .int .i64 d.R] 25]) (sx 0 rfl (sx 2 rfl (sx 3 (congrArg some e7.1) (sx 4 rfl (sx 5 rfl (sx 6 rfl (sx 7 rfl (sub_nil _)))))))) (by first | (simp only [p5, v5, p6, p8, q0.2, q1.2, q2.2, q3.2, q4.2, q7.2, List.flatMap_cons, List.flatMap_nil, List.append_nil, List.nil_append, List.cons_append]; exact List.Sublist.refl _) | simp [p5, v5, p6, p8, q0.2, q1.2, q2.2, q3.2, q4.2, q7.2]) ?_
  simp only [List.drop_succ_cons, List.drop_zero]
  refine hl_less (sx 0 rfl (sx 2 rfl (sx 3 rfl (sx 4 rfl (sx 5 rfl (sx 6 rfl (sx 7 rfl (sub_nil _)))))))) (.refl _) ?_
  refine hl_nil ?_
  refine hq_then ?_
  refine hc_ret ?_
  refine hq_conv [bigE [curE ghR5 a len cap, tcE t], boxE b1 #[.int .i64 d.W, .int .i64 d.H, .int .i64 d.T, .int .i64 d.R] 25, boxE b2 #[t.mv, t.lv, .int .i64 t.pad, .int .i64 t.ram] 39, boxE b9 #[.int .i64 d.W, .int .i64 d.H, .int .i64 d.T, .int .i64 d.R] 25] (conv_pick (src := [bigE [curE ghR5 a len cap, tcE t], boxE b1 #[.int .i64 d.W, .int .i64 d.H, .int .i64 d.T, .int .i64 d.R] 25, boxE b2 #[t.mv, t.lv, .int .i64 t.pad, .int .i64 t.ram] 39, boxE b9 #[.int .i64 d.W, .int .i64 d.H, .int .i64 d.T, .int .i64 d.R] 25]) (dst := [bigE [curE ghR5 a len cap, tcE t], boxE b1 #[.int .i64 d.W, .int .i64 d.H, .int .i64 d.T, .int .i64 d.R] 25, boxE b2 #[t.mv, t.lv, .int .i64 t.pad, .int .i64 t.ram] 39, boxE b9 #[.int .i64 d.W, .int .i64 d.H, .int .i64 d.T, .int .i64 d.R] 25]) (l := []) [0, 1, 2, 3] (by decide) rfl) ?_
  refine hq_conv [curE ghR5 a len cap, tcE t, boxE b1 #[.int .i64 d.W, .int .i64 d.H, .int .i64 d.T, .int .i64 d.R] 25, boxE b2 #[t.mv, t.lv, .int .i64 t.pad, .int .i64 t.ram] 39, boxE b9 #[.int .i64 d.W, .int .i64 d.H, .int .i64 d.T, .int .i64 d.R] 25] conv_unbig ?_
  exact hq_retM (rs := [.cell 2 25, .tmp 3, .cell 4 39]) (vs := [.agg #[.int .i64 d.W, .int .i64 d.H, .int .i64 d.T, .int .i64 d.R], .int .i64 xhR12, .agg #[t.mv, t.lv, .int .i64 t.pad, .int .i64 t.ram]]) (post := [tcE t]) rfl ⟨⟨b1, 0, [.int .i64 d.W, .int .i64 d.H, .int .i64 d.T, .int .i64 d.R], rfl, rfl, by kernel_rfl, by kernel_rfl, box_part 2 rfl 0 rfl⟩, rfl, ⟨b2, 0, [t.mv, t.lv, .int .i64 t.pad, .int .i64 t.ram], rfl, rfl, by kernel_rfl, by kernel_rfl, box_part 3 rfl 0 rfl⟩, trivial⟩ rfl ((.cons _ (.cons_cons _ (.cons _ (.cons _ (.cons _ .slnil)))))) ⟨d, xhR12, t, hdr, ⟨by omega, by omega⟩, okt, rfl, rfl, ⟨c1t, c2t⟩, n1t, n2t, n3t⟩
open Go.RowKit
open Go.RowKit
open Go.RowKit
end Go.Proofs.Ytnnkbpcfjjijbaa
