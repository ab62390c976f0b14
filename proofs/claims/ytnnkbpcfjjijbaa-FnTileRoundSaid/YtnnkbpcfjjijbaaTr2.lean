/- Texts of the law FnTileRound, part 2: what it uses. -/
import Derived.Test.YtnnkbpcfjjijbaaTr1
set_option linter.unusedVariables false
set_option linter.unusedSimpArgs false
namespace Go.Proofs.Ytnnkbpcfjjijbaa
open Go.RowKit Go.ChangeShapes
open Go.RowKit
set_option maxHeartbeats 4000000 in
set_option maxRecDepth 100000 in
theorem implTileConfigOk_ans (d : Dev) (t : Tc) (w : World) (ht : t.Rds w) :
  Calls Try.prog 40 #[.agg #[.int .i64 d.W, .int .i64 d.H, .int .i64 d.T, .int .i64 d.R], .agg #[t.mv, t.lv, .int .i64 t.pad, .int .i64 t.ram]] w (Ans w (.bool (tcOkV d t.val))) := by
 have hn1 := ht.nmx
 have hn2 := ht.nes
 refine calls_hc (N := 59) (args := [.agg #[.int .i64 d.W, .int .i64 d.H, .int .i64 d.T, .int .i64 d.R], .agg #[t.mv, t.lv, .int .i64 t.pad, .int .i64 t.ram]]) Try.func40 rfl rfl ?_
 refine hc_less _ (sx 0 rfl (sx 1 rfl (sub_nil _))) (.refl _) ?_
 refine hc_seq ?_
 refine hc_region ?_
 refine hl_box rfl rfl rfl (rq_box rfl rfl) ?_
 intro b1
 refine hl_box rfl rfl rfl (rq_box rfl rfl) ?_
 intro b2
 refine hl_v rfl rfl rfl (rv_ev rfl) ?_
 refine hl_less (sx 0 rfl (sx 1 rfl (sx 2 rfl (sx 3 rfl (sx 4 rfl (sub_nil _)))))) (.refl _) ?_
 refine hl_nil ?_
 refine hq_then ?_
 refine hc_seq ?_
 refine hc_seq ?_
 rcases Bool.eq_false_or_eq_true (devB d) with hb3 | hb3
 ·
  obtain ⟨-, -, ⟨l1, l2⟩, -⟩ := (devB_iff d).1 hb3
  rcases Bool.eq_false_or_eq_true ((t.mx.length : Int) != (5 + 4 * d.T)) with hb4 | hb4
  ·
   have hb4p : (t.mx.length : Int) ≠ 5 + 4 * d.T := bne_iff_ne.1 hb4
   refine hc_draw (by kernel_rfl) 29 [0, 1, 2, 3, 4, 5, 6, 7, 8, 9, 10, 11, 12, 13, 14, 15, 16, 17, 18, 19, 20, 21, 22, 23, 24, 25, 26, 27, 28] (List.take 29 _) (List.drop 29 _) [[], [0], [1], [2], [3], [3, 4], [3, 5], [3], [3, 7], [3, 6, 8], [3, 9], [10], [11], [11], [11], [11], [11, 15], [16], [17], [17], [17], [17], [17, 21], [22], [23], [23], [23], [23], [23, 27]] [7, 8, 9, 10, 11, 12, 13, 14, 15, 16, 17, 18, 19, 20, 21, 22, 23, 24, 25, 26, 27, 28, 29, 30, 31, 32, 33, 34, 35] (fun i vs_ v_ p_ => match i with | 0 => v_ = .agg #[.int .i64 d.W, .int .i64 d.H, .int .i64 d.T, .int .i64 d.R] ∧ p_ = [] | 1 => v_ = .bool true ∧ p_ = [] | 2 => v_ = .bool false ∧ p_ = [] | 3 => v_ = .bool false ∧ p_ = [] | 4 => v_ = .pointer (some ⟨b2, 0 + 0, none⟩) ∧ p_ = [] | 5 => v_ = t.mv ∧ p_ = [] | 6 => v_ = .int .i64 (t.mx.length : Int) ∧ p_ = [] | 7 => v_ = .agg #[.int .i64 d.W, .int .i64 d.H, .int .i64 d.T, .int .i64 d.R] ∧ p_ = [] | 8 => v_ = .int .i64 (5 + 4 * d.T) ∧ p_ = [] | 9 => v_ = .bool true ∧ p_ = [] | 10 => v_ = .bool true ∧ p_ = [] | 11 => v_ = .bool true ∧ p_ = [] | 12 => v_ = undef ∧ p_ = [] | 13 => v_ = undef ∧ p_ = [] | 14 => v_ = undef ∧ p_ = [] | 15 => v_ = undef ∧ p_ = [] | 16 => v_ = .bool true ∧ p_ = [] | 17 => v_ = .bool true ∧ p_ = [] | 18 => v_ = undef ∧ p_ = [] | 19 => v_ = undef ∧ p_ = [] | 20 => v_ = undef ∧ p_ = [] | 21 => v_ = undef ∧ p_ = [] | 22 => v_ = .bool true ∧ p_ = [] | 23 => v_ = .bool true ∧ p_ = [] | 24 => v_ = undef ∧ p_ = [] | 25 => v_ = undef ∧ p_ = [] | 26 => v_ = undef ∧ p_ = [] | 27 => v_ = undef ∧ p_ = [] | 28 => v_ = .bool true ∧ p_ = [] | _ => True) (List.take_append_drop 29 _).symm (by kernel_rfl) (by kernel_rfl) rfl rfl ?_ ?_
   ·
    refine ⟨?_, ?_, ?_, ?_, ?_, ?_, ?_, ?_, ?_, ?_, ?_, ?_, ?_, ?_, ?_, ?_, ?_, ?_, ?_, ?_, ?_, ?_, ?_, ?_, ?_, ?_, ?_, ?_, ?_, trivial⟩
    ·
     intro vf pf hR
     refine Or.inl ⟨rfl, ?_⟩
     refine rq_less (sx 2 rfl (sub_nil _)) (List.sublist_append_right _ _) ?_
     exact rq_v (rv_loadN (cs := [.int .i64 d.W, .int .i64 d.H, .int .i64 d.T, .int .i64 d.R]) rfl (by kernel_rfl) (by kernel_rfl) rfl rfl (box_part 1 rfl 0 rfl))
    ·
     intro vf pf hR
     have e0 : (vf 0) = .agg #[.int .i64 d.W, .int .i64 d.H, .int .i64 d.T, .int .i64 d.R] ∧ (pf 0) = [] := hR 0 (by decide)
     refine Or.inl ⟨rfl, ?_⟩
     refine rq_less (sx 7 (congrArg some e0.1) (sub_nil _)) (List.sublist_append_right _ _) ?_
     exact rq_mono (rq_call (by kernel_rfl) rfl (fun w hm => ret_ans (implDeviceOk_any d w))) (fun _ _ h => ⟨h.1.trans (congrArg Value.bool hb3), h.2⟩)
    ·
     intro vf pf hR
     have e1 : (vf 1) = .bool true ∧ (pf 1) = [] := hR 1 (by decide)
     refine Or.inl ⟨rfl, ?_⟩
     refine rq_less (sx 8 (congrArg some e1.1) (sub_nil _)) (List.sublist_append_right _ _) ?_
     exact rq_v (rv_ev rfl)
    ·
     intro vf pf hR
     have e2 : (vf 2) = .bool false ∧ (pf 2) = [] := hR 2 (by decide)
     refine Or.inl ⟨rfl, ?_⟩
     refine rq_less (sx 9 (congrArg some e2.1) (sub_nil _)) (List.sublist_append_right _ _) ?_
     exact rq_v (rv_ev rfl)
    ·
     intro vf pf hR
     have e3 : (vf 3) = .bool false ∧ (pf 3) = [] := hR 3 (by decide)
     refine Or.inl ⟨want_of (congrArg some e3.1) rfl, ?_⟩
     refine rq_less (sx 3 rfl (sub_nil _)) (List.sublist_append_right _ _) ?_
     exact rq_v (rv_field (k0 := 0) rfl (by kernel_rfl) rfl)
    ·
     intro vf pf hR
     have e3 : (vf 3) = .bool false ∧ (pf 3) = [] := hR 3 (by decide)
     have e4 : (vf 4) = .pointer (some ⟨b2, 0 + 0, none⟩) ∧ (pf 4) = [] := hR 4 (by decide)
     refine Or.inl ⟨want_of (congrArg some e3.1) rfl, ?_⟩
     refine rq_less (sx 11 (congrArg some e4.1) (sub_nil _)) (List.sublist_append_right _ _) ?_
     exact rq_v (rv_load rfl (by kernel_rfl) rfl (box_cell 0 rfl rfl))
    ·
     intro vf pf hR
     have e3 : (vf 3) = .bool false ∧ (pf 3) = [] := hR 3 (by decide)
     have e5 : (vf 5) = t.mv ∧ (pf 5) = [] := hR 5 (by decide)
     refine Or.inl ⟨want_of (congrArg some e3.1) rfl, ?_⟩
     refine rq_less (sx 12 (congrArg some e5.1) (sub_nil _)) (List.sublist_append_right _ _) ?_
     exact rq_v (rv_len rfl Try.underlying30 rfl (rd_old ht.mx))
    ·
     intro vf pf hR
     have e3 : (vf 3) = .bool false ∧ (pf 3) = [] := hR 3 (by decide)
     refine Or.inl ⟨want_of (congrArg some e3.1) rfl, ?_⟩
     refine rq_less (sx 2 rfl (sub_nil _)) (List.sublist_append_right _ _) ?_
     exact rq_v (rv_loadN (cs := [.int .i64 d.W, .int .i64 d.H, .int .i64 d.T, .int .i64 d.R]) rfl (by kernel_rfl) (by kernel_rfl) rfl rfl (box_part 1 rfl 0 rfl))
    ·
     intro vf pf hR
     have e3 : (vf 3) = .bool false ∧ (pf 3) = [] := hR 3 (by decide)
     have e7 : (vf 7) = .agg #[.int .i64 d.W, .int .i64 d.H, .int .i64 d.T, .int .i64 d.R] ∧ (pf 7) = [] := hR 7 (by decide)
     refine Or.inl ⟨want_of (congrArg some e3.1) rfl, ?_⟩
     refine rq_less (sx 14 (congrArg some e7.1) (sub_nil _)) (List.sublist_append_right _ _) ?_
     exact (rq_call (by kernel_rfl) rfl (fun w hm => ret_ans (implMux_any d (by assumption) w)))
    ·
     intro vf pf hR
     have e3 : (vf 3) = .bool false ∧ (pf 3) = [] := hR 3 (by decide)
     have e6 : (vf 6) = .int .i64 (t.mx.length : Int) ∧ (pf 6) = [] := hR 6 (by decide)
     have e8 : (vf 8) = .int .i64 (5 + 4 * d.T) ∧ (pf 8) = [] := hR 8 (by decide)
     refine Or.inl ⟨want_of (congrArg some e3.1) rfl, ?_⟩
     refine rq_less (sx 13 (congrArg some e6.1) (sx 15 (congrArg some e8.1) (sub_nil _))) (List.sublist_append_right _ _) ?_
     exact rq_mono (rq_v (rv_cmp rfl rfl rfl rfl)) (fun _ _ h => ⟨h.1.trans (congrArg Value.bool hb4), h.2⟩)
    ·
     intro vf pf hR
     have e3 : (vf 3) = .bool false ∧ (pf 3) = [] := hR 3 (by decide)
     have e9 : (vf 9) = .bool true ∧ (pf 9) = [] := hR 9 (by decide)
     refine Or.inl ⟨rfl, ?_⟩
     refine rq_less (sx 10 (congrArg some e3.1) (sx 16 (congrArg some e9.1) (sub_nil _))) (List.sublist_append_right _ _) ?_
     exact rq_v (rv_ev rfl)
    ·
     intro vf pf hR
     have e10 : (vf 10) = .bool true ∧ (pf 10) = [] := hR 10 (by decide)
     refine Or.inl ⟨rfl, ?_⟩
     refine rq_less (sx 17 (congrArg some e10.1) (sub_nil _)) (List.sublist_append_right _ _) ?_
     exact rq_v (rv_ev rfl)
    ·
     intro vf pf hR
     have e11 : (vf 11) = .bool true ∧ (pf 11) = [] := hR 11 (by decide)
     exact Or.inr ⟨want_of (congrArg some e11.1) rfl, rfl, rfl⟩
    ·
     intro vf pf hR
     have e11 : (vf 11) = .bool true ∧ (pf 11) = [] := hR 11 (by decide)
     exact Or.inr ⟨want_of (congrArg some e11.1) rfl, rfl, rfl⟩
    ·
     intro vf pf hR
     have e11 : (vf 11) = .bool true ∧ (pf 11) = [] := hR 11 (by decide)
     exact Or.inr ⟨want_of (congrArg some e11.1) rfl, rfl, rfl⟩
    ·
     intro vf pf hR
     have e11 : (vf 11) = .bool true ∧ (pf 11) = [] := hR 11 (by decide)
     exact Or.inr ⟨want_of (congrArg some e11.1) rfl, rfl, rfl⟩
    ·
     intro vf pf hR
     have e11 : (vf 11) = .bool true ∧ (pf 11) = [] := hR 11 (by decide)
     have e15 : (vf 15) = undef ∧ (pf 15) = [] := hR 15 (by decide)
     refine Or.inl ⟨rfl, ?_⟩
     refine rq_less (sx 18 (congrArg some e11.1) (sx 22 (congrArg some e15.1) (sub_nil _))) (List.sublist_append_right _ _) ?_
     exact rq_v (rv_ev rfl)
    ·
     intro vf pf hR
     have e16 : (vf 16) = .bool true ∧ (pf 16) = [] := hR 16 (by decide)
     refine Or.inl ⟨rfl, ?_⟩
     refine rq_less (sx 23 (congrArg some e16.1) (sub_nil _)) (List.sublist_append_right _ _) ?_
     exact rq_v (rv_ev rfl)
    ·
     intro vf pf hR
     have e17 : (vf 17) = .bool true ∧ (pf 17) = [] := hR 17 (by decide)
     exact Or.inr ⟨want_of (congrArg some e17.1) rfl, rfl, rfl⟩
    ·
     intro vf pf hR
     have e17 : (vf 17) = .bool true ∧ (pf 17) = [] := hR 17 (by decide)
     exact Or.inr ⟨want_of (congrArg some e17.1) rfl, rfl, rfl⟩
    ·
     intro vf pf hR
     have e17 : (vf 17) = .bool true ∧ (pf 17) = [] := hR 17 (by decide)
     exact Or.inr ⟨want_of (congrArg some e17.1) rfl, rfl, rfl⟩
    ·
     intro vf pf hR
     have e17 : (vf 17) = .bool true ∧ (pf 17) = [] := hR 17 (by decide)
     exact Or.inr ⟨want_of (congrArg some e17.1) rfl, rfl, rfl⟩
    ·
     intro vf pf hR
     have e17 : (vf 17) = .bool true ∧ (pf 17) = [] := hR 17 (by decide)
     have e21 : (vf 21) = undef ∧ (pf 21) = [] := hR 21 (by decide)
     refine Or.inl ⟨rfl, ?_⟩
     refine rq_less (sx 24 (congrArg some e17.1) (sx 28 (congrArg some e21.1) (sub_nil _))) (List.sublist_append_right _ _) ?_
     exact rq_v (rv_ev rfl)
    ·
     intro vf pf hR
     have e22 : (vf 22) = .bool true ∧ (pf 22) = [] := hR 22 (by decide)
     refine Or.inl ⟨rfl, ?_⟩
     refine rq_less (sx 29 (congrArg some e22.1) (sub_nil _)) (List.sublist_append_right _ _) ?_
     exact rq_v (rv_ev rfl)
    ·
     intro vf pf hR
     have e23 : (vf 23) = .bool true ∧ (pf 23) = [] := hR 23 (by decide)
     exact Or.inr ⟨want_of (congrArg some e23.1) rfl, rfl, rfl⟩
    ·
     intro vf pf hR
     have e23 : (vf 23) = .bool true ∧ (pf 23) = [] := hR 23 (by decide)
     exact Or.inr ⟨want_of (congrArg some e23.1) rfl, rfl, rfl⟩
    ·
     intro vf pf hR
     have e23 : (vf 23) = .bool true ∧ (pf 23) = [] := hR 23 (by decide)
     exact Or.inr ⟨want_of (congrArg some e23.1) rfl, rfl, rfl⟩
    ·
     intro vf pf hR
     have e23 : (vf 23) = .bool true ∧ (pf 23) = [] := hR 23 (by decide)
     exact Or.inr ⟨want_of (congrArg some e23.1) rfl, rfl, rfl⟩
    ·
     intro vf pf hR
     have e23 : (vf 23) = .bool true ∧ (pf 23) = [] := hR 23 (by decide)
     have e27 : (vf 27) = undef ∧ (pf 27) = [] := hR 27 (by decide)
     refine Or.inl ⟨rfl, ?_⟩
     refine rq_less (sx 30 (congrArg some e23.1) (sx 34 (congrArg some e27.1) (sub_nil _))) (List.sublist_append_right _ _) ?_
     exact rq_v (rv_ev rfl)
   ·
    intro vf pf hR
    have e28 : (vf 28) = .bool true ∧ (pf 28) = [] := hR 28 (by decide)
    refine hl_less (l' := [boxE b2 #[t.mv, t.lv, .int .i64 t.pad, .int .i64 t.ram] 39, boxE b1 #[.int .i64 d.W, .int .i64 d.H, .int .i64 d.T, .int .i64 d.R] 25]) (sx 0 rfl (sx 1 rfl (sx 2 rfl (sx 3 rfl (sx 4 rfl (sx 35 (congrArg some e28.1) (sub_nil _))))))) (List.sublist_append_right _ _) ?_
    simp only [List.drop_succ_cons, List.drop_zero]
    refine hl_less (sx 0 rfl (sx 1 rfl (sx 2 rfl (sx 3 rfl (sx 4 rfl (sx 35 rfl (sub_nil _))))))) (.refl _) ?_
    refine hl_nil ?_
    refine hq_then ?_
    refine hc_true rfl ?_
    refine hc_seq ?_
    refine hc_region ?_
    refine hl_v rfl rfl rfl (rv_ev rfl) ?_
    refine hl_less (sx 0 rfl (sx 1 rfl (sx 2 rfl (sx 3 rfl (sx 4 rfl (sx 35 rfl (sub_nil _))))))) (.refl _) ?_
    refine hl_nil ?_
    refine hq_then ?_
    refine hc_ret ?_
    refine hq_then_ret ?_
    exact hq_ans rfl rfl (congrArg _ (Bool.eq_false_iff.2 (fun h => by obtain ⟨q1, q2, q3, q4, q5, q6, q7⟩ := (tcOkV_iff d t).1 h; first | omega | (have := q6 j (by omega); omega) | (have := q7 0 (by omega); simp_all; done) | (have := q7 1 (by omega); simp_all; done) | contradiction | simp_all)).symm)
  ·
   have hb4p : (t.mx.length : Int) = 5 + 4 * d.T := by simpa using hb4
   rcases Bool.eq_false_or_eq_true ((t.es.length : Int) != 2) with hb5 | hb5
   ·
    have hb5p : (t.es.length : Int) ≠ 2 := bne_iff_ne.1 hb5
    refine hc_draw (by kernel_rfl) 29 [0, 1, 2, 3, 4, 5, 6, 7, 8, 9, 10, 11, 12, 13, 14, 15, 16, 17, 18, 19, 20, 21, 22, 23, 24, 25, 26, 27, 28] (List.take 29 _) (List.drop 29 _) [[], [0], [1], [2], [3], [3, 4], [3, 5], [3], [3, 7], [3, 6, 8], [3, 9], [10], [11], [11, 12], [11, 13], [11, 14], [11, 15], [16], [17], [17], [17], [17], [17, 21], [22], [23], [23], [23], [23], [23, 27]] [7, 8, 9, 10, 11, 12, 13, 14, 15, 16, 17, 18, 19, 20, 21, 22, 23, 24, 25, 26, 27, 28, 29, 30, 31, 32, 33, 34, 35] (fun i vs_ v_ p_ => match i with | 0 => v_ = .agg #[.int .i64 d.W, .int .i64 d.H, .int .i64 d.T, .int .i64 d.R] ∧ p_ = [] | 1 => v_ = .bool true ∧ p_ = [] | 2 => v_ = .bool false ∧ p_ = [] | 3 => v_ = .bool false ∧ p_ = [] | 4 => v_ = .pointer (some ⟨b2, 0 + 0, none⟩) ∧ p_ = [] | 5 => v_ = t.mv ∧ p_ = [] | 6 => v_ = .int .i64 (t.mx.length : Int) ∧ p_ = [] | 7 => v_ = .agg #[.int .i64 d.W, .int .i64 d.H, .int .i64 d.T, .int .i64 d.R] ∧ p_ = [] | 8 => v_ = .int .i64 (5 + 4 * d.T) ∧ p_ = [] | 9 => v_ = .bool false ∧ p_ = [] | 10 => v_ = .bool false ∧ p_ = [] | 11 => v_ = .bool false ∧ p_ = [] | 12 => v_ = .pointer (some ⟨b2, 0 + 1, none⟩) ∧ p_ = [] | 13 => v_ = t.lv ∧ p_ = [] | 14 => v_ = .int .i64 (t.es.length : Int) ∧ p_ = [] | 15 => v_ = .bool true ∧ p_ = [] | 16 => v_ = .bool true ∧ p_ = [] | 17 => v_ = .bool true ∧ p_ = [] | 18 => v_ = undef ∧ p_ = [] | 19 => v_ = undef ∧ p_ = [] | 20 => v_ = undef ∧ p_ = [] | 21 => v_ = undef ∧ p_ = [] | 22 => v_ = .bool true ∧ p_ = [] | 23 => v_ = .bool true ∧ p_ = [] | 24 => v_ = undef ∧ p_ = [] | 25 => v_ = undef ∧ p_ = [] | 26 => v_ = undef ∧ p_ = [] | 27 => v_ = undef ∧ p_ = [] | 28 => v_ = .bool true ∧ p_ = [] | _ => True) (List.take_append_drop 29 _).symm (by kernel_rfl) (by kernel_rfl) rfl rfl ?_ ?_
    ·
     refine ⟨?_, ?_, ?_, ?_, ?_, ?_, ?_, ?_, ?_, ?_, ?_, ?_, ?_, ?_, ?_, ?_, ?_, ?_, ?_, ?_, ?_, ?_, ?_, ?_, ?_, ?_, ?_, ?_, ?_, trivial⟩
     ·
      intro vf pf hR
      refine Or.inl ⟨rfl, ?_⟩
      refine rq_less (sx 2 rfl (sub_nil _)) (List.sublist_append_right _ _) ?_
      exact rq_v (rv_loadN (cs := [.int .i64 d.W, .int .i64 d.H, .int .i64 d.T, .int .i64 d.R]) rfl (by kernel_rfl) (by kernel_rfl) rfl rfl (box_part 1 rfl 0 rfl))
     ·
      intro vf pf hR
      have e0 : (vf 0) = .agg #[.int .i64 d.W, .int .i64 d.H, .int .i64 d.T, .int .i64 d.R] ∧ (pf 0) = [] := hR 0 (by decide)
      refine Or.inl ⟨rfl, ?_⟩
      refine rq_less (sx 7 (congrArg some e0.1) (sub_nil _)) (List.sublist_append_right _ _) ?_
      exact rq_mono (rq_call (by kernel_rfl) rfl (fun w hm => ret_ans (implDeviceOk_any d w))) (fun _ _ h => ⟨h.1.trans (congrArg Value.bool hb3), h.2⟩)
     ·
      intro vf pf hR
      have e1 : (vf 1) = .bool true ∧ (pf 1) = [] := hR 1 (by decide)
      refine Or.inl ⟨rfl, ?_⟩
      refine rq_less (sx 8 (congrArg some e1.1) (sub_nil _)) (List.sublist_append_right _ _) ?_
      exact rq_v (rv_ev rfl)
     ·
      intro vf pf hR
      have e2 : (vf 2) = .bool false ∧ (pf 2) = [] := hR 2 (by decide)
      refine Or.inl ⟨rfl, ?_⟩
      refine rq_less (sx 9 (congrArg some e2.1) (sub_nil _)) (List.sublist_append_right _ _) ?_
      exact rq_v (rv_ev rfl)
     ·
      intro vf pf hR
      have e3 : (vf 3) = .bool false ∧ (pf 3) = [] := hR 3 (by decide)
      refine Or.inl ⟨want_of (congrArg some e3.1) rfl, ?_⟩
      refine rq_less (sx 3 rfl (sub_nil _)) (List.sublist_append_right _ _) ?_
      exact rq_v (rv_field (k0 := 0) rfl (by kernel_rfl) rfl)
     ·
      intro vf pf hR
      have e3 : (vf 3) = .bool false ∧ (pf 3) = [] := hR 3 (by decide)
      have e4 : (vf 4) = .pointer (some ⟨b2, 0 + 0, none⟩) ∧ (pf 4) = [] := hR 4 (by decide)
      refine Or.inl ⟨want_of (congrArg some e3.1) rfl, ?_⟩
      refine rq_less (sx 11 (congrArg some e4.1) (sub_nil _)) (List.sublist_append_right _ _) ?_
      exact rq_v (rv_load rfl (by kernel_rfl) rfl (box_cell 0 rfl rfl))
     ·
      intro vf pf hR
      have e3 : (vf 3) = .bool false ∧ (pf 3) = [] := hR 3 (by decide)
      have e5 : (vf 5) = t.mv ∧ (pf 5) = [] := hR 5 (by decide)
      refine Or.inl ⟨want_of (congrArg some e3.1) rfl, ?_⟩
      refine rq_less (sx 12 (congrArg some e5.1) (sub_nil _)) (List.sublist_append_right _ _) ?_
      exact rq_v (rv_len rfl Try.underlying30 rfl (rd_old ht.mx))
     ·
      intro vf pf hR
      have e3 : (vf 3) = .bool false ∧ (pf 3) = [] := hR 3 (by decide)
      refine Or.inl ⟨want_of (congrArg some e3.1) rfl, ?_⟩
      refine rq_less (sx 2 rfl (sub_nil _)) (List.sublist_append_right _ _) ?_
      exact rq_v (rv_loadN (cs := [.int .i64 d.W, .int .i64 d.H, .int .i64 d.T, .int .i64 d.R]) rfl (by kernel_rfl) (by kernel_rfl) rfl rfl (box_part 1 rfl 0 rfl))
     ·
      intro vf pf hR
      have e3 : (vf 3) = .bool false ∧ (pf 3) = [] := hR 3 (by decide)
      have e7 : (vf 7) = .agg #[.int .i64 d.W, .int .i64 d.H, .int .i64 d.T, .int .i64 d.R] ∧ (pf 7) = [] := hR 7 (by decide)
      refine Or.inl ⟨want_of (congrArg some e3.1) rfl, ?_⟩
      refine rq_less (sx 14 (congrArg some e7.1) (sub_nil _)) (List.sublist_append_right _ _) ?_
      exact (rq_call (by kernel_rfl) rfl (fun w hm => ret_ans (implMux_any d (by assumption) w)))
     ·
      intro vf pf hR
      have e3 : (vf 3) = .bool false ∧ (pf 3) = [] := hR 3 (by decide)
      have e6 : (vf 6) = .int .i64 (t.mx.length : Int) ∧ (pf 6) = [] := hR 6 (by decide)
      have e8 : (vf 8) = .int .i64 (5 + 4 * d.T) ∧ (pf 8) = [] := hR 8 (by decide)
      refine Or.inl ⟨want_of (congrArg some e3.1) rfl, ?_⟩
      refine rq_less (sx 13 (congrArg some e6.1) (sx 15 (congrArg some e8.1) (sub_nil _))) (List.sublist_append_right _ _) ?_
      exact rq_mono (rq_v (rv_cmp rfl rfl rfl rfl)) (fun _ _ h => ⟨h.1.trans (congrArg Value.bool hb4), h.2⟩)
     ·
      intro vf pf hR
      have e3 : (vf 3) = .bool false ∧ (pf 3) = [] := hR 3 (by decide)
      have e9 : (vf 9) = .bool false ∧ (pf 9) = [] := hR 9 (by decide)
      refine Or.inl ⟨rfl, ?_⟩
      refine rq_less (sx 10 (congrArg some e3.1) (sx 16 (congrArg some e9.1) (sub_nil _))) (List.sublist_append_right _ _) ?_
      exact rq_v (rv_ev rfl)
     ·
      intro vf pf hR
      have e10 : (vf 10) = .bool false ∧ (pf 10) = [] := hR 10 (by decide)
      refine Or.inl ⟨rfl, ?_⟩
      refine rq_less (sx 17 (congrArg some e10.1) (sub_nil _)) (List.sublist_append_right _ _) ?_
      exact rq_v (rv_ev rfl)
     ·
      intro vf pf hR
      have e11 : (vf 11) = .bool false ∧ (pf 11) = [] := hR 11 (by decide)
      refine Or.inl ⟨want_of (congrArg some e11.1) rfl, ?_⟩
      refine rq_less (sx 3 rfl (sub_nil _)) (List.sublist_append_right _ _) ?_
      exact rq_v (rv_field (k0 := 1) rfl (by kernel_rfl) rfl)
     ·
      intro vf pf hR
      have e11 : (vf 11) = .bool false ∧ (pf 11) = [] := hR 11 (by decide)
      have e12 : (vf 12) = .pointer (some ⟨b2, 0 + 1, none⟩) ∧ (pf 12) = [] := hR 12 (by decide)
      refine Or.inl ⟨want_of (congrArg some e11.1) rfl, ?_⟩
      refine rq_less (sx 19 (congrArg some e12.1) (sub_nil _)) (List.sublist_append_right _ _) ?_
      exact rq_v (rv_load rfl (by kernel_rfl) rfl (box_cell 0 rfl rfl))
     ·
      intro vf pf hR
      have e11 : (vf 11) = .bool false ∧ (pf 11) = [] := hR 11 (by decide)
      have e13 : (vf 13) = t.lv ∧ (pf 13) = [] := hR 13 (by decide)
      refine Or.inl ⟨want_of (congrArg some e11.1) rfl, ?_⟩
      refine rq_less (sx 20 (congrArg some e13.1) (sub_nil _)) (List.sublist_append_right _ _) ?_
      exact rq_v (rv_len rfl Try.underlying37 rfl (rd_old ht.lv))
     ·
      intro vf pf hR
      have e11 : (vf 11) = .bool false ∧ (pf 11) = [] := hR 11 (by decide)
      have e14 : (vf 14) = .int .i64 (t.es.length : Int) ∧ (pf 14) = [] := hR 14 (by decide)
      refine Or.inl ⟨want_of (congrArg some e11.1) rfl, ?_⟩
      refine rq_less (sx 21 (congrArg some e14.1) (sub_nil _)) (List.sublist_append_right _ _) ?_
      exact rq_mono (rq_v (rv_cmp rfl rfl rfl rfl)) (fun _ _ h => ⟨h.1.trans (congrArg Value.bool hb5), h.2⟩)
     ·
      intro vf pf hR
      have e11 : (vf 11) = .bool false ∧ (pf 11) = [] := hR 11 (by decide)
      have e15 : (vf 15) = .bool true ∧ (pf 15) = [] := hR 15 (by decide)
      refine Or.inl ⟨rfl, ?_⟩
      refine rq_less (sx 18 (congrArg some e11.1) (sx 22 (congrArg some e15.1) (sub_nil _))) (List.sublist_append_right _ _) ?_
      exact rq_v (rv_ev rfl)
     ·
      intro vf pf hR
      have e16 : (vf 16) = .bool true ∧ (pf 16) = [] := hR 16 (by decide)
      refine Or.inl ⟨rfl, ?_⟩
      refine rq_less (sx 23 (congrArg some e16.1) (sub_nil _)) (List.sublist_append_right _ _) ?_
      exact rq_v (rv_ev rfl)
     ·
      intro vf pf hR
      have e17 : (vf 17) = .bool true ∧ (pf 17) = [] := hR 17 (by decide)
      exact Or.inr ⟨want_of (congrArg some e17.1) rfl, rfl, rfl⟩
     ·
      intro vf pf hR
      have e17 : (vf 17) = .bool true ∧ (pf 17) = [] := hR 17 (by decide)
      exact Or.inr ⟨want_of (congrArg some e17.1) rfl, rfl, rfl⟩
     ·
      intro vf pf hR
      have e17 : (vf 17) = .bool true ∧ (pf 17) = [] := hR 17 (by decide)
      exact Or.inr ⟨want_of (congrArg some e17.1) rfl, rfl, rfl⟩
     ·
      intro vf pf hR
      have e17 : (vf 17) = .bool true ∧ (pf 17) = [] := hR 17 (by decide)
      exact Or.inr ⟨want_of (congrArg some e17.1) rfl, rfl, rfl⟩
     ·
      intro vf pf hR
      have e17 : (vf 17) = .bool true ∧ (pf 17) = [] := hR 17 (by decide)
      have e21 : (vf 21) = undef ∧ (pf 21) = [] := hR 21 (by decide)
      refine Or.inl ⟨rfl, ?_⟩
      refine rq_less (sx 24 (congrArg some e17.1) (sx 28 (congrArg some e21.1) (sub_nil _))) (List.sublist_append_right _ _) ?_
      exact rq_v (rv_ev rfl)
     ·
      intro vf pf hR
      have e22 : (vf 22) = .bool true ∧ (pf 22) = [] := hR 22 (by decide)
      refine Or.inl ⟨rfl, ?_⟩
      refine rq_less (sx 29 (congrArg some e22.1) (sub_nil _)) (List.sublist_append_right _ _) ?_
      exact rq_v (rv_ev rfl)
     ·
      intro vf pf hR
      have e23 : (vf 23) = .bool true ∧ (pf 23) = [] := hR 23 (by decide)
      exact Or.inr ⟨want_of (congrArg some e23.1) rfl, rfl, rfl⟩
     ·
      intro vf pf hR
      have e23 : (vf 23) = .bool true ∧ (pf 23) = [] := hR 23 (by decide)
      exact Or.inr ⟨want_of (congrArg some e23.1) rfl, rfl, rfl⟩
     ·
      intro vf pf hR
      have e23 : (vf 23) = .bool true ∧ (pf 23) = [] := hR 23 (by decide)
      exact Or.inr ⟨want_of (congrArg some e23.1) rfl, rfl, rfl⟩
     ·
      intro vf pf hR
      have e23 : (vf 23) = .bool true ∧ (pf 23) = [] := hR 23 (by decide)
      exact Or.inr ⟨want_of (congrArg some e23.1) rfl, rfl, rfl⟩
     ·
      intro vf pf hR
      have e23 : (vf 23) = .bool true ∧ (pf 23) = [] := hR 23 (by decide)
      have e27 : (vf 27) = undef ∧ (pf 27) = [] := hR 27 (by decide)
      refine Or.inl ⟨rfl, ?_⟩
      refine rq_less (sx 30 (congrArg some e23.1) (sx 34 (congrArg some e27.1) (sub_nil _))) (List.sublist_append_right _ _) ?_
      exact rq_v (rv_ev rfl)
    ·
     intro vf pf hR
     have e28 : (vf 28) = .bool true ∧ (pf 28) = [] := hR 28 (by decide)
     refine hl_less (l' := [boxE b2 #[t.mv, t.lv, .int .i64 t.pad, .int .i64 t.ram] 39, boxE b1 #[.int .i64 d.W, .int .i64 d.H, .int .i64 d.T, .int .i64 d.R] 25]) (sx 0 rfl (sx 1 rfl (sx 2 rfl (sx 3 rfl (sx 4 rfl (sx 35 (congrArg some e28.1) (sub_nil _))))))) (List.sublist_append_right _ _) ?_
     simp only [List.drop_succ_cons, List.drop_zero]
     refine hl_less (sx 0 rfl (sx 1 rfl (sx 2 rfl (sx 3 rfl (sx 4 rfl (sx 35 rfl (sub_nil _))))))) (.refl _) ?_
     refine hl_nil ?_
     refine hq_then ?_
     refine hc_true rfl ?_
     refine hc_seq ?_
     refine hc_region ?_
     refine hl_v rfl rfl rfl (rv_ev rfl) ?_
     refine hl_less (sx 0 rfl (sx 1 rfl (sx 2 rfl (sx 3 rfl (sx 4 rfl (sx 35 rfl (sub_nil _))))))) (.refl _) ?_
     refine hl_nil ?_
     refine hq_then ?_
     refine hc_ret ?_
     refine hq_then_ret ?_
     exact hq_ans rfl rfl (congrArg _ (Bool.eq_false_iff.2 (fun h => by obtain ⟨q1, q2, q3, q4, q5, q6, q7⟩ := (tcOkV_iff d t).1 h; first | omega | (have := q6 j (by omega); omega) | (have := q7 0 (by omega); simp_all; done) | (have := q7 1 (by omega); simp_all; done) | contradiction | simp_all)).symm)
   ·
    have hb5p : (t.es.length : Int) = 2 := by simpa using hb5
    rcases Bool.eq_false_or_eq_true (inR t.pad 0 3) with hb6 | hb6
    ·
     obtain ⟨hb6a, hb6b⟩ := (inR_iff _ _ _).1 hb6
     rcases Bool.eq_false_or_eq_true (inR t.ram 0 31) with hb7 | hb7
     ·
      obtain ⟨hb7a, hb7b⟩ := (inR_iff _ _ _).1 hb7
      refine hc_draw (by kernel_rfl) 29 [0, 1, 2, 3, 4, 5, 6, 7, 8, 9, 10, 11, 12, 13, 14, 15, 16, 17, 18, 19, 20, 21, 22, 23, 24, 25, 26, 27, 28] (List.take 29 _) (List.drop 29 _) [[], [0], [1], [2], [3], [3, 4], [3, 5], [3], [3, 7], [3, 6, 8], [3, 9], [10], [11], [11, 12], [11, 13], [11, 14], [11, 15], [16], [17], [17, 18], [17, 19], [17, 20], [17, 21], [22], [23], [23, 24], [23, 25], [23, 26], [23, 27]] [7, 8, 9, 10, 11, 12, 13, 14, 15, 16, 17, 18, 19, 20, 21, 22, 23, 24, 25, 26, 27, 28, 29, 30, 31, 32, 33, 34, 35] (fun i vs_ v_ p_ => match i with | 0 => v_ = .agg #[.int .i64 d.W, .int .i64 d.H, .int .i64 d.T, .int .i64 d.R] ∧ p_ = [] | 1 => v_ = .bool true ∧ p_ = [] | 2 => v_ = .bool false ∧ p_ = [] | 3 => v_ = .bool false ∧ p_ = [] | 4 => v_ = .pointer (some ⟨b2, 0 + 0, none⟩) ∧ p_ = [] | 5 => v_ = t.mv ∧ p_ = [] | 6 => v_ = .int .i64 (t.mx.length : Int) ∧ p_ = [] | 7 => v_ = .agg #[.int .i64 d.W, .int .i64 d.H, .int .i64 d.T, .int .i64 d.R] ∧ p_ = [] | 8 => v_ = .int .i64 (5 + 4 * d.T) ∧ p_ = [] | 9 => v_ = .bool false ∧ p_ = [] | 10 => v_ = .bool false ∧ p_ = [] | 11 => v_ = .bool false ∧ p_ = [] | 12 => v_ = .pointer (some ⟨b2, 0 + 1, none⟩) ∧ p_ = [] | 13 => v_ = t.lv ∧ p_ = [] | 14 => v_ = .int .i64 (t.es.length : Int) ∧ p_ = [] | 15 => v_ = .bool false ∧ p_ = [] | 16 => v_ = .bool false ∧ p_ = [] | 17 => v_ = .bool false ∧ p_ = [] | 18 => v_ = .pointer (some ⟨b2, 0 + 2, none⟩) ∧ p_ = [] | 19 => v_ = .int .i64 t.pad ∧ p_ = [] | 20 => v_ = .bool true ∧ p_ = [] | 21 => v_ = .bool false ∧ p_ = [] | 22 => v_ = .bool false ∧ p_ = [] | 23 => v_ = .bool false ∧ p_ = [] | 24 => v_ = .pointer (some ⟨b2, 0 + 3, none⟩) ∧ p_ = [] | 25 => v_ = .int .i64 t.ram ∧ p_ = [] | 26 => v_ = .bool true ∧ p_ = [] | 27 => v_ = .bool false ∧ p_ = [] | 28 => v_ = .bool false ∧ p_ = [] | _ => True) (List.take_append_drop 29 _).symm (by kernel_rfl) (by kernel_rfl) rfl rfl ?_ ?_
      ·
       refine ⟨?_, ?_, ?_, ?_, ?_, ?_, ?_, ?_, ?_, ?_, ?_, ?_, ?_, ?_, ?_, ?_, ?_, ?_, ?_, ?_, ?_, ?_, ?_, ?_, ?_, ?_, ?_, ?_, ?_, trivial⟩
       ·
        intro vf pf hR
        refine Or.inl ⟨rfl, ?_⟩
        refine rq_less (sx 2 rfl (sub_nil _)) (List.sublist_append_right _ _) ?_
        exact rq_v (rv_loadN (cs := [.int .i64 d.W, .int .i64 d.H, .int .i64 d.T, .int .i64 d.R]) rfl (by kernel_rfl) (by kernel_rfl) rfl rfl (box_part 1 rfl 0 rfl))
       ·
        intro vf pf hR
        have e0 : (vf 0) = .agg #[.int .i64 d.W, .int .i64 d.H, .int .i64 d.T, .int .i64 d.R] ∧ (pf 0) = [] := hR 0 (by decide)
        refine Or.inl ⟨rfl, ?_⟩
        refine rq_less (sx 7 (congrArg some e0.1) (sub_nil _)) (List.sublist_append_right _ _) ?_
        exact rq_mono (rq_call (by kernel_rfl) rfl (fun w hm => ret_ans (implDeviceOk_any d w))) (fun _ _ h => ⟨h.1.trans (congrArg Value.bool hb3), h.2⟩)
       ·
        intro vf pf hR
        have e1 : (vf 1) = .bool true ∧ (pf 1) = [] := hR 1 (by decide)
        refine Or.inl ⟨rfl, ?_⟩
        refine rq_less (sx 8 (congrArg some e1.1) (sub_nil _)) (List.sublist_append_right _ _) ?_
        exact rq_v (rv_ev rfl)
       ·
        intro vf pf hR
        have e2 : (vf 2) = .bool false ∧ (pf 2) = [] := hR 2 (by decide)
        refine Or.inl ⟨rfl, ?_⟩
        refine rq_less (sx 9 (congrArg some e2.1) (sub_nil _)) (List.sublist_append_right _ _) ?_
        exact rq_v (rv_ev rfl)
       ·
        intro vf pf hR
        have e3 : (vf 3) = .bool false ∧ (pf 3) = [] := hR 3 (by decide)
        refine Or.inl ⟨want_of (congrArg some e3.1) rfl, ?_⟩
        refine rq_less (sx 3 rfl (sub_nil _)) (List.sublist_append_right _ _) ?_
        exact rq_v (rv_field (k0 := 0) rfl (by kernel_rfl) rfl)
       ·
        intro vf pf hR
        have e3 : (vf 3) = .bool false ∧ (pf 3) = [] := hR 3 (by decide)
        have e4 : (vf 4) = .pointer (some ⟨b2, 0 + 0, none⟩) ∧ (pf 4) = [] := hR 4 (by decide)
        refine Or.inl ⟨want_of (congrArg some e3.1) rfl, ?_⟩
        refine rq_less (sx 11 (congrArg some e4.1) (sub_nil _)) (List.sublist_append_right _ _) ?_
        exact rq_v (rv_load rfl (by kernel_rfl) rfl (box_cell 0 rfl rfl))
       ·
        intro vf pf hR
        have e3 : (vf 3) = .bool false ∧ (pf 3) = [] := hR 3 (by decide)
        have e5 : (vf 5) = t.mv ∧ (pf 5) = [] := hR 5 (by decide)
        refine Or.inl ⟨want_of (congrArg some e3.1) rfl, ?_⟩
        refine rq_less (sx 12 (congrArg some e5.1) (sub_nil _)) (List.sublist_append_right _ _) ?_
        exact rq_v (rv_len rfl Try.underlying30 rfl (rd_old ht.mx))
       ·
        intro vf pf hR
        have e3 : (vf 3) = .bool false ∧ (pf 3) = [] := hR 3 (by decide)
        refine Or.inl ⟨want_of (congrArg some e3.1) rfl, ?_⟩
        refine rq_less (sx 2 rfl (sub_nil _)) (List.sublist_append_right _ _) ?_
        exact rq_v (rv_loadN (cs := [.int .i64 d.W, .int .i64 d.H, .int .i64 d.T, .int .i64 d.R]) rfl (by kernel_rfl) (by kernel_rfl) rfl rfl (box_part 1 rfl 0 rfl))
       ·
        intro vf pf hR
        have e3 : (vf 3) = .bool false ∧ (pf 3) = [] := hR 3 (by decide)
        have e7 : (vf 7) = .agg #[.int .i64 d.W, .int .i64 d.H, .int .i64 d.T, .int .i64 d.R] ∧ (pf 7) = [] := hR 7 (by decide)
        refine Or.inl ⟨want_of (congrArg some e3.1) rfl, ?_⟩
        refine rq_less (sx 14 (congrArg some e7.1) (sub_nil _)) (List.sublist_append_right _ _) ?_
        exact (rq_call (by kernel_rfl) rfl (fun w hm => ret_ans (implMux_any d (by assumption) w)))
       ·
        intro vf pf hR
        have e3 : (vf 3) = .bool false ∧ (pf 3) = [] := hR 3 (by decide)
        have e6 : (vf 6) = .int .i64 (t.mx.length : Int) ∧ (pf 6) = [] := hR 6 (by decide)
        have e8 : (vf 8) = .int .i64 (5 + 4 * d.T) ∧ (pf 8) = [] := hR 8 (by decide)
        refine Or.inl ⟨want_of (congrArg some e3.1) rfl, ?_⟩
        refine rq_less (sx 13 (congrArg some e6.1) (sx 15 (congrArg some e8.1) (sub_nil _))) (List.sublist_append_right _ _) ?_
        exact rq_mono (rq_v (rv_cmp rfl rfl rfl rfl)) (fun _ _ h => ⟨h.1.trans (congrArg Value.bool hb4), h.2⟩)
       ·
        intro vf pf hR
        have e3 : (vf 3) = .bool false ∧ (pf 3) = [] := hR 3 (by decide)
        have e9 : (vf 9) = .bool false ∧ (pf 9) = [] := hR 9 (by decide)
        refine Or.inl ⟨rfl, ?_⟩
        refine rq_less (sx 10 (congrArg some e3.1) (sx 16 (congrArg some e9.1) (sub_nil _))) (List.sublist_append_right _ _) ?_
        exact rq_v (rv_ev rfl)
       ·
        intro vf pf hR
        have e10 : (vf 10) = .bool false ∧ (pf 10) = [] := hR 10 (by decide)
        refine Or.inl ⟨rfl, ?_⟩
        refine rq_less (sx 17 (congrArg some e10.1) (sub_nil _)) (List.sublist_append_right _ _) ?_
        exact rq_v (rv_ev rfl)
       ·
        intro vf pf hR
        have e11 : (vf 11) = .bool false ∧ (pf 11) = [] := hR 11 (by decide)
        refine Or.inl ⟨want_of (congrArg some e11.1) rfl, ?_⟩
        refine rq_less (sx 3 rfl (sub_nil _)) (List.sublist_append_right _ _) ?_
        exact rq_v (rv_field (k0 := 1) rfl (by kernel_rfl) rfl)
       ·
        intro vf pf hR
        have e11 : (vf 11) = .bool false ∧ (pf 11) = [] := hR 11 (by decide)
        have e12 : (vf 12) = .pointer (some ⟨b2, 0 + 1, none⟩) ∧ (pf 12) = [] := hR 12 (by decide)
        refine Or.inl ⟨want_of (congrArg some e11.1) rfl, ?_⟩
        refine rq_less (sx 19 (congrArg some e12.1) (sub_nil _)) (List.sublist_append_right _ _) ?_
        exact rq_v (rv_load rfl (by kernel_rfl) rfl (box_cell 0 rfl rfl))
       ·
        intro vf pf hR
        have e11 : (vf 11) = .bool false ∧ (pf 11) = [] := hR 11 (by decide)
        have e13 : (vf 13) = t.lv ∧ (pf 13) = [] := hR 13 (by decide)
        refine Or.inl ⟨want_of (congrArg some e11.1) rfl, ?_⟩
        refine rq_less (sx 20 (congrArg some e13.1) (sub_nil _)) (List.sublist_append_right _ _) ?_
        exact rq_v (rv_len rfl Try.underlying37 rfl (rd_old ht.lv))
       ·
        intro vf pf hR
        have e11 : (vf 11) = .bool false ∧ (pf 11) = [] := hR 11 (by decide)
        have e14 : (vf 14) = .int .i64 (t.es.length : Int) ∧ (pf 14) = [] := hR 14 (by decide)
        refine Or.inl ⟨want_of (congrArg some e11.1) rfl, ?_⟩
        refine rq_less (sx 21 (congrArg some e14.1) (sub_nil _)) (List.sublist_append_right _ _) ?_
        exact rq_mono (rq_v (rv_cmp rfl rfl rfl rfl)) (fun _ _ h => ⟨h.1.trans (congrArg Value.bool hb5), h.2⟩)
       ·
        intro vf pf hR
        have e11 : (vf 11) = .bool false ∧ (pf 11) = [] := hR 11 (by decide)
        have e15 : (vf 15) = .bool false ∧ (pf 15) = [] := hR 15 (by decide)
        refine Or.inl ⟨rfl, ?_⟩
        refine rq_less (sx 18 (congrArg some e11.1) (sx 22 (congrArg some e15.1) (sub_nil _))) (List.sublist_append_right _ _) ?_
        exact rq_v (rv_ev rfl)
       ·
        intro vf pf hR
        have e16 : (vf 16) = .bool false ∧ (pf 16) = [] := hR 16 (by decide)
        refine Or.inl ⟨rfl, ?_⟩
        refine rq_less (sx 23 (congrArg some e16.1) (sub_nil _)) (List.sublist_append_right _ _) ?_
        exact rq_v (rv_ev rfl)
       ·
        intro vf pf hR
        have e17 : (vf 17) = .bool false ∧ (pf 17) = [] := hR 17 (by decide)
        refine Or.inl ⟨want_of (congrArg some e17.1) rfl, ?_⟩
        refine rq_less (sx 3 rfl (sub_nil _)) (List.sublist_append_right _ _) ?_
        exact rq_v (rv_field (k0 := 2) rfl (by kernel_rfl) rfl)
       ·
        intro vf pf hR
        have e17 : (vf 17) = .bool false ∧ (pf 17) = [] := hR 17 (by decide)
        have e18 : (vf 18) = .pointer (some ⟨b2, 0 + 2, none⟩) ∧ (pf 18) = [] := hR 18 (by decide)
        refine Or.inl ⟨want_of (congrArg some e17.1) rfl, ?_⟩
        refine rq_less (sx 25 (congrArg some e18.1) (sub_nil _)) (List.sublist_append_right _ _) ?_
        exact rq_v (rv_load rfl (by kernel_rfl) rfl (box_cell 0 rfl rfl))
       ·
        intro vf pf hR
        have e17 : (vf 17) = .bool false ∧ (pf 17) = [] := hR 17 (by decide)
        have e19 : (vf 19) = .int .i64 t.pad ∧ (pf 19) = [] := hR 19 (by decide)
        refine Or.inl ⟨want_of (congrArg some e17.1) rfl, ?_⟩
        refine rq_less (sx 26 (congrArg some e19.1) (sub_nil _)) (List.sublist_append_right _ _) ?_
        exact rq_mono (rq_call (by kernel_rfl) rfl (fun w hm => ret_ans (ans_of (inRange_any _ _ _ w)))) (fun _ _ h => ⟨h.1.trans (congrArg Value.bool hb6), h.2⟩)
       ·
        intro vf pf hR
        have e17 : (vf 17) = .bool false ∧ (pf 17) = [] := hR 17 (by decide)
        have e20 : (vf 20) = .bool true ∧ (pf 20) = [] := hR 20 (by decide)
        refine Or.inl ⟨want_of (congrArg some e17.1) rfl, ?_⟩
        refine rq_less (sx 27 (congrArg some e20.1) (sub_nil _)) (List.sublist_append_right _ _) ?_
        exact rq_v (rv_ev rfl)
       ·
        intro vf pf hR
        have e17 : (vf 17) = .bool false ∧ (pf 17) = [] := hR 17 (by decide)
        have e21 : (vf 21) = .bool false ∧ (pf 21) = [] := hR 21 (by decide)
        refine Or.inl ⟨rfl, ?_⟩
        refine rq_less (sx 24 (congrArg some e17.1) (sx 28 (congrArg some e21.1) (sub_nil _))) (List.sublist_append_right _ _) ?_
        exact rq_v (rv_ev rfl)
       ·
        intro vf pf hR
        have e22 : (vf 22) = .bool false ∧ (pf 22) = [] := hR 22 (by decide)
        refine Or.inl ⟨rfl, ?_⟩
        refine rq_less (sx 29 (congrArg some e22.1) (sub_nil _)) (List.sublist_append_right _ _) ?_
        exact rq_v (rv_ev rfl)
       ·
        intro vf pf hR
        have e23 : (vf 23) = .bool false ∧ (pf 23) = [] := hR 23 (by decide)
        refine Or.inl ⟨want_of (congrArg some e23.1) rfl, ?_⟩
        refine rq_less (sx 3 rfl (sub_nil _)) (List.sublist_append_right _ _) ?_
        exact rq_v (rv_field (k0 := 3) rfl (by kernel_rfl) rfl)
       ·
        intro vf pf hR
        have e23 : (vf 23) = .bool false ∧ (pf 23) = [] := hR 23 (by decide)
        have e24 : (vf 24) = .pointer (some ⟨b2, 0 + 3, none⟩) ∧ (pf 24) = [] := hR 24 (by decide)
        refine Or.inl ⟨want_of (congrArg some e23.1) rfl, ?_⟩
        refine rq_less (sx 31 (congrArg some e24.1) (sub_nil _)) (List.sublist_append_right _ _) ?_
        exact rq_v (rv_load rfl (by kernel_rfl) rfl (box_cell 0 rfl rfl))
       ·
        intro vf pf hR
        have e23 : (vf 23) = .bool false ∧ (pf 23) = [] := hR 23 (by decide)
        have e25 : (vf 25) = .int .i64 t.ram ∧ (pf 25) = [] := hR 25 (by decide)
        refine Or.inl ⟨want_of (congrArg some e23.1) rfl, ?_⟩
        refine rq_less (sx 32 (congrArg some e25.1) (sub_nil _)) (List.sublist_append_right _ _) ?_
        exact rq_mono (rq_call (by kernel_rfl) rfl (fun w hm => ret_ans (ans_of (inRange_any _ _ _ w)))) (fun _ _ h => ⟨h.1.trans (congrArg Value.bool hb7), h.2⟩)
       ·
        intro vf pf hR
        have e23 : (vf 23) = .bool false ∧ (pf 23) = [] := hR 23 (by decide)
        have e26 : (vf 26) = .bool true ∧ (pf 26) = [] := hR 26 (by decide)
        refine Or.inl ⟨want_of (congrArg some e23.1) rfl, ?_⟩
        refine rq_less (sx 33 (congrArg some e26.1) (sub_nil _)) (List.sublist_append_right _ _) ?_
        exact rq_v (rv_ev rfl)
       ·
        intro vf pf hR
        have e23 : (vf 23) = .bool false ∧ (pf 23) = [] := hR 23 (by decide)
        have e27 : (vf 27) = .bool false ∧ (pf 27) = [] := hR 27 (by decide)
        refine Or.inl ⟨rfl, ?_⟩
        refine rq_less (sx 30 (congrArg some e23.1) (sx 34 (congrArg some e27.1) (sub_nil _))) (List.sublist_append_right _ _) ?_
        exact rq_v (rv_ev rfl)
      ·
       intro vf pf hR
       have e28 : (vf 28) = .bool false ∧ (pf 28) = [] := hR 28 (by decide)
       refine hl_less (l' := [boxE b2 #[t.mv, t.lv, .int .i64 t.pad, .int .i64 t.ram] 39, boxE b1 #[.int .i64 d.W, .int .i64 d.H, .int .i64 d.T, .int .i64 d.R] 25]) (sx 0 rfl (sx 1 rfl (sx 2 rfl (sx 3 rfl (sx 4 rfl (sx 35 (congrArg some e28.1) (sub_nil _))))))) (List.sublist_append_right _ _) ?_
       simp only [List.drop_succ_cons, List.drop_zero]
       refine hl_less (sx 0 rfl (sx 1 rfl (sx 2 rfl (sx 3 rfl (sx 4 rfl (sx 35 rfl (sub_nil _))))))) (.refl _) ?_
       refine hl_nil ?_
       refine hq_then ?_
       refine hc_false rfl ?_
       refine hc_skip ?_
       refine hq_then ?_
       refine hc_seq ?_
       refine hc_seq ?_
       refine hc_region ?_
       refine hl_v rfl rfl rfl (rv_field (k0 := 0) rfl (by kernel_rfl) rfl) ?_
       refine hl_v rfl rfl rfl (rv_load rfl (by kernel_rfl) rfl (box_cell 0 rfl rfl)) ?_
       refine hl_v rfl rfl rfl (rv_len rfl Try.underlying30 rfl (rd_old ht.mx)) ?_
       refine hl_v rfl rfl rfl (rv_ev rfl) ?_
       refine hl_less (sx 0 rfl (sx 1 rfl (sx 2 rfl (sx 3 rfl (sx 4 rfl (sx 35 rfl (sx 37 rfl (sx 38 rfl (sx 39 rfl (sub_nil _)))))))))) (.refl _) ?_
       refine hl_nil ?_
       refine hq_then ?_
       refine hc_block ?_
       refine hc_loop1 (α := Nat) (fun j => [boxE b2 #[t.mv, t.lv, .int .i64 t.pad, .int .i64 t.ram] 39, boxE b1 #[.int .i64 d.W, .int .i64 d.H, .int .i64 d.T, .int .i64 d.R] 25]) (fun j => [(0, .agg #[.int .i64 d.W, .int .i64 d.H, .int .i64 d.T, .int .i64 d.R]), (1, .agg #[t.mv, t.lv, .int .i64 t.pad, .int .i64 t.ram]), (2, .pointer (some ⟨b1, 0, none⟩)), (3, .pointer (some ⟨b2, 0, none⟩)), (4, .bool false), (35, .bool false), (37, t.mv), (38, .int .i64 (t.mx.length : Int)), (39, .int .i64 (j : Int))]) (fun j => j ≤ t.mx.length ∧ ∀ i, i < j → 0 ≤ t.mx.getD i 0 ∧ t.mx.getD i 0 ≤ 31) (fun j => t.mx.length - j) 0 ⟨by omega, fun i hi => absurd hi (by omega)⟩ (sx 0 rfl (sx 1 rfl (sx 2 rfl (sx 3 rfl (sx 4 rfl (sx 35 rfl (sx 37 rfl (sx 38 rfl (sx 39 rfl (sub_nil _)))))))))) ((.cons_cons _ (.cons_cons _ .slnil))) ?_
       intro j hi8
       obtain ⟨hk1, hk2⟩ := hi8
       refine hc_seq ?_
       refine hc_region ?_
       refine hl_lss rfl rfl rfl rfl rfl rfl (fun h9 => ?_) (fun h9 => ?_)
       ·
        refine hl_less (sx 0 rfl (sx 1 rfl (sx 2 rfl (sx 3 rfl (sx 4 rfl (sx 35 rfl (sx 37 rfl (sx 38 rfl (sx 39 rfl (sx 40 rfl (sub_nil _))))))))))) (.refl _) ?_
        refine hl_nil ?_
        refine hq_then ?_
        refine hc_seq ?_
        refine hc_true rfl ?_
        refine hc_skip ?_
        refine hq_then ?_
        refine hc_seq ?_
        refine hc_block ?_
        refine hc_seq ?_
        refine hc_region ?_
        refine hl_v rfl rfl rfl (rv_index (s := 1) rfl Try.underlying30 (by kernel_rfl) rfl rfl (rd_old ht.mx) (by omega) (by first | omega | (simp only [List.length_set]; omega))) ?_
        refine hl_v rfl rfl rfl (rv_loadEl (u := .int .i64 (t.mx.getD j 0)) rfl (by kernel_rfl) rfl (rd_old ht.mx) (ints_at1 (show _ < t.mx.length by first | omega | (simp only [List.length_set]; omega)))) ?_
        refine hl_v rfl rfl rfl (rv_ev rfl) ?_
        refine hl_less (sx 0 rfl (sx 1 rfl (sx 2 rfl (sx 3 rfl (sx 4 rfl (sx 6 rfl (sx 35 rfl (sx 37 rfl (sx 38 rfl (sx 39 rfl (sx 40 rfl (sub_nil _)))))))))))) (.refl _) ?_
        refine hl_nil ?_
        refine hq_then ?_
        refine hc_seq ?_
        refine hc_region ?_
        refine hl_v rfl rfl rfl (rv_ev rfl) ?_
        refine hl_callV rfl rfl rfl (rq_call (by kernel_rfl) rfl (fun w hm => ret_ans (ans_of (inRange_any _ _ _ w)))) ?_
        refine hl_bool (fun h10 => ?_) (fun h10 => ?_)
        ·
         obtain ⟨h10a, h10b⟩ := (inR_iff _ _ _).1 h10
         refine hl_v rfl rfl rfl (rv_ev rfl) ?_
         refine hl_less (sx 0 rfl (sx 1 rfl (sx 2 rfl (sx 3 rfl (sx 4 rfl (sx 6 rfl (sx 35 rfl (sx 37 rfl (sx 38 rfl (sx 39 rfl (sx 40 rfl (sx 45 rfl (sub_nil _))))))))))))) (.refl _) ?_
         refine hl_nil ?_
         refine hq_then ?_
         refine hc_false rfl ?_
         refine hc_skip ?_
         refine hq_block_normal ?_
         refine hq_then ?_
         refine hc_region ?_
         refine hl_v rfl rfl rfl (rv_add rfl rfl rfl (by constructor <;> omega)) ?_
         refine hl_v rfl rfl rfl (rv_ev rfl) ?_
         refine hl_less (sx 0 rfl (sx 1 rfl (sx 2 rfl (sx 3 rfl (sx 4 rfl (sx 6 rfl (sx 35 rfl (sx 37 rfl (sx 38 rfl (sx 39 rfl (sx 40 rfl (sx 45 rfl (sub_nil _))))))))))))) (.refl _) ?_
         refine hl_nil ?_
         exact hq_round1 (j + 1) ⟨by omega, fun i hi => by by_cases hij : i = j; (subst hij; omega); exact hk2 i (by omega)⟩ (by omega) (sx 0 rfl (sx 1 rfl (sx 2 rfl (sx 3 rfl (sx 4 rfl (sx 35 rfl (sx 37 rfl (sx 38 rfl (sx 39 rfl (sub_nil _)))))))))) ((.cons_cons _ (.cons_cons _ .slnil)))
        ·
         have h10a := inR_nah h10
         refine hl_v rfl rfl rfl (rv_ev rfl) ?_
         refine hl_less (sx 0 rfl (sx 1 rfl (sx 2 rfl (sx 3 rfl (sx 4 rfl (sx 6 rfl (sx 35 rfl (sx 37 rfl (sx 38 rfl (sx 39 rfl (sx 40 rfl (sx 45 rfl (sub_nil _))))))))))))) (.refl _) ?_
         refine hl_nil ?_
         refine hq_then ?_
         refine hc_true rfl ?_
         refine hc_seq ?_
         refine hc_region ?_
         refine hl_v rfl rfl rfl (rv_ev rfl) ?_
         refine hl_less (sx 0 rfl (sx 1 rfl (sx 2 rfl (sx 3 rfl (sx 4 rfl (sx 6 rfl (sx 35 rfl (sx 37 rfl (sx 38 rfl (sx 39 rfl (sx 40 rfl (sx 45 rfl (sub_nil _))))))))))))) (.refl _) ?_
         refine hl_nil ?_
         refine hq_then ?_
         refine hc_ret ?_
         refine hq_block_ret ?_
         refine hq_then_ret ?_
         refine hq_then_ret ?_
         refine hq_block_ret ?_
         refine hq_then_ret ?_
         exact hq_ans rfl rfl (congrArg _ (Bool.eq_false_iff.2 (fun h => by obtain ⟨q1, q2, q3, q4, q5, q6, q7⟩ := (tcOkV_iff d t).1 h; first | omega | (have := q6 j (by omega); omega) | (have := q7 0 (by omega); simp_all; done) | (have := q7 1 (by omega); simp_all; done) | contradiction | simp_all)).symm)
       ·
        refine hl_less (sx 0 rfl (sx 1 rfl (sx 2 rfl (sx 3 rfl (sx 4 rfl (sx 35 rfl (sx 37 rfl (sx 38 rfl (sx 39 rfl (sx 40 rfl (sub_nil _))))))))))) (.refl _) ?_
        refine hl_nil ?_
        refine hq_then ?_
        refine hc_seq ?_
        refine hc_false rfl ?_
        refine hc_exit ?_
        refine hq_then_exit ?_
        refine hq_then_exit ?_
        refine hq_block_exit ?_
        refine hq_then ?_
        refine hc_seq ?_
        refine hc_region ?_
        refine hl_v rfl rfl rfl (rv_field (k0 := 1) rfl (by kernel_rfl) rfl) ?_
        refine hl_v rfl rfl rfl (rv_load rfl (by kernel_rfl) rfl (box_cell 0 rfl rfl)) ?_
        refine hl_v rfl rfl rfl (rv_index (s := 4) rfl Try.underlying37 (by kernel_rfl) rfl rfl (rd_old ht.lv) (by omega) (by first | omega | (simp only [List.length_set]; omega))) ?_
        refine hl_v rfl rfl rfl (rv_loadElN (us := [(t.es.getD 0 Le0).v, .int .i64 ((t.es.getD 0 Le0).m), .int .i64 ((t.es.getD 0 Le0).f), .int .i64 ((t.es.getD 0 Le0).i)]) rfl (by kernel_rfl) (by kernel_rfl) rfl (rd_old ht.lv) (by omega) rfl (flat_atN Le.cells 4 (fun _ => rfl) t.es Le0 (show 0 < _ by first | omega | (simp only [List.length_set]; omega)) rfl)) ?_
        refine hl_callV rfl rfl rfl (rq_call (by kernel_rfl) rfl (fun w hm => ret_ans (leConfigOk_ans (t.es.getD 0 Le0) w ((ht.es _ (getD_mem' (by omega))).below hm.bel)))) ?_
        refine hl_bool (fun h11 => ?_) (fun h11 => ?_)
        ·
         refine hl_v rfl rfl rfl (rv_ev rfl) ?_
         refine hl_v rfl rfl rfl (rv_field (k0 := 1) rfl (by kernel_rfl) rfl) ?_
         refine hl_v rfl rfl rfl (rv_load rfl (by kernel_rfl) rfl (box_cell 0 rfl rfl)) ?_
         refine hl_v rfl rfl rfl (rv_index (s := 4) rfl Try.underlying37 (by kernel_rfl) rfl rfl (rd_old ht.lv) (by omega) (by first | omega | (simp only [List.length_set]; omega))) ?_
         refine hl_v rfl rfl rfl (rv_loadElN (us := [(t.es.getD 1 Le0).v, .int .i64 ((t.es.getD 1 Le0).m), .int .i64 ((t.es.getD 1 Le0).f), .int .i64 ((t.es.getD 1 Le0).i)]) rfl (by kernel_rfl) (by kernel_rfl) rfl (rd_old ht.lv) (by omega) rfl (flat_atN Le.cells 4 (fun _ => rfl) t.es Le0 (show 1 < _ by first | omega | (simp only [List.length_set]; omega)) rfl)) ?_
         refine hl_callV rfl rfl rfl (rq_call (by kernel_rfl) rfl (fun w hm => ret_ans (leConfigOk_ans (t.es.getD 1 Le0) w ((ht.es _ (getD_mem' (by omega))).below hm.bel)))) ?_
         refine hl_bool (fun h12 => ?_) (fun h12 => ?_)
         ·
          refine hl_v rfl rfl rfl (rv_ev rfl) ?_
          refine hl_v rfl rfl rfl (rv_ev rfl) ?_
          refine hl_less (sx 0 rfl (sx 1 rfl (sx 2 rfl (sx 3 rfl (sx 4 rfl (sx 35 rfl (sx 37 rfl (sx 38 rfl (sx 39 rfl (sx 40 rfl (sub_nil _))))))))))) (.refl _) ?_
          refine hl_nil ?_
          refine hq_then ?_
          refine hc_ret ?_
          exact hq_ans rfl rfl (congrArg _ ((tcOkV_iff d t).2 ⟨by assumption, by omega, by omega, by omega, by omega, fun i hi => hk2 i (by omega), fun i hi => by rcases (show i = 0 ∨ i = 1 by omega) with rfl | rfl <;> assumption⟩).symm)
         ·
          refine hl_v rfl rfl rfl (rv_ev rfl) ?_
          refine hl_v rfl rfl rfl (rv_ev rfl) ?_
          refine hl_less (sx 0 rfl (sx 1 rfl (sx 2 rfl (sx 3 rfl (sx 4 rfl (sx 35 rfl (sx 37 rfl (sx 38 rfl (sx 39 rfl (sx 40 rfl (sub_nil _))))))))))) (.refl _) ?_
          refine hl_nil ?_
          refine hq_then ?_
          refine hc_ret ?_
          exact hq_ans rfl rfl (congrArg _ (Bool.eq_false_iff.2 (fun h => by obtain ⟨q1, q2, q3, q4, q5, q6, q7⟩ := (tcOkV_iff d t).1 h; first | omega | (have := q6 j (by omega); omega) | (have := q7 0 (by omega); simp_all; done) | (have := q7 1 (by omega); simp_all; done) | contradiction | simp_all)).symm)
        ·
         refine hl_v rfl rfl rfl (rv_ev rfl) ?_
         refine hl_skip rfl rfl rfl ?_
         refine hl_skip rfl rfl rfl ?_
         refine hl_skip rfl rfl rfl ?_
         refine hl_skip rfl rfl rfl ?_
         refine hl_skip rfl rfl rfl ?_
         refine hl_v rfl rfl rfl (rv_ev rfl) ?_
         refine hl_v rfl rfl rfl (rv_ev rfl) ?_
         refine hl_less (sx 0 rfl (sx 1 rfl (sx 2 rfl (sx 3 rfl (sx 4 rfl (sx 35 rfl (sx 37 rfl (sx 38 rfl (sx 39 rfl (sx 40 rfl (sub_nil _))))))))))) (.refl _) ?_
         refine hl_nil ?_
         refine hq_then ?_
         refine hc_ret ?_
         exact hq_ans rfl rfl (congrArg _ (Bool.eq_false_iff.2 (fun h => by obtain ⟨q1, q2, q3, q4, q5, q6, q7⟩ := (tcOkV_iff d t).1 h; first | omega | (have := q6 j (by omega); omega) | (have := q7 0 (by omega); simp_all; done) | (have := q7 1 (by omega); simp_all; done) | contradiction | simp_all)).symm)
     ·
      have hb7a := inR_nah hb7
      refine hc_draw (by kernel_rfl) 29 [0, 1, 2, 3, 4, 5, 6, 7, 8, 9, 10, 11, 12, 13, 14, 15, 16, 17, 18, 19, 20, 21, 22, 23, 24, 25, 26, 27, 28] (List.take 29 _) (List.drop 29 _) [[], [0], [1], [2], [3], [3, 4], [3, 5], [3], [3, 7], [3, 6, 8], [3, 9], [10], [11], [11, 12], [11, 13], [11, 14], [11, 15], [16], [17], [17, 18], [17, 19], [17, 20], [17, 21], [22], [23], [23, 24], [23, 25], [23, 26], [23, 27]] [7, 8, 9, 10, 11, 12, 13, 14, 15, 16, 17, 18, 19, 20, 21, 22, 23, 24, 25, 26, 27, 28, 29, 30, 31, 32, 33, 34, 35] (fun i vs_ v_ p_ => match i with | 0 => v_ = .agg #[.int .i64 d.W, .int .i64 d.H, .int .i64 d.T, .int .i64 d.R] ∧ p_ = [] | 1 => v_ = .bool true ∧ p_ = [] | 2 => v_ = .bool false ∧ p_ = [] | 3 => v_ = .bool false ∧ p_ = [] | 4 => v_ = .pointer (some ⟨b2, 0 + 0, none⟩) ∧ p_ = [] | 5 => v_ = t.mv ∧ p_ = [] | 6 => v_ = .int .i64 (t.mx.length : Int) ∧ p_ = [] | 7 => v_ = .agg #[.int .i64 d.W, .int .i64 d.H, .int .i64 d.T, .int .i64 d.R] ∧ p_ = [] | 8 => v_ = .int .i64 (5 + 4 * d.T) ∧ p_ = [] | 9 => v_ = .bool false ∧ p_ = [] | 10 => v_ = .bool false ∧ p_ = [] | 11 => v_ = .bool false ∧ p_ = [] | 12 => v_ = .pointer (some ⟨b2, 0 + 1, none⟩) ∧ p_ = [] | 13 => v_ = t.lv ∧ p_ = [] | 14 => v_ = .int .i64 (t.es.length : Int) ∧ p_ = [] | 15 => v_ = .bool false ∧ p_ = [] | 16 => v_ = .bool false ∧ p_ = [] | 17 => v_ = .bool false ∧ p_ = [] | 18 => v_ = .pointer (some ⟨b2, 0 + 2, none⟩) ∧ p_ = [] | 19 => v_ = .int .i64 t.pad ∧ p_ = [] | 20 => v_ = .bool true ∧ p_ = [] | 21 => v_ = .bool false ∧ p_ = [] | 22 => v_ = .bool false ∧ p_ = [] | 23 => v_ = .bool false ∧ p_ = [] | 24 => v_ = .pointer (some ⟨b2, 0 + 3, none⟩) ∧ p_ = [] | 25 => v_ = .int .i64 t.ram ∧ p_ = [] | 26 => v_ = .bool false ∧ p_ = [] | 27 => v_ = .bool true ∧ p_ = [] | 28 => v_ = .bool true ∧ p_ = [] | _ => True) (List.take_append_drop 29 _).symm (by kernel_rfl) (by kernel_rfl) rfl rfl ?_ ?_
      ·
       refine ⟨?_, ?_, ?_, ?_, ?_, ?_, ?_, ?_, ?_, ?_, ?_, ?_, ?_, ?_, ?_, ?_, ?_, ?_, ?_, ?_, ?_, ?_, ?_, ?_, ?_, ?_, ?_, ?_, ?_, trivial⟩
       ·
        intro vf pf hR
        refine Or.inl ⟨rfl, ?_⟩
        refine rq_less (sx 2 rfl (sub_nil _)) (List.sublist_append_right _ _) ?_
        exact rq_v (rv_loadN (cs := [.int .i64 d.W, .int .i64 d.H, .int .i64 d.T, .int .i64 d.R]) rfl (by kernel_rfl) (by kernel_rfl) rfl rfl (box_part 1 rfl 0 rfl))
       ·
        intro vf pf hR
        have e0 : (vf 0) = .agg #[.int .i64 d.W, .int .i64 d.H, .int .i64 d.T, .int .i64 d.R] ∧ (pf 0) = [] := hR 0 (by decide)
        refine Or.inl ⟨rfl, ?_⟩
        refine rq_less (sx 7 (congrArg some e0.1) (sub_nil _)) (List.sublist_append_right _ _) ?_
        exact rq_mono (rq_call (by kernel_rfl) rfl (fun w hm => ret_ans (implDeviceOk_any d w))) (fun _ _ h => ⟨h.1.trans (congrArg Value.bool hb3), h.2⟩)
       ·
        intro vf pf hR
        have e1 : (vf 1) = .bool true ∧ (pf 1) = [] := hR 1 (by decide)
        refine Or.inl ⟨rfl, ?_⟩
        refine rq_less (sx 8 (congrArg some e1.1) (sub_nil _)) (List.sublist_append_right _ _) ?_
        exact rq_v (rv_ev rfl)
       ·
        intro vf pf hR
        have e2 : (vf 2) = .bool false ∧ (pf 2) = [] := hR 2 (by decide)
        refine Or.inl ⟨rfl, ?_⟩
        refine rq_less (sx 9 (congrArg some e2.1) (sub_nil _)) (List.sublist_append_right _ _) ?_
        exact rq_v (rv_ev rfl)
       ·
        intro vf pf hR
        have e3 : (vf 3) = .bool false ∧ (pf 3) = [] := hR 3 (by decide)
        refine Or.inl ⟨want_of (congrArg some e3.1) rfl, ?_⟩
        refine rq_less (sx 3 rfl (sub_nil _)) (List.sublist_append_right _ _) ?_
        exact rq_v (rv_field (k0 := 0) rfl (by kernel_rfl) rfl)
       ·
        intro vf pf hR
        have e3 : (vf 3) = .bool false ∧ (pf 3) = [] := hR 3 (by decide)
        have e4 : (vf 4) = .pointer (some ⟨b2, 0 + 0, none⟩) ∧ (pf 4) = [] := hR 4 (by decide)
        refine Or.inl ⟨want_of (congrArg some e3.1) rfl, ?_⟩
        refine rq_less (sx 11 (congrArg some e4.1) (sub_nil _)) (List.sublist_append_right _ _) ?_
        exact rq_v (rv_load rfl (by kernel_rfl) rfl (box_cell 0 rfl rfl))
       ·
        intro vf pf hR
        have e3 : (vf 3) = .bool false ∧ (pf 3) = [] := hR 3 (by decide)
        have e5 : (vf 5) = t.mv ∧ (pf 5) = [] := hR 5 (by decide)
        refine Or.inl ⟨want_of (congrArg some e3.1) rfl, ?_⟩
        refine rq_less (sx 12 (congrArg some e5.1) (sub_nil _)) (List.sublist_append_right _ _) ?_
        exact rq_v (rv_len rfl Try.underlying30 rfl (rd_old ht.mx))
       ·
        intro vf pf hR
        have e3 : (vf 3) = .bool false ∧ (pf 3) = [] := hR 3 (by decide)
        refine Or.inl ⟨want_of (congrArg some e3.1) rfl, ?_⟩
        refine rq_less (sx 2 rfl (sub_nil _)) (List.sublist_append_right _ _) ?_
        exact rq_v (rv_loadN (cs := [.int .i64 d.W, .int .i64 d.H, .int .i64 d.T, .int .i64 d.R]) rfl (by kernel_rfl) (by kernel_rfl) rfl rfl (box_part 1 rfl 0 rfl))
       ·
        intro vf pf hR
        have e3 : (vf 3) = .bool false ∧ (pf 3) = [] := hR 3 (by decide)
        have e7 : (vf 7) = .agg #[.int .i64 d.W, .int .i64 d.H, .int .i64 d.T, .int .i64 d.R] ∧ (pf 7) = [] := hR 7 (by decide)
        refine Or.inl ⟨want_of (congrArg some e3.1) rfl, ?_⟩
        refine rq_less (sx 14 (congrArg some e7.1) (sub_nil _)) (List.sublist_append_right _ _) ?_
        exact (rq_call (by kernel_rfl) rfl (fun w hm => ret_ans (implMux_any d (by assumption) w)))
       ·
        intro vf pf hR
        have e3 : (vf 3) = .bool false ∧ (pf 3) = [] := hR 3 (by decide)
        have e6 : (vf 6) = .int .i64 (t.mx.length : Int) ∧ (pf 6) = [] := hR 6 (by decide)
        have e8 : (vf 8) = .int .i64 (5 + 4 * d.T) ∧ (pf 8) = [] := hR 8 (by decide)
        refine Or.inl ⟨want_of (congrArg some e3.1) rfl, ?_⟩
        refine rq_less (sx 13 (congrArg some e6.1) (sx 15 (congrArg some e8.1) (sub_nil _))) (List.sublist_append_right _ _) ?_
        exact rq_mono (rq_v (rv_cmp rfl rfl rfl rfl)) (fun _ _ h => ⟨h.1.trans (congrArg Value.bool hb4), h.2⟩)
       ·
        intro vf pf hR
        have e3 : (vf 3) = .bool false ∧ (pf 3) = [] := hR 3 (by decide)
        have e9 : (vf 9) = .bool false ∧ (pf 9) = [] := hR 9 (by decide)
        refine Or.inl ⟨rfl, ?_⟩
        refine rq_less (sx 10 (congrArg some e3.1) (sx 16 (congrArg some e9.1) (sub_nil _))) (List.sublist_append_right _ _) ?_
        exact rq_v (rv_ev rfl)
       ·
        intro vf pf hR
        have e10 : (vf 10) = .bool false ∧ (pf 10) = [] := hR 10 (by decide)
        refine Or.inl ⟨rfl, ?_⟩
        refine rq_less (sx 17 (congrArg some e10.1) (sub_nil _)) (List.sublist_append_right _ _) ?_
        exact rq_v (rv_ev rfl)
       ·
        intro vf pf hR
        have e11 : (vf 11) = .bool false ∧ (pf 11) = [] := hR 11 (by decide)
        refine Or.inl ⟨want_of (congrArg some e11.1) rfl, ?_⟩
        refine rq_less (sx 3 rfl (sub_nil _)) (List.sublist_append_right _ _) ?_
        exact rq_v (rv_field (k0 := 1) rfl (by kernel_rfl) rfl)
       ·
        intro vf pf hR
        have e11 : (vf 11) = .bool false ∧ (pf 11) = [] := hR 11 (by decide)
        have e12 : (vf 12) = .pointer (some ⟨b2, 0 + 1, none⟩) ∧ (pf 12) = [] := hR 12 (by decide)
        refine Or.inl ⟨want_of (congrArg some e11.1) rfl, ?_⟩
        refine rq_less (sx 19 (congrArg some e12.1) (sub_nil _)) (List.sublist_append_right _ _) ?_
        exact rq_v (rv_load rfl (by kernel_rfl) rfl (box_cell 0 rfl rfl))
       ·
        intro vf pf hR
        have e11 : (vf 11) = .bool false ∧ (pf 11) = [] := hR 11 (by decide)
        have e13 : (vf 13) = t.lv ∧ (pf 13) = [] := hR 13 (by decide)
        refine Or.inl ⟨want_of (congrArg some e11.1) rfl, ?_⟩
        refine rq_less (sx 20 (congrArg some e13.1) (sub_nil _)) (List.sublist_append_right _ _) ?_
        exact rq_v (rv_len rfl Try.underlying37 rfl (rd_old ht.lv))
       ·
        intro vf pf hR
        have e11 : (vf 11) = .bool false ∧ (pf 11) = [] := hR 11 (by decide)
        have e14 : (vf 14) = .int .i64 (t.es.length : Int) ∧ (pf 14) = [] := hR 14 (by decide)
        refine Or.inl ⟨want_of (congrArg some e11.1) rfl, ?_⟩
        refine rq_less (sx 21 (congrArg some e14.1) (sub_nil _)) (List.sublist_append_right _ _) ?_
        exact rq_mono (rq_v (rv_cmp rfl rfl rfl rfl)) (fun _ _ h => ⟨h.1.trans (congrArg Value.bool hb5), h.2⟩)
       ·
        intro vf pf hR
        have e11 : (vf 11) = .bool false ∧ (pf 11) = [] := hR 11 (by decide)
        have e15 : (vf 15) = .bool false ∧ (pf 15) = [] := hR 15 (by decide)
        refine Or.inl ⟨rfl, ?_⟩
        refine rq_less (sx 18 (congrArg some e11.1) (sx 22 (congrArg some e15.1) (sub_nil _))) (List.sublist_append_right _ _) ?_
        exact rq_v (rv_ev rfl)
       ·
        intro vf pf hR
        have e16 : (vf 16) = .bool false ∧ (pf 16) = [] := hR 16 (by decide)
        refine Or.inl ⟨rfl, ?_⟩
        refine rq_less (sx 23 (congrArg some e16.1) (sub_nil _)) (List.sublist_append_right _ _) ?_
        exact rq_v (rv_ev rfl)
       ·
        intro vf pf hR
        have e17 : (vf 17) = .bool false ∧ (pf 17) = [] := hR 17 (by decide)
        refine Or.inl ⟨want_of (congrArg some e17.1) rfl, ?_⟩
        refine rq_less (sx 3 rfl (sub_nil _)) (List.sublist_append_right _ _) ?_
        exact rq_v (rv_field (k0 := 2) rfl (by kernel_rfl) rfl)
       ·
        intro vf pf hR
        have e17 : (vf 17) = .bool false ∧ (pf 17) = [] := hR 17 (by decide)
        have e18 : (vf 18) = .pointer (some ⟨b2, 0 + 2, none⟩) ∧ (pf 18) = [] := hR 18 (by decide)
        refine Or.inl ⟨want_of (congrArg some e17.1) rfl, ?_⟩
        refine rq_less (sx 25 (congrArg some e18.1) (sub_nil _)) (List.sublist_append_right _ _) ?_
        exact rq_v (rv_load rfl (by kernel_rfl) rfl (box_cell 0 rfl rfl))
       ·
        intro vf pf hR
        have e17 : (vf 17) = .bool false ∧ (pf 17) = [] := hR 17 (by decide)
        have e19 : (vf 19) = .int .i64 t.pad ∧ (pf 19) = [] := hR 19 (by decide)
        refine Or.inl ⟨want_of (congrArg some e17.1) rfl, ?_⟩
        refine rq_less (sx 26 (congrArg some e19.1) (sub_nil _)) (List.sublist_append_right _ _) ?_
        exact rq_mono (rq_call (by kernel_rfl) rfl (fun w hm => ret_ans (ans_of (inRange_any _ _ _ w)))) (fun _ _ h => ⟨h.1.trans (congrArg Value.bool hb6), h.2⟩)
       ·
        intro vf pf hR
        have e17 : (vf 17) = .bool false ∧ (pf 17) = [] := hR 17 (by decide)
        have e20 : (vf 20) = .bool true ∧ (pf 20) = [] := hR 20 (by decide)
        refine Or.inl ⟨want_of (congrArg some e17.1) rfl, ?_⟩
        refine rq_less (sx 27 (congrArg some e20.1) (sub_nil _)) (List.sublist_append_right _ _) ?_
        exact rq_v (rv_ev rfl)
       ·
        intro vf pf hR
        have e17 : (vf 17) = .bool false ∧ (pf 17) = [] := hR 17 (by decide)
        have e21 : (vf 21) = .bool false ∧ (pf 21) = [] := hR 21 (by decide)
        refine Or.inl ⟨rfl, ?_⟩
        refine rq_less (sx 24 (congrArg some e17.1) (sx 28 (congrArg some e21.1) (sub_nil _))) (List.sublist_append_right _ _) ?_
        exact rq_v (rv_ev rfl)
       ·
        intro vf pf hR
        have e22 : (vf 22) = .bool false ∧ (pf 22) = [] := hR 22 (by decide)
        refine Or.inl ⟨rfl, ?_⟩
        refine rq_less (sx 29 (congrArg some e22.1) (sub_nil _)) (List.sublist_append_right _ _) ?_
        exact rq_v (rv_ev rfl)
       ·
        intro vf pf hR
        have e23 : (vf 23) = .bool false ∧ (pf 23) = [] := hR 23 (by decide)
        refine Or.inl ⟨want_of (congrArg some e23.1) rfl, ?_⟩
        refine rq_less (sx 3 rfl (sub_nil _)) (List.sublist_append_right _ _) ?_
        exact rq_v (rv_field (k0 := 3) rfl (by kernel_rfl) rfl)
       ·
        intro vf pf hR
        have e23 : (vf 23) = .bool false ∧ (pf 23) = [] := hR 23 (by decide)
        have e24 : (vf 24) = .pointer (some ⟨b2, 0 + 3, none⟩) ∧ (pf 24) = [] := hR 24 (by decide)
        refine Or.inl ⟨want_of (congrArg some e23.1) rfl, ?_⟩
        refine rq_less (sx 31 (congrArg some e24.1) (sub_nil _)) (List.sublist_append_right _ _) ?_
        exact rq_v (rv_load rfl (by kernel_rfl) rfl (box_cell 0 rfl rfl))
       ·
        intro vf pf hR
        have e23 : (vf 23) = .bool false ∧ (pf 23) = [] := hR 23 (by decide)
        have e25 : (vf 25) = .int .i64 t.ram ∧ (pf 25) = [] := hR 25 (by decide)
        refine Or.inl ⟨want_of (congrArg some e23.1) rfl, ?_⟩
        refine rq_less (sx 32 (congrArg some e25.1) (sub_nil _)) (List.sublist_append_right _ _) ?_
        exact rq_mono (rq_call (by kernel_rfl) rfl (fun w hm => ret_ans (ans_of (inRange_any _ _ _ w)))) (fun _ _ h => ⟨h.1.trans (congrArg Value.bool hb7), h.2⟩)
       ·
        intro vf pf hR
        have e23 : (vf 23) = .bool false ∧ (pf 23) = [] := hR 23 (by decide)
        have e26 : (vf 26) = .bool false ∧ (pf 26) = [] := hR 26 (by decide)
        refine Or.inl ⟨want_of (congrArg some e23.1) rfl, ?_⟩
        refine rq_less (sx 33 (congrArg some e26.1) (sub_nil _)) (List.sublist_append_right _ _) ?_
        exact rq_v (rv_ev rfl)
       ·
        intro vf pf hR
        have e23 : (vf 23) = .bool false ∧ (pf 23) = [] := hR 23 (by decide)
        have e27 : (vf 27) = .bool true ∧ (pf 27) = [] := hR 27 (by decide)
        refine Or.inl ⟨rfl, ?_⟩
        refine rq_less (sx 30 (congrArg some e23.1) (sx 34 (congrArg some e27.1) (sub_nil _))) (List.sublist_append_right _ _) ?_
        exact rq_v (rv_ev rfl)
      ·
       intro vf pf hR
       have e28 : (vf 28) = .bool true ∧ (pf 28) = [] := hR 28 (by decide)
       refine hl_less (l' := [boxE b2 #[t.mv, t.lv, .int .i64 t.pad, .int .i64 t.ram] 39, boxE b1 #[.int .i64 d.W, .int .i64 d.H, .int .i64 d.T, .int .i64 d.R] 25]) (sx 0 rfl (sx 1 rfl (sx 2 rfl (sx 3 rfl (sx 4 rfl (sx 35 (congrArg some e28.1) (sub_nil _))))))) (List.sublist_append_right _ _) ?_
       simp only [List.drop_succ_cons, List.drop_zero]
       refine hl_less (sx 0 rfl (sx 1 rfl (sx 2 rfl (sx 3 rfl (sx 4 rfl (sx 35 rfl (sub_nil _))))))) (.refl _) ?_
       refine hl_nil ?_
       refine hq_then ?_
       refine hc_true rfl ?_
       refine hc_seq ?_
       refine hc_region ?_
       refine hl_v rfl rfl rfl (rv_ev rfl) ?_
       refine hl_less (sx 0 rfl (sx 1 rfl (sx 2 rfl (sx 3 rfl (sx 4 rfl (sx 35 rfl (sub_nil _))))))) (.refl _) ?_
       refine hl_nil ?_
       refine hq_then ?_
       refine hc_ret ?_
       refine hq_then_ret ?_
       exact hq_ans rfl rfl (congrArg _ (Bool.eq_false_iff.2 (fun h => by obtain ⟨q1, q2, q3, q4, q5, q6, q7⟩ := (tcOkV_iff d t).1 h; first | omega | (have := q6 j (by omega); omega) | (have := q7 0 (by omega); simp_all; done) | (have := q7 1 (by omega); simp_all; done) | contradiction | simp_all)).symm)
    ·
     have hb6a := inR_nah hb6
     refine hc_draw (by kernel_rfl) 29 [0, 1, 2, 3, 4, 5, 6, 7, 8, 9, 10, 11, 12, 13, 14, 15, 16, 17, 18, 19, 20, 21, 22, 23, 24, 25, 26, 27, 28] (List.take 29 _) (List.drop 29 _) [[], [0], [1], [2], [3], [3, 4], [3, 5], [3], [3, 7], [3, 6, 8], [3, 9], [10], [11], [11, 12], [11, 13], [11, 14], [11, 15], [16], [17], [17, 18], [17, 19], [17, 20], [17, 21], [22], [23], [23], [23], [23], [23, 27]] [7, 8, 9, 10, 11, 12, 13, 14, 15, 16, 17, 18, 19, 20, 21, 22, 23, 24, 25, 26, 27, 28, 29, 30, 31, 32, 33, 34, 35] (fun i vs_ v_ p_ => match i with | 0 => v_ = .agg #[.int .i64 d.W, .int .i64 d.H, .int .i64 d.T, .int .i64 d.R] ∧ p_ = [] | 1 => v_ = .bool true ∧ p_ = [] | 2 => v_ = .bool false ∧ p_ = [] | 3 => v_ = .bool false ∧ p_ = [] | 4 => v_ = .pointer (some ⟨b2, 0 + 0, none⟩) ∧ p_ = [] | 5 => v_ = t.mv ∧ p_ = [] | 6 => v_ = .int .i64 (t.mx.length : Int) ∧ p_ = [] | 7 => v_ = .agg #[.int .i64 d.W, .int .i64 d.H, .int .i64 d.T, .int .i64 d.R] ∧ p_ = [] | 8 => v_ = .int .i64 (5 + 4 * d.T) ∧ p_ = [] | 9 => v_ = .bool false ∧ p_ = [] | 10 => v_ = .bool false ∧ p_ = [] | 11 => v_ = .bool false ∧ p_ = [] | 12 => v_ = .pointer (some ⟨b2, 0 + 1, none⟩) ∧ p_ = [] | 13 => v_ = t.lv ∧ p_ = [] | 14 => v_ = .int .i64 (t.es.length : Int) ∧ p_ = [] | 15 => v_ = .bool false ∧ p_ = [] | 16 => v_ = .bool false ∧ p_ = [] | 17 => v_ = .bool false ∧ p_ = [] | 18 => v_ = .pointer (some ⟨b2, 0 + 2, none⟩) ∧ p_ = [] | 19 => v_ = .int .i64 t.pad ∧ p_ = [] | 20 => v_ = .bool false ∧ p_ = [] | 21 => v_ = .bool true ∧ p_ = [] | 22 => v_ = .bool true ∧ p_ = [] | 23 => v_ = .bool true ∧ p_ = [] | 24 => v_ = undef ∧ p_ = [] | 25 => v_ = undef ∧ p_ = [] | 26 => v_ = undef ∧ p_ = [] | 27 => v_ = undef ∧ p_ = [] | 28 => v_ = .bool true ∧ p_ = [] | _ => True) (List.take_append_drop 29 _).symm (by kernel_rfl) (by kernel_rfl) rfl rfl ?_ ?_
     ·
      refine ⟨?_, ?_, ?_, ?_, ?_, ?_, ?_, ?_, ?_, ?_, ?_, ?_, ?_, ?_, ?_, ?_, ?_, ?_, ?_, ?_, ?_, ?_, ?_, ?_, ?_, ?_, ?_, ?_, ?_, trivial⟩
      ·
       intro vf pf hR
       refine Or.inl ⟨rfl, ?_⟩
       refine rq_less (sx 2 rfl (sub_nil _)) (List.sublist_append_right _ _) ?_
       exact rq_v (rv_loadN (cs := [.int .i64 d.W, .int .i64 d.H, .int .i64 d.T, .int .i64 d.R]) rfl (by kernel_rfl) (by kernel_rfl) rfl rfl (box_part 1 rfl 0 rfl))
      ·
       intro vf pf hR
       have e0 : (vf 0) = .agg #[.int .i64 d.W, .int .i64 d.H, .int .i64 d.T, .int .i64 d.R] ∧ (pf 0) = [] := hR 0 (by decide)
       refine Or.inl ⟨rfl, ?_⟩
       refine rq_less (sx 7 (congrArg some e0.1) (sub_nil _)) (List.sublist_append_right _ _) ?_
       exact rq_mono (rq_call (by kernel_rfl) rfl (fun w hm => ret_ans (implDeviceOk_any d w))) (fun _ _ h => ⟨h.1.trans (congrArg Value.bool hb3), h.2⟩)
      ·
       intro vf pf hR
       have e1 : (vf 1) = .bool true ∧ (pf 1) = [] := hR 1 (by decide)
       refine Or.inl ⟨rfl, ?_⟩
       refine rq_less (sx 8 (congrArg some e1.1) (sub_nil _)) (List.sublist_append_right _ _) ?_
       exact rq_v (rv_ev rfl)
      ·
       intro vf pf hR
       have e2 : (vf 2) = .bool false ∧ (pf 2) = [] := hR 2 (by decide)
       refine Or.inl ⟨rfl, ?_⟩
       refine rq_less (sx 9 (congrArg some e2.1) (sub_nil _)) (List.sublist_append_right _ _) ?_
       exact rq_v (rv_ev rfl)
      ·
       intro vf pf hR
       have e3 : (vf 3) = .bool false ∧ (pf 3) = [] := hR 3 (by decide)
       refine Or.inl ⟨want_of (congrArg some e3.1) rfl, ?_⟩
       refine rq_less (sx 3 rfl (sub_nil _)) (List.sublist_append_right _ _) ?_
       exact rq_v (rv_field (k0 := 0) rfl (by kernel_rfl) rfl)
      ·
       intro vf pf hR
       have e3 : (vf 3) = .bool false ∧ (pf 3) = [] := hR 3 (by decide)
       have e4 : (vf 4) = .pointer (some ⟨b2, 0 + 0, none⟩) ∧ (pf 4) = [] := hR 4 (by decide)
       refine Or.inl ⟨want_of (congrArg some e3.1) rfl, ?_⟩
       refine rq_less (sx 11 (congrArg some e4.1) (sub_nil _)) (List.sublist_append_right _ _) ?_
       exact rq_v (rv_load rfl (by kernel_rfl) rfl (box_cell 0 rfl rfl))
      ·
       intro vf pf hR
       have e3 : (vf 3) = .bool false ∧ (pf 3) = [] := hR 3 (by decide)
       have e5 : (vf 5) = t.mv ∧ (pf 5) = [] := hR 5 (by decide)
       refine Or.inl ⟨want_of (congrArg some e3.1) rfl, ?_⟩
       refine rq_less (sx 12 (congrArg some e5.1) (sub_nil _)) (List.sublist_append_right _ _) ?_
       exact rq_v (rv_len rfl Try.underlying30 rfl (rd_old ht.mx))
      ·
       intro vf pf hR
       have e3 : (vf 3) = .bool false ∧ (pf 3) = [] := hR 3 (by decide)
       refine Or.inl ⟨want_of (congrArg some e3.1) rfl, ?_⟩
       refine rq_less (sx 2 rfl (sub_nil _)) (List.sublist_append_right _ _) ?_
       exact rq_v (rv_loadN (cs := [.int .i64 d.W, .int .i64 d.H, .int .i64 d.T, .int .i64 d.R]) rfl (by kernel_rfl) (by kernel_rfl) rfl rfl (box_part 1 rfl 0 rfl))
      ·
       intro vf pf hR
       have e3 : (vf 3) = .bool false ∧ (pf 3) = [] := hR 3 (by decide)
       have e7 : (vf 7) = .agg #[.int .i64 d.W, .int .i64 d.H, .int .i64 d.T, .int .i64 d.R] ∧ (pf 7) = [] := hR 7 (by decide)
       refine Or.inl ⟨want_of (congrArg some e3.1) rfl, ?_⟩
       refine rq_less (sx 14 (congrArg some e7.1) (sub_nil _)) (List.sublist_append_right _ _) ?_
       exact (rq_call (by kernel_rfl) rfl (fun w hm => ret_ans (implMux_any d (by assumption) w)))
      ·
       intro vf pf hR
       have e3 : (vf 3) = .bool false ∧ (pf 3) = [] := hR 3 (by decide)
       have e6 : (vf 6) = .int .i64 (t.mx.length : Int) ∧ (pf 6) = [] := hR 6 (by decide)
       have e8 : (vf 8) = .int .i64 (5 + 4 * d.T) ∧ (pf 8) = [] := hR 8 (by decide)
       refine Or.inl ⟨want_of (congrArg some e3.1) rfl, ?_⟩
       refine rq_less (sx 13 (congrArg some e6.1) (sx 15 (congrArg some e8.1) (sub_nil _))) (List.sublist_append_right _ _) ?_
       exact rq_mono (rq_v (rv_cmp rfl rfl rfl rfl)) (fun _ _ h => ⟨h.1.trans (congrArg Value.bool hb4), h.2⟩)
      ·
       intro vf pf hR
       have e3 : (vf 3) = .bool false ∧ (pf 3) = [] := hR 3 (by decide)
       have e9 : (vf 9) = .bool false ∧ (pf 9) = [] := hR 9 (by decide)
       refine Or.inl ⟨rfl, ?_⟩
       refine rq_less (sx 10 (congrArg some e3.1) (sx 16 (congrArg some e9.1) (sub_nil _))) (List.sublist_append_right _ _) ?_
       exact rq_v (rv_ev rfl)
      ·
       intro vf pf hR
       have e10 : (vf 10) = .bool false ∧ (pf 10) = [] := hR 10 (by decide)
       refine Or.inl ⟨rfl, ?_⟩
       refine rq_less (sx 17 (congrArg some e10.1) (sub_nil _)) (List.sublist_append_right _ _) ?_
       exact rq_v (rv_ev rfl)
      ·
       intro vf pf hR
       have e11 : (vf 11) = .bool false ∧ (pf 11) = [] := hR 11 (by decide)
       refine Or.inl ⟨want_of (congrArg some e11.1) rfl, ?_⟩
       refine rq_less (sx 3 rfl (sub_nil _)) (List.sublist_append_right _ _) ?_
       exact rq_v (rv_field (k0 := 1) rfl (by kernel_rfl) rfl)
      ·
       intro vf pf hR
       have e11 : (vf 11) = .bool false ∧ (pf 11) = [] := hR 11 (by decide)
       have e12 : (vf 12) = .pointer (some ⟨b2, 0 + 1, none⟩) ∧ (pf 12) = [] := hR 12 (by decide)
       refine Or.inl ⟨want_of (congrArg some e11.1) rfl, ?_⟩
       refine rq_less (sx 19 (congrArg some e12.1) (sub_nil _)) (List.sublist_append_right _ _) ?_
       exact rq_v (rv_load rfl (by kernel_rfl) rfl (box_cell 0 rfl rfl))
      ·
       intro vf pf hR
       have e11 : (vf 11) = .bool false ∧ (pf 11) = [] := hR 11 (by decide)
       have e13 : (vf 13) = t.lv ∧ (pf 13) = [] := hR 13 (by decide)
       refine Or.inl ⟨want_of (congrArg some e11.1) rfl, ?_⟩
       refine rq_less (sx 20 (congrArg some e13.1) (sub_nil _)) (List.sublist_append_right _ _) ?_
       exact rq_v (rv_len rfl Try.underlying37 rfl (rd_old ht.lv))
      ·
       intro vf pf hR
       have e11 : (vf 11) = .bool false ∧ (pf 11) = [] := hR 11 (by decide)
       have e14 : (vf 14) = .int .i64 (t.es.length : Int) ∧ (pf 14) = [] := hR 14 (by decide)
       refine Or.inl ⟨want_of (congrArg some e11.1) rfl, ?_⟩
       refine rq_less (sx 21 (congrArg some e14.1) (sub_nil _)) (List.sublist_append_right _ _) ?_
       exact rq_mono (rq_v (rv_cmp rfl rfl rfl rfl)) (fun _ _ h => ⟨h.1.trans (congrArg Value.bool hb5), h.2⟩)
      ·
       intro vf pf hR
       have e11 : (vf 11) = .bool false ∧ (pf 11) = [] := hR 11 (by decide)
       have e15 : (vf 15) = .bool false ∧ (pf 15) = [] := hR 15 (by decide)
       refine Or.inl ⟨rfl, ?_⟩
       refine rq_less (sx 18 (congrArg some e11.1) (sx 22 (congrArg some e15.1) (sub_nil _))) (List.sublist_append_right _ _) ?_
       exact rq_v (rv_ev rfl)
      ·
       intro vf pf hR
       have e16 : (vf 16) = .bool false ∧ (pf 16) = [] := hR 16 (by decide)
       refine Or.inl ⟨rfl, ?_⟩
       refine rq_less (sx 23 (congrArg some e16.1) (sub_nil _)) (List.sublist_append_right _ _) ?_
       exact rq_v (rv_ev rfl)
      ·
       intro vf pf hR
       have e17 : (vf 17) = .bool false ∧ (pf 17) = [] := hR 17 (by decide)
       refine Or.inl ⟨want_of (congrArg some e17.1) rfl, ?_⟩
       refine rq_less (sx 3 rfl (sub_nil _)) (List.sublist_append_right _ _) ?_
       exact rq_v (rv_field (k0 := 2) rfl (by kernel_rfl) rfl)
      ·
       intro vf pf hR
       have e17 : (vf 17) = .bool false ∧ (pf 17) = [] := hR 17 (by decide)
       have e18 : (vf 18) = .pointer (some ⟨b2, 0 + 2, none⟩) ∧ (pf 18) = [] := hR 18 (by decide)
       refine Or.inl ⟨want_of (congrArg some e17.1) rfl, ?_⟩
       refine rq_less (sx 25 (congrArg some e18.1) (sub_nil _)) (List.sublist_append_right _ _) ?_
       exact rq_v (rv_load rfl (by kernel_rfl) rfl (box_cell 0 rfl rfl))
      ·
       intro vf pf hR
       have e17 : (vf 17) = .bool false ∧ (pf 17) = [] := hR 17 (by decide)
       have e19 : (vf 19) = .int .i64 t.pad ∧ (pf 19) = [] := hR 19 (by decide)
       refine Or.inl ⟨want_of (congrArg some e17.1) rfl, ?_⟩
       refine rq_less (sx 26 (congrArg some e19.1) (sub_nil _)) (List.sublist_append_right _ _) ?_
       exact rq_mono (rq_call (by kernel_rfl) rfl (fun w hm => ret_ans (ans_of (inRange_any _ _ _ w)))) (fun _ _ h => ⟨h.1.trans (congrArg Value.bool hb6), h.2⟩)
      ·
       intro vf pf hR
       have e17 : (vf 17) = .bool false ∧ (pf 17) = [] := hR 17 (by decide)
       have e20 : (vf 20) = .bool false ∧ (pf 20) = [] := hR 20 (by decide)
       refine Or.inl ⟨want_of (congrArg some e17.1) rfl, ?_⟩
       refine rq_less (sx 27 (congrArg some e20.1) (sub_nil _)) (List.sublist_append_right _ _) ?_
       exact rq_v (rv_ev rfl)
      ·
       intro vf pf hR
       have e17 : (vf 17) = .bool false ∧ (pf 17) = [] := hR 17 (by decide)
       have e21 : (vf 21) = .bool true ∧ (pf 21) = [] := hR 21 (by decide)
       refine Or.inl ⟨rfl, ?_⟩
       refine rq_less (sx 24 (congrArg some e17.1) (sx 28 (congrArg some e21.1) (sub_nil _))) (List.sublist_append_right _ _) ?_
       exact rq_v (rv_ev rfl)
      ·
       intro vf pf hR
       have e22 : (vf 22) = .bool true ∧ (pf 22) = [] := hR 22 (by decide)
       refine Or.inl ⟨rfl, ?_⟩
       refine rq_less (sx 29 (congrArg some e22.1) (sub_nil _)) (List.sublist_append_right _ _) ?_
       exact rq_v (rv_ev rfl)
      ·
       intro vf pf hR
       have e23 : (vf 23) = .bool true ∧ (pf 23) = [] := hR 23 (by decide)
       exact Or.inr ⟨want_of (congrArg some e23.1) rfl, rfl, rfl⟩
      ·
       intro vf pf hR
       have e23 : (vf 23) = .bool true ∧ (pf 23) = [] := hR 23 (by decide)
       exact Or.inr ⟨want_of (congrArg some e23.1) rfl, rfl, rfl⟩
      ·
       intro vf pf hR
       have e23 : (vf 23) = .bool true ∧ (pf 23) = [] := hR 23 (by decide)
       exact Or.inr ⟨want_of (congrArg some e23.1) rfl, rfl, rfl⟩
      ·
       intro vf pf hR
       have e23 : (vf 23) = .bool true ∧ (pf 23) = [] := hR 23 (by decide)
       exact Or.inr ⟨want_of (congrArg some e23.1) rfl, rfl, rfl⟩
      ·
       intro vf pf hR
       have e23 : (vf 23) = .bool true ∧ (pf 23) = [] := hR 23 (by decide)
       have e27 : (vf 27) = undef ∧ (pf 27) = [] := hR 27 (by decide)
       refine Or.inl ⟨rfl, ?_⟩
       refine rq_less (sx 30 (congrArg some e23.1) (sx 34 (congrArg some e27.1) (sub_nil _))) (List.sublist_append_right _ _) ?_
       exact rq_v (rv_ev rfl)
     ·
      intro vf pf hR
      have e28 : (vf 28) = .bool true ∧ (pf 28) = [] := hR 28 (by decide)
      refine hl_less (l' := [boxE b2 #[t.mv, t.lv, .int .i64 t.pad, .int .i64 t.ram] 39, boxE b1 #[.int .i64 d.W, .int .i64 d.H, .int .i64 d.T, .int .i64 d.R] 25]) (sx 0 rfl (sx 1 rfl (sx 2 rfl (sx 3 rfl (sx 4 rfl (sx 35 (congrArg some e28.1) (sub_nil _))))))) (List.sublist_append_right _ _) ?_
      simp only [List.drop_succ_cons, List.drop_zero]
      refine hl_less (sx 0 rfl (sx 1 rfl (sx 2 rfl (sx 3 rfl (sx 4 rfl (sx 35 rfl (sub_nil _))))))) (.refl _) ?_
      refine hl_nil ?_
      refine hq_then ?_
      refine hc_true rfl ?_
      refine hc_seq ?_
      refine hc_region ?_
      refine hl_v rfl rfl rfl (rv_ev rfl) ?_
      refine hl_less (sx 0 rfl (sx 1 rfl (sx 2 rfl (sx 3 rfl (sx 4 rfl (sx 35 rfl (sub_nil _))))))) (.refl _) ?_
      refine hl_nil ?_
      refine hq_then ?_
      refine hc_ret ?_
      refine hq_then_ret ?_
      exact hq_ans rfl rfl (congrArg _ (Bool.eq_false_iff.2 (fun h => by obtain ⟨q1, q2, q3, q4, q5, q6, q7⟩ := (tcOkV_iff d t).1 h; first | omega | (have := q6 j (by omega); omega) | (have := q7 0 (by omega); simp_all; done) | (have := q7 1 (by omega); simp_all; done) | contradiction | simp_all)).symm)
 ·
  refine hc_draw (by kernel_rfl) 29 [0, 1, 2, 3, 4, 5, 6, 7, 8, 9, 10, 11, 12, 13, 14, 15, 16, 17, 18, 19, 20, 21, 22, 23, 24, 25, 26, 27, 28] (List.take 29 _) (List.drop 29 _) [[], [0], [1], [2], [3], [3], [3], [3], [3], [3], [3, 9], [10], [11], [11], [11], [11], [11, 15], [16], [17], [17], [17], [17], [17, 21], [22], [23], [23], [23], [23], [23, 27]] [7, 8, 9, 10, 11, 12, 13, 14, 15, 16, 17, 18, 19, 20, 21, 22, 23, 24, 25, 26, 27, 28, 29, 30, 31, 32, 33, 34, 35] (fun i vs_ v_ p_ => match i with | 0 => v_ = .agg #[.int .i64 d.W, .int .i64 d.H, .int .i64 d.T, .int .i64 d.R] ∧ p_ = [] | 1 => v_ = .bool false ∧ p_ = [] | 2 => v_ = .bool true ∧ p_ = [] | 3 => v_ = .bool true ∧ p_ = [] | 4 => v_ = undef ∧ p_ = [] | 5 => v_ = undef ∧ p_ = [] | 6 => v_ = undef ∧ p_ = [] | 7 => v_ = undef ∧ p_ = [] | 8 => v_ = undef ∧ p_ = [] | 9 => v_ = undef ∧ p_ = [] | 10 => v_ = .bool true ∧ p_ = [] | 11 => v_ = .bool true ∧ p_ = [] | 12 => v_ = undef ∧ p_ = [] | 13 => v_ = undef ∧ p_ = [] | 14 => v_ = undef ∧ p_ = [] | 15 => v_ = undef ∧ p_ = [] | 16 => v_ = .bool true ∧ p_ = [] | 17 => v_ = .bool true ∧ p_ = [] | 18 => v_ = undef ∧ p_ = [] | 19 => v_ = undef ∧ p_ = [] | 20 => v_ = undef ∧ p_ = [] | 21 => v_ = undef ∧ p_ = [] | 22 => v_ = .bool true ∧ p_ = [] | 23 => v_ = .bool true ∧ p_ = [] | 24 => v_ = undef ∧ p_ = [] | 25 => v_ = undef ∧ p_ = [] | 26 => v_ = undef ∧ p_ = [] | 27 => v_ = undef ∧ p_ = [] | 28 => v_ = .bool true ∧ p_ = [] | _ => True) (List.take_append_drop 29 _).symm (by kernel_rfl) (by kernel_rfl) rfl rfl ?_ ?_
  ·
   refine ⟨?_, ?_, ?_, ?_, ?_, ?_, ?_, ?_, ?_, ?_, ?_, ?_, ?_, ?_, ?_, ?_, ?_, ?_, ?_, ?_, ?_, ?_, ?_, ?_, ?_, ?_, ?_, ?_, ?_, trivial⟩
   ·
    intro vf pf hR
    refine Or.inl ⟨rfl, ?_⟩
    refine rq_less (sx 2 rfl (sub_nil _)) (List.sublist_append_right _ _) ?_
    exact rq_v (rv_loadN (cs := [.int .i64 d.W, .int .i64 d.H, .int .i64 d.T, .int .i64 d.R]) rfl (by kernel_rfl) (by kernel_rfl) rfl rfl (box_part 1 rfl 0 rfl))
   ·
    intro vf pf hR
    have e0 : (vf 0) = .agg #[.int .i64 d.W, .int .i64 d.H, .int .i64 d.T, .int .i64 d.R] ∧ (pf 0) = [] := hR 0 (by decide)
    refine Or.inl ⟨rfl, ?_⟩
    refine rq_less (sx 7 (congrArg some e0.1) (sub_nil _)) (List.sublist_append_right _ _) ?_
    exact rq_mono (rq_call (by kernel_rfl) rfl (fun w hm => ret_ans (implDeviceOk_any d w))) (fun _ _ h => ⟨h.1.trans (congrArg Value.bool hb3), h.2⟩)
   ·
    intro vf pf hR
    have e1 : (vf 1) = .bool false ∧ (pf 1) = [] := hR 1 (by decide)
    refine Or.inl ⟨rfl, ?_⟩
    refine rq_less (sx 8 (congrArg some e1.1) (sub_nil _)) (List.sublist_append_right _ _) ?_
    exact rq_v (rv_ev rfl)
   ·
    intro vf pf hR
    have e2 : (vf 2) = .bool true ∧ (pf 2) = [] := hR 2 (by decide)
    refine Or.inl ⟨rfl, ?_⟩
    refine rq_less (sx 9 (congrArg some e2.1) (sub_nil _)) (List.sublist_append_right _ _) ?_
    exact rq_v (rv_ev rfl)
   ·
    intro vf pf hR
    have e3 : (vf 3) = .bool true ∧ (pf 3) = [] := hR 3 (by decide)
    exact Or.inr ⟨want_of (congrArg some e3.1) rfl, rfl, rfl⟩
   ·
    intro vf pf hR
    have e3 : (vf 3) = .bool true ∧ (pf 3) = [] := hR 3 (by decide)
    exact Or.inr ⟨want_of (congrArg some e3.1) rfl, rfl, rfl⟩
   ·
    intro vf pf hR
    have e3 : (vf 3) = .bool true ∧ (pf 3) = [] := hR 3 (by decide)
    exact Or.inr ⟨want_of (congrArg some e3.1) rfl, rfl, rfl⟩
   ·
    intro vf pf hR
    have e3 : (vf 3) = .bool true ∧ (pf 3) = [] := hR 3 (by decide)
    exact Or.inr ⟨want_of (congrArg some e3.1) rfl, rfl, rfl⟩
   ·
    intro vf pf hR
    have e3 : (vf 3) = .bool true ∧ (pf 3) = [] := hR 3 (by decide)
    exact Or.inr ⟨want_of (congrArg some e3.1) rfl, rfl, rfl⟩
   ·
    intro vf pf hR
    have e3 : (vf 3) = .bool true ∧ (pf 3) = [] := hR 3 (by decide)
    exact Or.inr ⟨want_of (congrArg some e3.1) rfl, rfl, rfl⟩
   ·
    intro vf pf hR
    have e3 : (vf 3) = .bool true ∧ (pf 3) = [] := hR 3 (by decide)
    have e9 : (vf 9) = undef ∧ (pf 9) = [] := hR 9 (by decide)
    refine Or.inl ⟨rfl, ?_⟩
    refine rq_less (sx 10 (congrArg some e3.1) (sx 16 (congrArg some e9.1) (sub_nil _))) (List.sublist_append_right _ _) ?_
    exact rq_v (rv_ev rfl)
   ·
    intro vf pf hR
    have e10 : (vf 10) = .bool true ∧ (pf 10) = [] := hR 10 (by decide)
    refine Or.inl ⟨rfl, ?_⟩
    refine rq_less (sx 17 (congrArg some e10.1) (sub_nil _)) (List.sublist_append_right _ _) ?_
    exact rq_v (rv_ev rfl)
   ·
    intro vf pf hR
    have e11 : (vf 11) = .bool true ∧ (pf 11) = [] := hR 11 (by decide)
    exact Or.inr ⟨want_of (congrArg some e11.1) rfl, rfl, rfl⟩
   ·
    intro vf pf hR
    have e11 : (vf 11) = .bool true ∧ (pf 11) = [] := hR 11 (by decide)
    exact Or.inr ⟨want_of (congrArg some e11.1) rfl, rfl, rfl⟩
   ·
    intro vf pf hR
    have e11 : (vf 11) = .bool true ∧ (pf 11) = [] := hR 11 (by decide)
    exact Or.inr ⟨want_of (congrArg some e11.1) rfl, rfl, rfl⟩
   ·
    intro vf pf hR
    have e11 : (vf 11) = .bool true ∧ (pf 11) = [] := hR 11 (by decide)
    exact Or.inr ⟨want_of (congrArg some e11.1) rfl, rfl, rfl⟩
   ·
    intro vf pf hR
    have e11 : (vf 11) = .bool true ∧ (pf 11) = [] := hR 11 (by decide)
    have e15 : (vf 15) = undef ∧ (pf 15) = [] := hR 15 (by decide)
    refine Or.inl ⟨rfl, ?_⟩
    refine rq_less (sx 18 (congrArg some e11.1) (sx 22 (congrArg some e15.1) (sub_nil _))) (List.sublist_append_right _ _) ?_
    exact rq_v (rv_ev rfl)
   ·
    intro vf pf hR
    have e16 : (vf 16) = .bool true ∧ (pf 16) = [] := hR 16 (by decide)
    refine Or.inl ⟨rfl, ?_⟩
    refine rq_less (sx 23 (congrArg some e16.1) (sub_nil _)) (List.sublist_append_right _ _) ?_
    exact rq_v (rv_ev rfl)
   ·
    intro vf pf hR
    have e17 : (vf 17) = .bool true ∧ (pf 17) = [] := hR 17 (by decide)
    exact Or.inr ⟨want_of (congrArg some e17.1) rfl, rfl, rfl⟩
   ·
    intro vf pf hR
    have e17 : (vf 17) = .bool true ∧ (pf 17) = [] := hR 17 (by decide)
    exact Or.inr ⟨want_of (congrArg some e17.1) rfl, rfl, rfl⟩
   ·
    intro vf pf hR
    have e17 : (vf 17) = .bool true ∧ (pf 17) = [] := hR 17 (by decide)
    exact Or.inr ⟨want_of (congrArg some e17.1) rfl, rfl, rfl⟩
   ·
    intro vf pf hR
    have e17 : (vf 17) = .bool true ∧ (pf 17) = [] := hR 17 (by decide)
    exact Or.inr ⟨want_of (congrArg some e17.1) rfl, rfl, rfl⟩
   ·
    intro vf pf hR
    have e17 : (vf 17) = .bool true ∧ (pf 17) = [] := hR 17 (by decide)
    have e21 : (vf 21) = undef ∧ (pf 21) = [] := hR 21 (by decide)
    refine Or.inl ⟨rfl, ?_⟩
    refine rq_less (sx 24 (congrArg some e17.1) (sx 28 (congrArg some e21.1) (sub_nil _))) (List.sublist_append_right _ _) ?_
    exact rq_v (rv_ev rfl)
   ·
    intro vf pf hR
    have e22 : (vf 22) = .bool true ∧ (pf 22) = [] := hR 22 (by decide)
    refine Or.inl ⟨rfl, ?_⟩
    refine rq_less (sx 29 (congrArg some e22.1) (sub_nil _)) (List.sublist_append_right _ _) ?_
    exact rq_v (rv_ev rfl)
   ·
    intro vf pf hR
    have e23 : (vf 23) = .bool true ∧ (pf 23) = [] := hR 23 (by decide)
    exact Or.inr ⟨want_of (congrArg some e23.1) rfl, rfl, rfl⟩
   ·
    intro vf pf hR
    have e23 : (vf 23) = .bool true ∧ (pf 23) = [] := hR 23 (by decide)
    exact Or.inr ⟨want_of (congrArg some e23.1) rfl, rfl, rfl⟩
   ·
    intro vf pf hR
    have e23 : (vf 23) = .bool true ∧ (pf 23) = [] := hR 23 (by decide)
    exact Or.inr ⟨want_of (congrArg some e23.1) rfl, rfl, rfl⟩
   ·
    intro vf pf hR
    have e23 : (vf 23) = .bool true ∧ (pf 23) = [] := hR 23 (by decide)
    exact Or.inr ⟨want_of (congrArg some e23.1) rfl, rfl, rfl⟩
   ·
    intro vf pf hR
    have e23 : (vf 23) = .bool true ∧ (pf 23) = [] := hR 23 (by decide)
    have e27 : (vf 27) = undef ∧ (pf 27) = [] := hR 27 (by decide)
    refine Or.inl ⟨rfl, ?_⟩
    refine rq_less (sx 30 (congrArg some e23.1) (sx 34 (congrArg some e27.1) (sub_nil _))) (List.sublist_append_right _ _) ?_
    exact rq_v (rv_ev rfl)
  ·
   intro vf pf hR
   have e28 : (vf 28) = .bool true ∧ (pf 28) = [] := hR 28 (by decide)
   refine hl_less (l' := [boxE b2 #[t.mv, t.lv, .int .i64 t.pad, .int .i64 t.ram] 39, boxE b1 #[.int .i64 d.W, .int .i64 d.H, .int .i64 d.T, .int .i64 d.R] 25]) (sx 0 rfl (sx 1 rfl (sx 2 rfl (sx 3 rfl (sx 4 rfl (sx 35 (congrArg some e28.1) (sub_nil _))))))) (List.sublist_append_right _ _) ?_
   simp only [List.drop_succ_cons, List.drop_zero]
   refine hl_less (sx 0 rfl (sx 1 rfl (sx 2 rfl (sx 3 rfl (sx 4 rfl (sx 35 rfl (sub_nil _))))))) (.refl _) ?_
   refine hl_nil ?_
   refine hq_then ?_
   refine hc_true rfl ?_
   refine hc_seq ?_
   refine hc_region ?_
   refine hl_v rfl rfl rfl (rv_ev rfl) ?_
   refine hl_less (sx 0 rfl (sx 1 rfl (sx 2 rfl (sx 3 rfl (sx 4 rfl (sx 35 rfl (sub_nil _))))))) (.refl _) ?_
   refine hl_nil ?_
   refine hq_then ?_
   refine hc_ret ?_
   refine hq_then_ret ?_
   exact hq_ans rfl rfl (congrArg _ (Bool.eq_false_iff.2 (fun h => by obtain ⟨q1, q2, q3, q4, q5, q6, q7⟩ := (tcOkV_iff d t).1 h; first | omega | (have := q6 j (by omega); omega) | (have := q7 0 (by omega); simp_all; done) | (have := q7 1 (by omega); simp_all; done) | contradiction | simp_all)).symm)
theorem Tc.RdU.below {w w' : World} {t : Tc} (h : t.RdU w) (hb : Below w.heap.size w w') : t.RdU w' := ⟨h.mx.below hb, h.lv.below hb, fun e he => (h.es e he).below hb⟩
/-- the mutators: each takes the part that its forerunner holds (the first: what stands at the region's length) -/
def tauOk (os : List Oper) (m : Nat) (dps qd : List (List Nat)) (tau : List (Option Nat)) (fl : List Nat) : Bool :=
  (List.range m).all (fun i => (qd.getD i []).all (fun j => (dps.getD i []).contains j && (List.range m).all (fun k => tau.getD k none != some j)) && decide ((qd.getD i []).Nodup)) &&
  (List.range m).all (fun i => match tau.getD i none with | none => true | some h => (h == os.length || (dps.getD i []).contains h) && (List.range m).all (fun k => k == i || tau.getD k none != some h)) &&
  fl.all (fun j => (Nat.blt j m || j == os.length) && (List.range m).all (fun k => tau.getD k none != some j)) && decide fl.Nodup
/-- an operation that turns the part C -/
def RunM (P : Program) (N : Nat) (w0 : World) (C X : List HP) (env : List (Nat × Value)) (o : Oper) (R : Value → List HP → Prop) : Prop :=
  ∀ L, (∀ w, Mem w0 L w → Mem w0 X w) → ∀ a w, St N w0 (C ++ L) env a w → ∀ (Q : Post) (K : Act → World → Prop), (∀ v post w', R v post → Mem w0 (post ++ L) w' → K (a.put o.dst v) w') → o.wp P a w K Q
def OblM (P : Program) (ops : Array Oper) (N : Nat) (w0 : World) (C X : List HP) (env : List (Nat × Value)) (o : Oper) (R : Value → List HP → Prop) : Prop :=
  (want ops env o.guard = some true ∧ RunM P N w0 C X env o R) ∨ (want ops env o.guard = some false ∧ R undef C)
def Obl2 (P : Program) (ops : Array Oper) (N : Nat) (w0 : World) (t : Option Nat) (pf : Nat → List HP) (X : List HP) (env : List (Nat × Value)) (o : Oper) (R : Value → List HP → Prop) : Prop := match t with
  | none => Obl P ops N w0 X env o R
  | some h => OblM P ops N w0 (pf h) X env o R
section
variable {P : Program} {N : Nat} {w0 : World} {l : List HP} {env : List (Nat × Value)} {Q : Post} {os : List Oper} {m : Nat} {dps : List (List Nat)} {dsts : List Nat} {R : Nat → List Value → Value → List HP → Prop}
/-- where the quiet part stands -/
structure Mid2 (N : Nat) (w0 : World) (l : List HP) (env : List (Nat × Value)) (os : List Oper) (m : Nat) (dps : List (List Nat)) (dsts : List Nat) (R : Nat → List Value → Value → List HP → Prop) (tau : List (Option Nat)) (P0 : List HP) (listed : Array Bool) (ord held : List Nat) (vf : Nat → Value) (pf : Nat → List HP) (a : Act) (w : World) : Prop where
  size : listed.size = os.length
  iff : ∀ i, i < os.length → (listed.getD i true = true ↔ i ∈ ord)
  low : ∀ i ∈ ord, i < m
  closed : ∀ i ∈ ord, ∀ j ∈ depsOf os i, j ∈ ord
  nodup : ord.Nodup
  dcl : ∀ i ∈ ord, ∀ j ∈ dps.getD i [], j ∈ ord
  rel : ∀ i ∈ ord, R i ((dps.getD i []).map vf) (vf i) (pf i)
  hn : held.Nodup
  hin : ∀ i ∈ held, i ∈ ord ∨ i = os.length
  hall : ∀ i, (i ∈ ord ∨ i = os.length) → (∀ j ∈ ord, tau.getD j none ≠ some i) → i ∈ held
  hP : pf os.length = P0
  mem : Mem w0 (held.flatMap pf ++ l) w
  asize : a.tmps.size = N
  defers : a.defers = []
  env : ∀ d v, lk env d = some v → a.tmps[d]? = some v
  slots : ∀ i ∈ ord, ∀ d, dsts[i]? = some d → a.tmps[d]? = some (vf i)
theorem Mid2.st {tau P0 listed ord held vf pf a w} (h : Mid2 N w0 l env os m dps dsts R tau P0 listed ord held vf pf a w) (hm : m ≤ dsts.length) {is : List Nat} (hs : ∀ j ∈ is, j ∈ ord) {L : List HP} (hM : Mem w0 L w) : St N w0 L (envOf dsts vf is ++ env) a w := by
  refine ⟨hM, h.asize, h.defers, fun d v hd => ?_⟩
  rcases lk_append _ _ _ _ hd with h1 | h1
  · unfold envOf at h1
    rw [List.mem_map] at h1
    obtain ⟨i, hi, he⟩ := h1
    have hio := hs i hi
    have hlt := h.low i hio
    have : dsts[i]? = some (dsts.getD i 0) := by rw [List.getD_eq_getElem?_getD, List.getElem?_eq_getElem (by omega)]; rfl
    simp only [Prod.mk.injEq] at he
    obtain ⟨rfl, rfl⟩ := he
    exact h.slots i hio _ this
  · exact h.env d v h1
theorem hc_drawn2 {id : Nat} (hmix : P.follows .mixedOrders = true) (m : Nat) (dps : List (List Nat)) (dsts : List Nat) (R : Nat → List Value → Value → List HP → Prop) (qd : List (List Nat)) (tau : List (Option Nat)) (P0 : List HP) (fl : List Nat) (hok : drawOk os m dps dsts = true) (htau : tauOk os m dps qd tau fl = true) (hfresh : dsts.all (fun d => (lk env d).isNone) = true) (hN : dsts.all (fun d => Nat.blt d N) = true)
    (due : ∀ i o, os[i]? = some o → i < m → ∀ vf pf, pf os.length = P0 → (∀ j ∈ dps.getD i [], R j ((dps.getD j []).map vf) (vf j) (pf j)) → Obl2 P os.toArray N w0 (tau.getD i none) pf ((qd.getD i []).flatMap pf ++ l) (envOf dsts vf (dps.getD i []) ++ env) o (R i ((dps.getD i []).map vf)))
    (fin : ∀ vf pf, pf os.length = P0 → (∀ i, i < m → R i ((dps.getD i []).map vf) (vf i) (pf i)) → HL P N os.toArray w0 (fl.flatMap pf ++ l) (envOf dsts vf (List.range m) ++ env) (os.drop m) Q) : HC P N w0 (P0 ++ l) env (.region id os.toArray true) Q := by
  intro a w st
  refine wp_region_any hmix ?_
  simp only [drawOk, Bool.and_eq_true, Nat.ble_eq, List.all_eq_true, List.mem_range, Bool.or_eq_true, Nat.blt_eq, beq_iff_eq, decide_eq_true_eq, Array.all_eq_true'] at hok
  obtain ⟨⟨⟨⟨⟨⟨hml, hback⟩, hcov⟩, hready⟩, hdst⟩, hdn⟩, hdp⟩ := hok
  simp only [tauOk, Bool.and_eq_true, List.all_eq_true, List.mem_range, Bool.or_eq_true, Nat.blt_eq, beq_iff_eq, bne_iff_ne, decide_eq_true_eq, List.contains_iff_mem] at htau
  obtain ⟨⟨⟨hqd, hth⟩, hfl⟩, hfn⟩ := htau
  have hml' : m ≤ dsts.length := by have := congrArg List.length hdst; simp at this; omega
  have hlen : dsts.length = m := by have := congrArg List.length hdst; simp at this; omega
  have hrdy : ∀ k, m ≤ k → k < os.length → Region.ready .any os.toArray (preT os.length k) = [k] := fun k h1 h2 => by
    have := hready (k - m) (by omega)
    rw [show m + (k - m) = k by omega] at this
    exact this
  have hmsk : ∀ i j, ((msk ((List.range os.length).map (depsOf os)) []).getD i 0).testBit j = true → Dep os i j := msk_dep os _ _ (fun t ds ht d hd => by
    rw [List.getElem?_map] at ht
    by_cases h : t < os.length
    · rw [List.getElem?_range h] at ht; simp at ht; subst ht; simpa using hd
    · rw [List.getElem?_eq_none (by simp; omega)] at ht; cases ht) (fun i j h => by simp at h)
  have dstAt : ∀ i, i < m → ∀ o, os[i]? = some o → o.dst = some (dsts.getD i 0) := fun i hi o ho => by
    have h1 : ((os.take m).map (·.dst))[i]? = some o.dst := by rw [List.getElem?_map, List.getElem?_take, if_pos hi, ho]; rfl
    rw [hdst, List.getElem?_map] at h1
    rw [List.getD_eq_getElem?_getD]
    rw [List.getElem?_eq_getElem (by omega)] at h1 ⊢
    simp at h1 ⊢
    exact h1.symm
  -- what may come up
  have key : ∀ (f : Nat) (listed : Array Bool) (ord held : List Nat) (vf : Nat → Value) (pf : Nat → List HP) (a : Act) (w : World), f + ord.length = os.length → Mid2 N w0 l env os m dps dsts R tau P0 listed ord held vf pf a w → wpAny P .any os.toArray Q f listed a w := by
    intro f
    induction f with
    | zero =>
      intro listed ord held vf pf a w hf h
      -- all are listed: m = the length
      have hall : ∀ i, i < os.length → i ∈ ord := by
        intro i hi
        have hsub : ord.Perm (List.range os.length) ∨ True := .inr trivial
        obtain ⟨r, hr⟩ := pick_perm ord (List.range os.length) h.nodup (fun j hj => by have := h.low j hj; simp; omega)
        have hl := hr.length_eq
        simp at hl
        have : r = [] := List.length_eq_zero_iff.1 (by omega)
        subst this
        have := hr.mem_iff.1 (List.mem_range.2 hi)
        simpa using this
      have hm2 : m = os.length := by
        by_cases hc : m < os.length
        · have := h.low m (hall m hc); omega
        · omega
      have hp : listed = preT os.length m := by
        apply Array.ext
        · rw [h.size, preT_size _ _ hml]
        · intro i h1 h2
          have hi : i < os.length := by rw [h.size] at h1; exact h1
          have e1 := (h.iff i hi).2 (hall i hi)
          have e2 := preT_get os.length m i hml hi
          rw [Array.getD_eq_getD_getElem?, Array.getElem?_eq_getElem h1] at e1
          rw [Array.getD_eq_getD_getElem?, Array.getElem?_eq_getElem h2] at e2
          simp only [Option.getD_some] at e1 e2
          rw [e1, e2]; simp; omega
      rw [hp]
      refine tail_any hrdy 0 m (Nat.le_refl _) (by omega) a w ?_
      exact fin vf pf h.hP (fun i hi => h.rel i (hall i (by omega))) a w (h.st hml' (fun j hj => hall j (by rw [List.mem_range] at hj; omega)) (h.mem.pick hfn (fun j hj => h.hall j ((hfl j hj).1.imp (fun hlt => hall j (by omega)) (fun x => x)) (fun k hk => (hfl j hj).2 k (h.low k hk)))))
    | succ f ih =>
      intro listed ord held vf pf a w hf h
      by_cases hall : ∀ i, i < m → i ∈ ord
      · -- the tail's turn
        have hp : listed = preT os.length m := by
          apply Array.ext
          · rw [h.size, preT_size _ _ hml]
          · intro i h1 h2
            have hi : i < os.length := by rw [h.size] at h1; exact h1
            have e1 := h.iff i hi
            have e2 := preT_get os.length m i hml hi
            rw [Array.getD_eq_getD_getElem?, Array.getElem?_eq_getElem h1] at e1
            rw [Array.getD_eq_getD_getElem?, Array.getElem?_eq_getElem h2] at e2
            simp only [Option.getD_some] at e1 e2
            rw [e2, Bool.eq_iff_iff, e1, decide_eq_true_eq]
            exact ⟨fun hx => h.low i hx, fun hx => hall i hx⟩
        have hord : ord.length = m := by
          obtain ⟨r, hr⟩ := pick_perm ord (List.range m) h.nodup (fun j hj => by have := h.low j hj; simpa using this)
          obtain ⟨r', hr'⟩ := pick_perm (List.range m) ord List.nodup_range (fun j hj => hall j (by simpa using hj))
          have h1 := hr.length_eq
          have h2 := hr'.length_eq
          simp at h1 h2
          omega
        rw [hp]
        refine tail_any hrdy (f + 1) m (Nat.le_refl _) (by omega) a w ?_
        exact fin vf pf h.hP (fun i hi => h.rel i (hall i hi)) a w (h.st hml' (fun j hj => hall j (by simpa using hj)) (h.mem.pick hfn (fun j hj => h.hall j ((hfl j hj).1.imp (fun hlt => hall j hlt) (fun x => x)) (fun k hk => (hfl j hj).2 k (h.low k hk)))))
      · -- some quiet one is not done yet
        have hsome : ∃ i, i < m ∧ i ∉ ord := by
          by_cases hx : ∃ i, i < m ∧ i ∉ ord
          · exact hx
          · exact absurd (fun i hi => Decidable.byContradiction fun hn => hx ⟨i, hi, hn⟩) hall
        have mem_rdy : ∀ i, i ∈ Region.ready .any os.toArray listed ↔ i < os.length ∧ i ∉ ord ∧ ∀ j ∈ depsOf os i, j ∈ ord := by
          intro i
          unfold Region.ready
          rw [List.mem_filter, List.mem_range]
          simp only [List.size_toArray]
          constructor
          · rintro ⟨hi, hb⟩
            rw [Bool.and_eq_true] at hb
            have hno : i ∉ ord := fun hx => by rw [(h.iff i hi).2 hx] at hb; simp at hb
            refine ⟨hi, hno, fun j hj => ?_⟩
            have ho : os.toArray[i]? = some os[i] := by simp [hi]
            rw [ho] at hb
            simp only [Option.map_some, Option.getD_some, Array.all_eq_true'] at hb
            unfold depsOf at hj
            rw [List.getElem?_eq_getElem hi] at hj
            simp only [List.mem_map, List.mem_filter] at hj
            obtain ⟨e, ⟨he, hbd⟩, rfl⟩ := hj
            have hb2 := hb.2 e (by simpa using he)
            rw [hbd] at hb2
            simp at hb2
            have hlt := hback i hi e.on (by unfold depsOf; rw [List.getElem?_eq_getElem hi]; exact List.mem_map.2 ⟨e, List.mem_filter.2 ⟨he, hbd⟩, rfl⟩)
            refine (h.iff e.on (by omega)).1 ?_
            have hs : e.on < listed.size := by rw [h.size]; omega
            rw [Array.getD_eq_getD_getElem?, Array.getElem?_eq_getElem hs] 
            simp only [Option.getD_some]
            rw [Array.getElem?_eq_getElem hs] at hb2
            simpa using hb2
          · rintro ⟨hi, hno, hd⟩
            refine ⟨hi, ?_⟩
            have ho : os.toArray[i]? = some os[i] := by simp [hi]
            rw [ho]
            simp only [Option.map_some, Option.getD_some, Bool.and_eq_true, Array.all_eq_true']
            refine ⟨?_, fun e he => ?_⟩
            · cases hb : listed.getD i true with
              | true => exact absurd ((h.iff i hi).1 hb) hno
              | false => rfl
            · rw [Bool.or_eq_true]
              by_cases hbd : Region.binds .any e = true
              rotate_left
              · left; simpa using hbd
              right
              have hon : e.on ∈ depsOf os i := by unfold depsOf; rw [List.getElem?_eq_getElem hi]; exact List.mem_map.2 ⟨e, List.mem_filter.2 ⟨by simpa using he, hbd⟩, rfl⟩
              have hlt := hback i hi e.on hon
              have := (h.iff e.on (by omega)).2 (hd e.on hon)
              have hs : e.on < listed.size := by rw [h.size]; omega
              rw [Array.getD_eq_getD_getElem?, Array.getElem?_eq_getElem hs] at this
              simp only [Option.getD_some] at this
              rw [Array.getD_eq_getD_getElem?, Array.getElem?_eq_getElem hs]
              simpa using this
        have hdep : ∀ k j, Dep os k j → (∀ d ∈ depsOf os k, d ∈ ord) → j ∈ ord := by
          intro k j hd
          induction hd with
          | one hj => intro hx; exact hx _ hj
          | more hk _ ih2 => intro hx; exact ih2 (fun d hd => h.closed _ (hx _ hk) d hd)
        have hlow : ∀ i ∈ Region.ready .any os.toArray listed, i < m := by
          intro i hi
          obtain ⟨h1, h2, h3⟩ := (mem_rdy i).1 hi
          by_cases hc : i < m
          · exact hc
          · exfalso
            obtain ⟨q, hq, hqn⟩ := hsome
            rcases hcov i h1 with h4 | h4
            · exact hc h4
            · exact hqn (hdep i q (hmsk i q (h4 q hq)) h3)
        refine ⟨fun h0 => ?_, fun i hi => ?_⟩
        · -- the least one that is not done may come up
          exfalso
          obtain ⟨q, hq, hqn⟩ := hsome
          obtain ⟨p, hp, hmin⟩ := exists_least (p := fun i => i < m ∧ i ∉ ord) ⟨q, hq, hqn⟩
          have : p ∈ Region.ready .any os.toArray listed := by
            rw [mem_rdy]
            refine ⟨by omega, hp.2, fun j hj => ?_⟩
            have hlt := hback p (by omega) j hj
            apply Decidable.byContradiction
            intro hn
            have := hmin j ⟨by omega, hn⟩
            omega
          rw [h0] at this
          cases this
        · have him := hlow i hi
          obtain ⟨h1, h2, h3⟩ := (mem_rdy i).1 hi
          have ho : os[i]? = some os[i] := List.getElem?_eq_getElem h1
          have hdps := hdp i him
          have hsub : ∀ j ∈ dps.getD i [], j ∈ ord := fun j hj => hdep i j (hmsk i j (hdps.1 j hj)) h3
          have hqi := hqd i him
          have hqheld : ∀ j ∈ qd.getD i [], j ∈ held := fun j hj => h.hall j (.inl (hsub j ((hqi.1 j hj).1))) (fun k hk => (hqi.1 j hj).2 k (h.low k hk))
          have hobl := due i os[i] ho him vf pf h.hP (fun j hj => h.rel j (hsub j hj))
          have hdd := dstAt i him _ ho
          have hdlt : dsts.getD i 0 < N := by
            have := List.all_eq_true.1 hN (dsts.getD i 0) (by rw [List.getD_eq_getElem?_getD, List.getElem?_eq_getElem (by omega)]; exact List.getElem_mem _)
            simpa [Nat.blt_eq] using this
          have hdnone : lk env (dsts.getD i 0) = none := by
            have := List.all_eq_true.1 hfresh (dsts.getD i 0) (by rw [List.getD_eq_getElem?_getD, List.getElem?_eq_getElem (by omega)]; exact List.getElem_mem _)
            simpa using this
          have hne : ∀ j ∈ ord, j ≠ i := fun j hj e => h2 (e ▸ hj)
          have hneh : ∀ j ∈ held, j ≠ i := fun j hj e => by
            rcases h.hin j hj with h5 | h5
            · exact hne j h5 e
            · omega
          have next : ∀ (held' : List Nat) v post w', held'.Nodup → (∀ k ∈ held', k ∈ i :: ord ∨ k = os.length) → (∀ k, (k ∈ i :: ord ∨ k = os.length) → (∀ j ∈ i :: ord, tau.getD j none ≠ some k) → k ∈ held') → R i ((dps.getD i []).map vf) v post →
              Mem w0 (held'.flatMap (fun k => if k = i then post else pf k) ++ l) w' → wpAny P .any os.toArray Q f (listed.setIfInBounds i true) (a.put (some (dsts.getD i 0)) v) w' := by
            intro held' v post w' hh1 hh2 hh3 hv hm
            refine ih (listed.setIfInBounds i true) (i :: ord) held' (fun k => if k = i then v else vf k) (fun k => if k = i then post else pf k) _ w' (by simp; omega) ⟨?_, ?_, ?_, ?_, ?_, ?_, ?_, hh1, hh2, hh3, ?_, hm, ?_, ?_, ?_, ?_⟩
            · simp [h.size]
            · intro k hk
              by_cases hki : k = i
              · subst hki
                have hs : k < listed.size := by rw [h.size]; exact hk
                simp [Array.getD_eq_getD_getElem?, hs]
              · rw [getD_set_ne true (fun e => hki e.symm), h.iff k hk]
                simp [hki]
            · intro k hk; rcases List.mem_cons.1 hk with rfl | hk; exact him; exact h.low k hk
            · intro k hk j hj
              rcases List.mem_cons.1 hk with rfl | hk
              · exact List.mem_cons_of_mem _ (h3 j hj)
              · exact List.mem_cons_of_mem _ (h.closed k hk j hj)
            · exact List.nodup_cons.2 ⟨h2, h.nodup⟩
            · intro k hk j hj
              rcases List.mem_cons.1 hk with rfl | hk
              · exact List.mem_cons_of_mem _ (hsub j hj)
              · exact List.mem_cons_of_mem _ (h.dcl k hk j hj)
            · intro k hk
              rcases List.mem_cons.1 hk with rfl | hk
              · have e : (dps.getD k []).map (fun j => if j = k then v else vf j) = (dps.getD k []).map vf := List.map_congr_left fun j hj => if_neg (hne j (hsub j hj))
                rw [e, if_pos rfl, if_pos rfl]; exact hv
              · have e : (dps.getD k []).map (fun j => if j = i then v else vf j) = (dps.getD k []).map vf := List.map_congr_left fun j hj => if_neg (hne j (h.dcl k hk j hj))
                rw [e, if_neg (hne k hk), if_neg (hne k hk)]; exact h.rel k hk
            · rw [if_neg (by omega)]; exact h.hP
            · simp [Act.put, h.asize]
            · exact h.defers
            · intro d u hd
              have hdne : dsts.getD i 0 ≠ d := fun e => by rw [← e, hdnone] at hd; cases hd
              simp only [Act.put]
              rw [Array.getElem?_setIfInBounds_ne hdne]
              exact h.env d u hd
            · intro k hk d hd
              have hlt : dsts.getD i 0 < a.tmps.size := by rw [h.asize]; exact hdlt
              rcases List.mem_cons.1 hk with rfl | hk
              · have : d = dsts.getD k 0 := by rw [List.getD_eq_getElem?_getD, hd]; rfl
                subst this
                simp only [Act.put, if_true]
                simp only [Array.getElem?_setIfInBounds_self_of_lt hlt]
              · have hdne : dsts.getD i 0 ≠ d := by
                  intro e
                  have hi2 : dsts[i]? = some d := by rw [← e, List.getD_eq_getElem?_getD, List.getElem?_eq_getElem (by omega)]; rfl
                  have hk2 : k < dsts.length := (List.getElem?_eq_some_iff.1 hd).1
                  have := (List.getElem?_inj hk2 hdn).1 (hd.trans hi2.symm)
                  exact hne k hk this
                simp only [Act.put]
                rw [Array.getElem?_setIfInBounds_ne hdne, if_neg (hne k hk)]
                exact h.slots k hk d hd
          unfold wpOp
          have hoa : os.toArray[i]? = some os[i] := by simp [h1]
          rw [hoa]
          simp only
          have hpost : ∀ (hs : List Nat) (post : List HP), (∀ k ∈ hs, k ≠ i) → (i :: hs).flatMap (fun k => if k = i then post else pf k) = post ++ hs.flatMap pf := fun hs post hx => by
            rw [List.flatMap_cons, if_pos rfl]
            congr 1
            rw [List.flatMap_def, List.flatMap_def]
            congr 1
            exact List.map_congr_left fun k hk => if_neg (hx k hk)
          cases ht : tau.getD i none with
          | none =>
            rw [ht] at hobl
            have hst := h.st hml' hsub (h.mem.pick hqi.2 hqheld)
            have next1 : ∀ v post w', R i ((dps.getD i []).map vf) v post → Mem w post w' → wpAny P .any os.toArray Q f (listed.setIfInBounds i true) (a.put (some (dsts.getD i 0)) v) w' := fun v post w' hv hm => by
              refine next (i :: held) v post w' (List.nodup_cons.2 ⟨fun hx => hneh i hx rfl, h.hn⟩) (fun k hk => ?_) (fun k hk hk2 => ?_) hv ?_
              · rcases List.mem_cons.1 hk with rfl | hk
                · exact .inl List.mem_cons_self
                · exact (h.hin k hk).imp (List.mem_cons_of_mem _) (fun x => x)
              · by_cases hki : k = i
                · rw [hki]; exact List.mem_cons_self
                · refine List.mem_cons_of_mem _ (h.hall k (hk.imp (fun hx => by rcases List.mem_cons.1 hx with hx | hx; exact absurd hx hki; exact hx) (fun x => x)) (fun j hj => hk2 j (List.mem_cons_of_mem _ hj)))
              · rw [hpost held post hneh, List.append_assoc]; exact h.mem.app hm
            rcases hobl with ⟨hw, hq⟩ | ⟨hw, hq⟩
            · rw [if_pos (hst.wanted hw)]
              refine .inl (hq a w hst Q _ fun v post w' hv hm => ?_)
              rw [hdd]
              exact next1 v post w' hv hm
            · rw [if_neg (by rw [hst.wanted hw]; decide), hdd]
              exact next1 undef [] w hq (Mem.refl w)
          | some hh =>
            rw [ht] at hobl
            have hth2 := hth i him
            rw [ht] at hth2
            simp only [Bool.and_eq_true, Bool.or_eq_true, beq_iff_eq, List.all_eq_true, List.mem_range, bne_iff_ne, List.contains_iff_mem] at hth2
            have hheld : hh ∈ held := h.hall hh (hth2.1.symm.imp (fun hx => hsub hh hx) (fun x => x)) (fun k hk => (hth2.2 k (h.low k hk)).resolve_left (hne k hk))
            have hperm := List.perm_cons_erase hheld
            have hmem : Mem w0 (pf hh ++ ((held.erase hh).flatMap pf ++ l)) w := by
              have := h.mem.perm ((hperm.flatMap_right pf).append_right l)
              rwa [List.flatMap_cons, List.append_assoc] at this
            have hnin : hh ∉ qd.getD i [] := fun hx => (hqi.1 hh hx).2 i him ht
            have hconv : ∀ w, Mem w0 ((held.erase hh).flatMap pf ++ l) w → Mem w0 ((qd.getD i []).flatMap pf ++ l) w := fun w hm => hm.pick hqi.2 (fun j hj => (List.mem_erase_of_ne (fun (e : j = hh) => hnin (by rw [← e]; exact hj))).2 (hqheld j hj))
            have hst := h.st hml' hsub hmem
            have hneh2 : ∀ k ∈ held.erase hh, k ≠ i := fun k hk => hneh k (List.mem_of_mem_erase hk)
            have next2 : ∀ v post w', R i ((dps.getD i []).map vf) v post → Mem w0 (post ++ ((held.erase hh).flatMap pf ++ l)) w' → wpAny P .any os.toArray Q f (listed.setIfInBounds i true) (a.put (some (dsts.getD i 0)) v) w' := fun v post w' hv hm => by
              refine next (i :: held.erase hh) v post w' (List.nodup_cons.2 ⟨fun hx => hneh2 i hx rfl, h.hn.erase hh⟩) (fun k hk => ?_) (fun k hk hk2 => ?_) hv ?_
              · rcases List.mem_cons.1 hk with rfl | hk
                · exact .inl List.mem_cons_self
                · exact (h.hin k (List.mem_of_mem_erase hk)).imp (List.mem_cons_of_mem _) (fun x => x)
              · by_cases hki : k = i
                · rw [hki]; exact List.mem_cons_self
                · have hkh : k ≠ hh := fun e => hk2 i List.mem_cons_self (by rw [ht, e])
                  exact List.mem_cons_of_mem _ ((List.mem_erase_of_ne hkh).2 (h.hall k (hk.imp (fun hx => by rcases List.mem_cons.1 hx with hx | hx; exact absurd hx hki; exact hx) (fun x => x)) (fun j hj => hk2 j (List.mem_cons_of_mem _ hj))))
              · rw [hpost _ post hneh2, List.append_assoc]; exact hm
            rcases hobl with ⟨hw, hq⟩ | ⟨hw, hq⟩
            · rw [if_pos (hst.wanted hw)]
              refine .inl (hq _ hconv a w hst Q _ fun v post w' hv hm => ?_)
              rw [hdd]
              exact next2 v post w' hv hm
            · rw [if_neg (by rw [hst.wanted hw]; decide), hdd]
              exact next2 undef (pf hh) w hq hmem
  refine key os.length (Array.replicate os.length false) [] [os.length] (fun _ => undef) (fun k => if k = os.length then P0 else []) a _ (by simp) ⟨by simp, ?_, by simp, by simp, by simp, by simp, by simp, by simp, by simp, fun i hi _ => by rcases hi with hi | hi; (cases hi); (rw [hi]; exact List.mem_singleton_self _), by simp, ?_, st.size, st.defers, st.env, by simp⟩
  · intro i hi; simp [hi]
  · have e : ([os.length] : List Nat).flatMap (fun k => if k = os.length then P0 else []) ++ l = P0 ++ l := by simp
    rw [e]; exact st.mem.drawn _
/-- each quiet operation's due, in the order of the text -/
def Dues2 (P : Program) (ops : Array Oper) (N : Nat) (w0 : World) (l : List HP) (env : List (Nat × Value)) (P0 : List HP) (mu : Nat) (dsts : List Nat) (all qall : List (List Nat)) (tau : List (Option Nat)) (R : Nat → List Value → Value → List HP → Prop) : Nat → List (List Nat) → List Oper → Prop
  | _, _, [] => True
  | k, dss, o :: os => (∀ (vf : Nat → Value) (pf : Nat → List HP), pf mu = P0 → (∀ j ∈ all.getD k [], R j ((all.getD j []).map vf) (vf j) (pf j)) → Obl2 P ops N w0 (tau.getD k none) pf ((qall.getD k []).flatMap pf ++ l) (envOf dsts vf (all.getD k []) ++ env) o (R k ((all.getD k []).map vf))) ∧ Dues2 P ops N w0 l env P0 mu dsts all qall tau R (k + 1) dss os
theorem dues2_at {P : Program} {ops : Array Oper} {N : Nat} {w0 : World} {l : List HP} {env : List (Nat × Value)} {P0 : List HP} {mu : Nat} {dsts : List Nat} {all qall : List (List Nat)} {tau : List (Option Nat)} {R : Nat → List Value → Value → List HP → Prop} : ∀ (os : List Oper) (dss : List (List Nat)) (k : Nat), Dues2 P ops N w0 l env P0 mu dsts all qall tau R k dss os → ∀ i o, os[i]? = some o → ∀ vf pf, pf mu = P0 → (∀ j ∈ all.getD (k + i) [], R j ((all.getD j []).map vf) (vf j) (pf j)) → Obl2 P ops N w0 (tau.getD (k + i) none) pf ((qall.getD (k + i) []).flatMap pf ++ l) (envOf dsts vf (all.getD (k + i) []) ++ env) o (R (k + i) ((all.getD (k + i) []).map vf))
  | [], _, _, _, i, o, ho, _, _, _, _ => by simp at ho
  | o' :: os, dss, k, h, 0, o, ho, vf, pf, hP, hR => by simp at ho; subst ho; exact h.1 vf pf hP hR
  | o' :: os, dss, k, h, i + 1, o, ho, vf, pf, hP, hR => by
    have e : k + 1 + i = k + (i + 1) := by omega
    have := dues2_at os dss (k + 1) h.2 i o (by simpa using ho) vf pf hP (by rw [e]; exact hR)
    rwa [e] at this
theorem hc_draw2 {id : Nat} (hmix : P.follows .mixedOrders = true) (m : Nat) (qs : List Nat) (quiet tail : List Oper) (dps : List (List Nat)) (dsts : List Nat) (R : Nat → List Value → Value → List HP → Prop) (qd : List (List Nat)) (tau : List (Option Nat)) (P0 : List HP) (fl : List Nat) (mu : Nat)
    (hos : os = quiet ++ tail) (hq : (Nat.beq quiet.length m && (List.range m == qs) && Nat.beq os.length mu) = true) (hok : drawOk os m dps dsts = true) (htau : tauOk os m dps qd tau fl = true) (hfresh : dsts.all (fun d => (lk env d).isNone) = true) (hN : dsts.all (fun d => Nat.blt d N) = true)
    (due : Dues2 P os.toArray N w0 l env P0 mu dsts dps qd tau R 0 [] quiet)
    (fin : ∀ vf pf, pf mu = P0 → (∀ i, i < m → R i ((dps.getD i []).map vf) (vf i) (pf i)) → HL P N os.toArray w0 (fl.flatMap pf ++ l) (envOf dsts vf qs ++ env) tail Q) : HC P N w0 (P0 ++ l) env (.region id os.toArray true) Q := by
  simp only [Bool.and_eq_true, Nat.beq_eq, beq_iff_eq] at hq
  obtain ⟨⟨hq1, hq2⟩, hq3⟩ := hq
  refine hc_drawn2 hmix m dps dsts R qd tau P0 fl hok htau hfresh hN (fun i o ho hi vf pf hP hR => ?_) (fun vf pf hP hR => ?_)
  · have ho' : quiet[i]? = some o := by rw [hos, List.getElem?_append_left (by omega)] at ho; exact ho
    have := dues2_at quiet [] 0 due i o ho' vf pf (by rw [← hq3]; exact hP) (by rw [Nat.zero_add]; exact hR)
    rwa [Nat.zero_add] at this
  · rw [hq2, hos, List.drop_left' hq1, ← hos]; exact fin vf pf (by rw [← hq3]; exact hP) hR
theorem rq_callM {f : FuncId} {xs : Array Operand} {ats : Array TypeId} {vs : List Value} {p : HP} {X : List HP} {R : Value → HP → Prop} {ty : TypeId} {pos : String} {af : Array Edge} {gd : Option (Nat × Bool)} {ds : Option Nat} (hgo : goesB P f = true) (hvs : evs env xs.toList = some vs)
    (hc : ∀ L w, (∀ w, Mem w0 L w → Mem w0 X w) → Mem w0 (p :: L) w → Calls P f vs.toArray w fun e w' => ∃ v p', e = .returned v ∧ R v p' ∧ Mem w0 (p' :: L) w') :
    RunM P N w0 [p] X env { dst := ds, op := .call { callee := .value (.func f), args := xs, argTypes := ats }, type := ty, pos := pos, after := af, guard := gd } (fun v post => ∃ p', post = [p'] ∧ R v p') := fun L hL a w st Q K hK => by
  unfold Oper.wp
  have h1 := evs_map st _ _ hvs
  have h2 : #[] ++ xs.map a.eval ++ #[] = vs.toArray := by
    rw [Array.empty_append, Array.append_empty]
    apply Array.toList_inj.1
    simpa using h1
  rw [execOp_call_go, h2, run_go hgo, Oper.upon_enter]
  refine (hc L w hL st.mem).mono fun e w' h => ?_
  obtain ⟨v, p', rfl, hR, hm⟩ := h
  exact hK _ _ _ ⟨p', rfl, hR⟩ hm
/-- a call that turns one part of the caller's memory; what else the caller has may be read -/
theorem hl_callM2 {ops : Array Oper} {rest : List Oper} {d : Nat} {f : FuncId} {xs : Array Operand} {ats : Array TypeId} {vs : List Value} {p : HP} {R : Value → HP → Prop} {ty : TypeId} {pos : String} {af : Array Edge} {gd : Option (Nat × Bool)} (i : Nat) (hN : Nat.blt d N = true) (hw : want ops env gd = some true)
    (hgo : goesB P f = true) (hvs : evs env xs.toList = some vs) (hi : l[i]? = some p)
    (hc : ∀ L w, (∀ w, Mem w0 L w → Mem w0 (l.eraseIdx i) w) → Mem w0 (p :: L) w → Calls P f vs.toArray w fun e w' => ∃ v p', e = .returned v ∧ R v p' ∧ Mem w0 (p' :: L) w') (k : ∀ v p', R v p' → HL P N ops w0 (l.set i p') ((d, v) :: env) rest Q) : HL P N ops w0 l env ({ dst := some d, op := .call { callee := .value (.func f), args := xs, argTypes := ats }, type := ty, pos := pos, after := af, guard := gd } :: rest) Q := fun a w st => by
  have h1 := erase_perm l i p hi
  have hil : i < l.length := (List.getElem?_eq_some_iff.1 hi).1
  refine hl_call (vs := vs.toArray) rfl hN hw (fun a => execOp_call_go a (some d) f xs ats ty pos af gd) (fun a w st => ?_) (fun w => run_go hgo _ w) (fun w hm => (hc (l.eraseIdx i) w (fun w h => h) (hm.perm h1)).mono fun e w' h => ?_) a w st
  · have := evs_map st _ _ hvs
    rw [Array.empty_append, Array.append_empty]
    apply Array.toList_inj.1
    simpa using this
  · obtain ⟨v, p', rfl, hR, hm'⟩ := h
    have h2 := erase_perm (l.set i p') i p' (List.getElem?_set_self hil)
    rw [List.eraseIdx_set_eq] at h2
    exact ⟨v, _, rfl, hm'.perm h2.symm, k v p' hR⟩
theorem rv_conv {t t' : TypeId} {x : Operand} {o : Oper} {m : Int} {k k' : IntKind} (ho : o.op = .convert t t' x) (ht : P.underlying t = some (.int k)) (ht' : P.underlying t' = some (.int k')) (hx : ev env x = some (.int k m)) (hr : k'.wrap m = m) : RunV P N w0 l env o (.int k' m) := fun a w st => by
  have h2 : (convert t t' (.int k m)).run P w = .ok (.int k' m) w := by simp [convert, run_underlying ht, run_underlying ht', Conv.intToInt, hr]
  simp [execOp, ho, st.eval hx, h2]
theorem rm_less {C X X' : List HP} {env' : List (Nat × Value)} {o : Oper} {R : Value → List HP → Prop} (hs : sub env' env) (hx : X'.Sublist X) (h : RunM P N w0 C X' env' o R) : RunM P N w0 C X env o R := fun L hL a w st => h L (fun w hm => (hL w hm).sub hx) a w (st.less hs (.refl _))
theorem rm_mono {C X : List HP} {o : Oper} {R R' : Value → List HP → Prop} (h : RunM P N w0 C X env o R) (hr : ∀ v post, R v post → R' v post) : RunM P N w0 C X env o R' := fun L hL a w st Q K hK => h L hL a w st Q K fun v post w' hv hm => hK v post w' (hr _ _ hv) hm
end
namespace Bit
open Go
theorem i64_small (n : Nat) (h : n < 4294967296) : IntKind.i64.wrap (n : Int) = n := by
  rw [IntKind.wrap_i64]; omega
theorem ofInt_small (a : Nat) (h : a < 4294967296) : (BitVec.ofInt 64 (a : Int)).toNat = a := by
  rw [BitVec.ofInt_natCast, BitVec.toNat_ofNat]; omega
theorem and_nat (a b : Nat) (ha : a < 4294967296) (hb : b < 4294967296) : bits .and .i64 (a : Int) (b : Int) = ((a &&& b : Nat) : Int) := by
  have hx : a &&& b < 2 ^ 32 := Nat.and_lt_two_pow _ (by omega)
  show IntKind.i64.wrap ((BitVec.ofInt 64 (a : Int) &&& BitVec.ofInt 64 (b : Int)).toNat : Int) = _
  rw [BitVec.toNat_and, ofInt_small a ha, ofInt_small b hb, i64_small _ (by omega)]
theorem or_nat (a b : Nat) (ha : a < 4294967296) (hb : b < 4294967296) : bits .or .i64 (a : Int) (b : Int) = ((a ||| b : Nat) : Int) := by
  have hx : a ||| b < 2 ^ 32 := Nat.or_lt_two_pow (by omega) (by omega)
  show IntKind.i64.wrap ((BitVec.ofInt 64 (a : Int) ||| BitVec.ofInt 64 (b : Int)).toNat : Int) = _
  rw [BitVec.toNat_or, ofInt_small a ha, ofInt_small b hb, i64_small _ (by omega)]
theorem or_int (a b : Int) (h1 : 0 ≤ a) (h2 : a < 4294967296) (h3 : 0 ≤ b) (h4 : b < 4294967296) : bits .or .i64 a b = ((a.toNat ||| b.toNat : Nat) : Int) := by
  obtain ⟨x, rfl⟩ := Int.eq_ofNat_of_zero_le h1
  obtain ⟨y, rfl⟩ := Int.eq_ofNat_of_zero_le h3
  exact or_nat x y (by omega) (by omega)
/-- the low bit of whatever int -/
theorem and_one (x : Int) (h1 : 0 ≤ x) (h2 : x < 4294967296) : bits .and .i64 x 1 = x % 2 := by
  obtain ⟨a, rfl⟩ := Int.eq_ofNat_of_zero_le h1
  have := and_nat a 1 (by omega) (by omega)
  rw [Nat.and_one_is_mod] at this
  exact this
end Bit
open Go.RowKit
theorem and1 {x : Int} (k : Nat) (h : 0 ≤ x ∧ x ≤ 65535) : bits .and .i64 (x / 2 ^ k) 1 = x / 2 ^ k % 2 := by
  have h1 : (0 : Int) ≤ x / 2 ^ k := Int.ediv_nonneg h.1 (Int.le_of_lt (Int.pow_pos (by decide)))
  have h2 : x / 2 ^ k ≤ x := Int.ediv_le_self _ h.1
  exact Bit.and_one _ h1 (by omega)
theorem pow_rng (j : Nat) (hj : j ≤ 20) : 1 ≤ (2 : Int) ^ j ∧ (2 : Int) ^ j ≤ 1048576 := by
  have h1 : (2 : Nat) ^ j ≤ 2 ^ 20 := Nat.pow_le_pow_right (by decide) hj
  have h2 : 1 ≤ (2 : Nat) ^ j := Nat.one_le_two_pow
  have h3 : ((2 ^ j : Nat) : Int) = (2 : Int) ^ j := by simp
  rw [← h3]; omega
theorem shl1 {b n : Int} (h : 0 ≤ b ∧ b ≤ 1) (hn : 0 ≤ n ∧ n ≤ 20) : -9223372036854775808 ≤ b * 2 ^ n.toNat ∧ b * 2 ^ n.toNat ≤ 9223372036854775807 := by
  have := pow_rng n.toNat (by omega)
  obtain e | e : b = 0 ∨ b = 1 := by omega
  all_goals rw [e]
  all_goals omega
theorem or1 {x b n : Int} (hx : 0 ≤ x ∧ x < 2 ^ n.toNat) (h : 0 ≤ b ∧ b ≤ 1) (hn : 0 ≤ n ∧ n ≤ 20) : bits .or .i64 x (b * 2 ^ n.toNat) = x + b * 2 ^ n.toNat := by
  have hp := pow_rng n.toNat (by omega)
  have hb : 0 ≤ b * 2 ^ n.toNat ∧ b * 2 ^ n.toNat ≤ 1048576 := by
    obtain e | e : b = 0 ∨ b = 1 := by omega
    all_goals rw [e]
    all_goals omega
  rw [Bit.or_int _ _ (by omega) (by omega) (by omega) (by omega)]
  obtain ⟨x, rfl⟩ := Int.eq_ofNat_of_zero_le hx.1
  obtain ⟨b, rfl⟩ := Int.eq_ofNat_of_zero_le h.1
  have e : ((b : Int) * 2 ^ n.toNat) = ((2 ^ n.toNat * b : Nat) : Int) := by simp [Int.mul_comm]
  have hxl : x < 2 ^ n.toNat := by have := hx.2; exact_mod_cast this
  rw [e, Int.toNat_natCast, Int.toNat_natCast, Nat.or_comm, ← Nat.two_pow_add_eq_or_of_lt hxl b]
  omega
def bitAt (xs : List Int) (p : Int) : Int := xs.getD (p / 16).toNat 0 / 2 ^ (p % 16).toNat % 2
theorem bitAt_rng (xs : List Int) (p : Int) : 0 ≤ bitAt xs p ∧ bitAt xs p ≤ 1 := by unfold bitAt; omega
def getN (xs : List Int) (p : Int) : Nat → Int
  | 0 => 0
  | j + 1 => getN xs p j + bitAt xs (p + j) * 2 ^ j
theorem getN_rng (xs : List Int) (p : Int) : ∀ j, j ≤ 20 → 0 ≤ getN xs p j ∧ getN xs p j < 2 ^ j
  | 0, _ => by simp [getN]
  | j + 1, h => by
    have h1 := getN_rng xs p j (by omega)
    have h2 := bitAt_rng xs (p + j)
    have h3 := pow_rng j (by omega)
    have e : (2 : Int) ^ (j + 1) = 2 * 2 ^ j := by rw [Int.pow_succ, Int.mul_comm]
    rw [getN, e]
    obtain e2 | e2 : bitAt xs (p + j) = 0 ∨ bitAt xs (p + j) = 1 := by omega
    all_goals rw [e2]
    all_goals omega
def Words (xs : List Int) : Prop := ∀ i, i < xs.length → 0 ≤ xs.getD i 0 ∧ xs.getD i 0 ≤ 65535
abbrev rdrE (b : Nat) (v : Value) (at_ : Int) : HP := boxE b #[v, .int .i64 at_] 129
set_option maxHeartbeats 4000000 in
set_option maxRecDepth 100000 in
theorem bitGet_mut (xs : List Int) (wv : Value) (b : Nat) (p n : Int) (w0 : World) (l : List HP) (w : World) (hm0 : Mem w0 (boxE b #[wv, .int .i64 p] 129 :: l) w) (hv : Rd w0 l wv 1 xs.length (xs.map (Value.int .i64))) (hxs : Words xs) (hp : 0 ≤ p ∧ p + n ≤ 16 * xs.length) (hn : 0 ≤ n ∧ n ≤ 16) (hlen : xs.length ≤ 1000000) :
  Calls Try.prog 133 #[.pointer (some ⟨b, 0, none⟩), .int .i64 n] w (fun e_ w_ => ∃ v_ p_, e_ = .returned v_ ∧ (fun u_ p_ => u_ = .int .i64 (getN xs p n.toNat) ∧ p_ = rdrE b wv (p + n)) v_ p_ ∧ Mem w0 (p_ :: l) w_) := by
 refine calls_hcM (N := 44) (args := [.pointer (some ⟨b, 0, none⟩), .int .i64 n]) Try.func133 rfl rfl hm0 ?_
 refine hc_less _ (sx 0 rfl (sx 1 rfl (sub_nil _))) (.refl _) ?_
 refine hc_seq ?_
 refine hc_region ?_
 refine hl_v rfl rfl rfl (rv_ev rfl) ?_
 refine hl_less (sx 0 rfl (sx 1 rfl (sx 4 rfl (sub_nil _)))) (.refl _) ?_
 refine hl_nil ?_
 refine hq_then ?_
 refine hc_seq ?_
 refine hc_region ?_
 refine hl_v rfl rfl rfl (rv_ev rfl) ?_
 refine hl_less (sx 0 rfl (sx 1 rfl (sx 4 rfl (sx 5 rfl (sub_nil _))))) (.refl _) ?_
 refine hl_nil ?_
 refine hq_then ?_
 refine hc_seq ?_
 refine hc_seq ?_
 refine hc_region ?_
 refine hl_v rfl rfl rfl (rv_ev rfl) ?_
 refine hl_less (sx 0 rfl (sx 1 rfl (sx 4 rfl (sx 5 rfl (sx 6 rfl (sub_nil _)))))) (.refl _) ?_
 refine hl_nil ?_
 refine hq_then ?_
 refine hc_block ?_
 refine hc_loop3 (α := Nat) (β := Int) (γ := Int) (fun j q o => (boxE b #[wv, .int .i64 q] 129 :: l)) (fun j q o => [(0, .pointer (some ⟨b, 0, none⟩)), (1, .int .i64 n), (4, .int .i64 0), (5, .int .i64 o), (6, .int .i64 (j : Int))]) (fun j q o => (j : Int) ≤ n ∧ q = p + j ∧ o = getN xs p j) (fun j q o => n.toNat - j) 0 p 0 ⟨by omega, by omega, rfl⟩ (sx 0 rfl (sx 1 rfl (sx 4 rfl (sx 5 rfl (sx 6 rfl (sub_nil _)))))) ((.cons_cons _ (.refl _))) ?_
 intro j q o hi1
 obtain ⟨hj, hq, ho⟩ := hi1
 refine hc_seq ?_
 refine hc_seq ?_
 refine hc_region ?_
 refine hl_v rfl rfl rfl (rv_ev rfl) ?_
 refine hl_v rfl rfl rfl (rv_ev rfl) ?_
 refine hl_lss rfl rfl rfl rfl rfl rfl (fun h2 => ?_) (fun h2 => ?_)
 ·
  refine hl_less (sx 0 rfl (sx 1 rfl (sx 4 rfl (sx 5 rfl (sx 6 rfl (sx 9 rfl (sub_nil _))))))) (.refl _) ?_
  refine hl_nil ?_
  refine hq_then ?_
  refine hc_true rfl ?_
  refine hc_skip ?_
  refine hq_then ?_
  refine hc_seq ?_
  refine hc_block ?_
  refine hc_seq ?_
  have hX := hxs (q / 16).toNat (by omega)
  have hor := getN_rng xs p j (by omega)
  rw [← ho] at hor
  have hjn : ((j : Int)).toNat = j := rfl
  refine hc_draw (by kernel_rfl) 24 [0, 1, 2, 3, 4, 5, 6, 7, 8, 9, 10, 11, 12, 13, 14, 15, 16, 17, 18, 19, 20, 21, 22, 23] (List.take 24 _) (List.drop 24 _) [[], [], [1], [2], [3], [], [5], [6], [7], [8], [4, 9], [10], [], [12], [13], [14], [15], [16], [11, 17], [18], [], [20], [19, 21], [0, 22]] [12, 13, 14, 15, 16, 17, 18, 19, 20, 21, 22, 23, 24, 25, 26, 27, 28, 29, 30, 31, 32, 33, 34, 35] (fun i vs_ v_ p_ => match i with | 0 => v_ = .int .i64 o ∧ p_ = [] | 1 => v_ = .pointer (some ⟨b, 0, none⟩) ∧ p_ = [] | 2 => v_ = .pointer (some ⟨b, 0, none⟩) ∧ p_ = [] | 3 => v_ = .pointer (some ⟨b, 0 + 0, none⟩) ∧ p_ = [] | 4 => v_ = wv ∧ p_ = [] | 5 => v_ = .pointer (some ⟨b, 0, none⟩) ∧ p_ = [] | 6 => v_ = .pointer (some ⟨b, 0, none⟩) ∧ p_ = [] | 7 => v_ = .pointer (some ⟨b, 0 + 1, none⟩) ∧ p_ = [] | 8 => v_ = .int .i64 q ∧ p_ = [] | 9 => v_ = .int .i64 (q / 16) ∧ p_ = [] | 10 => v_ = elP wv ((q / 16).toNat * 1) ∧ p_ = [] | 11 => v_ = .int .i64 (xs.getD ((q / 16).toNat) 0) ∧ p_ = [] | 12 => v_ = .pointer (some ⟨b, 0, none⟩) ∧ p_ = [] | 13 => v_ = .pointer (some ⟨b, 0, none⟩) ∧ p_ = [] | 14 => v_ = .pointer (some ⟨b, 0 + 1, none⟩) ∧ p_ = [] | 15 => v_ = .int .i64 q ∧ p_ = [] | 16 => v_ = .int .i64 (q % 16) ∧ p_ = [] | 17 => v_ = .int .u64 (q % 16) ∧ p_ = [] | 18 => v_ = .int .i64 ((xs.getD ((q / 16).toNat) 0) / 2 ^ (q % 16).toNat) ∧ p_ = [] | 19 => v_ = .int .i64 (((xs.getD ((q / 16).toNat) 0) / 2 ^ (q % 16).toNat) % 2) ∧ p_ = [] | 20 => v_ = .int .i64 (j : Int) ∧ p_ = [] | 21 => v_ = .int .u64 (j : Int) ∧ p_ = [] | 22 => v_ = .int .i64 ((((xs.getD ((q / 16).toNat) 0) / 2 ^ (q % 16).toNat) % 2) * 2 ^ ((j : Int)).toNat) ∧ p_ = [] | 23 => v_ = .int .i64 (o + ((((xs.getD ((q / 16).toNat) 0) / 2 ^ (q % 16).toNat) % 2) * 2 ^ ((j : Int)).toNat)) ∧ p_ = [] | _ => True) (List.take_append_drop 24 _).symm (by kernel_rfl) (by kernel_rfl) rfl rfl ?_ ?_
  ·
   refine ⟨?_, ?_, ?_, ?_, ?_, ?_, ?_, ?_, ?_, ?_, ?_, ?_, ?_, ?_, ?_, ?_, ?_, ?_, ?_, ?_, ?_, ?_, ?_, ?_, trivial⟩
   ·
    intro vf pf hR
    refine Or.inl ⟨rfl, ?_⟩
    refine rq_less (sx 5 rfl (sub_nil _)) (List.sublist_append_right _ _) ?_
    exact rq_v (rv_ev rfl)
   ·
    intro vf pf hR
    refine Or.inl ⟨rfl, ?_⟩
    refine rq_less (sx 0 rfl (sub_nil _)) (List.sublist_append_right _ _) ?_
    exact rq_v (rv_ev rfl)
   ·
    intro vf pf hR
    have e1 : (vf 1) = .pointer (some ⟨b, 0, none⟩) ∧ (pf 1) = [] := hR 1 (by decide)
    refine Or.inl ⟨rfl, ?_⟩
    refine rq_less (sx 13 (congrArg some e1.1) (sub_nil _)) (List.sublist_append_right _ _) ?_
    exact rq_v (rv_nilCheck rfl rfl)
   ·
    intro vf pf hR
    have e2 : (vf 2) = .pointer (some ⟨b, 0, none⟩) ∧ (pf 2) = [] := hR 2 (by decide)
    refine Or.inl ⟨rfl, ?_⟩
    refine rq_less (sx 14 (congrArg some e2.1) (sub_nil _)) (List.sublist_append_right _ _) ?_
    exact rq_v (rv_field (k0 := 0) rfl (by kernel_rfl) rfl)
   ·
    intro vf pf hR
    have e3 : (vf 3) = .pointer (some ⟨b, 0 + 0, none⟩) ∧ (pf 3) = [] := hR 3 (by decide)
    refine Or.inl ⟨rfl, ?_⟩
    refine rq_less (sx 15 (congrArg some e3.1) (sub_nil _)) (List.sublist_append_right _ _) ?_
    exact rq_v (rv_load rfl (by kernel_rfl) rfl (box_cell 0 rfl rfl))
   ·
    intro vf pf hR
    refine Or.inl ⟨rfl, ?_⟩
    refine rq_less (sx 0 rfl (sub_nil _)) (List.sublist_append_right _ _) ?_
    exact rq_v (rv_ev rfl)
   ·
    intro vf pf hR
    have e5 : (vf 5) = .pointer (some ⟨b, 0, none⟩) ∧ (pf 5) = [] := hR 5 (by decide)
    refine Or.inl ⟨rfl, ?_⟩
    refine rq_less (sx 17 (congrArg some e5.1) (sub_nil _)) (List.sublist_append_right _ _) ?_
    exact rq_v (rv_nilCheck rfl rfl)
   ·
    intro vf pf hR
    have e6 : (vf 6) = .pointer (some ⟨b, 0, none⟩) ∧ (pf 6) = [] := hR 6 (by decide)
    refine Or.inl ⟨rfl, ?_⟩
    refine rq_less (sx 18 (congrArg some e6.1) (sub_nil _)) (List.sublist_append_right _ _) ?_
    exact rq_v (rv_field (k0 := 1) rfl (by kernel_rfl) rfl)
   ·
    intro vf pf hR
    have e7 : (vf 7) = .pointer (some ⟨b, 0 + 1, none⟩) ∧ (pf 7) = [] := hR 7 (by decide)
    refine Or.inl ⟨rfl, ?_⟩
    refine rq_less (sx 19 (congrArg some e7.1) (sub_nil _)) (List.sublist_append_right _ _) ?_
    exact rq_v (rv_load rfl (by kernel_rfl) rfl (box_cell 0 rfl rfl))
   ·
    intro vf pf hR
    have e8 : (vf 8) = .int .i64 q ∧ (pf 8) = [] := hR 8 (by decide)
    refine Or.inl ⟨rfl, ?_⟩
    refine rq_less (sx 20 (congrArg some e8.1) (sub_nil _)) (List.sublist_append_right _ _) ?_
    exact rq_v (rv_quo rfl rfl rfl (by refine ⟨?_, ?_, ?_⟩ <;> omega))
   ·
    intro vf pf hR
    have e4 : (vf 4) = wv ∧ (pf 4) = [] := hR 4 (by decide)
    have e9 : (vf 9) = .int .i64 (q / 16) ∧ (pf 9) = [] := hR 9 (by decide)
    refine Or.inl ⟨rfl, ?_⟩
    refine rq_less (sx 16 (congrArg some e4.1) (sx 21 (congrArg some e9.1) (sub_nil _))) (List.sublist_append_right _ _) ?_
    exact rq_v (rv_index (s := 1) rfl Try.underlying30 (by kernel_rfl) rfl rfl (fun w hm => hv w (hm.sub (.cons _ (.refl _)))) (by omega) (by first | omega | (simp only [List.length_set]; omega)))
   ·
    intro vf pf hR
    have e10 : (vf 10) = elP wv ((q / 16).toNat * 1) ∧ (pf 10) = [] := hR 10 (by decide)
    refine Or.inl ⟨rfl, ?_⟩
    refine rq_less (sx 22 (congrArg some e10.1) (sub_nil _)) (List.sublist_append_right _ _) ?_
    exact rq_v (rv_loadEl (u := .int .i64 (xs.getD ((q / 16).toNat) 0)) rfl (by kernel_rfl) rfl (fun w hm => hv w (hm.sub (.cons _ (.refl _)))) (ints_at1 (show _ < xs.length by first | omega | (simp only [List.length_set]; omega))))
   ·
    intro vf pf hR
    refine Or.inl ⟨rfl, ?_⟩
    refine rq_less (sx 0 rfl (sub_nil _)) (List.sublist_append_right _ _) ?_
    exact rq_v (rv_ev rfl)
   ·
    intro vf pf hR
    have e12 : (vf 12) = .pointer (some ⟨b, 0, none⟩) ∧ (pf 12) = [] := hR 12 (by decide)
    refine Or.inl ⟨rfl, ?_⟩
    refine rq_less (sx 24 (congrArg some e12.1) (sub_nil _)) (List.sublist_append_right _ _) ?_
    exact rq_v (rv_nilCheck rfl rfl)
   ·
    intro vf pf hR
    have e13 : (vf 13) = .pointer (some ⟨b, 0, none⟩) ∧ (pf 13) = [] := hR 13 (by decide)
    refine Or.inl ⟨rfl, ?_⟩
    refine rq_less (sx 25 (congrArg some e13.1) (sub_nil _)) (List.sublist_append_right _ _) ?_
    exact rq_v (rv_field (k0 := 1) rfl (by kernel_rfl) rfl)
   ·
    intro vf pf hR
    have e14 : (vf 14) = .pointer (some ⟨b, 0 + 1, none⟩) ∧ (pf 14) = [] := hR 14 (by decide)
    refine Or.inl ⟨rfl, ?_⟩
    refine rq_less (sx 26 (congrArg some e14.1) (sub_nil _)) (List.sublist_append_right _ _) ?_
    exact rq_v (rv_load rfl (by kernel_rfl) rfl (box_cell 0 rfl rfl))
   ·
    intro vf pf hR
    have e15 : (vf 15) = .int .i64 q ∧ (pf 15) = [] := hR 15 (by decide)
    refine Or.inl ⟨rfl, ?_⟩
    refine rq_less (sx 27 (congrArg some e15.1) (sub_nil _)) (List.sublist_append_right _ _) ?_
    exact rq_v (rv_rem rfl rfl rfl (by constructor <;> omega))
   ·
    intro vf pf hR
    have e16 : (vf 16) = .int .i64 (q % 16) ∧ (pf 16) = [] := hR 16 (by decide)
    refine Or.inl ⟨rfl, ?_⟩
    refine rq_less (sx 28 (congrArg some e16.1) (sub_nil _)) (List.sublist_append_right _ _) ?_
    exact rq_v (rv_conv rfl Try.underlying3 Try.underlying130 rfl (IntWalk.u64_in _ (by omega)))
   ·
    intro vf pf hR
    have e11 : (vf 11) = .int .i64 (xs.getD ((q / 16).toNat) 0) ∧ (pf 11) = [] := hR 11 (by decide)
    have e17 : (vf 17) = .int .u64 (q % 16) ∧ (pf 17) = [] := hR 17 (by decide)
    refine Or.inl ⟨rfl, ?_⟩
    refine rq_less (sx 23 (congrArg some e11.1) (sx 29 (congrArg some e17.1) (sub_nil _))) (List.sublist_append_right _ _) ?_
    exact rq_v (rv_shr rfl rfl rfl (by omega))
   ·
    intro vf pf hR
    have e18 : (vf 18) = .int .i64 ((xs.getD ((q / 16).toNat) 0) / 2 ^ (q % 16).toNat) ∧ (pf 18) = [] := hR 18 (by decide)
    refine Or.inl ⟨rfl, ?_⟩
    refine rq_less (sx 30 (congrArg some e18.1) (sub_nil _)) (List.sublist_append_right _ _) ?_
    exact rq_v (rv_bits rfl (by decide) rfl rfl (r := ((xs.getD ((q / 16).toNat) 0) / 2 ^ (q % 16).toNat) % 2) (and1 _ hX))
   ·
    intro vf pf hR
    refine Or.inl ⟨rfl, ?_⟩
    refine rq_less (sx 6 rfl (sub_nil _)) (List.sublist_append_right _ _) ?_
    exact rq_v (rv_ev rfl)
   ·
    intro vf pf hR
    have e20 : (vf 20) = .int .i64 (j : Int) ∧ (pf 20) = [] := hR 20 (by decide)
    refine Or.inl ⟨rfl, ?_⟩
    refine rq_less (sx 32 (congrArg some e20.1) (sub_nil _)) (List.sublist_append_right _ _) ?_
    exact rq_v (rv_conv rfl Try.underlying3 Try.underlying130 rfl (IntWalk.u64_in _ (by omega)))
   ·
    intro vf pf hR
    have e19 : (vf 19) = .int .i64 (((xs.getD ((q / 16).toNat) 0) / 2 ^ (q % 16).toNat) % 2) ∧ (pf 19) = [] := hR 19 (by decide)
    have e21 : (vf 21) = .int .u64 (j : Int) ∧ (pf 21) = [] := hR 21 (by decide)
    refine Or.inl ⟨rfl, ?_⟩
    refine rq_less (sx 31 (congrArg some e19.1) (sx 33 (congrArg some e21.1) (sub_nil _))) (List.sublist_append_right _ _) ?_
    exact rq_v (rv_shl (kk' := .i64) rfl rfl rfl (by omega) (shl1 (by omega) (by omega)))
   ·
    intro vf pf hR
    have e0 : (vf 0) = .int .i64 o ∧ (pf 0) = [] := hR 0 (by decide)
    have e22 : (vf 22) = .int .i64 ((((xs.getD ((q / 16).toNat) 0) / 2 ^ (q % 16).toNat) % 2) * 2 ^ ((j : Int)).toNat) ∧ (pf 22) = [] := hR 22 (by decide)
    refine Or.inl ⟨rfl, ?_⟩
    refine rq_less (sx 12 (congrArg some e0.1) (sx 34 (congrArg some e22.1) (sub_nil _))) (List.sublist_append_right _ _) ?_
    exact rq_v (rv_bits rfl (by decide) rfl rfl (r := o + ((((xs.getD ((q / 16).toNat) 0) / 2 ^ (q % 16).toNat) % 2) * 2 ^ ((j : Int)).toNat)) (or1 (by rw [hjn]; exact hor) (by omega) (by omega)))
  ·
   intro vf pf hR
   have e23 : (vf 23) = .int .i64 (o + ((((xs.getD ((q / 16).toNat) 0) / 2 ^ (q % 16).toNat) % 2) * 2 ^ ((j : Int)).toNat)) ∧ (pf 23) = [] := hR 23 (by decide)
   refine hl_less (l' := (boxE b #[wv, .int .i64 q] 129 :: l)) (sx 0 rfl (sx 1 rfl (sx 4 rfl (sx 5 rfl (sx 6 rfl (sx 9 rfl (sx 35 (congrArg some e23.1) (sub_nil _)))))))) (List.sublist_append_right _ _) ?_
   simp only [List.drop_succ_cons, List.drop_zero]
   refine hl_v rfl rfl rfl (rv_ev rfl) ?_
   refine hl_less (sx 0 rfl (sx 1 rfl (sx 4 rfl (sx 5 rfl (sx 6 rfl (sx 9 rfl (sub_nil _))))))) (.refl _) ?_
   refine hl_nil ?_
   refine hq_then ?_
   refine hc_region ?_
   refine hl_v rfl rfl rfl (rv_ev rfl) ?_
   refine hl_v rfl rfl rfl (rv_nilCheck rfl rfl) ?_
   refine hl_v rfl rfl rfl (rv_field (k0 := 1) rfl (by kernel_rfl) rfl) ?_
   refine hl_v rfl rfl rfl (rv_load rfl (by kernel_rfl) rfl (box_cell 0 rfl rfl)) ?_
   refine hl_v rfl rfl rfl (rv_add rfl rfl rfl (by constructor <;> omega)) ?_
   refine hl_v rfl rfl rfl (rv_nilCheck rfl rfl) ?_
   refine hl_v rfl rfl rfl (rv_field (k0 := 1) rfl (by kernel_rfl) rfl) ?_
   refine hl_storeBox (i := 0) (l' := (boxE b #[wv, .int .i64 (q + 1)] 129 :: l)) rfl rfl rfl (by kernel_rfl) rfl rfl rfl rfl rfl rfl ?_
   refine hl_less (sx 0 rfl (sx 1 rfl (sx 4 rfl (sx 5 rfl (sx 6 rfl (sx 9 rfl (sub_nil _))))))) (.refl _) ?_
   refine hl_nil ?_
   refine hq_block_normal ?_
   refine hq_then ?_
   refine hc_region ?_
   refine hl_v rfl rfl rfl (rv_ev rfl) ?_
   refine hl_v rfl rfl rfl (rv_add rfl rfl rfl (by constructor <;> omega)) ?_
   refine hl_v rfl rfl rfl (rv_ev rfl) ?_
   refine hl_less (sx 0 rfl (sx 1 rfl (sx 4 rfl (sx 5 rfl (sx 6 rfl (sx 9 rfl (sub_nil _))))))) (.refl _) ?_
   refine hl_nil ?_
   exact hq_round3 (j + 1) _ _ ⟨by omega, by omega, by rw [getN, ← ho, ← hq]; rfl⟩ (by omega) (sx 0 rfl (sx 1 rfl (sx 4 rfl (sx 5 rfl (sx 6 rfl (sub_nil _)))))) ((.cons_cons _ (.refl _)))
 ·
  refine hl_less (sx 0 rfl (sx 1 rfl (sx 4 rfl (sx 5 rfl (sx 6 rfl (sx 9 rfl (sub_nil _))))))) (.refl _) ?_
  refine hl_nil ?_
  refine hq_then ?_
  refine hc_false rfl ?_
  refine hc_exit ?_
  refine hq_then_exit ?_
  refine hq_then_exit ?_
  refine hq_block_exit ?_
  refine hq_then ?_
  refine hc_seq ?_
  refine hc_region ?_
  refine hl_v rfl rfl rfl (rv_ev rfl) ?_
  refine hl_v rfl rfl rfl (rv_ev rfl) ?_
  refine hl_less (sx 0 rfl (sx 1 rfl (sx 4 rfl (sx 5 rfl (sx 6 rfl (sx 9 rfl (sub_nil _))))))) (.refl _) ?_
  refine hl_nil ?_
  refine hq_then ?_
  refine hc_ret ?_
  have hjn : j = n.toNat := by omega
  exact hq_retMut (p' := rdrE b wv q) rfl rfl (.refl _) ⟨by rw [ho, hjn], by rw [hq, hjn, show ((n.toNat : Nat) : Int) = n by omega]⟩
open Go.RowKit
def muxs (d : Dev) : Int := 5 + 4 * d.T
def decLe (xs : List Int) (p : Int) : List Int × Int × Int × Int := ([getN xs p 3, getN xs (p + 3) 3, getN xs (p + 6) 3, getN xs (p + 9) 3], getN xs (p + 12) 16, getN xs (p + 28) 1, getN xs (p + 29) 1)
def decV (d : Dev) (xs : List Int) : List Int × List (List Int × Int × Int × Int) × Int × Int :=
  ((List.range (muxs d).toNat).map (fun m : Nat => getN xs (5 * m) 5), [decLe xs (5 * muxs d), decLe xs (5 * muxs d + 30)], getN xs (5 * muxs d + 60) 2, getN xs (5 * muxs d + 62) 5)
theorem list4 {ys : List Int} {a b c e : Int} (h : ys.length = 4) (h0 : ys.getD 0 0 = a) (h1 : ys.getD 1 0 = b) (h2 : ys.getD 2 0 = c) (h3 : ys.getD 3 0 = e) : ys = [a, b, c, e] := by
  match ys, h with
  | [x, y, z, u], _ => simp at h0 h1 h2 h3; subst h0 h1 h2 h3; rfl
theorem list2 {ys : List Le} {a b : List Int × Int × Int × Int} (h : ys.length = 2) (h0 : (ys.getD 0 Le0).val = a) (h1 : (ys.getD 1 Le0).val = b) : ys.map Le.val = [a, b] := by
  match ys, h with
  | [x, y], _ => simp at h0 h1; subst h0 h1; rfl
theorem empty_at {d : Dev} {t : Tc} (hv : devB d = true) (h : t.val = emptyT d) : t.mx.length = (muxs d).toNat ∧ t.es.length = 2 ∧ (∀ i, i < 2 → (t.es.getD i Le0).xs.length = 4) ∧ t.pad = 0 ∧ t.ram = 0 := by
  unfold emptyT at h
  rw [if_pos hv] at h
  simp only [Tc.val, Prod.mk.injEq] at h
  obtain ⟨h1, h2, h3, h4⟩ := h
  have hl : t.es.length = 2 := by simpa using congrArg List.length h2
  refine ⟨by rw [h1, List.length_replicate]; rfl, hl, fun i hi => ?_, h3, h4⟩
  match hes : t.es, hl with
  | [a, b], _ =>
    rw [hes] at h2
    simp only [List.map_cons, List.map_nil, List.cons.injEq, and_true] at h2
    rcases (show i = 0 ∨ i = 1 by omega) with rfl | rfl
    · show a.xs.length = 4; have := congrArg Prod.fst h2.1; rw [show a.xs = [0, 0, 0, 0] from this]; rfl
    · show b.xs.length = 4; have := congrArg Prod.fst h2.2; rw [show b.xs = [0, 0, 0, 0] from this]; rfl
set_option maxHeartbeats 4000000 in
set_option maxRecDepth 100000 in
theorem decodeTile_sl (d : Dev) (xs : List Int) (a_ : Option Addr) (cap_ : Nat) (w : World) (hd : devB d = true) (hv : RdsW w (.slice a_ xs.length cap_) 1 xs.length (xs.map (Value.int .i64))) (hxs : Words xs) (hfl : 92 + 20 * d.T ≤ 16 * (xs.length : Int)) (hlen : xs.length ≤ 1000000) :
  Calls Try.prog 106 #[.agg #[.int .i64 d.W, .int .i64 d.H, .int .i64 d.T, .int .i64 d.R], .slice a_ xs.length cap_] w (Ret w (IsTc (decV d xs))) := by
 obtain ⟨-, -, ⟨l1, l2⟩, -⟩ := (devB_iff d).1 hd
 have hmu0 : muxs d = 5 + 4 * d.T := rfl
 refine calls_hc (N := 84) (args := [.agg #[.int .i64 d.W, .int .i64 d.H, .int .i64 d.T, .int .i64 d.R], .slice a_ xs.length cap_]) Try.func106 rfl rfl ?_
 refine hc_less _ (sx 0 rfl (sx 1 rfl (sub_nil _))) (.refl _) ?_
 refine hc_seq ?_
 refine hc_region ?_
 refine hl_box rfl rfl rfl (rq_box rfl rfl) ?_
 intro b1
 refine hl_box rfl rfl rfl (rq_alloc (z := .agg #[.slice none 0 0, .slice none 0 0, .int .i64 0, .int .i64 0]) rfl (by kernel_rfl)) ?_
 intro b2
 refine hl_less (sx 0 rfl (sx 1 rfl (sx 2 rfl (sx 4 rfl (sub_nil _))))) (.refl _) ?_
 refine hl_nil ?_
 refine hq_then ?_
 refine hc_seq ?_
 refine hc_region ?_
 refine hl_v rfl rfl rfl (rv_ev rfl) ?_
 refine hl_v rfl rfl rfl (rv_build (cs := #[.slice a_ xs.length cap_, .int .i64 0]) rfl rfl (by kernel_rfl)) ?_
 refine hl_box rfl rfl rfl (rq_box rfl rfl) ?_
 intro b3
 refine hl_v rfl rfl rfl (rv_ev rfl) ?_
 refine hl_less (sx 0 rfl (sx 1 rfl (sx 2 rfl (sx 4 rfl (sx 5 rfl (sub_nil _)))))) (.refl _) ?_
 refine hl_nil ?_
 refine hq_then ?_
 refine hc_seq ?_
 refine hc_region ?_
 refine hl_v rfl rfl rfl (rv_loadN (cs := [.int .i64 d.W, .int .i64 d.H, .int .i64 d.T, .int .i64 d.R]) rfl (by kernel_rfl) (by kernel_rfl) rfl rfl (box_part 2 rfl 0 rfl)) ?_
 refine hl_q rfl rfl rfl (rq_call (by kernel_rfl) rfl (fun w hm => implEmptyTile_ret d w)) ?_
 intro v4 p5 hR6
 obtain ⟨t, rfl, rfl, ⟨c1t, c2t⟩, valt, n1t, n2t, n3t⟩ := hR6
 obtain ⟨ht1, ht2, ht3, ht4, ht5⟩ := empty_at hd valt
 refine hl_box rfl rfl rfl (rq_alloc (z := .agg #[.slice none 0 0, .slice none 0 0, .int .i64 0, .int .i64 0]) rfl (by kernel_rfl)) ?_
 intro b7
 refine hl_storeBoxN (i := 0) (off := 0) (us := [t.mv, t.lv, .int .i64 t.pad, .int .i64 t.ram]) (l' := [boxE b7 #[t.mv, t.lv, .int .i64 t.pad, .int .i64 t.ram] 39, tcE t, boxE b3 #[.slice a_ xs.length cap_, .int .i64 0] 129, boxE b2 #[.slice none 0 0, .slice none 0 0, .int .i64 0, .int .i64 0] 39, boxE b1 #[.int .i64 d.W, .int .i64 d.H, .int .i64 d.T, .int .i64 d.R] 25]) rfl rfl rfl (by kernel_rfl) rfl rfl rfl (all_cons c1t (all_cons c2t (all_cons rfl (all_cons rfl all_nil)))) rfl rfl rfl ?_
 refine hl_less (sx 0 rfl (sx 1 rfl (sx 2 rfl (sx 4 rfl (sx 5 rfl (sx 6 rfl (sub_nil _))))))) (.refl _) ?_
 refine hl_nil ?_
 refine hq_then ?_
 refine hc_seq ?_
 refine hc_seq ?_
 refine hc_region ?_
 refine hl_conv [tcE t, boxE b7 #[t.mv, t.lv, .int .i64 t.pad, .int .i64 t.ram] 39, boxE b3 #[.slice a_ xs.length cap_, .int .i64 0] 129, boxE b2 #[.slice none 0 0, .slice none 0 0, .int .i64 0, .int .i64 0] 39, boxE b1 #[.int .i64 d.W, .int .i64 d.H, .int .i64 d.T, .int .i64 d.R] 25] (conv_pick (src := [boxE b7 #[t.mv, t.lv, .int .i64 t.pad, .int .i64 t.ram] 39, tcE t, boxE b3 #[.slice a_ xs.length cap_, .int .i64 0] 129, boxE b2 #[.slice none 0 0, .slice none 0 0, .int .i64 0, .int .i64 0] 39, boxE b1 #[.int .i64 d.W, .int .i64 d.H, .int .i64 d.T, .int .i64 d.R] 25]) (dst := [tcE t, boxE b7 #[t.mv, t.lv, .int .i64 t.pad, .int .i64 t.ram] 39, boxE b3 #[.slice a_ xs.length cap_, .int .i64 0] 129, boxE b2 #[.slice none 0 0, .slice none 0 0, .int .i64 0, .int .i64 0] 39, boxE b1 #[.int .i64 d.W, .int .i64 d.H, .int .i64 d.T, .int .i64 d.R] 25]) (l := []) [1, 0, 2, 3, 4] (by decide) rfl) ?_
 refine hl_conv [rowE 3 1 t.mv t.mx.length (t.mx.map (Value.int .i64)), lesE t.lv t.es, boxE b7 #[t.mv, t.lv, .int .i64 t.pad, .int .i64 t.ram] 39, boxE b3 #[.slice a_ xs.length cap_, .int .i64 0] 129, boxE b2 #[.slice none 0 0, .slice none 0 0, .int .i64 0, .int .i64 0] 39, boxE b1 #[.int .i64 d.W, .int .i64 d.H, .int .i64 d.T, .int .i64 d.R] 25] conv_unbig ?_
 refine hl_conv [lesE t.lv t.es, rowE 3 1 t.mv t.mx.length (t.mx.map (Value.int .i64)), boxE b7 #[t.mv, t.lv, .int .i64 t.pad, .int .i64 t.ram] 39, boxE b3 #[.slice a_ xs.length cap_, .int .i64 0] 129, boxE b2 #[.slice none 0 0, .slice none 0 0, .int .i64 0, .int .i64 0] 39, boxE b1 #[.int .i64 d.W, .int .i64 d.H, .int .i64 d.T, .int .i64 d.R] 25] (conv_pick (src := [rowE 3 1 t.mv t.mx.length (t.mx.map (Value.int .i64)), lesE t.lv t.es, boxE b7 #[t.mv, t.lv, .int .i64 t.pad, .int .i64 t.ram] 39, boxE b3 #[.slice a_ xs.length cap_, .int .i64 0] 129, boxE b2 #[.slice none 0 0, .slice none 0 0, .int .i64 0, .int .i64 0] 39, boxE b1 #[.int .i64 d.W, .int .i64 d.H, .int .i64 d.T, .int .i64 d.R] 25]) (dst := [lesE t.lv t.es, rowE 3 1 t.mv t.mx.length (t.mx.map (Value.int .i64)), boxE b7 #[t.mv, t.lv, .int .i64 t.pad, .int .i64 t.ram] 39, boxE b3 #[.slice a_ xs.length cap_, .int .i64 0] 129, boxE b2 #[.slice none 0 0, .slice none 0 0, .int .i64 0, .int .i64 0] 39, boxE b1 #[.int .i64 d.W, .int .i64 d.H, .int .i64 d.T, .int .i64 d.R] 25]) (l := []) [1, 0, 2, 3, 4, 5] (by decide) rfl) ?_
 refine hl_conv [bigE (t.es.map lePart), rowE 87 4 t.lv t.es.length (t.es.flatMap Le.cells), rowE 3 1 t.mv t.mx.length (t.mx.map (Value.int .i64)), boxE b7 #[t.mv, t.lv, .int .i64 t.pad, .int .i64 t.ram] 39, boxE b3 #[.slice a_ xs.length cap_, .int .i64 0] 129, boxE b2 #[.slice none 0 0, .slice none 0 0, .int .i64 0, .int .i64 0] 39, boxE b1 #[.int .i64 d.W, .int .i64 d.H, .int .i64 d.T, .int .i64 d.R] 25] conv_unbig ?_
 refine hl_v rfl rfl rfl (rv_field (k0 := 0) rfl (by kernel_rfl) rfl) ?_
 refine hl_v rfl rfl rfl (rv_load rfl (by kernel_rfl) rfl (box_cell 3 rfl rfl)) ?_
 refine hl_v rfl rfl rfl (rv_len rfl Try.underlying30 rfl (rd_row 2 rfl)) ?_
 refine hl_v rfl rfl rfl (rv_ev rfl) ?_
 refine hl_less (sx 0 rfl (sx 1 rfl (sx 2 rfl (sx 4 rfl (sx 5 rfl (sx 6 rfl (sx 17 rfl (sx 18 rfl (sub_nil _))))))))) (.refl _) ?_
 refine hl_nil ?_
 refine hq_then ?_
 refine hc_block ?_
 refine hc_loop3 (α := Nat) (β := Int) (γ := List Int) (fun m q zs => [bigE (t.es.map lePart), rowE 87 4 t.lv t.es.length (t.es.flatMap Le.cells), rowE 3 1 t.mv zs.length (zs.map (Value.int .i64)), boxE b7 #[t.mv, t.lv, .int .i64 t.pad, .int .i64 t.ram] 39, boxE b3 #[.slice a_ xs.length cap_, .int .i64 q] 129, boxE b2 #[.slice none 0 0, .slice none 0 0, .int .i64 0, .int .i64 0] 39, boxE b1 #[.int .i64 d.W, .int .i64 d.H, .int .i64 d.T, .int .i64 d.R] 25]) (fun m q zs => [(0, .agg #[.int .i64 d.W, .int .i64 d.H, .int .i64 d.T, .int .i64 d.R]), (1, .slice a_ xs.length cap_), (2, .pointer (some ⟨b1, 0, none⟩)), (4, .pointer (some ⟨b2, 0, none⟩)), (5, .pointer (some ⟨b3, 0, none⟩)), (6, .pointer (some ⟨b7, 0, none⟩)), (17, .int .i64 (t.mx.length : Int)), (18, .int .i64 (m : Int))]) (fun m q zs => m ≤ t.mx.length ∧ q = 5 * (m : Int) ∧ zs.length = t.mx.length ∧ ∀ i, i < m → zs.getD i 0 = getN xs (5 * (i : Int)) 5) (fun m q zs => t.mx.length - m) 0 0 t.mx ⟨by omega, by omega, rfl, fun i hi => absurd hi (by omega)⟩ (sx 0 rfl (sx 1 rfl (sx 2 rfl (sx 4 rfl (sx 5 rfl (sx 6 rfl (sx 17 rfl (sx 18 rfl (sub_nil _))))))))) ((.cons_cons _ (.cons_cons _ (.cons_cons _ (.cons_cons _ (.cons_cons _ (.cons_cons _ (.cons_cons _ .slnil)))))))) ?_
 intro m q zs hi8
 obtain ⟨hm1, hmq, hml, hmz⟩ := hi8
 refine hc_seq ?_
 refine hc_region ?_
 refine hl_lss rfl rfl rfl rfl rfl rfl (fun h9 => ?_) (fun h9 => ?_)
 ·
  refine hl_less (sx 0 rfl (sx 1 rfl (sx 2 rfl (sx 4 rfl (sx 5 rfl (sx 6 rfl (sx 17 rfl (sx 18 rfl (sx 19 rfl (sub_nil _)))))))))) (.refl _) ?_
  refine hl_nil ?_
  refine hq_then ?_
  refine hc_seq ?_
  refine hc_true rfl ?_
  refine hc_skip ?_
  refine hq_then ?_
  refine hc_seq ?_
  refine hc_block ?_
  refine hc_seq ?_
  refine hc_region ?_
  refine hl_v rfl rfl rfl (rv_ev rfl) ?_
  refine hl_v rfl rfl rfl (rv_ev rfl) ?_
  refine hl_less (sx 0 rfl (sx 1 rfl (sx 2 rfl (sx 4 rfl (sx 5 rfl (sx 6 rfl (sx 7 rfl (sx 17 rfl (sx 18 rfl (sx 19 rfl (sub_nil _))))))))))) (.refl _) ?_
  refine hl_nil ?_
  refine hq_then ?_
  refine hc_conv [boxE b3 #[.slice a_ xs.length cap_, .int .i64 q] 129, bigE (t.es.map lePart), rowE 87 4 t.lv t.es.length (t.es.flatMap Le.cells), rowE 3 1 t.mv zs.length (zs.map (Value.int .i64)), boxE b7 #[t.mv, t.lv, .int .i64 t.pad, .int .i64 t.ram] 39, boxE b2 #[.slice none 0 0, .slice none 0 0, .int .i64 0, .int .i64 0] 39, boxE b1 #[.int .i64 d.W, .int .i64 d.H, .int .i64 d.T, .int .i64 d.R] 25] (conv_pick (src := [bigE (t.es.map lePart), rowE 87 4 t.lv t.es.length (t.es.flatMap Le.cells), rowE 3 1 t.mv zs.length (zs.map (Value.int .i64)), boxE b7 #[t.mv, t.lv, .int .i64 t.pad, .int .i64 t.ram] 39, boxE b3 #[.slice a_ xs.length cap_, .int .i64 q] 129, boxE b2 #[.slice none 0 0, .slice none 0 0, .int .i64 0, .int .i64 0] 39, boxE b1 #[.int .i64 d.W, .int .i64 d.H, .int .i64 d.T, .int .i64 d.R] 25]) (dst := [boxE b3 #[.slice a_ xs.length cap_, .int .i64 q] 129, bigE (t.es.map lePart), rowE 87 4 t.lv t.es.length (t.es.flatMap Le.cells), rowE 3 1 t.mv zs.length (zs.map (Value.int .i64)), boxE b7 #[t.mv, t.lv, .int .i64 t.pad, .int .i64 t.ram] 39, boxE b2 #[.slice none 0 0, .slice none 0 0, .int .i64 0, .int .i64 0] 39, boxE b1 #[.int .i64 d.W, .int .i64 d.H, .int .i64 d.T, .int .i64 d.R] 25]) (l := []) [4, 0, 1, 2, 3, 5, 6] (by decide) rfl) ?_
  refine hc_draw2 (l := [bigE (t.es.map lePart), rowE 87 4 t.lv t.es.length (t.es.flatMap Le.cells), rowE 3 1 t.mv zs.length (zs.map (Value.int .i64)), boxE b7 #[t.mv, t.lv, .int .i64 t.pad, .int .i64 t.ram] 39, boxE b2 #[.slice none 0 0, .slice none 0 0, .int .i64 0, .int .i64 0] 39, boxE b1 #[.int .i64 d.W, .int .i64 d.H, .int .i64 d.T, .int .i64 d.R] 25]) (by kernel_rfl) 6 [0, 1, 2, 3, 4, 5] (List.take 6 _) (List.drop 6 _) [[], [0], [], [], [3], [1, 2]] [21, 22, 23, 24, 25, 26] (fun i vs_ v_ p_ => match i with | 0 => v_ = .pointer (some ⟨b7, 0 + 0, none⟩) ∧ p_ = [] | 1 => v_ = t.mv ∧ p_ = [] | 2 => v_ = .int .i64 (m : Int) ∧ p_ = [] | 3 => v_ = .pointer (some ⟨b3, 0, none⟩) ∧ p_ = [] | 4 => (∃ pm_, p_ = [pm_] ∧ (fun u_ p_ => u_ = .int .i64 (getN xs q 5) ∧ p_ = boxE b3 #[.slice a_ xs.length cap_, .int .i64 (q + 5)] 129) v_ pm_) | 5 => v_ = elP t.mv (((m : Int)).toNat * 1) ∧ p_ = [] | _ => True) [[], [0], [], [], [3], [1, 2]] [none, none, none, none, some 7, none] [boxE b3 #[.slice a_ xs.length cap_, .int .i64 q] 129] [0, 1, 2, 3, 4, 5] 7 (List.take_append_drop 6 _).symm (by kernel_rfl) (by kernel_rfl) (by kernel_rfl) rfl rfl ?_ ?_
  ·
   refine ⟨?_, ?_, ?_, ?_, ?_, ?_, trivial⟩
   ·
    intro vf pf hmu hR
    refine Or.inl ⟨rfl, ?_⟩
    show RunQ _ _ _ (([] : List Nat).flatMap pf ++ _) (envOf _ vf [] ++ _) _ _
    refine rq_less (sx 6 rfl (sub_nil _)) (List.sublist_append_right _ _) ?_
    exact rq_v (rv_field (k0 := 0) rfl (by kernel_rfl) rfl)
   ·
    intro vf pf hmu hR
    have e0 : (vf 0) = .pointer (some ⟨b7, 0 + 0, none⟩) ∧ (pf 0) = [] := hR 0 (by decide)
    refine Or.inl ⟨rfl, ?_⟩
    show RunQ _ _ _ (([0] : List Nat).flatMap pf ++ _) (envOf _ vf [0] ++ _) _ _
    refine rq_less (sx 21 (congrArg some e0.1) (sub_nil _)) (List.sublist_append_right _ _) ?_
    exact rq_v (rv_load rfl (by kernel_rfl) rfl (box_cell 3 rfl rfl))
   ·
    intro vf pf hmu hR
    refine Or.inl ⟨rfl, ?_⟩
    show RunQ _ _ _ (([] : List Nat).flatMap pf ++ _) (envOf _ vf [] ++ _) _ _
    refine rq_less (sx 7 rfl (sub_nil _)) (List.sublist_append_right _ _) ?_
    exact rq_v (rv_ev rfl)
   ·
    intro vf pf hmu hR
    refine Or.inl ⟨rfl, ?_⟩
    show RunQ _ _ _ (([] : List Nat).flatMap pf ++ _) (envOf _ vf [] ++ _) _ _
    refine rq_less (sx 5 rfl (sub_nil _)) (List.sublist_append_right _ _) ?_
    exact rq_v (rv_ev rfl)
   ·
    intro vf pf hmu hR
    have e3 : (vf 3) = .pointer (some ⟨b3, 0, none⟩) ∧ (pf 3) = [] := hR 3 (by decide)
    refine Or.inl ⟨rfl, ?_⟩
    show RunM _ _ _ (pf 7) (([3] : List Nat).flatMap pf ++ _) (envOf _ vf [3] ++ _) _ _
    rw [hmu]
    refine rm_less (X' := [bigE (t.es.map lePart), rowE 87 4 t.lv t.es.length (t.es.flatMap Le.cells), rowE 3 1 t.mv zs.length (zs.map (Value.int .i64)), boxE b7 #[t.mv, t.lv, .int .i64 t.pad, .int .i64 t.ram] 39, boxE b2 #[.slice none 0 0, .slice none 0 0, .int .i64 0, .int .i64 0] 39, boxE b1 #[.int .i64 d.W, .int .i64 d.H, .int .i64 d.T, .int .i64 d.R] 25]) (sx 24 (congrArg some e3.1) (sub_nil _)) (by first | (simp only [e3.2, List.flatMap_cons, List.flatMap_nil, List.append_nil, List.nil_append, List.cons_append]; exact List.Sublist.refl _) | simp [e3.2]) ?_
    exact rq_callM (R := (fun u_ p_ => u_ = .int .i64 (getN xs q 5) ∧ p_ = boxE b3 #[.slice a_ xs.length cap_, .int .i64 (q + 5)] 129)) (by kernel_rfl) rfl (fun L w hX hm => bitGet_mut xs (.slice a_ xs.length cap_) b3 q 5 _ _ w hm (rd_old hv) hxs (by omega) (by omega) (by omega))
   ·
    intro vf pf hmu hR
    have e1 : (vf 1) = t.mv ∧ (pf 1) = [] := hR 1 (by decide)
    have e2 : (vf 2) = .int .i64 (m : Int) ∧ (pf 2) = [] := hR 2 (by decide)
    refine Or.inl ⟨rfl, ?_⟩
    show RunQ _ _ _ (([1, 2] : List Nat).flatMap pf ++ _) (envOf _ vf [1, 2] ++ _) _ _
    refine rq_less (sx 22 (congrArg some e1.1) (sx 23 (congrArg some e2.1) (sub_nil _))) (List.sublist_append_right _ _) ?_
    exact rq_v (rv_index (s := 1) rfl Try.underlying30 (by kernel_rfl) rfl rfl (rd_row 2 rfl) (by omega) (by first | omega | (simp only [List.length_set]; omega)))
  ·
   intro vf pf hmu hR
   have e4 : (∃ pm_, (pf 4) = [pm_] ∧ (fun u_ p_ => u_ = .int .i64 (getN xs q 5) ∧ p_ = boxE b3 #[.slice a_ xs.length cap_, .int .i64 (q + 5)] 129) (vf 4) pm_) := hR 4 (by decide)
   obtain ⟨p11, p4, hR12⟩ := e4
   obtain ⟨v10, v4⟩ : ∃ x, vf 4 = x := ⟨_, rfl⟩
   rw [v4] at hR12
   obtain ⟨rfl, rfl⟩ := hR12
   have e5 : (vf 5) = elP t.mv (((m : Int)).toNat * 1) ∧ (pf 5) = [] := hR 5 (by decide)
   have q0 : (vf 0) = .pointer (some ⟨b7, 0 + 0, none⟩) ∧ (pf 0) = [] := hR 0 (by decide)
   have q1 : (vf 1) = t.mv ∧ (pf 1) = [] := hR 1 (by decide)
   have q2 : (vf 2) = .int .i64 (m : Int) ∧ (pf 2) = [] := hR 2 (by decide)
   have q3 : (vf 3) = .pointer (some ⟨b3, 0, none⟩) ∧ (pf 3) = [] := hR 3 (by decide)
   have q5 : (vf 5) = elP t.mv (((m : Int)).toNat * 1) ∧ (pf 5) = [] := hR 5 (by decide)
   refine hl_less (l' := [boxE b3 #[.slice a_ xs.length cap_, .int .i64 (q + 5)] 129, bigE (t.es.map lePart), rowE 87 4 t.lv t.es.length (t.es.flatMap Le.cells), rowE 3 1 t.mv zs.length (zs.map (Value.int .i64)), boxE b7 #[t.mv, t.lv, .int .i64 t.pad, .int .i64 t.ram] 39, boxE b2 #[.slice none 0 0, .slice none 0 0, .int .i64 0, .int .i64 0] 39, boxE b1 #[.int .i64 d.W, .int .i64 d.H, .int .i64 d.T, .int .i64 d.R] 25]) (sx 0 rfl (sx 1 rfl (sx 2 rfl (sx 4 rfl (sx 5 rfl (sx 6 rfl (sx 7 rfl (sx 17 rfl (sx 18 rfl (sx 19 rfl (sx 25 (congrArg some v4) (sx 26 (congrArg some e5.1) (sub_nil _))))))))))))) (by first | (simp only [p4, v4, q0.2, q1.2, q2.2, q3.2, q5.2, List.flatMap_cons, List.flatMap_nil, List.append_nil, List.nil_append, List.cons_append]; exact List.Sublist.refl _) | simp [p4, v4, q0.2, q1.2, q2.2, q3.2, q5.2]) ?_
   simp only [List.drop_succ_cons, List.drop_zero]
   refine hl_storeEl (i := 3) (n' := (zs.set m (getN xs q 5)).length) (xs' := ((zs.set m (getN xs q 5)).map (Value.int .i64))) (l' := [boxE b3 #[.slice a_ xs.length cap_, .int .i64 (q + 5)] 129, bigE (t.es.map lePart), rowE 87 4 t.lv t.es.length (t.es.flatMap Le.cells), rowE 3 1 t.mv ((zs.set m (getN xs q 5)).length) ((zs.set m (getN xs q 5)).map (Value.int .i64)), boxE b7 #[t.mv, t.lv, .int .i64 t.pad, .int .i64 t.ram] 39, boxE b2 #[.slice none 0 0, .slice none 0 0, .int .i64 0, .int .i64 0] 39, boxE b1 #[.int .i64 d.W, .int .i64 d.H, .int .i64 d.T, .int .i64 d.R] 25]) rfl rfl rfl (by kernel_rfl) rfl rfl rfl rfl (by first | omega | (simp only [List.length_set]; omega)) List.length_set.symm (ints_set _ _ _) rfl ?_
   refine hl_less (sx 0 rfl (sx 1 rfl (sx 2 rfl (sx 4 rfl (sx 5 rfl (sx 6 rfl (sx 7 rfl (sx 17 rfl (sx 18 rfl (sx 19 rfl (sub_nil _))))))))))) (.refl _) ?_
   refine hl_nil ?_
   refine hq_block_normal ?_
   refine hq_then ?_
   refine hc_region ?_
   refine hl_v rfl rfl rfl (rv_add rfl rfl rfl (by constructor <;> omega)) ?_
   refine hl_v rfl rfl rfl (rv_ev rfl) ?_
   refine hl_less (sx 0 rfl (sx 1 rfl (sx 2 rfl (sx 4 rfl (sx 5 rfl (sx 6 rfl (sx 7 rfl (sx 17 rfl (sx 18 rfl (sx 19 rfl (sub_nil _))))))))))) (.refl _) ?_
   refine hl_nil ?_
   refine hq_conv [bigE (t.es.map lePart), rowE 87 4 t.lv t.es.length (t.es.flatMap Le.cells), rowE 3 1 t.mv ((zs.set m (getN xs q 5)).length) ((zs.set m (getN xs q 5)).map (Value.int .i64)), boxE b7 #[t.mv, t.lv, .int .i64 t.pad, .int .i64 t.ram] 39, boxE b3 #[.slice a_ xs.length cap_, .int .i64 (q + 5)] 129, boxE b2 #[.slice none 0 0, .slice none 0 0, .int .i64 0, .int .i64 0] 39, boxE b1 #[.int .i64 d.W, .int .i64 d.H, .int .i64 d.T, .int .i64 d.R] 25] (conv_pick (src := [boxE b3 #[.slice a_ xs.length cap_, .int .i64 (q + 5)] 129, bigE (t.es.map lePart), rowE 87 4 t.lv t.es.length (t.es.flatMap Le.cells), rowE 3 1 t.mv ((zs.set m (getN xs q 5)).length) ((zs.set m (getN xs q 5)).map (Value.int .i64)), boxE b7 #[t.mv, t.lv, .int .i64 t.pad, .int .i64 t.ram] 39, boxE b2 #[.slice none 0 0, .slice none 0 0, .int .i64 0, .int .i64 0] 39, boxE b1 #[.int .i64 d.W, .int .i64 d.H, .int .i64 d.T, .int .i64 d.R] 25]) (dst := [bigE (t.es.map lePart), rowE 87 4 t.lv t.es.length (t.es.flatMap Le.cells), rowE 3 1 t.mv ((zs.set m (getN xs q 5)).length) ((zs.set m (getN xs q 5)).map (Value.int .i64)), boxE b7 #[t.mv, t.lv, .int .i64 t.pad, .int .i64 t.ram] 39, boxE b3 #[.slice a_ xs.length cap_, .int .i64 (q + 5)] 129, boxE b2 #[.slice none 0 0, .slice none 0 0, .int .i64 0, .int .i64 0] 39, boxE b1 #[.int .i64 d.W, .int .i64 d.H, .int .i64 d.T, .int .i64 d.R] 25]) (l := []) [1, 2, 3, 4, 0, 5, 6] (by decide) rfl) ?_
   exact hq_round3 (m + 1) (q + 5) (zs.set m (getN xs q 5)) ⟨by omega, by omega, by rw [List.length_set]; exact hml, fun i hi => by by_cases him : i = m; (subst him; rw [getD_set_self' (by omega), hmq]); rw [getD_set_ne' (fun h => him h.symm)]; exact hmz i (by omega)⟩ (by omega) (sx 0 rfl (sx 1 rfl (sx 2 rfl (sx 4 rfl (sx 5 rfl (sx 6 rfl (sx 17 rfl (sx 18 rfl (sub_nil _))))))))) ((.cons_cons _ (.cons_cons _ (.cons_cons _ (.cons_cons _ (.cons_cons _ (.cons_cons _ (.cons_cons _ .slnil))))))))
 ·
  refine hl_less (sx 0 rfl (sx 1 rfl (sx 2 rfl (sx 4 rfl (sx 5 rfl (sx 6 rfl (sx 17 rfl (sx 18 rfl (sx 19 rfl (sub_nil _)))))))))) (.refl _) ?_
  refine hl_nil ?_
  refine hq_then ?_
  refine hc_seq ?_
  refine hc_false rfl ?_
  refine hc_exit ?_
  refine hq_then_exit ?_
  refine hq_then_exit ?_
  refine hq_block_exit ?_
  refine hq_then ?_
  refine hc_seq ?_
  refine hc_seq ?_
  refine hc_region ?_
  refine hl_v rfl rfl rfl (rv_field (k0 := 1) rfl (by kernel_rfl) rfl) ?_
  refine hl_v rfl rfl rfl (rv_load rfl (by kernel_rfl) rfl (box_cell 3 rfl rfl)) ?_
  refine hl_v rfl rfl rfl (rv_len rfl Try.underlying37 rfl (rd_row 1 rfl)) ?_
  refine hl_v rfl rfl rfl (rv_ev rfl) ?_
  refine hl_less (sx 0 rfl (sx 1 rfl (sx 2 rfl (sx 4 rfl (sx 5 rfl (sx 6 rfl (sx 17 rfl (sx 18 rfl (sx 19 rfl (sx 30 rfl (sx 31 rfl (sub_nil _)))))))))))) (.refl _) ?_
  refine hl_nil ?_
  refine hq_then ?_
  refine hc_block ?_
  refine hc_loop3 (α := Nat) (β := Int) (γ := List Le) (fun e q es => [bigE (es.map lePart), rowE 87 4 t.lv es.length (es.flatMap Le.cells), rowE 3 1 t.mv zs.length (zs.map (Value.int .i64)), boxE b7 #[t.mv, t.lv, .int .i64 t.pad, .int .i64 t.ram] 39, boxE b3 #[.slice a_ xs.length cap_, .int .i64 q] 129, boxE b2 #[.slice none 0 0, .slice none 0 0, .int .i64 0, .int .i64 0] 39, boxE b1 #[.int .i64 d.W, .int .i64 d.H, .int .i64 d.T, .int .i64 d.R] 25]) (fun e q es => [(0, .agg #[.int .i64 d.W, .int .i64 d.H, .int .i64 d.T, .int .i64 d.R]), (1, .slice a_ xs.length cap_), (2, .pointer (some ⟨b1, 0, none⟩)), (4, .pointer (some ⟨b2, 0, none⟩)), (5, .pointer (some ⟨b3, 0, none⟩)), (6, .pointer (some ⟨b7, 0, none⟩)), (17, .int .i64 (t.mx.length : Int)), (18, .int .i64 (m : Int)), (19, .bool false), (30, .int .i64 (t.es.length : Int)), (31, .int .i64 (e : Int))]) (fun e q es => e ≤ 2 ∧ q = 5 * (muxs d) + 30 * e ∧ es.length = 2 ∧ (∀ i, i < e → (es.getD i Le0).val = decLe xs (5 * (muxs d) + 30 * (i : Int))) ∧ ∀ i, e ≤ i → i < 2 → (es.getD i Le0).xs.length = 4) (fun e q es => 2 - e) 0 _ t.es ⟨by omega, by unfold muxs at *; omega, ht2, fun i hi => absurd hi (by omega), fun i _ hi => ht3 i hi⟩ (sx 0 rfl (sx 1 rfl (sx 2 rfl (sx 4 rfl (sx 5 rfl (sx 6 rfl (sx 17 rfl (sx 18 rfl (sx 19 rfl (sx 30 rfl (sx 31 rfl (sub_nil _)))))))))))) ((.cons_cons _ (.cons_cons _ (.cons_cons _ (.cons_cons _ (.cons_cons _ (.cons_cons _ (.cons_cons _ .slnil)))))))) ?_
  intro e q es hi13
  obtain ⟨he1, heq, hel, hez, he4⟩ := hi13
  refine hc_seq ?_
  refine hc_region ?_
  refine hl_lss rfl rfl rfl rfl rfl rfl (fun h14 => ?_) (fun h14 => ?_)
  ·
   refine hl_less (sx 0 rfl (sx 1 rfl (sx 2 rfl (sx 4 rfl (sx 5 rfl (sx 6 rfl (sx 17 rfl (sx 18 rfl (sx 19 rfl (sx 30 rfl (sx 31 rfl (sx 32 rfl (sub_nil _))))))))))))) (.refl _) ?_
   refine hl_nil ?_
   refine hq_then ?_
   refine hc_seq ?_
   refine hc_true rfl ?_
   refine hc_skip ?_
   refine hq_then ?_
   refine hc_seq ?_
   refine hc_block ?_
   refine hc_seq ?_
   refine hc_region ?_
   refine hl_v rfl rfl rfl (rv_ev rfl) ?_
   refine hl_v rfl rfl rfl (rv_ev rfl) ?_
   refine hl_less (sx 0 rfl (sx 1 rfl (sx 2 rfl (sx 4 rfl (sx 5 rfl (sx 6 rfl (sx 8 rfl (sx 17 rfl (sx 18 rfl (sx 19 rfl (sx 30 rfl (sx 31 rfl (sx 32 rfl (sub_nil _)))))))))))))) (.refl _) ?_
   refine hl_nil ?_
   refine hq_then ?_
   refine hc_seq ?_
   refine hc_seq ?_
   refine hc_region ?_
   have hx4 := he4 e (Nat.le_refl _) (by omega)
   refine hl_conv [bigE (es.map lePart), rowE 87 4 t.lv es.length (es.flatMap Le.cells), rowE 3 1 t.mv zs.length (zs.map (Value.int .i64)), boxE b7 #[t.mv, t.lv, .int .i64 t.pad, .int .i64 t.ram] 39, boxE b3 #[.slice a_ xs.length cap_, .int .i64 q] 129, boxE b2 #[.slice none 0 0, .slice none 0 0, .int .i64 0, .int .i64 0] 39, boxE b1 #[.int .i64 d.W, .int .i64 d.H, .int .i64 d.T, .int .i64 d.R] 25] (conv_pick (src := [bigE (es.map lePart), rowE 87 4 t.lv es.length (es.flatMap Le.cells), rowE 3 1 t.mv zs.length (zs.map (Value.int .i64)), boxE b7 #[t.mv, t.lv, .int .i64 t.pad, .int .i64 t.ram] 39, boxE b3 #[.slice a_ xs.length cap_, .int .i64 q] 129, boxE b2 #[.slice none 0 0, .slice none 0 0, .int .i64 0, .int .i64 0] 39, boxE b1 #[.int .i64 d.W, .int .i64 d.H, .int .i64 d.T, .int .i64 d.R] 25]) (dst := [bigE (es.map lePart), rowE 87 4 t.lv es.length (es.flatMap Le.cells), rowE 3 1 t.mv zs.length (zs.map (Value.int .i64)), boxE b7 #[t.mv, t.lv, .int .i64 t.pad, .int .i64 t.ram] 39, boxE b3 #[.slice a_ xs.length cap_, .int .i64 q] 129, boxE b2 #[.slice none 0 0, .slice none 0 0, .int .i64 0, .int .i64 0] 39, boxE b1 #[.int .i64 d.W, .int .i64 d.H, .int .i64 d.T, .int .i64 d.R] 25]) (l := []) [0, 1, 2, 3, 4, 5, 6] (by decide) rfl) ?_
   refine hl_conv [rowE 3 1 ((es.getD e Le0).v) ((es.getD e Le0).xs.length) ((es.getD e Le0).xs.map (Value.int .i64)), bigE ((es.map lePart).eraseIdx e), rowE 87 4 t.lv es.length (es.flatMap Le.cells), rowE 3 1 t.mv zs.length (zs.map (Value.int .i64)), boxE b7 #[t.mv, t.lv, .int .i64 t.pad, .int .i64 t.ram] 39, boxE b3 #[.slice a_ xs.length cap_, .int .i64 q] 129, boxE b2 #[.slice none 0 0, .slice none 0 0, .int .i64 0, .int .i64 0] 39, boxE b1 #[.int .i64 d.W, .int .i64 d.H, .int .i64 d.T, .int .i64 d.R] 25] (conv_focus (j := e) (by rw [List.getElem?_map, getD_at (d := Le0) (by omega)]; rfl)) ?_
   refine hl_v rfl rfl rfl (rv_field (k0 := 1) rfl (by kernel_rfl) rfl) ?_
   refine hl_v rfl rfl rfl (rv_load rfl (by kernel_rfl) rfl (box_cell 4 rfl rfl)) ?_
   refine hl_v rfl rfl rfl (rv_ev rfl) ?_
   refine hl_v rfl rfl rfl (rv_index (s := 4) rfl Try.underlying37 (by kernel_rfl) rfl rfl (rd_row 2 rfl) (by omega) (by first | omega | (simp only [List.length_set]; omega))) ?_
   refine hl_v rfl rfl rfl (rv_fieldEl (k0 := 0) rfl (by kernel_rfl) rfl (rd_row 2 rfl) (by first | omega | (simp only [List.length_set]; omega))) ?_
   refine hl_v rfl rfl rfl (rv_loadEl (u := (es.getD e Le0).v) rfl (by kernel_rfl) rfl (rd_row 2 rfl) ((flat_at Le.cells 4 (fun _ => rfl) es Le0 (show e < _ by first | omega | (simp only [List.length_set]; omega)) (by decide)).trans rfl)) ?_
   refine hl_v rfl rfl rfl (rv_len rfl Try.underlying30 rfl (rd_row 0 rfl)) ?_
   refine hl_v rfl rfl rfl (rv_ev rfl) ?_
   refine hl_less (sx 0 rfl (sx 1 rfl (sx 2 rfl (sx 4 rfl (sx 5 rfl (sx 6 rfl (sx 8 rfl (sx 17 rfl (sx 18 rfl (sx 19 rfl (sx 30 rfl (sx 31 rfl (sx 32 rfl (sx 40 rfl (sx 41 rfl (sub_nil _)))))))))))))))) (.refl _) ?_
   refine hl_nil ?_
   refine hq_then ?_
   refine hc_block ?_
   refine hc_loop3 (α := Nat) (β := Int) (γ := List Int) (fun j q ys => [rowE 3 1 ((es.getD e Le0).v) ys.length (ys.map (Value.int .i64)), bigE ((es.map lePart).eraseIdx e), rowE 87 4 t.lv es.length (es.flatMap Le.cells), rowE 3 1 t.mv zs.length (zs.map (Value.int .i64)), boxE b7 #[t.mv, t.lv, .int .i64 t.pad, .int .i64 t.ram] 39, boxE b3 #[.slice a_ xs.length cap_, .int .i64 q] 129, boxE b2 #[.slice none 0 0, .slice none 0 0, .int .i64 0, .int .i64 0] 39, boxE b1 #[.int .i64 d.W, .int .i64 d.H, .int .i64 d.T, .int .i64 d.R] 25]) (fun j q ys => [(0, .agg #[.int .i64 d.W, .int .i64 d.H, .int .i64 d.T, .int .i64 d.R]), (1, .slice a_ xs.length cap_), (2, .pointer (some ⟨b1, 0, none⟩)), (4, .pointer (some ⟨b2, 0, none⟩)), (5, .pointer (some ⟨b3, 0, none⟩)), (6, .pointer (some ⟨b7, 0, none⟩)), (8, .int .i64 (e : Int)), (17, .int .i64 (t.mx.length : Int)), (18, .int .i64 (m : Int)), (19, .bool false), (30, .int .i64 (t.es.length : Int)), (31, .int .i64 (e : Int)), (32, .bool true), (40, .int .i64 ((es.getD e Le0).xs.length : Int)), (41, .int .i64 (j : Int))]) (fun j q ys => j ≤ 4 ∧ q = 5 * (muxs d) + 30 * e + 3 * (j : Int) ∧ ys.length = 4 ∧ ∀ i, i < j → ys.getD i 0 = getN xs (5 * (muxs d) + 30 * e + 3 * (i : Int)) 3) (fun j q ys => 4 - j) 0 _ _ ⟨by omega, by omega, hx4, fun i hi => absurd hi (by omega)⟩ (sx 0 rfl (sx 1 rfl (sx 2 rfl (sx 4 rfl (sx 5 rfl (sx 6 rfl (sx 8 rfl (sx 17 rfl (sx 18 rfl (sx 19 rfl (sx 30 rfl (sx 31 rfl (sx 32 rfl (sx 40 rfl (sx 41 rfl (sub_nil _)))))))))))))))) ((.cons_cons _ (.cons_cons _ (.cons_cons _ (.cons_cons _ (.cons_cons _ (.cons_cons _ (.cons_cons _ (.cons_cons _ .slnil))))))))) ?_
   intro j q ys hi15
   obtain ⟨hj1, hjq, hjl, hjz⟩ := hi15
   refine hc_seq ?_
   refine hc_region ?_
   refine hl_lss rfl rfl rfl rfl rfl rfl (fun h16 => ?_) (fun h16 => ?_)
   ·
    refine hl_less (sx 0 rfl (sx 1 rfl (sx 2 rfl (sx 4 rfl (sx 5 rfl (sx 6 rfl (sx 8 rfl (sx 17 rfl (sx 18 rfl (sx 19 rfl (sx 30 rfl (sx 31 rfl (sx 32 rfl (sx 40 rfl (sx 41 rfl (sx 42 rfl (sub_nil _))))))))))))))))) (.refl _) ?_
    refine hl_nil ?_
    refine hq_then ?_
    refine hc_seq ?_
    refine hc_true rfl ?_
    refine hc_skip ?_
    refine hq_then ?_
    refine hc_seq ?_
    refine hc_block ?_
    refine hc_seq ?_
    refine hc_region ?_
    refine hl_v rfl rfl rfl (rv_ev rfl) ?_
    refine hl_v rfl rfl rfl (rv_ev rfl) ?_
    refine hl_less (sx 0 rfl (sx 1 rfl (sx 2 rfl (sx 4 rfl (sx 5 rfl (sx 6 rfl (sx 8 rfl (sx 9 rfl (sx 17 rfl (sx 18 rfl (sx 19 rfl (sx 30 rfl (sx 31 rfl (sx 32 rfl (sx 40 rfl (sx 41 rfl (sx 42 rfl (sub_nil _)))))))))))))))))) (.refl _) ?_
    refine hl_nil ?_
    refine hq_then ?_
    refine hc_conv [boxE b3 #[.slice a_ xs.length cap_, .int .i64 q] 129, rowE 3 1 ((es.getD e Le0).v) ys.length (ys.map (Value.int .i64)), bigE ((es.map lePart).eraseIdx e), rowE 87 4 t.lv es.length (es.flatMap Le.cells), rowE 3 1 t.mv zs.length (zs.map (Value.int .i64)), boxE b7 #[t.mv, t.lv, .int .i64 t.pad, .int .i64 t.ram] 39, boxE b2 #[.slice none 0 0, .slice none 0 0, .int .i64 0, .int .i64 0] 39, boxE b1 #[.int .i64 d.W, .int .i64 d.H, .int .i64 d.T, .int .i64 d.R] 25] (conv_pick (src := [rowE 3 1 ((es.getD e Le0).v) ys.length (ys.map (Value.int .i64)), bigE ((es.map lePart).eraseIdx e), rowE 87 4 t.lv es.length (es.flatMap Le.cells), rowE 3 1 t.mv zs.length (zs.map (Value.int .i64)), boxE b7 #[t.mv, t.lv, .int .i64 t.pad, .int .i64 t.ram] 39, boxE b3 #[.slice a_ xs.length cap_, .int .i64 q] 129, boxE b2 #[.slice none 0 0, .slice none 0 0, .int .i64 0, .int .i64 0] 39, boxE b1 #[.int .i64 d.W, .int .i64 d.H, .int .i64 d.T, .int .i64 d.R] 25]) (dst := [boxE b3 #[.slice a_ xs.length cap_, .int .i64 q] 129, rowE 3 1 ((es.getD e Le0).v) ys.length (ys.map (Value.int .i64)), bigE ((es.map lePart).eraseIdx e), rowE 87 4 t.lv es.length (es.flatMap Le.cells), rowE 3 1 t.mv zs.length (zs.map (Value.int .i64)), boxE b7 #[t.mv, t.lv, .int .i64 t.pad, .int .i64 t.ram] 39, boxE b2 #[.slice none 0 0, .slice none 0 0, .int .i64 0, .int .i64 0] 39, boxE b1 #[.int .i64 d.W, .int .i64 d.H, .int .i64 d.T, .int .i64 d.R] 25]) (l := []) [5, 0, 1, 2, 3, 4, 6, 7] (by decide) rfl) ?_
    refine hc_draw2 (l := [rowE 3 1 ((es.getD e Le0).v) ys.length (ys.map (Value.int .i64)), bigE ((es.map lePart).eraseIdx e), rowE 87 4 t.lv es.length (es.flatMap Le.cells), rowE 3 1 t.mv zs.length (zs.map (Value.int .i64)), boxE b7 #[t.mv, t.lv, .int .i64 t.pad, .int .i64 t.ram] 39, boxE b2 #[.slice none 0 0, .slice none 0 0, .int .i64 0, .int .i64 0] 39, boxE b1 #[.int .i64 d.W, .int .i64 d.H, .int .i64 d.T, .int .i64 d.R] 25]) (by kernel_rfl) 10 [0, 1, 2, 3, 4, 5, 6, 7, 8, 9] (List.take 10 _) (List.drop 10 _) [[], [0], [], [1, 2], [3], [4], [], [], [7], [5, 6]] [44, 45, 46, 47, 48, 49, 50, 51, 52, 53] (fun i vs_ v_ p_ => match i with | 0 => v_ = .pointer (some ⟨b7, 0 + 1, none⟩) ∧ p_ = [] | 1 => v_ = t.lv ∧ p_ = [] | 2 => v_ = .int .i64 (e : Int) ∧ p_ = [] | 3 => v_ = elP t.lv (((e : Int)).toNat * 4) ∧ p_ = [] | 4 => v_ = elP t.lv (((e : Int)).toNat * 4 + 0) ∧ p_ = [] | 5 => v_ = (es.getD e Le0).v ∧ p_ = [] | 6 => v_ = .int .i64 (j : Int) ∧ p_ = [] | 7 => v_ = .pointer (some ⟨b3, 0, none⟩) ∧ p_ = [] | 8 => (∃ pm_, p_ = [pm_] ∧ (fun u_ p_ => u_ = .int .i64 (getN xs q 3) ∧ p_ = boxE b3 #[.slice a_ xs.length cap_, .int .i64 (q + 3)] 129) v_ pm_) | 9 => v_ = elP ((es.getD e Le0).v) (((j : Int)).toNat * 1) ∧ p_ = [] | _ => True) [[], [0], [], [1, 2], [3], [4], [], [], [7], [5, 6]] [none, none, none, none, none, none, none, none, some 11, none] [boxE b3 #[.slice a_ xs.length cap_, .int .i64 q] 129] [0, 1, 2, 3, 4, 5, 6, 7, 8, 9] 11 (List.take_append_drop 10 _).symm (by kernel_rfl) (by kernel_rfl) (by kernel_rfl) rfl rfl ?_ ?_
    ·
     refine ⟨?_, ?_, ?_, ?_, ?_, ?_, ?_, ?_, ?_, ?_, trivial⟩
     ·
      intro vf pf hmu hR
      refine Or.inl ⟨rfl, ?_⟩
      show RunQ _ _ _ (([] : List Nat).flatMap pf ++ _) (envOf _ vf [] ++ _) _ _
      refine rq_less (sx 6 rfl (sub_nil _)) (List.sublist_append_right _ _) ?_
      exact rq_v (rv_field (k0 := 1) rfl (by kernel_rfl) rfl)
     ·
      intro vf pf hmu hR
      have e0 : (vf 0) = .pointer (some ⟨b7, 0 + 1, none⟩) ∧ (pf 0) = [] := hR 0 (by decide)
      refine Or.inl ⟨rfl, ?_⟩
      show RunQ _ _ _ (([0] : List Nat).flatMap pf ++ _) (envOf _ vf [0] ++ _) _ _
      refine rq_less (sx 44 (congrArg some e0.1) (sub_nil _)) (List.sublist_append_right _ _) ?_
      exact rq_v (rv_load rfl (by kernel_rfl) rfl (box_cell 4 rfl rfl))
     ·
      intro vf pf hmu hR
      refine Or.inl ⟨rfl, ?_⟩
      show RunQ _ _ _ (([] : List Nat).flatMap pf ++ _) (envOf _ vf [] ++ _) _ _
      refine rq_less (sx 8 rfl (sub_nil _)) (List.sublist_append_right _ _) ?_
      exact rq_v (rv_ev rfl)
     ·
      intro vf pf hmu hR
      have e1 : (vf 1) = t.lv ∧ (pf 1) = [] := hR 1 (by decide)
      have e2 : (vf 2) = .int .i64 (e : Int) ∧ (pf 2) = [] := hR 2 (by decide)
      refine Or.inl ⟨rfl, ?_⟩
      show RunQ _ _ _ (([1, 2] : List Nat).flatMap pf ++ _) (envOf _ vf [1, 2] ++ _) _ _
      refine rq_less (sx 45 (congrArg some e1.1) (sx 46 (congrArg some e2.1) (sub_nil _))) (List.sublist_append_right _ _) ?_
      exact rq_v (rv_index (s := 4) rfl Try.underlying37 (by kernel_rfl) rfl rfl (rd_row 2 rfl) (by omega) (by first | omega | (simp only [List.length_set]; omega)))
     ·
      intro vf pf hmu hR
      have e3 : (vf 3) = elP t.lv (((e : Int)).toNat * 4) ∧ (pf 3) = [] := hR 3 (by decide)
      refine Or.inl ⟨rfl, ?_⟩
      show RunQ _ _ _ (([3] : List Nat).flatMap pf ++ _) (envOf _ vf [3] ++ _) _ _
      refine rq_less (sx 47 (congrArg some e3.1) (sub_nil _)) (List.sublist_append_right _ _) ?_
      exact rq_v (rv_fieldEl (k0 := 0) rfl (by kernel_rfl) rfl (rd_row 2 rfl) (by first | omega | (simp only [List.length_set]; omega)))
     ·
      intro vf pf hmu hR
      have e4 : (vf 4) = elP t.lv (((e : Int)).toNat * 4 + 0) ∧ (pf 4) = [] := hR 4 (by decide)
      refine Or.inl ⟨rfl, ?_⟩
      show RunQ _ _ _ (([4] : List Nat).flatMap pf ++ _) (envOf _ vf [4] ++ _) _ _
      refine rq_less (sx 48 (congrArg some e4.1) (sub_nil _)) (List.sublist_append_right _ _) ?_
      exact rq_v (rv_loadEl (u := (es.getD e Le0).v) rfl (by kernel_rfl) rfl (rd_row 2 rfl) ((flat_at Le.cells 4 (fun _ => rfl) es Le0 (show e < _ by first | omega | (simp only [List.length_set]; omega)) (by decide)).trans rfl))
     ·
      intro vf pf hmu hR
      refine Or.inl ⟨rfl, ?_⟩
      show RunQ _ _ _ (([] : List Nat).flatMap pf ++ _) (envOf _ vf [] ++ _) _ _
      refine rq_less (sx 9 rfl (sub_nil _)) (List.sublist_append_right _ _) ?_
      exact rq_v (rv_ev rfl)
     ·
      intro vf pf hmu hR
      refine Or.inl ⟨rfl, ?_⟩
      show RunQ _ _ _ (([] : List Nat).flatMap pf ++ _) (envOf _ vf [] ++ _) _ _
      refine rq_less (sx 5 rfl (sub_nil _)) (List.sublist_append_right _ _) ?_
      exact rq_v (rv_ev rfl)
     ·
      intro vf pf hmu hR
      have e7 : (vf 7) = .pointer (some ⟨b3, 0, none⟩) ∧ (pf 7) = [] := hR 7 (by decide)
      refine Or.inl ⟨rfl, ?_⟩
      show RunM _ _ _ (pf 11) (([7] : List Nat).flatMap pf ++ _) (envOf _ vf [7] ++ _) _ _
      rw [hmu]
      refine rm_less (X' := [rowE 3 1 ((es.getD e Le0).v) ys.length (ys.map (Value.int .i64)), bigE ((es.map lePart).eraseIdx e), rowE 87 4 t.lv es.length (es.flatMap Le.cells), rowE 3 1 t.mv zs.length (zs.map (Value.int .i64)), boxE b7 #[t.mv, t.lv, .int .i64 t.pad, .int .i64 t.ram] 39, boxE b2 #[.slice none 0 0, .slice none 0 0, .int .i64 0, .int .i64 0] 39, boxE b1 #[.int .i64 d.W, .int .i64 d.H, .int .i64 d.T, .int .i64 d.R] 25]) (sx 51 (congrArg some e7.1) (sub_nil _)) (by first | (simp only [e7.2, List.flatMap_cons, List.flatMap_nil, List.append_nil, List.nil_append, List.cons_append]; exact List.Sublist.refl _) | simp [e7.2]) ?_
      exact rq_callM (R := (fun u_ p_ => u_ = .int .i64 (getN xs q 3) ∧ p_ = boxE b3 #[.slice a_ xs.length cap_, .int .i64 (q + 3)] 129)) (by kernel_rfl) rfl (fun L w hX hm => bitGet_mut xs (.slice a_ xs.length cap_) b3 q 3 _ _ w hm (rd_old hv) hxs (by omega) (by omega) (by omega))
     ·
      intro vf pf hmu hR
      have e5 : (vf 5) = (es.getD e Le0).v ∧ (pf 5) = [] := hR 5 (by decide)
      have e6 : (vf 6) = .int .i64 (j : Int) ∧ (pf 6) = [] := hR 6 (by decide)
      refine Or.inl ⟨rfl, ?_⟩
      show RunQ _ _ _ (([5, 6] : List Nat).flatMap pf ++ _) (envOf _ vf [5, 6] ++ _) _ _
      refine rq_less (sx 49 (congrArg some e5.1) (sx 50 (congrArg some e6.1) (sub_nil _))) (List.sublist_append_right _ _) ?_
      exact rq_v (rv_index (s := 1) rfl Try.underlying30 (by kernel_rfl) rfl rfl (rd_row 0 rfl) (by omega) (by first | omega | (simp only [List.length_set]; omega)))
    ·
     intro vf pf hmu hR
     have e8 : (∃ pm_, (pf 8) = [pm_] ∧ (fun u_ p_ => u_ = .int .i64 (getN xs q 3) ∧ p_ = boxE b3 #[.slice a_ xs.length cap_, .int .i64 (q + 3)] 129) (vf 8) pm_) := hR 8 (by decide)
     obtain ⟨p18, p8, hR19⟩ := e8
     obtain ⟨v17, v8⟩ : ∃ x, vf 8 = x := ⟨_, rfl⟩
     rw [v8] at hR19
     obtain ⟨rfl, rfl⟩ := hR19
     have e9 : (vf 9) = elP ((es.getD e Le0).v) (((j : Int)).toNat * 1) ∧ (pf 9) = [] := hR 9 (by decide)
     have q0 : (vf 0) = .pointer (some ⟨b7, 0 + 1, none⟩) ∧ (pf 0) = [] := hR 0 (by decide)
     have q1 : (vf 1) = t.lv ∧ (pf 1) = [] := hR 1 (by decide)
     have q2 : (vf 2) = .int .i64 (e : Int) ∧ (pf 2) = [] := hR 2 (by decide)
     have q3 : (vf 3) = elP t.lv (((e : Int)).toNat * 4) ∧ (pf 3) = [] := hR 3 (by decide)
     have q4 : (vf 4) = elP t.lv (((e : Int)).toNat * 4 + 0) ∧ (pf 4) = [] := hR 4 (by decide)
     have q5 : (vf 5) = (es.getD e Le0).v ∧ (pf 5) = [] := hR 5 (by decide)
     have q6 : (vf 6) = .int .i64 (j : Int) ∧ (pf 6) = [] := hR 6 (by decide)
     have q7 : (vf 7) = .pointer (some ⟨b3, 0, none⟩) ∧ (pf 7) = [] := hR 7 (by decide)
     have q9 : (vf 9) = elP ((es.getD e Le0).v) (((j : Int)).toNat * 1) ∧ (pf 9) = [] := hR 9 (by decide)
     refine hl_less (l' := [boxE b3 #[.slice a_ xs.length cap_, .int .i64 (q + 3)] 129, rowE 3 1 ((es.getD e Le0).v) ys.length (ys.map (Value.int .i64)), bigE ((es.map lePart).eraseIdx e), rowE 87 4 t.lv es.length (es.flatMap Le.cells), rowE 3 1 t.mv zs.length (zs.map (Value.int .i64)), boxE b7 #[t.mv, t.lv, .int .i64 t.pad, .int .i64 t.ram] 39, boxE b2 #[.slice none 0 0, .slice none 0 0, .int .i64 0, .int .i64 0] 39, boxE b1 #[.int .i64 d.W, .int .i64 d.H, .int .i64 d.T, .int .i64 d.R] 25]) (sx 0 rfl (sx 1 rfl (sx 2 rfl (sx 4 rfl (sx 5 rfl (sx 6 rfl (sx 8 rfl (sx 9 rfl (sx 17 rfl (sx 18 rfl (sx 19 rfl (sx 30 rfl (sx 31 rfl (sx 32 rfl (sx 40 rfl (sx 41 rfl (sx 42 rfl (sx 52 (congrArg some v8) (sx 53 (congrArg some e9.1) (sub_nil _)))))))))))))))))))) (by first | (simp only [p8, v8, q0.2, q1.2, q2.2, q3.2, q4.2, q5.2, q6.2, q7.2, q9.2, List.flatMap_cons, List.flatMap_nil, List.append_nil, List.nil_append, List.cons_append]; exact List.Sublist.refl _) | simp [p8, v8, q0.2, q1.2, q2.2, q3.2, q4.2, q5.2, q6.2, q7.2, q9.2]) ?_
     simp only [List.drop_succ_cons, List.drop_zero]
     refine hl_storeEl (i := 1) (n' := (ys.set j (getN xs q 3)).length) (xs' := ((ys.set j (getN xs q 3)).map (Value.int .i64))) (l' := [boxE b3 #[.slice a_ xs.length cap_, .int .i64 (q + 3)] 129, rowE 3 1 ((es.getD e Le0).v) ((ys.set j (getN xs q 3)).length) ((ys.set j (getN xs q 3)).map (Value.int .i64)), bigE ((es.map lePart).eraseIdx e), rowE 87 4 t.lv es.length (es.flatMap Le.cells), rowE 3 1 t.mv zs.length (zs.map (Value.int .i64)), boxE b7 #[t.mv, t.lv, .int .i64 t.pad, .int .i64 t.ram] 39, boxE b2 #[.slice none 0 0, .slice none 0 0, .int .i64 0, .int .i64 0] 39, boxE b1 #[.int .i64 d.W, .int .i64 d.H, .int .i64 d.T, .int .i64 d.R] 25]) rfl rfl rfl (by kernel_rfl) rfl rfl rfl rfl (by first | omega | (simp only [List.length_set]; omega)) List.length_set.symm (ints_set _ _ _) rfl ?_
     refine hl_less (sx 0 rfl (sx 1 rfl (sx 2 rfl (sx 4 rfl (sx 5 rfl (sx 6 rfl (sx 8 rfl (sx 9 rfl (sx 17 rfl (sx 18 rfl (sx 19 rfl (sx 30 rfl (sx 31 rfl (sx 32 rfl (sx 40 rfl (sx 41 rfl (sx 42 rfl (sub_nil _)))))))))))))))))) (.refl _) ?_
     refine hl_nil ?_
     refine hq_block_normal ?_
     refine hq_then ?_
     refine hc_region ?_
     refine hl_v rfl rfl rfl (rv_add rfl rfl rfl (by constructor <;> omega)) ?_
     refine hl_v rfl rfl rfl (rv_ev rfl) ?_
     refine hl_less (sx 0 rfl (sx 1 rfl (sx 2 rfl (sx 4 rfl (sx 5 rfl (sx 6 rfl (sx 8 rfl (sx 9 rfl (sx 17 rfl (sx 18 rfl (sx 19 rfl (sx 30 rfl (sx 31 rfl (sx 32 rfl (sx 40 rfl (sx 41 rfl (sx 42 rfl (sub_nil _)))))))))))))))))) (.refl _) ?_
     refine hl_nil ?_
     refine hq_conv [rowE 3 1 ((es.getD e Le0).v) ((ys.set j (getN xs q 3)).length) ((ys.set j (getN xs q 3)).map (Value.int .i64)), bigE ((es.map lePart).eraseIdx e), rowE 87 4 t.lv es.length (es.flatMap Le.cells), rowE 3 1 t.mv zs.length (zs.map (Value.int .i64)), boxE b7 #[t.mv, t.lv, .int .i64 t.pad, .int .i64 t.ram] 39, boxE b3 #[.slice a_ xs.length cap_, .int .i64 (q + 3)] 129, boxE b2 #[.slice none 0 0, .slice none 0 0, .int .i64 0, .int .i64 0] 39, boxE b1 #[.int .i64 d.W, .int .i64 d.H, .int .i64 d.T, .int .i64 d.R] 25] (conv_pick (src := [boxE b3 #[.slice a_ xs.length cap_, .int .i64 (q + 3)] 129, rowE 3 1 ((es.getD e Le0).v) ((ys.set j (getN xs q 3)).length) ((ys.set j (getN xs q 3)).map (Value.int .i64)), bigE ((es.map lePart).eraseIdx e), rowE 87 4 t.lv es.length (es.flatMap Le.cells), rowE 3 1 t.mv zs.length (zs.map (Value.int .i64)), boxE b7 #[t.mv, t.lv, .int .i64 t.pad, .int .i64 t.ram] 39, boxE b2 #[.slice none 0 0, .slice none 0 0, .int .i64 0, .int .i64 0] 39, boxE b1 #[.int .i64 d.W, .int .i64 d.H, .int .i64 d.T, .int .i64 d.R] 25]) (dst := [rowE 3 1 ((es.getD e Le0).v) ((ys.set j (getN xs q 3)).length) ((ys.set j (getN xs q 3)).map (Value.int .i64)), bigE ((es.map lePart).eraseIdx e), rowE 87 4 t.lv es.length (es.flatMap Le.cells), rowE 3 1 t.mv zs.length (zs.map (Value.int .i64)), boxE b7 #[t.mv, t.lv, .int .i64 t.pad, .int .i64 t.ram] 39, boxE b3 #[.slice a_ xs.length cap_, .int .i64 (q + 3)] 129, boxE b2 #[.slice none 0 0, .slice none 0 0, .int .i64 0, .int .i64 0] 39, boxE b1 #[.int .i64 d.W, .int .i64 d.H, .int .i64 d.T, .int .i64 d.R] 25]) (l := []) [1, 2, 3, 4, 5, 0, 6, 7] (by decide) rfl) ?_
     exact hq_round3 (j + 1) (q + 3) (ys.set j (getN xs q 3)) ⟨by omega, by omega, by rw [List.length_set]; exact hjl, fun i hi => by by_cases hij : i = j; (subst hij; rw [getD_set_self' (by omega), hjq]); rw [getD_set_ne' (fun h => hij h.symm)]; exact hjz i (by omega)⟩ (by omega) (sx 0 rfl (sx 1 rfl (sx 2 rfl (sx 4 rfl (sx 5 rfl (sx 6 rfl (sx 8 rfl (sx 17 rfl (sx 18 rfl (sx 19 rfl (sx 30 rfl (sx 31 rfl (sx 32 rfl (sx 40 rfl (sx 41 rfl (sub_nil _)))))))))))))))) ((.cons_cons _ (.cons_cons _ (.cons_cons _ (.cons_cons _ (.cons_cons _ (.cons_cons _ (.cons_cons _ (.cons_cons _ .slnil)))))))))
   ·
    refine hl_less (sx 0 rfl (sx 1 rfl (sx 2 rfl (sx 4 rfl (sx 5 rfl (sx 6 rfl (sx 8 rfl (sx 17 rfl (sx 18 rfl (sx 19 rfl (sx 30 rfl (sx 31 rfl (sx 32 rfl (sx 40 rfl (sx 41 rfl (sx 42 rfl (sub_nil _))))))))))))))))) (.refl _) ?_
    refine hl_nil ?_
    refine hq_then ?_
    refine hc_seq ?_
    refine hc_false rfl ?_
    refine hc_exit ?_
    refine hq_then_exit ?_
    refine hq_then_exit ?_
    refine hq_block_exit ?_
    refine hq_then ?_
    refine hc_seq ?_
    refine hc_conv [boxE b3 #[.slice a_ xs.length cap_, .int .i64 q] 129, rowE 3 1 ((es.getD e Le0).v) ys.length (ys.map (Value.int .i64)), bigE ((es.map lePart).eraseIdx e), rowE 87 4 t.lv es.length (es.flatMap Le.cells), rowE 3 1 t.mv zs.length (zs.map (Value.int .i64)), boxE b7 #[t.mv, t.lv, .int .i64 t.pad, .int .i64 t.ram] 39, boxE b2 #[.slice none 0 0, .slice none 0 0, .int .i64 0, .int .i64 0] 39, boxE b1 #[.int .i64 d.W, .int .i64 d.H, .int .i64 d.T, .int .i64 d.R] 25] (conv_pick (src := [rowE 3 1 ((es.getD e Le0).v) ys.length (ys.map (Value.int .i64)), bigE ((es.map lePart).eraseIdx e), rowE 87 4 t.lv es.length (es.flatMap Le.cells), rowE 3 1 t.mv zs.length (zs.map (Value.int .i64)), boxE b7 #[t.mv, t.lv, .int .i64 t.pad, .int .i64 t.ram] 39, boxE b3 #[.slice a_ xs.length cap_, .int .i64 q] 129, boxE b2 #[.slice none 0 0, .slice none 0 0, .int .i64 0, .int .i64 0] 39, boxE b1 #[.int .i64 d.W, .int .i64 d.H, .int .i64 d.T, .int .i64 d.R] 25]) (dst := [boxE b3 #[.slice a_ xs.length cap_, .int .i64 q] 129, rowE 3 1 ((es.getD e Le0).v) ys.length (ys.map (Value.int .i64)), bigE ((es.map lePart).eraseIdx e), rowE 87 4 t.lv es.length (es.flatMap Le.cells), rowE 3 1 t.mv zs.length (zs.map (Value.int .i64)), boxE b7 #[t.mv, t.lv, .int .i64 t.pad, .int .i64 t.ram] 39, boxE b2 #[.slice none 0 0, .slice none 0 0, .int .i64 0, .int .i64 0] 39, boxE b1 #[.int .i64 d.W, .int .i64 d.H, .int .i64 d.T, .int .i64 d.R] 25]) (l := []) [5, 0, 1, 2, 3, 4, 6, 7] (by decide) rfl) ?_
    refine hc_draw2 (l := [rowE 3 1 ((es.getD e Le0).v) ys.length (ys.map (Value.int .i64)), bigE ((es.map lePart).eraseIdx e), rowE 87 4 t.lv es.length (es.flatMap Le.cells), rowE 3 1 t.mv zs.length (zs.map (Value.int .i64)), boxE b7 #[t.mv, t.lv, .int .i64 t.pad, .int .i64 t.ram] 39, boxE b2 #[.slice none 0 0, .slice none 0 0, .int .i64 0, .int .i64 0] 39, boxE b1 #[.int .i64 d.W, .int .i64 d.H, .int .i64 d.T, .int .i64 d.R] 25]) (by kernel_rfl) 7 [0, 1, 2, 3, 4, 5, 6] (List.take 7 _) (List.drop 7 _) [[], [0], [], [], [3], [1, 2], [5]] [55, 56, 57, 58, 59, 60, 61] (fun i vs_ v_ p_ => match i with | 0 => v_ = .pointer (some ⟨b7, 0 + 1, none⟩) ∧ p_ = [] | 1 => v_ = t.lv ∧ p_ = [] | 2 => v_ = .int .i64 (e : Int) ∧ p_ = [] | 3 => v_ = .pointer (some ⟨b3, 0, none⟩) ∧ p_ = [] | 4 => (∃ pm_, p_ = [pm_] ∧ (fun u_ p_ => u_ = .int .i64 (getN xs q 16) ∧ p_ = boxE b3 #[.slice a_ xs.length cap_, .int .i64 (q + 16)] 129) v_ pm_) | 5 => v_ = elP t.lv (((e : Int)).toNat * 4) ∧ p_ = [] | 6 => v_ = elP t.lv (((e : Int)).toNat * 4 + 1) ∧ p_ = [] | _ => True) [[], [0], [], [], [3], [1, 2], [5]] [none, none, none, none, some 8, none, none] [boxE b3 #[.slice a_ xs.length cap_, .int .i64 q] 129] [0, 1, 2, 3, 4, 5, 6] 8 (List.take_append_drop 7 _).symm (by kernel_rfl) (by kernel_rfl) (by kernel_rfl) rfl rfl ?_ ?_
    ·
     refine ⟨?_, ?_, ?_, ?_, ?_, ?_, ?_, trivial⟩
     ·
      intro vf pf hmu hR
      refine Or.inl ⟨rfl, ?_⟩
      show RunQ _ _ _ (([] : List Nat).flatMap pf ++ _) (envOf _ vf [] ++ _) _ _
      refine rq_less (sx 6 rfl (sub_nil _)) (List.sublist_append_right _ _) ?_
      exact rq_v (rv_field (k0 := 1) rfl (by kernel_rfl) rfl)
     ·
      intro vf pf hmu hR
      have e0 : (vf 0) = .pointer (some ⟨b7, 0 + 1, none⟩) ∧ (pf 0) = [] := hR 0 (by decide)
      refine Or.inl ⟨rfl, ?_⟩
      show RunQ _ _ _ (([0] : List Nat).flatMap pf ++ _) (envOf _ vf [0] ++ _) _ _
      refine rq_less (sx 55 (congrArg some e0.1) (sub_nil _)) (List.sublist_append_right _ _) ?_
      exact rq_v (rv_load rfl (by kernel_rfl) rfl (box_cell 4 rfl rfl))
     ·
      intro vf pf hmu hR
      refine Or.inl ⟨rfl, ?_⟩
      show RunQ _ _ _ (([] : List Nat).flatMap pf ++ _) (envOf _ vf [] ++ _) _ _
      refine rq_less (sx 8 rfl (sub_nil _)) (List.sublist_append_right _ _) ?_
      exact rq_v (rv_ev rfl)
     ·
      intro vf pf hmu hR
      refine Or.inl ⟨rfl, ?_⟩
      show RunQ _ _ _ (([] : List Nat).flatMap pf ++ _) (envOf _ vf [] ++ _) _ _
      refine rq_less (sx 5 rfl (sub_nil _)) (List.sublist_append_right _ _) ?_
      exact rq_v (rv_ev rfl)
     ·
      intro vf pf hmu hR
      have e3 : (vf 3) = .pointer (some ⟨b3, 0, none⟩) ∧ (pf 3) = [] := hR 3 (by decide)
      refine Or.inl ⟨rfl, ?_⟩
      show RunM _ _ _ (pf 8) (([3] : List Nat).flatMap pf ++ _) (envOf _ vf [3] ++ _) _ _
      rw [hmu]
      refine rm_less (X' := [rowE 3 1 ((es.getD e Le0).v) ys.length (ys.map (Value.int .i64)), bigE ((es.map lePart).eraseIdx e), rowE 87 4 t.lv es.length (es.flatMap Le.cells), rowE 3 1 t.mv zs.length (zs.map (Value.int .i64)), boxE b7 #[t.mv, t.lv, .int .i64 t.pad, .int .i64 t.ram] 39, boxE b2 #[.slice none 0 0, .slice none 0 0, .int .i64 0, .int .i64 0] 39, boxE b1 #[.int .i64 d.W, .int .i64 d.H, .int .i64 d.T, .int .i64 d.R] 25]) (sx 58 (congrArg some e3.1) (sub_nil _)) (by first | (simp only [e3.2, List.flatMap_cons, List.flatMap_nil, List.append_nil, List.nil_append, List.cons_append]; exact List.Sublist.refl _) | simp [e3.2]) ?_
      exact rq_callM (R := (fun u_ p_ => u_ = .int .i64 (getN xs q 16) ∧ p_ = boxE b3 #[.slice a_ xs.length cap_, .int .i64 (q + 16)] 129)) (by kernel_rfl) rfl (fun L w hX hm => bitGet_mut xs (.slice a_ xs.length cap_) b3 q 16 _ _ w hm (rd_old hv) hxs (by omega) (by omega) (by omega))
     ·
      intro vf pf hmu hR
      have e1 : (vf 1) = t.lv ∧ (pf 1) = [] := hR 1 (by decide)
      have e2 : (vf 2) = .int .i64 (e : Int) ∧ (pf 2) = [] := hR 2 (by decide)
      refine Or.inl ⟨rfl, ?_⟩
      show RunQ _ _ _ (([1, 2] : List Nat).flatMap pf ++ _) (envOf _ vf [1, 2] ++ _) _ _
      refine rq_less (sx 56 (congrArg some e1.1) (sx 57 (congrArg some e2.1) (sub_nil _))) (List.sublist_append_right _ _) ?_
      exact rq_v (rv_index (s := 4) rfl Try.underlying37 (by kernel_rfl) rfl rfl (rd_row 2 rfl) (by omega) (by first | omega | (simp only [List.length_set]; omega)))
     ·
      intro vf pf hmu hR
      have e5 : (vf 5) = elP t.lv (((e : Int)).toNat * 4) ∧ (pf 5) = [] := hR 5 (by decide)
      refine Or.inl ⟨rfl, ?_⟩
      show RunQ _ _ _ (([5] : List Nat).flatMap pf ++ _) (envOf _ vf [5] ++ _) _ _
      refine rq_less (sx 60 (congrArg some e5.1) (sub_nil _)) (List.sublist_append_right _ _) ?_
      exact rq_v (rv_fieldEl (k0 := 1) rfl (by kernel_rfl) rfl (rd_row 2 rfl) (by first | omega | (simp only [List.length_set]; omega)))
    ·
     intro vf pf hmu hR
     have e4 : (∃ pm_, (pf 4) = [pm_] ∧ (fun u_ p_ => u_ = .int .i64 (getN xs q 16) ∧ p_ = boxE b3 #[.slice a_ xs.length cap_, .int .i64 (q + 16)] 129) (vf 4) pm_) := hR 4 (by decide)
     obtain ⟨p21, p4, hR22⟩ := e4
     obtain ⟨v20, v4⟩ : ∃ x, vf 4 = x := ⟨_, rfl⟩
     rw [v4] at hR22
     obtain ⟨rfl, rfl⟩ := hR22
     have e6 : (vf 6) = elP t.lv (((e : Int)).toNat * 4 + 1) ∧ (pf 6) = [] := hR 6 (by decide)
     have q0 : (vf 0) = .pointer (some ⟨b7, 0 + 1, none⟩) ∧ (pf 0) = [] := hR 0 (by decide)
     have q1 : (vf 1) = t.lv ∧ (pf 1) = [] := hR 1 (by decide)
     have q2 : (vf 2) = .int .i64 (e : Int) ∧ (pf 2) = [] := hR 2 (by decide)
     have q3 : (vf 3) = .pointer (some ⟨b3, 0, none⟩) ∧ (pf 3) = [] := hR 3 (by decide)
     have q5 : (vf 5) = elP t.lv (((e : Int)).toNat * 4) ∧ (pf 5) = [] := hR 5 (by decide)
     have q6 : (vf 6) = elP t.lv (((e : Int)).toNat * 4 + 1) ∧ (pf 6) = [] := hR 6 (by decide)
     refine hl_less (l' := [boxE b3 #[.slice a_ xs.length cap_, .int .i64 (q + 16)] 129, rowE 3 1 ((es.getD e Le0).v) ys.length (ys.map (Value.int .i64)), bigE ((es.map lePart).eraseIdx e), rowE 87 4 t.lv es.length (es.flatMap Le.cells), rowE 3 1 t.mv zs.length (zs.map (Value.int .i64)), boxE b7 #[t.mv, t.lv, .int .i64 t.pad, .int .i64 t.ram] 39, boxE b2 #[.slice none 0 0, .slice none 0 0, .int .i64 0, .int .i64 0] 39, boxE b1 #[.int .i64 d.W, .int .i64 d.H, .int .i64 d.T, .int .i64 d.R] 25]) (sx 0 rfl (sx 1 rfl (sx 2 rfl (sx 4 rfl (sx 5 rfl (sx 6 rfl (sx 8 rfl (sx 17 rfl (sx 18 rfl (sx 19 rfl (sx 30 rfl (sx 31 rfl (sx 32 rfl (sx 40 rfl (sx 41 rfl (sx 42 rfl (sx 59 (congrArg some v4) (sx 61 (congrArg some e6.1) (sub_nil _))))))))))))))))))) (by first | (simp only [p4, v4, q0.2, q1.2, q2.2, q3.2, q5.2, q6.2, List.flatMap_cons, List.flatMap_nil, List.append_nil, List.nil_append, List.cons_append]; exact List.Sublist.refl _) | simp [p4, v4, q0.2, q1.2, q2.2, q3.2, q5.2, q6.2]) ?_
     simp only [List.drop_succ_cons, List.drop_zero]
     refine hl_storeEl (i := 3) (n' := (es.set e { es.getD e Le0 with m := getN xs q 16 }).length) (xs' := ((es.set e { es.getD e Le0 with m := getN xs q 16 }).flatMap Le.cells)) (l' := [boxE b3 #[.slice a_ xs.length cap_, .int .i64 (q + 16)] 129, rowE 3 1 ((es.getD e Le0).v) ys.length (ys.map (Value.int .i64)), bigE ((es.map lePart).eraseIdx e), rowE 87 4 t.lv ((es.set e { es.getD e Le0 with m := getN xs q 16 }).length) ((es.set e { es.getD e Le0 with m := getN xs q 16 }).flatMap Le.cells), rowE 3 1 t.mv zs.length (zs.map (Value.int .i64)), boxE b7 #[t.mv, t.lv, .int .i64 t.pad, .int .i64 t.ram] 39, boxE b2 #[.slice none 0 0, .slice none 0 0, .int .i64 0, .int .i64 0] 39, boxE b1 #[.int .i64 d.W, .int .i64 d.H, .int .i64 d.T, .int .i64 d.R] 25]) rfl rfl rfl (by kernel_rfl) rfl rfl rfl rfl (by first | omega | (simp only [List.length_set]; omega)) List.length_set.symm (flat_set Le.cells 4 (fun _ => rfl) _ Le0 _ (by first | omega | (simp only [List.length_set]; omega)) (by decide) rfl) rfl ?_
     refine hl_less (sx 0 rfl (sx 1 rfl (sx 2 rfl (sx 4 rfl (sx 5 rfl (sx 6 rfl (sx 8 rfl (sx 17 rfl (sx 18 rfl (sx 19 rfl (sx 30 rfl (sx 31 rfl (sx 32 rfl (sx 40 rfl (sx 41 rfl (sx 42 rfl (sub_nil _))))))))))))))))) (.refl _) ?_
     refine hl_nil ?_
     refine hq_then ?_
     refine hc_seq ?_
     refine hc_draw2 (l := [rowE 3 1 ((es.getD e Le0).v) ys.length (ys.map (Value.int .i64)), bigE ((es.map lePart).eraseIdx e), rowE 87 4 t.lv ((es.set e { es.getD e Le0 with m := getN xs q 16 }).length) ((es.set e { es.getD e Le0 with m := getN xs q 16 }).flatMap Le.cells), rowE 3 1 t.mv zs.length (zs.map (Value.int .i64)), boxE b7 #[t.mv, t.lv, .int .i64 t.pad, .int .i64 t.ram] 39, boxE b2 #[.slice none 0 0, .slice none 0 0, .int .i64 0, .int .i64 0] 39, boxE b1 #[.int .i64 d.W, .int .i64 d.H, .int .i64 d.T, .int .i64 d.R] 25]) (by kernel_rfl) 7 [0, 1, 2, 3, 4, 5, 6] (List.take 7 _) (List.drop 7 _) [[], [0], [], [], [3], [1, 2], [5]] [62, 63, 64, 65, 66, 67, 68] (fun i vs_ v_ p_ => match i with | 0 => v_ = .pointer (some ⟨b7, 0 + 1, none⟩) ∧ p_ = [] | 1 => v_ = t.lv ∧ p_ = [] | 2 => v_ = .int .i64 (e : Int) ∧ p_ = [] | 3 => v_ = .pointer (some ⟨b3, 0, none⟩) ∧ p_ = [] | 4 => (∃ pm_, p_ = [pm_] ∧ (fun u_ p_ => u_ = .int .i64 (getN xs (q + 16) 1) ∧ p_ = boxE b3 #[.slice a_ xs.length cap_, .int .i64 (q + 16 + 1)] 129) v_ pm_) | 5 => v_ = elP t.lv (((e : Int)).toNat * 4) ∧ p_ = [] | 6 => v_ = elP t.lv (((e : Int)).toNat * 4 + 2) ∧ p_ = [] | _ => True) [[], [0], [], [], [3], [1, 2], [5]] [none, none, none, none, some 8, none, none] [boxE b3 #[.slice a_ xs.length cap_, .int .i64 (q + 16)] 129] [0, 1, 2, 3, 4, 5, 6] 8 (List.take_append_drop 7 _).symm (by kernel_rfl) (by kernel_rfl) (by kernel_rfl) rfl rfl ?_ ?_
     ·
      refine ⟨?_, ?_, ?_, ?_, ?_, ?_, ?_, trivial⟩
      ·
       intro vf pf hmu hR
       refine Or.inl ⟨rfl, ?_⟩
       show RunQ _ _ _ (([] : List Nat).flatMap pf ++ _) (envOf _ vf [] ++ _) _ _
       refine rq_less (sx 6 rfl (sub_nil _)) (List.sublist_append_right _ _) ?_
       exact rq_v (rv_field (k0 := 1) rfl (by kernel_rfl) rfl)
      ·
       intro vf pf hmu hR
       have e0 : (vf 0) = .pointer (some ⟨b7, 0 + 1, none⟩) ∧ (pf 0) = [] := hR 0 (by decide)
       refine Or.inl ⟨rfl, ?_⟩
       show RunQ _ _ _ (([0] : List Nat).flatMap pf ++ _) (envOf _ vf [0] ++ _) _ _
       refine rq_less (sx 62 (congrArg some e0.1) (sub_nil _)) (List.sublist_append_right _ _) ?_
       exact rq_v (rv_load rfl (by kernel_rfl) rfl (box_cell 4 rfl rfl))
      ·
       intro vf pf hmu hR
       refine Or.inl ⟨rfl, ?_⟩
       show RunQ _ _ _ (([] : List Nat).flatMap pf ++ _) (envOf _ vf [] ++ _) _ _
       refine rq_less (sx 8 rfl (sub_nil _)) (List.sublist_append_right _ _) ?_
       exact rq_v (rv_ev rfl)
      ·
       intro vf pf hmu hR
       refine Or.inl ⟨rfl, ?_⟩
       show RunQ _ _ _ (([] : List Nat).flatMap pf ++ _) (envOf _ vf [] ++ _) _ _
       refine rq_less (sx 5 rfl (sub_nil _)) (List.sublist_append_right _ _) ?_
       exact rq_v (rv_ev rfl)
      ·
       intro vf pf hmu hR
       have e3 : (vf 3) = .pointer (some ⟨b3, 0, none⟩) ∧ (pf 3) = [] := hR 3 (by decide)
       refine Or.inl ⟨rfl, ?_⟩
       show RunM _ _ _ (pf 8) (([3] : List Nat).flatMap pf ++ _) (envOf _ vf [3] ++ _) _ _
       rw [hmu]
       refine rm_less (X' := [rowE 3 1 ((es.getD e Le0).v) ys.length (ys.map (Value.int .i64)), bigE ((es.map lePart).eraseIdx e), rowE 87 4 t.lv ((es.set e { es.getD e Le0 with m := getN xs q 16 }).length) ((es.set e { es.getD e Le0 with m := getN xs q 16 }).flatMap Le.cells), rowE 3 1 t.mv zs.length (zs.map (Value.int .i64)), boxE b7 #[t.mv, t.lv, .int .i64 t.pad, .int .i64 t.ram] 39, boxE b2 #[.slice none 0 0, .slice none 0 0, .int .i64 0, .int .i64 0] 39, boxE b1 #[.int .i64 d.W, .int .i64 d.H, .int .i64 d.T, .int .i64 d.R] 25]) (sx 65 (congrArg some e3.1) (sub_nil _)) (by first | (simp only [e3.2, List.flatMap_cons, List.flatMap_nil, List.append_nil, List.nil_append, List.cons_append]; exact List.Sublist.refl _) | simp [e3.2]) ?_
       exact rq_callM (R := (fun u_ p_ => u_ = .int .i64 (getN xs (q + 16) 1) ∧ p_ = boxE b3 #[.slice a_ xs.length cap_, .int .i64 (q + 16 + 1)] 129)) (by kernel_rfl) rfl (fun L w hX hm => bitGet_mut xs (.slice a_ xs.length cap_) b3 (q + 16) 1 _ _ w hm (rd_old hv) hxs (by omega) (by omega) (by omega))
      ·
       intro vf pf hmu hR
       have e1 : (vf 1) = t.lv ∧ (pf 1) = [] := hR 1 (by decide)
       have e2 : (vf 2) = .int .i64 (e : Int) ∧ (pf 2) = [] := hR 2 (by decide)
       refine Or.inl ⟨rfl, ?_⟩
       show RunQ _ _ _ (([1, 2] : List Nat).flatMap pf ++ _) (envOf _ vf [1, 2] ++ _) _ _
       refine rq_less (sx 63 (congrArg some e1.1) (sx 64 (congrArg some e2.1) (sub_nil _))) (List.sublist_append_right _ _) ?_
       exact rq_v (rv_index (s := 4) rfl Try.underlying37 (by kernel_rfl) rfl rfl (rd_row 2 rfl) (by omega) (by first | omega | (simp only [List.length_set]; omega)))
      ·
       intro vf pf hmu hR
       have e5 : (vf 5) = elP t.lv (((e : Int)).toNat * 4) ∧ (pf 5) = [] := hR 5 (by decide)
       refine Or.inl ⟨rfl, ?_⟩
       show RunQ _ _ _ (([5] : List Nat).flatMap pf ++ _) (envOf _ vf [5] ++ _) _ _
       refine rq_less (sx 67 (congrArg some e5.1) (sub_nil _)) (List.sublist_append_right _ _) ?_
       exact rq_v (rv_fieldEl (k0 := 2) rfl (by kernel_rfl) rfl (rd_row 2 rfl) (by first | omega | (simp only [List.length_set]; omega)))
     ·
      intro vf pf hmu hR
      have e4 : (∃ pm_, (pf 4) = [pm_] ∧ (fun u_ p_ => u_ = .int .i64 (getN xs (q + 16) 1) ∧ p_ = boxE b3 #[.slice a_ xs.length cap_, .int .i64 (q + 16 + 1)] 129) (vf 4) pm_) := hR 4 (by decide)
      obtain ⟨p24, p4, hR25⟩ := e4
      obtain ⟨v23, v4⟩ : ∃ x, vf 4 = x := ⟨_, rfl⟩
      rw [v4] at hR25
      obtain ⟨rfl, rfl⟩ := hR25
      have e6 : (vf 6) = elP t.lv (((e : Int)).toNat * 4 + 2) ∧ (pf 6) = [] := hR 6 (by decide)
      have q0 : (vf 0) = .pointer (some ⟨b7, 0 + 1, none⟩) ∧ (pf 0) = [] := hR 0 (by decide)
      have q1 : (vf 1) = t.lv ∧ (pf 1) = [] := hR 1 (by decide)
      have q2 : (vf 2) = .int .i64 (e : Int) ∧ (pf 2) = [] := hR 2 (by decide)
      have q3 : (vf 3) = .pointer (some ⟨b3, 0, none⟩) ∧ (pf 3) = [] := hR 3 (by decide)
      have q5 : (vf 5) = elP t.lv (((e : Int)).toNat * 4) ∧ (pf 5) = [] := hR 5 (by decide)
      have q6 : (vf 6) = elP t.lv (((e : Int)).toNat * 4 + 2) ∧ (pf 6) = [] := hR 6 (by decide)
      refine hl_less (l' := [boxE b3 #[.slice a_ xs.length cap_, .int .i64 (q + 16 + 1)] 129, rowE 3 1 ((es.getD e Le0).v) ys.length (ys.map (Value.int .i64)), bigE ((es.map lePart).eraseIdx e), rowE 87 4 t.lv ((es.set e { es.getD e Le0 with m := getN xs q 16 }).length) ((es.set e { es.getD e Le0 with m := getN xs q 16 }).flatMap Le.cells), rowE 3 1 t.mv zs.length (zs.map (Value.int .i64)), boxE b7 #[t.mv, t.lv, .int .i64 t.pad, .int .i64 t.ram] 39, boxE b2 #[.slice none 0 0, .slice none 0 0, .int .i64 0, .int .i64 0] 39, boxE b1 #[.int .i64 d.W, .int .i64 d.H, .int .i64 d.T, .int .i64 d.R] 25]) (sx 0 rfl (sx 1 rfl (sx 2 rfl (sx 4 rfl (sx 5 rfl (sx 6 rfl (sx 8 rfl (sx 17 rfl (sx 18 rfl (sx 19 rfl (sx 30 rfl (sx 31 rfl (sx 32 rfl (sx 40 rfl (sx 41 rfl (sx 42 rfl (sx 66 (congrArg some v4) (sx 68 (congrArg some e6.1) (sub_nil _))))))))))))))))))) (by first | (simp only [p4, v4, q0.2, q1.2, q2.2, q3.2, q5.2, q6.2, List.flatMap_cons, List.flatMap_nil, List.append_nil, List.nil_append, List.cons_append]; exact List.Sublist.refl _) | simp [p4, v4, q0.2, q1.2, q2.2, q3.2, q5.2, q6.2]) ?_
      simp only [List.drop_succ_cons, List.drop_zero]
      refine hl_storeEl (i := 3) (n' := ((es.set e { es.getD e Le0 with m := getN xs q 16 }).set e { (es.set e { es.getD e Le0 with m := getN xs q 16 }).getD e Le0 with f := getN xs (q + 16) 1 }).length) (xs' := (((es.set e { es.getD e Le0 with m := getN xs q 16 }).set e { (es.set e { es.getD e Le0 with m := getN xs q 16 }).getD e Le0 with f := getN xs (q + 16) 1 }).flatMap Le.cells)) (l' := [boxE b3 #[.slice a_ xs.length cap_, .int .i64 (q + 16 + 1)] 129, rowE 3 1 ((es.getD e Le0).v) ys.length (ys.map (Value.int .i64)), bigE ((es.map lePart).eraseIdx e), rowE 87 4 t.lv (((es.set e { es.getD e Le0 with m := getN xs q 16 }).set e { (es.set e { es.getD e Le0 with m := getN xs q 16 }).getD e Le0 with f := getN xs (q + 16) 1 }).length) (((es.set e { es.getD e Le0 with m := getN xs q 16 }).set e { (es.set e { es.getD e Le0 with m := getN xs q 16 }).getD e Le0 with f := getN xs (q + 16) 1 }).flatMap Le.cells), rowE 3 1 t.mv zs.length (zs.map (Value.int .i64)), boxE b7 #[t.mv, t.lv, .int .i64 t.pad, .int .i64 t.ram] 39, boxE b2 #[.slice none 0 0, .slice none 0 0, .int .i64 0, .int .i64 0] 39, boxE b1 #[.int .i64 d.W, .int .i64 d.H, .int .i64 d.T, .int .i64 d.R] 25]) rfl rfl rfl (by kernel_rfl) rfl rfl rfl rfl (by first | omega | (simp only [List.length_set]; omega)) List.length_set.symm (flat_set Le.cells 4 (fun _ => rfl) _ Le0 _ (by first | omega | (simp only [List.length_set]; omega)) (by decide) rfl) rfl ?_
      refine hl_less (sx 0 rfl (sx 1 rfl (sx 2 rfl (sx 4 rfl (sx 5 rfl (sx 6 rfl (sx 8 rfl (sx 17 rfl (sx 18 rfl (sx 19 rfl (sx 30 rfl (sx 31 rfl (sx 32 rfl (sx 40 rfl (sx 41 rfl (sx 42 rfl (sub_nil _))))))))))))))))) (.refl _) ?_
      refine hl_nil ?_
      refine hq_then ?_
      refine hc_draw2 (l := [rowE 3 1 ((es.getD e Le0).v) ys.length (ys.map (Value.int .i64)), bigE ((es.map lePart).eraseIdx e), rowE 87 4 t.lv (((es.set e { es.getD e Le0 with m := getN xs q 16 }).set e { (es.set e { es.getD e Le0 with m := getN xs q 16 }).getD e Le0 with f := getN xs (q + 16) 1 }).length) (((es.set e { es.getD e Le0 with m := getN xs q 16 }).set e { (es.set e { es.getD e Le0 with m := getN xs q 16 }).getD e Le0 with f := getN xs (q + 16) 1 }).flatMap Le.cells), rowE 3 1 t.mv zs.length (zs.map (Value.int .i64)), boxE b7 #[t.mv, t.lv, .int .i64 t.pad, .int .i64 t.ram] 39, boxE b2 #[.slice none 0 0, .slice none 0 0, .int .i64 0, .int .i64 0] 39, boxE b1 #[.int .i64 d.W, .int .i64 d.H, .int .i64 d.T, .int .i64 d.R] 25]) (by kernel_rfl) 7 [0, 1, 2, 3, 4, 5, 6] (List.take 7 _) (List.drop 7 _) [[], [0], [], [], [3], [1, 2], [5]] [69, 70, 71, 72, 73, 74, 75] (fun i vs_ v_ p_ => match i with | 0 => v_ = .pointer (some ⟨b7, 0 + 1, none⟩) ∧ p_ = [] | 1 => v_ = t.lv ∧ p_ = [] | 2 => v_ = .int .i64 (e : Int) ∧ p_ = [] | 3 => v_ = .pointer (some ⟨b3, 0, none⟩) ∧ p_ = [] | 4 => (∃ pm_, p_ = [pm_] ∧ (fun u_ p_ => u_ = .int .i64 (getN xs (q + 16 + 1) 1) ∧ p_ = boxE b3 #[.slice a_ xs.length cap_, .int .i64 (q + 16 + 1 + 1)] 129) v_ pm_) | 5 => v_ = elP t.lv (((e : Int)).toNat * 4) ∧ p_ = [] | 6 => v_ = elP t.lv (((e : Int)).toNat * 4 + 3) ∧ p_ = [] | _ => True) [[], [0], [], [], [3], [1, 2], [5]] [none, none, none, none, some 8, none, none] [boxE b3 #[.slice a_ xs.length cap_, .int .i64 (q + 16 + 1)] 129] [0, 1, 2, 3, 4, 5, 6] 8 (List.take_append_drop 7 _).symm (by kernel_rfl) (by kernel_rfl) (by kernel_rfl) rfl rfl ?_ ?_
      ·
       refine ⟨?_, ?_, ?_, ?_, ?_, ?_, ?_, trivial⟩
       ·
        intro vf pf hmu hR
        refine Or.inl ⟨rfl, ?_⟩
        show RunQ _ _ _ (([] : List Nat).flatMap pf ++ _) (envOf _ vf [] ++ _) _ _
        refine rq_less (sx 6 rfl (sub_nil _)) (List.sublist_append_right _ _) ?_
        exact rq_v (rv_field (k0 := 1) rfl (by kernel_rfl) rfl)
       ·
        intro vf pf hmu hR
        have e0 : (vf 0) = .pointer (some ⟨b7, 0 + 1, none⟩) ∧ (pf 0) = [] := hR 0 (by decide)
        refine Or.inl ⟨rfl, ?_⟩
        show RunQ _ _ _ (([0] : List Nat).flatMap pf ++ _) (envOf _ vf [0] ++ _) _ _
        refine rq_less (sx 69 (congrArg some e0.1) (sub_nil _)) (List.sublist_append_right _ _) ?_
        exact rq_v (rv_load rfl (by kernel_rfl) rfl (box_cell 4 rfl rfl))
       ·
        intro vf pf hmu hR
        refine Or.inl ⟨rfl, ?_⟩
        show RunQ _ _ _ (([] : List Nat).flatMap pf ++ _) (envOf _ vf [] ++ _) _ _
        refine rq_less (sx 8 rfl (sub_nil _)) (List.sublist_append_right _ _) ?_
        exact rq_v (rv_ev rfl)
       ·
        intro vf pf hmu hR
        refine Or.inl ⟨rfl, ?_⟩
        show RunQ _ _ _ (([] : List Nat).flatMap pf ++ _) (envOf _ vf [] ++ _) _ _
        refine rq_less (sx 5 rfl (sub_nil _)) (List.sublist_append_right _ _) ?_
        exact rq_v (rv_ev rfl)
       ·
        intro vf pf hmu hR
        have e3 : (vf 3) = .pointer (some ⟨b3, 0, none⟩) ∧ (pf 3) = [] := hR 3 (by decide)
        refine Or.inl ⟨rfl, ?_⟩
        show RunM _ _ _ (pf 8) (([3] : List Nat).flatMap pf ++ _) (envOf _ vf [3] ++ _) _ _
        rw [hmu]
        refine rm_less (X' := [rowE 3 1 ((es.getD e Le0).v) ys.length (ys.map (Value.int .i64)), bigE ((es.map lePart).eraseIdx e), rowE 87 4 t.lv (((es.set e { es.getD e Le0 with m := getN xs q 16 }).set e { (es.set e { es.getD e Le0 with m := getN xs q 16 }).getD e Le0 with f := getN xs (q + 16) 1 }).length) (((es.set e { es.getD e Le0 with m := getN xs q 16 }).set e { (es.set e { es.getD e Le0 with m := getN xs q 16 }).getD e Le0 with f := getN xs (q + 16) 1 }).flatMap Le.cells), rowE 3 1 t.mv zs.length (zs.map (Value.int .i64)), boxE b7 #[t.mv, t.lv, .int .i64 t.pad, .int .i64 t.ram] 39, boxE b2 #[.slice none 0 0, .slice none 0 0, .int .i64 0, .int .i64 0] 39, boxE b1 #[.int .i64 d.W, .int .i64 d.H, .int .i64 d.T, .int .i64 d.R] 25]) (sx 72 (congrArg some e3.1) (sub_nil _)) (by first | (simp only [e3.2, List.flatMap_cons, List.flatMap_nil, List.append_nil, List.nil_append, List.cons_append]; exact List.Sublist.refl _) | simp [e3.2]) ?_
        exact rq_callM (R := (fun u_ p_ => u_ = .int .i64 (getN xs (q + 16 + 1) 1) ∧ p_ = boxE b3 #[.slice a_ xs.length cap_, .int .i64 (q + 16 + 1 + 1)] 129)) (by kernel_rfl) rfl (fun L w hX hm => bitGet_mut xs (.slice a_ xs.length cap_) b3 (q + 16 + 1) 1 _ _ w hm (rd_old hv) hxs (by omega) (by omega) (by omega))
       ·
        intro vf pf hmu hR
        have e1 : (vf 1) = t.lv ∧ (pf 1) = [] := hR 1 (by decide)
        have e2 : (vf 2) = .int .i64 (e : Int) ∧ (pf 2) = [] := hR 2 (by decide)
        refine Or.inl ⟨rfl, ?_⟩
        show RunQ _ _ _ (([1, 2] : List Nat).flatMap pf ++ _) (envOf _ vf [1, 2] ++ _) _ _
        refine rq_less (sx 70 (congrArg some e1.1) (sx 71 (congrArg some e2.1) (sub_nil _))) (List.sublist_append_right _ _) ?_
        exact rq_v (rv_index (s := 4) rfl Try.underlying37 (by kernel_rfl) rfl rfl (rd_row 2 rfl) (by omega) (by first | omega | (simp only [List.length_set]; omega)))
       ·
        intro vf pf hmu hR
        have e5 : (vf 5) = elP t.lv (((e : Int)).toNat * 4) ∧ (pf 5) = [] := hR 5 (by decide)
        refine Or.inl ⟨rfl, ?_⟩
        show RunQ _ _ _ (([5] : List Nat).flatMap pf ++ _) (envOf _ vf [5] ++ _) _ _
        refine rq_less (sx 74 (congrArg some e5.1) (sub_nil _)) (List.sublist_append_right _ _) ?_
        exact rq_v (rv_fieldEl (k0 := 3) rfl (by kernel_rfl) rfl (rd_row 2 rfl) (by first | omega | (simp only [List.length_set]; omega)))
      ·
       intro vf pf hmu hR
       have e4 : (∃ pm_, (pf 4) = [pm_] ∧ (fun u_ p_ => u_ = .int .i64 (getN xs (q + 16 + 1) 1) ∧ p_ = boxE b3 #[.slice a_ xs.length cap_, .int .i64 (q + 16 + 1 + 1)] 129) (vf 4) pm_) := hR 4 (by decide)
       obtain ⟨p27, p4, hR28⟩ := e4
       obtain ⟨v26, v4⟩ : ∃ x, vf 4 = x := ⟨_, rfl⟩
       rw [v4] at hR28
       obtain ⟨rfl, rfl⟩ := hR28
       have e6 : (vf 6) = elP t.lv (((e : Int)).toNat * 4 + 3) ∧ (pf 6) = [] := hR 6 (by decide)
       have q0 : (vf 0) = .pointer (some ⟨b7, 0 + 1, none⟩) ∧ (pf 0) = [] := hR 0 (by decide)
       have q1 : (vf 1) = t.lv ∧ (pf 1) = [] := hR 1 (by decide)
       have q2 : (vf 2) = .int .i64 (e : Int) ∧ (pf 2) = [] := hR 2 (by decide)
       have q3 : (vf 3) = .pointer (some ⟨b3, 0, none⟩) ∧ (pf 3) = [] := hR 3 (by decide)
       have q5 : (vf 5) = elP t.lv (((e : Int)).toNat * 4) ∧ (pf 5) = [] := hR 5 (by decide)
       have q6 : (vf 6) = elP t.lv (((e : Int)).toNat * 4 + 3) ∧ (pf 6) = [] := hR 6 (by decide)
       refine hl_less (l' := [boxE b3 #[.slice a_ xs.length cap_, .int .i64 (q + 16 + 1 + 1)] 129, rowE 3 1 ((es.getD e Le0).v) ys.length (ys.map (Value.int .i64)), bigE ((es.map lePart).eraseIdx e), rowE 87 4 t.lv (((es.set e { es.getD e Le0 with m := getN xs q 16 }).set e { (es.set e { es.getD e Le0 with m := getN xs q 16 }).getD e Le0 with f := getN xs (q + 16) 1 }).length) (((es.set e { es.getD e Le0 with m := getN xs q 16 }).set e { (es.set e { es.getD e Le0 with m := getN xs q 16 }).getD e Le0 with f := getN xs (q + 16) 1 }).flatMap Le.cells), rowE 3 1 t.mv zs.length (zs.map (Value.int .i64)), boxE b7 #[t.mv, t.lv, .int .i64 t.pad, .int .i64 t.ram] 39, boxE b2 #[.slice none 0 0, .slice none 0 0, .int .i64 0, .int .i64 0] 39, boxE b1 #[.int .i64 d.W, .int .i64 d.H, .int .i64 d.T, .int .i64 d.R] 25]) (sx 0 rfl (sx 1 rfl (sx 2 rfl (sx 4 rfl (sx 5 rfl (sx 6 rfl (sx 8 rfl (sx 17 rfl (sx 18 rfl (sx 19 rfl (sx 30 rfl (sx 31 rfl (sx 32 rfl (sx 40 rfl (sx 41 rfl (sx 42 rfl (sx 73 (congrArg some v4) (sx 75 (congrArg some e6.1) (sub_nil _))))))))))))))))))) (by first | (simp only [p4, v4, q0.2, q1.2, q2.2, q3.2, q5.2, q6.2, List.flatMap_cons, List.flatMap_nil, List.append_nil, List.nil_append, List.cons_append]; exact List.Sublist.refl _) | simp [p4, v4, q0.2, q1.2, q2.2, q3.2, q5.2, q6.2]) ?_
       simp only [List.drop_succ_cons, List.drop_zero]
       refine hl_storeEl (i := 3) (n' := (((es.set e { es.getD e Le0 with m := getN xs q 16 }).set e { (es.set e { es.getD e Le0 with m := getN xs q 16 }).getD e Le0 with f := getN xs (q + 16) 1 }).set e { ((es.set e { es.getD e Le0 with m := getN xs q 16 }).set e { (es.set e { es.getD e Le0 with m := getN xs q 16 }).getD e Le0 with f := getN xs (q + 16) 1 }).getD e Le0 with i := getN xs (q + 16 + 1) 1 }).length) (xs' := ((((es.set e { es.getD e Le0 with m := getN xs q 16 }).set e { (es.set e { es.getD e Le0 with m := getN xs q 16 }).getD e Le0 with f := getN xs (q + 16) 1 }).set e { ((es.set e { es.getD e Le0 with m := getN xs q 16 }).set e { (es.set e { es.getD e Le0 with m := getN xs q 16 }).getD e Le0 with f := getN xs (q + 16) 1 }).getD e Le0 with i := getN xs (q + 16 + 1) 1 }).flatMap Le.cells)) (l' := [boxE b3 #[.slice a_ xs.length cap_, .int .i64 (q + 16 + 1 + 1)] 129, rowE 3 1 ((es.getD e Le0).v) ys.length (ys.map (Value.int .i64)), bigE ((es.map lePart).eraseIdx e), rowE 87 4 t.lv ((((es.set e { es.getD e Le0 with m := getN xs q 16 }).set e { (es.set e { es.getD e Le0 with m := getN xs q 16 }).getD e Le0 with f := getN xs (q + 16) 1 }).set e { ((es.set e { es.getD e Le0 with m := getN xs q 16 }).set e { (es.set e { es.getD e Le0 with m := getN xs q 16 }).getD e Le0 with f := getN xs (q + 16) 1 }).getD e Le0 with i := getN xs (q + 16 + 1) 1 }).length) ((((es.set e { es.getD e Le0 with m := getN xs q 16 }).set e { (es.set e { es.getD e Le0 with m := getN xs q 16 }).getD e Le0 with f := getN xs (q + 16) 1 }).set e { ((es.set e { es.getD e Le0 with m := getN xs q 16 }).set e { (es.set e { es.getD e Le0 with m := getN xs q 16 }).getD e Le0 with f := getN xs (q + 16) 1 }).getD e Le0 with i := getN xs (q + 16 + 1) 1 }).flatMap Le.cells), rowE 3 1 t.mv zs.length (zs.map (Value.int .i64)), boxE b7 #[t.mv, t.lv, .int .i64 t.pad, .int .i64 t.ram] 39, boxE b2 #[.slice none 0 0, .slice none 0 0, .int .i64 0, .int .i64 0] 39, boxE b1 #[.int .i64 d.W, .int .i64 d.H, .int .i64 d.T, .int .i64 d.R] 25]) rfl rfl rfl (by kernel_rfl) rfl rfl rfl rfl (by first | omega | (simp only [List.length_set]; omega)) List.length_set.symm (flat_set Le.cells 4 (fun _ => rfl) _ Le0 _ (by first | omega | (simp only [List.length_set]; omega)) (by decide) rfl) rfl ?_
       refine hl_less (sx 0 rfl (sx 1 rfl (sx 2 rfl (sx 4 rfl (sx 5 rfl (sx 6 rfl (sx 8 rfl (sx 17 rfl (sx 18 rfl (sx 19 rfl (sx 30 rfl (sx 31 rfl (sx 32 rfl (sx 40 rfl (sx 41 rfl (sx 42 rfl (sub_nil _))))))))))))))))) (.refl _) ?_
       refine hl_nil ?_
       refine hq_block_normal ?_
       refine hq_then ?_
       refine hc_region ?_
       refine hl_v rfl rfl rfl (rv_add rfl rfl rfl (by constructor <;> omega)) ?_
       refine hl_v rfl rfl rfl (rv_ev rfl) ?_
       refine hl_less (sx 0 rfl (sx 1 rfl (sx 2 rfl (sx 4 rfl (sx 5 rfl (sx 6 rfl (sx 8 rfl (sx 17 rfl (sx 18 rfl (sx 19 rfl (sx 30 rfl (sx 31 rfl (sx 32 rfl (sx 40 rfl (sx 41 rfl (sx 42 rfl (sub_nil _))))))))))))))))) (.refl _) ?_
       refine hl_nil ?_
       refine hq_conv [rowE 3 1 ((es.getD e Le0).v) ys.length (ys.map (Value.int .i64)), bigE ((es.map lePart).eraseIdx e), boxE b3 #[.slice a_ xs.length cap_, .int .i64 (q + 16 + 1 + 1)] 129, rowE 87 4 t.lv ((((es.set e { es.getD e Le0 with m := getN xs q 16 }).set e { (es.set e { es.getD e Le0 with m := getN xs q 16 }).getD e Le0 with f := getN xs (q + 16) 1 }).set e { ((es.set e { es.getD e Le0 with m := getN xs q 16 }).set e { (es.set e { es.getD e Le0 with m := getN xs q 16 }).getD e Le0 with f := getN xs (q + 16) 1 }).getD e Le0 with i := getN xs (q + 16 + 1) 1 }).length) ((((es.set e { es.getD e Le0 with m := getN xs q 16 }).set e { (es.set e { es.getD e Le0 with m := getN xs q 16 }).getD e Le0 with f := getN xs (q + 16) 1 }).set e { ((es.set e { es.getD e Le0 with m := getN xs q 16 }).set e { (es.set e { es.getD e Le0 with m := getN xs q 16 }).getD e Le0 with f := getN xs (q + 16) 1 }).getD e Le0 with i := getN xs (q + 16 + 1) 1 }).flatMap Le.cells), rowE 3 1 t.mv zs.length (zs.map (Value.int .i64)), boxE b7 #[t.mv, t.lv, .int .i64 t.pad, .int .i64 t.ram] 39, boxE b2 #[.slice none 0 0, .slice none 0 0, .int .i64 0, .int .i64 0] 39, boxE b1 #[.int .i64 d.W, .int .i64 d.H, .int .i64 d.T, .int .i64 d.R] 25] (conv_pick (src := [boxE b3 #[.slice a_ xs.length cap_, .int .i64 (q + 16 + 1 + 1)] 129, rowE 3 1 ((es.getD e Le0).v) ys.length (ys.map (Value.int .i64)), bigE ((es.map lePart).eraseIdx e), rowE 87 4 t.lv ((((es.set e { es.getD e Le0 with m := getN xs q 16 }).set e { (es.set e { es.getD e Le0 with m := getN xs q 16 }).getD e Le0 with f := getN xs (q + 16) 1 }).set e { ((es.set e { es.getD e Le0 with m := getN xs q 16 }).set e { (es.set e { es.getD e Le0 with m := getN xs q 16 }).getD e Le0 with f := getN xs (q + 16) 1 }).getD e Le0 with i := getN xs (q + 16 + 1) 1 }).length) ((((es.set e { es.getD e Le0 with m := getN xs q 16 }).set e { (es.set e { es.getD e Le0 with m := getN xs q 16 }).getD e Le0 with f := getN xs (q + 16) 1 }).set e { ((es.set e { es.getD e Le0 with m := getN xs q 16 }).set e { (es.set e { es.getD e Le0 with m := getN xs q 16 }).getD e Le0 with f := getN xs (q + 16) 1 }).getD e Le0 with i := getN xs (q + 16 + 1) 1 }).flatMap Le.cells), rowE 3 1 t.mv zs.length (zs.map (Value.int .i64)), boxE b7 #[t.mv, t.lv, .int .i64 t.pad, .int .i64 t.ram] 39, boxE b2 #[.slice none 0 0, .slice none 0 0, .int .i64 0, .int .i64 0] 39, boxE b1 #[.int .i64 d.W, .int .i64 d.H, .int .i64 d.T, .int .i64 d.R] 25]) (dst := [rowE 3 1 ((es.getD e Le0).v) ys.length (ys.map (Value.int .i64)), bigE ((es.map lePart).eraseIdx e), boxE b3 #[.slice a_ xs.length cap_, .int .i64 (q + 16 + 1 + 1)] 129, rowE 87 4 t.lv ((((es.set e { es.getD e Le0 with m := getN xs q 16 }).set e { (es.set e { es.getD e Le0 with m := getN xs q 16 }).getD e Le0 with f := getN xs (q + 16) 1 }).set e { ((es.set e { es.getD e Le0 with m := getN xs q 16 }).set e { (es.set e { es.getD e Le0 with m := getN xs q 16 }).getD e Le0 with f := getN xs (q + 16) 1 }).getD e Le0 with i := getN xs (q + 16 + 1) 1 }).length) ((((es.set e { es.getD e Le0 with m := getN xs q 16 }).set e { (es.set e { es.getD e Le0 with m := getN xs q 16 }).getD e Le0 with f := getN xs (q + 16) 1 }).set e { ((es.set e { es.getD e Le0 with m := getN xs q 16 }).set e { (es.set e { es.getD e Le0 with m := getN xs q 16 }).getD e Le0 with f := getN xs (q + 16) 1 }).getD e Le0 with i := getN xs (q + 16 + 1) 1 }).flatMap Le.cells), rowE 3 1 t.mv zs.length (zs.map (Value.int .i64)), boxE b7 #[t.mv, t.lv, .int .i64 t.pad, .int .i64 t.ram] 39, boxE b2 #[.slice none 0 0, .slice none 0 0, .int .i64 0, .int .i64 0] 39, boxE b1 #[.int .i64 d.W, .int .i64 d.H, .int .i64 d.T, .int .i64 d.R] 25]) (l := []) [1, 2, 0, 3, 4, 5, 6, 7] (by decide) rfl) ?_
       have hs2 : (((es.set e { es.getD e Le0 with m := getN xs q 16 }).set e { (es.set e { es.getD e Le0 with m := getN xs q 16 }).getD e Le0 with f := getN xs (q + 16) 1 }).set e { ((es.set e { es.getD e Le0 with m := getN xs q 16 }).set e { (es.set e { es.getD e Le0 with m := getN xs q 16 }).getD e Le0 with f := getN xs (q + 16) 1 }).getD e Le0 with i := getN xs (q + 16 + 1) 1 }).flatMap Le.cells = (es.set e (Le.mk (es.getD e Le0).v ys (getN xs q 16) (getN xs (q + 16) 1) (getN xs (q + 16 + 1) 1))).flatMap Le.cells := by (try simp only [List.set_set]); exact set_flat _ _ _ _ _ (by simp [getD_set_self', show e < es.length by omega, Le.cells])
       have hs3 : (((es.set e { es.getD e Le0 with m := getN xs q 16 }).set e { (es.set e { es.getD e Le0 with m := getN xs q 16 }).getD e Le0 with f := getN xs (q + 16) 1 }).set e { ((es.set e { es.getD e Le0 with m := getN xs q 16 }).set e { (es.set e { es.getD e Le0 with m := getN xs q 16 }).getD e Le0 with f := getN xs (q + 16) 1 }).getD e Le0 with i := getN xs (q + 16 + 1) 1 }).length = (es.set e (Le.mk (es.getD e Le0).v ys (getN xs q 16) (getN xs (q + 16) 1) (getN xs (q + 16 + 1) 1))).length := by simp only [List.length_set]
       refine hq_conv [bigE ((es.set e (Le.mk (es.getD e Le0).v ys (getN xs q 16) (getN xs (q + 16) 1) (getN xs (q + 16 + 1) 1))).map lePart), boxE b3 #[.slice a_ xs.length cap_, .int .i64 (q + 16 + 1 + 1)] 129, rowE 87 4 t.lv ((es.set e (Le.mk (es.getD e Le0).v ys (getN xs q 16) (getN xs (q + 16) 1) (getN xs (q + 16 + 1) 1))).length) ((es.set e (Le.mk (es.getD e Le0).v ys (getN xs q 16) (getN xs (q + 16) 1) (getN xs (q + 16 + 1) 1))).flatMap Le.cells), rowE 3 1 t.mv zs.length (zs.map (Value.int .i64)), boxE b7 #[t.mv, t.lv, .int .i64 t.pad, .int .i64 t.ram] 39, boxE b2 #[.slice none 0 0, .slice none 0 0, .int .i64 0, .int .i64 0] 39, boxE b1 #[.int .i64 d.W, .int .i64 d.H, .int .i64 d.T, .int .i64 d.R] 25] (fun w hm => by have hm2 := conv_unfocus (p' := lePart (Le.mk (es.getD e Le0).v ys (getN xs q 16) (getN xs (q + 16) 1) (getN xs (q + 16 + 1) 1))) (ps := es.map lePart) (j := e) (by rw [List.length_map]; omega) w hm; rw [← List.map_set, hs2, hs3] at hm2; exact hm2) ?_
       refine hq_conv [bigE ((es.set e (Le.mk (es.getD e Le0).v ys (getN xs q 16) (getN xs (q + 16) 1) (getN xs (q + 16 + 1) 1))).map lePart), rowE 87 4 t.lv ((es.set e (Le.mk (es.getD e Le0).v ys (getN xs q 16) (getN xs (q + 16) 1) (getN xs (q + 16 + 1) 1))).length) ((es.set e (Le.mk (es.getD e Le0).v ys (getN xs q 16) (getN xs (q + 16) 1) (getN xs (q + 16 + 1) 1))).flatMap Le.cells), rowE 3 1 t.mv zs.length (zs.map (Value.int .i64)), boxE b7 #[t.mv, t.lv, .int .i64 t.pad, .int .i64 t.ram] 39, boxE b3 #[.slice a_ xs.length cap_, .int .i64 (q + 16 + 1 + 1)] 129, boxE b2 #[.slice none 0 0, .slice none 0 0, .int .i64 0, .int .i64 0] 39, boxE b1 #[.int .i64 d.W, .int .i64 d.H, .int .i64 d.T, .int .i64 d.R] 25] (conv_pick (src := [bigE ((es.set e (Le.mk (es.getD e Le0).v ys (getN xs q 16) (getN xs (q + 16) 1) (getN xs (q + 16 + 1) 1))).map lePart), boxE b3 #[.slice a_ xs.length cap_, .int .i64 (q + 16 + 1 + 1)] 129, rowE 87 4 t.lv ((es.set e (Le.mk (es.getD e Le0).v ys (getN xs q 16) (getN xs (q + 16) 1) (getN xs (q + 16 + 1) 1))).length) ((es.set e (Le.mk (es.getD e Le0).v ys (getN xs q 16) (getN xs (q + 16) 1) (getN xs (q + 16 + 1) 1))).flatMap Le.cells), rowE 3 1 t.mv zs.length (zs.map (Value.int .i64)), boxE b7 #[t.mv, t.lv, .int .i64 t.pad, .int .i64 t.ram] 39, boxE b2 #[.slice none 0 0, .slice none 0 0, .int .i64 0, .int .i64 0] 39, boxE b1 #[.int .i64 d.W, .int .i64 d.H, .int .i64 d.T, .int .i64 d.R] 25]) (dst := [bigE ((es.set e (Le.mk (es.getD e Le0).v ys (getN xs q 16) (getN xs (q + 16) 1) (getN xs (q + 16 + 1) 1))).map lePart), rowE 87 4 t.lv ((es.set e (Le.mk (es.getD e Le0).v ys (getN xs q 16) (getN xs (q + 16) 1) (getN xs (q + 16 + 1) 1))).length) ((es.set e (Le.mk (es.getD e Le0).v ys (getN xs q 16) (getN xs (q + 16) 1) (getN xs (q + 16 + 1) 1))).flatMap Le.cells), rowE 3 1 t.mv zs.length (zs.map (Value.int .i64)), boxE b7 #[t.mv, t.lv, .int .i64 t.pad, .int .i64 t.ram] 39, boxE b3 #[.slice a_ xs.length cap_, .int .i64 (q + 16 + 1 + 1)] 129, boxE b2 #[.slice none 0 0, .slice none 0 0, .int .i64 0, .int .i64 0] 39, boxE b1 #[.int .i64 d.W, .int .i64 d.H, .int .i64 d.T, .int .i64 d.R] 25]) (l := []) [0, 2, 3, 4, 1, 5, 6] (by decide) rfl) ?_
       exact hq_round3 (e + 1) (q + 16 + 1 + 1) (es.set e (Le.mk (es.getD e Le0).v ys (getN xs q 16) (getN xs (q + 16) 1) (getN xs (q + 16 + 1) 1))) ⟨by omega, by omega, by rw [List.length_set]; exact hel, fun i hi => by by_cases hie : i = e; (rw [hie]; exact (by rw [getD_set_self' (by omega)]; show (ys, getN xs q 16, getN xs (q + 16) 1, getN xs (q + 16 + 1) 1) = _; rw [list4 (a := getN xs (5 * (muxs d) + 30 * (e : Int)) 3) (b := getN xs ((5 * (muxs d) + 30 * (e : Int)) + 3) 3) (c := getN xs ((5 * (muxs d) + 30 * (e : Int)) + 6) 3) (e := getN xs ((5 * (muxs d) + 30 * (e : Int)) + 9) 3) hjl (by rw [hjz 0 (by omega)]; congr 1 <;> omega) (by rw [hjz 1 (by omega)]; congr 1 <;> omega) (by rw [hjz 2 (by omega)]; congr 1 <;> omega) (by rw [hjz 3 (by omega)]; congr 1 <;> omega), show q = (5 * (muxs d) + 30 * (e : Int)) + 12 by omega, show (5 * (muxs d) + 30 * (e : Int)) + 12 + 16 = (5 * (muxs d) + 30 * (e : Int)) + 28 by omega, show (5 * (muxs d) + 30 * (e : Int)) + 28 + 1 = (5 * (muxs d) + 30 * (e : Int)) + 29 by omega]; rfl)); rw [getD_set_ne' (fun h => hie h.symm)]; exact hez i (by omega), fun i h1 h2 => by rw [getD_set_ne' (by omega)]; exact he4 i (by omega) h2⟩ (by omega) (sx 0 rfl (sx 1 rfl (sx 2 rfl (sx 4 rfl (sx 5 rfl (sx 6 rfl (sx 17 rfl (sx 18 rfl (sx 19 rfl (sx 30 rfl (sx 31 rfl (sub_nil _)))))))))))) ((.cons_cons _ (.cons_cons _ (.cons_cons _ (.cons_cons _ (.cons_cons _ (.cons_cons _ (.cons_cons _ .slnil))))))))
  ·
   refine hl_less (sx 0 rfl (sx 1 rfl (sx 2 rfl (sx 4 rfl (sx 5 rfl (sx 6 rfl (sx 17 rfl (sx 18 rfl (sx 19 rfl (sx 30 rfl (sx 31 rfl (sx 32 rfl (sub_nil _))))))))))))) (.refl _) ?_
   refine hl_nil ?_
   refine hq_then ?_
   refine hc_seq ?_
   refine hc_false rfl ?_
   refine hc_exit ?_
   refine hq_then_exit ?_
   refine hq_then_exit ?_
   refine hq_block_exit ?_
   refine hq_then ?_
   refine hc_seq ?_
   refine hc_region ?_
   refine hl_v rfl rfl rfl (rv_ev rfl) ?_
   refine hl_callM2 (R := (fun u_ p_ => u_ = .int .i64 (getN xs q 2) ∧ p_ = boxE b3 #[.slice a_ xs.length cap_, .int .i64 (q + 2)] 129)) 4 rfl rfl (by kernel_rfl) rfl rfl (fun L w hX hm => bitGet_mut xs (.slice a_ xs.length cap_) b3 q 2 _ _ w hm (rd_old hv) hxs (by omega) (by omega) (by omega)) ?_
   intro v29 p30 hR31
   obtain ⟨rfl, rfl⟩ := hR31
   refine hl_eqL (l' := [bigE (es.map lePart), rowE 87 4 t.lv es.length (es.flatMap Le.cells), rowE 3 1 t.mv zs.length (zs.map (Value.int .i64)), boxE b7 #[t.mv, t.lv, .int .i64 t.pad, .int .i64 t.ram] 39, boxE b3 #[.slice a_ xs.length cap_, .int .i64 (q + 2)] 129, boxE b2 #[.slice none 0 0, .slice none 0 0, .int .i64 0, .int .i64 0] 39, boxE b1 #[.int .i64 d.W, .int .i64 d.H, .int .i64 d.T, .int .i64 d.R] 25]) rfl ?_
   refine hl_v rfl rfl rfl (rv_field (k0 := 2) rfl (by kernel_rfl) rfl) ?_
   refine hl_storeBox (i := 3) (l' := [bigE (es.map lePart), rowE 87 4 t.lv es.length (es.flatMap Le.cells), rowE 3 1 t.mv zs.length (zs.map (Value.int .i64)), boxE b7 #[t.mv, t.lv, .int .i64 (getN xs q 2), .int .i64 t.ram] 39, boxE b3 #[.slice a_ xs.length cap_, .int .i64 (q + 2)] 129, boxE b2 #[.slice none 0 0, .slice none 0 0, .int .i64 0, .int .i64 0] 39, boxE b1 #[.int .i64 d.W, .int .i64 d.H, .int .i64 d.T, .int .i64 d.R] 25]) rfl rfl rfl (by kernel_rfl) rfl rfl rfl rfl rfl rfl ?_
   refine hl_less (sx 0 rfl (sx 1 rfl (sx 2 rfl (sx 4 rfl (sx 5 rfl (sx 6 rfl (sx 17 rfl (sx 18 rfl (sx 19 rfl (sx 30 rfl (sx 31 rfl (sx 32 rfl (sub_nil _))))))))))))) (.refl _) ?_
   refine hl_nil ?_
   refine hq_then ?_
   refine hc_seq ?_
   refine hc_region ?_
   refine hl_v rfl rfl rfl (rv_ev rfl) ?_
   refine hl_callM2 (R := (fun u_ p_ => u_ = .int .i64 (getN xs (q + 2) 5) ∧ p_ = boxE b3 #[.slice a_ xs.length cap_, .int .i64 (q + 2 + 5)] 129)) 4 rfl rfl (by kernel_rfl) rfl rfl (fun L w hX hm => bitGet_mut xs (.slice a_ xs.length cap_) b3 (q + 2) 5 _ _ w hm (rd_old hv) hxs (by omega) (by omega) (by omega)) ?_
   intro v32 p33 hR34
   obtain ⟨rfl, rfl⟩ := hR34
   refine hl_eqL (l' := [bigE (es.map lePart), rowE 87 4 t.lv es.length (es.flatMap Le.cells), rowE 3 1 t.mv zs.length (zs.map (Value.int .i64)), boxE b7 #[t.mv, t.lv, .int .i64 (getN xs q 2), .int .i64 t.ram] 39, boxE b3 #[.slice a_ xs.length cap_, .int .i64 (q + 2 + 5)] 129, boxE b2 #[.slice none 0 0, .slice none 0 0, .int .i64 0, .int .i64 0] 39, boxE b1 #[.int .i64 d.W, .int .i64 d.H, .int .i64 d.T, .int .i64 d.R] 25]) rfl ?_
   refine hl_v rfl rfl rfl (rv_field (k0 := 3) rfl (by kernel_rfl) rfl) ?_
   refine hl_storeBox (i := 3) (l' := [bigE (es.map lePart), rowE 87 4 t.lv es.length (es.flatMap Le.cells), rowE 3 1 t.mv zs.length (zs.map (Value.int .i64)), boxE b7 #[t.mv, t.lv, .int .i64 (getN xs q 2), .int .i64 (getN xs (q + 2) 5)] 39, boxE b3 #[.slice a_ xs.length cap_, .int .i64 (q + 2 + 5)] 129, boxE b2 #[.slice none 0 0, .slice none 0 0, .int .i64 0, .int .i64 0] 39, boxE b1 #[.int .i64 d.W, .int .i64 d.H, .int .i64 d.T, .int .i64 d.R] 25]) rfl rfl rfl (by kernel_rfl) rfl rfl rfl rfl rfl rfl ?_
   refine hl_less (sx 0 rfl (sx 1 rfl (sx 2 rfl (sx 4 rfl (sx 5 rfl (sx 6 rfl (sx 17 rfl (sx 18 rfl (sx 19 rfl (sx 30 rfl (sx 31 rfl (sx 32 rfl (sub_nil _))))))))))))) (.refl _) ?_
   refine hl_nil ?_
   refine hq_then ?_
   refine hc_seq ?_
   refine hc_region ?_
   refine hl_v rfl rfl rfl (rv_loadN (cs := [t.mv, t.lv, .int .i64 (getN xs q 2), .int .i64 (getN xs (q + 2) 5)]) rfl (by kernel_rfl) (by kernel_rfl) rfl rfl (box_part 3 rfl 0 rfl)) ?_
   refine hl_storeBoxN (i := 5) (off := 0) (us := [t.mv, t.lv, .int .i64 (getN xs q 2), .int .i64 (getN xs (q + 2) 5)]) (l' := [bigE (es.map lePart), rowE 87 4 t.lv es.length (es.flatMap Le.cells), rowE 3 1 t.mv zs.length (zs.map (Value.int .i64)), boxE b7 #[t.mv, t.lv, .int .i64 (getN xs q 2), .int .i64 (getN xs (q + 2) 5)] 39, boxE b3 #[.slice a_ xs.length cap_, .int .i64 (q + 2 + 5)] 129, boxE b2 #[t.mv, t.lv, .int .i64 (getN xs q 2), .int .i64 (getN xs (q + 2) 5)] 39, boxE b1 #[.int .i64 d.W, .int .i64 d.H, .int .i64 d.T, .int .i64 d.R] 25]) rfl rfl rfl (by kernel_rfl) rfl rfl rfl (all_cons c1t (all_cons c2t (all_cons rfl (all_cons rfl all_nil)))) rfl rfl rfl ?_
   refine hl_less (sx 0 rfl (sx 1 rfl (sx 2 rfl (sx 4 rfl (sx 5 rfl (sx 6 rfl (sx 17 rfl (sx 18 rfl (sx 19 rfl (sx 30 rfl (sx 31 rfl (sx 32 rfl (sub_nil _))))))))))))) (.refl _) ?_
   refine hl_nil ?_
   refine hq_then ?_
   refine hc_ret ?_
   refine hq_conv [bigE (es.map lePart), rowE 87 4 t.lv es.length (es.flatMap Le.cells), rowE 3 1 t.mv zs.length (zs.map (Value.int .i64)), boxE b2 #[t.mv, t.lv, .int .i64 (getN xs q 2), .int .i64 (getN xs (q + 2) 5)] 39] (conv_pick (src := [bigE (es.map lePart), rowE 87 4 t.lv es.length (es.flatMap Le.cells), rowE 3 1 t.mv zs.length (zs.map (Value.int .i64)), boxE b7 #[t.mv, t.lv, .int .i64 (getN xs q 2), .int .i64 (getN xs (q + 2) 5)] 39, boxE b3 #[.slice a_ xs.length cap_, .int .i64 (q + 2 + 5)] 129, boxE b2 #[t.mv, t.lv, .int .i64 (getN xs q 2), .int .i64 (getN xs (q + 2) 5)] 39, boxE b1 #[.int .i64 d.W, .int .i64 d.H, .int .i64 d.T, .int .i64 d.R] 25]) (dst := [bigE (es.map lePart), rowE 87 4 t.lv es.length (es.flatMap Le.cells), rowE 3 1 t.mv zs.length (zs.map (Value.int .i64)), boxE b2 #[t.mv, t.lv, .int .i64 (getN xs q 2), .int .i64 (getN xs (q + 2) 5)] 39]) (l := []) [0, 1, 2, 5] (by decide) rfl) ?_
   refine hq_conv [tcE (Tc.mk t.mv zs t.lv es (getN xs q 2) (getN xs (q + 2) 5)), boxE b2 #[t.mv, t.lv, .int .i64 (getN xs q 2), .int .i64 (getN xs (q + 2) 5)] 39] (fun w hm => by
   have h1 : Mem _ (([bigE (es.map lePart), rowE 87 4 t.lv es.length (es.flatMap Le.cells)]) ++ [rowE 3 1 t.mv zs.length (zs.map (Value.int .i64)), boxE b2 #[t.mv, t.lv, .int .i64 (getN xs q 2), .int .i64 (getN xs (q + 2) 5)] 39]) w := hm
   exact Mem.big (ps := [rowE 3 1 t.mv zs.length (zs.map (Value.int .i64)), lesE t.lv es]) (h1.big.perm (.swap _ _ _))) ?_
   exact hq_retC (b := b2) (i := 1) (us := [t.mv, t.lv, .int .i64 (getN xs q 2), .int .i64 (getN xs (q + 2) 5)]) (post := [tcE (Tc.mk t.mv zs t.lv es (getN xs q 2) (getN xs (q + 2) 5))]) rfl rfl (by kernel_rfl) (by kernel_rfl) rfl (.cons_cons _ (List.nil_sublist _)) ⟨_, rfl, rfl, ⟨c1t, c2t⟩, by
   show (zs, es.map Le.val, _, _) = decV d xs
   have e2 : e = 2 := by omega
   subst e2
   rw [list2 hel (hez 0 (by omega)) (hez 1 (by omega)), heq]
   unfold decV
   refine Prod.ext ?_ (by simp [Int.add_assoc])
   show zs = (List.range (muxs d).toNat).map (fun m : Nat => getN xs (5 * m) 5)
   apply List.ext_getElem?
   intro i
   by_cases hi : i < zs.length
   · rw [getD_at (d := 0) hi, hmz i (by omega), List.getElem?_map, List.getElem?_range (by omega)]; rfl
   · rw [List.getElem?_eq_none (by omega), List.getElem?_eq_none (by rw [List.length_map, List.length_range]; omega)], by show zs.length ≤ _; unfold muxs at *; omega, by show es.length ≤ _; omega, fun x hx => by
   have hx : x ∈ es := hx
   obtain ⟨i, hi, rfl⟩ := List.mem_iff_getElem.1 hx
   have h5 := hez i (by omega)
   rw [List.getD_eq_getElem?_getD, List.getElem?_eq_getElem hi] at h5
   have h6 : es[i].xs = (decLe xs (5 * muxs d + 30 * (i : Int))).1 := congrArg Prod.fst h5
   rw [h6]; simp [decLe]⟩
theorem decodeTile_ret (d : Dev) (xs : List Int) (v : Value) (w : World) (hd : devB d = true) (hv : RdsW w v 1 xs.length (xs.map (Value.int .i64))) (hxs : Words xs) (hfl : 92 + 20 * d.T ≤ 16 * (xs.length : Int)) (hlen : xs.length ≤ 1000000) :
    Calls Try.prog 106 #[.agg #[.int .i64 d.W, .int .i64 d.H, .int .i64 d.T, .int .i64 d.R], v] w (Ret w (IsTc (decV d xs))) := by
  obtain ⟨a, cap, e, -⟩ := id hv
  subst e
  exact decodeTile_sl d xs a cap w hd hv hxs hfl hlen
open Go.RowKit
def wordsB (xs : List Int) (c : Int) : Bool := decide ((xs.length : Int) = c) && xs.all (fun x => inR x 0 65535)
theorem wordsB_iff (xs : List Int) (c : Int) : wordsB xs c = true ↔ (xs.length : Int) = c ∧ ∀ i, i < xs.length → 0 ≤ xs.getD i 0 ∧ xs.getD i 0 ≤ 65535 := by
  unfold wordsB
  simp only [Bool.and_eq_true, decide_eq_true_eq, inR_iff, all_getD (d := (0 : Int))]
abbrev frW (d : Dev) : Int := (5 * (5 + 4 * d.T) + 67 + 15) / 16
def decOk (d : Dev) (xs : List Int) : Bool := devB d && wordsB xs (frW d)
def decV2 (d : Dev) (xs : List Int) : List Int × List (List Int × Int × Int × Int) × Int × Int := if decOk d xs = true then decV d xs else ([], [], 0, 0)
def IsTc2 (val : List Int × List (List Int × Int × Int × Int) × Int × Int) (ok : Bool) (v : Value) (post : List HP) : Prop := ∃ t : Tc, v = .tuple #[t.agg, .bool ok] ∧ post = [tcE t] ∧ (t.mv.oneCell' = true ∧ t.lv.oneCell' = true) ∧ t.val = val ∧ t.mx.length ≤ 2000000 ∧ t.es.length ≤ 2000000 ∧ ∀ e ∈ t.es, e.xs.length ≤ 2000000
set_option maxHeartbeats 4000000 in
set_option maxRecDepth 100000 in
theorem wordsOk_ans (xs : List Int) (v : Value) (c : Int) (w : World) (hv : RdsW w v 1 xs.length (xs.map (Value.int .i64))) (hlen : xs.length ≤ 2000000) :
  Calls Try.prog 104 #[v, .int .i64 c, .int .i64 65535] w (Ans w (.bool (wordsB xs c))) := by
 refine calls_hc (N := 24) (args := [v, .int .i64 c, .int .i64 65535]) Try.func104 rfl rfl ?_
 refine hc_less _ (sx 0 rfl (sx 1 rfl (sx 2 rfl (sub_nil _)))) (.refl _) ?_
 refine hc_seq ?_
 refine hc_region ?_
 refine hl_v rfl rfl rfl (rv_ev rfl) ?_
 refine hl_less (sx 0 rfl (sx 1 rfl (sx 2 rfl (sx 6 rfl (sub_nil _))))) (.refl _) ?_
 refine hl_nil ?_
 refine hq_then ?_
 refine hc_seq ?_
 refine hc_seq ?_
 refine hc_region ?_
 refine hl_v rfl rfl rfl (rv_ev rfl) ?_
 refine hl_v rfl rfl rfl (rv_len rfl Try.underlying30 rfl (rd_old hv)) ?_
 refine hl_v rfl rfl rfl (rv_ev rfl) ?_
 refine hl_neq rfl rfl rfl rfl rfl rfl (fun h1 => ?_) (fun h1 => ?_)
 ·
  refine hl_less (sx 0 rfl (sx 1 rfl (sx 2 rfl (sx 6 rfl (sx 12 rfl (sub_nil _)))))) (.refl _) ?_
  refine hl_nil ?_
  refine hq_then ?_
  refine hc_true rfl ?_
  refine hc_seq ?_
  refine hc_region ?_
  refine hl_v rfl rfl rfl (rv_ev rfl) ?_
  refine hl_less (sx 0 rfl (sx 1 rfl (sx 2 rfl (sx 6 rfl (sx 12 rfl (sub_nil _)))))) (.refl _) ?_
  refine hl_nil ?_
  refine hq_then ?_
  refine hc_ret ?_
  refine hq_then_ret ?_
  exact hq_ans rfl rfl (congrArg _ (Bool.eq_false_iff.2 (fun h => by obtain ⟨q1, q2⟩ := (wordsB_iff _ _).1 h; first | omega | (have := q2 j (by omega); omega))).symm)
 ·
  refine hl_less (sx 0 rfl (sx 1 rfl (sx 2 rfl (sx 6 rfl (sx 12 rfl (sub_nil _)))))) (.refl _) ?_
  refine hl_nil ?_
  refine hq_then ?_
  refine hc_false rfl ?_
  refine hc_skip ?_
  refine hq_then ?_
  refine hc_seq ?_
  refine hc_seq ?_
  refine hc_region ?_
  refine hl_v rfl rfl rfl (rv_ev rfl) ?_
  refine hl_v rfl rfl rfl (rv_len rfl Try.underlying30 rfl (rd_old hv)) ?_
  refine hl_v rfl rfl rfl (rv_ev rfl) ?_
  refine hl_less (sx 0 rfl (sx 1 rfl (sx 2 rfl (sx 6 rfl (sx 12 rfl (sx 13 rfl (sx 14 rfl (sx 15 rfl (sub_nil _))))))))) (.refl _) ?_
  refine hl_nil ?_
  refine hq_then ?_
  refine hc_block ?_
  refine hc_loop1 (α := Nat) (fun j => []) (fun j => [(0, v), (1, .int .i64 c), (2, .int .i64 65535), (6, .bool false), (12, .bool false), (13, v), (14, .int .i64 (xs.length : Int)), (15, .int .i64 (j : Int))]) (fun j => j ≤ xs.length ∧ ∀ i, i < j → 0 ≤ xs.getD i 0 ∧ xs.getD i 0 ≤ 65535) (fun j => xs.length - j) 0 ⟨by omega, fun i hi => absurd hi (by omega)⟩ (sx 0 rfl (sx 1 rfl (sx 2 rfl (sx 6 rfl (sx 12 rfl (sx 13 rfl (sx 14 rfl (sx 15 rfl (sub_nil _))))))))) (.slnil) ?_
  intro j hi2
  obtain ⟨hk1, hk2⟩ := hi2
  refine hc_seq ?_
  refine hc_region ?_
  refine hl_lss rfl rfl rfl rfl rfl rfl (fun h3 => ?_) (fun h3 => ?_)
  ·
   refine hl_less (sx 0 rfl (sx 1 rfl (sx 2 rfl (sx 6 rfl (sx 12 rfl (sx 13 rfl (sx 14 rfl (sx 15 rfl (sx 16 rfl (sub_nil _)))))))))) (.refl _) ?_
   refine hl_nil ?_
   refine hq_then ?_
   refine hc_seq ?_
   refine hc_true rfl ?_
   refine hc_skip ?_
   refine hq_then ?_
   refine hc_seq ?_
   refine hc_block ?_
   refine hc_seq ?_
   refine hc_region ?_
   refine hl_v rfl rfl rfl (rv_index (s := 1) rfl Try.underlying30 (by kernel_rfl) rfl rfl (rd_old hv) (by omega) (by first | omega | (simp only [List.length_set]; omega))) ?_
   refine hl_v rfl rfl rfl (rv_loadEl (u := .int .i64 (xs.getD j 0)) rfl (by kernel_rfl) rfl (rd_old hv) (ints_at1 (show _ < xs.length by first | omega | (simp only [List.length_set]; omega)))) ?_
   refine hl_v rfl rfl rfl (rv_ev rfl) ?_
   refine hl_less (sx 0 rfl (sx 1 rfl (sx 2 rfl (sx 6 rfl (sx 8 rfl (sx 12 rfl (sx 13 rfl (sx 14 rfl (sx 15 rfl (sx 16 rfl (sub_nil _))))))))))) (.refl _) ?_
   refine hl_nil ?_
   refine hq_then ?_
   refine hc_seq ?_
   refine hc_region ?_
   refine hl_v rfl rfl rfl (rv_ev rfl) ?_
   refine hl_v rfl rfl rfl (rv_ev rfl) ?_
   refine hl_callV rfl rfl rfl (rq_call (by kernel_rfl) rfl (fun w hm => ret_ans (ans_of (inRange_any _ _ _ w)))) ?_
   refine hl_bool (fun h4 => ?_) (fun h4 => ?_)
   ·
    obtain ⟨h4a, h4b⟩ := (inR_iff _ _ _).1 h4
    refine hl_v rfl rfl rfl (rv_ev rfl) ?_
    refine hl_less (sx 0 rfl (sx 1 rfl (sx 2 rfl (sx 6 rfl (sx 8 rfl (sx 12 rfl (sx 13 rfl (sx 14 rfl (sx 15 rfl (sx 16 rfl (sx 22 rfl (sub_nil _)))))))))))) (.refl _) ?_
    refine hl_nil ?_
    refine hq_then ?_
    refine hc_false rfl ?_
    refine hc_skip ?_
    refine hq_block_normal ?_
    refine hq_then ?_
    refine hc_region ?_
    refine hl_v rfl rfl rfl (rv_add rfl rfl rfl (by constructor <;> omega)) ?_
    refine hl_v rfl rfl rfl (rv_ev rfl) ?_
    refine hl_less (sx 0 rfl (sx 1 rfl (sx 2 rfl (sx 6 rfl (sx 8 rfl (sx 12 rfl (sx 13 rfl (sx 14 rfl (sx 15 rfl (sx 16 rfl (sx 22 rfl (sub_nil _)))))))))))) (.refl _) ?_
    refine hl_nil ?_
    exact hq_round1 (j + 1) ⟨by omega, fun i hi => by by_cases hij : i = j; (subst hij; omega); exact hk2 i (by omega)⟩ (by omega) (sx 0 rfl (sx 1 rfl (sx 2 rfl (sx 6 rfl (sx 12 rfl (sx 13 rfl (sx 14 rfl (sx 15 rfl (sub_nil _))))))))) (.slnil)
   ·
    have h4a := inR_nah h4
    refine hl_v rfl rfl rfl (rv_ev rfl) ?_
    refine hl_less (sx 0 rfl (sx 1 rfl (sx 2 rfl (sx 6 rfl (sx 8 rfl (sx 12 rfl (sx 13 rfl (sx 14 rfl (sx 15 rfl (sx 16 rfl (sx 22 rfl (sub_nil _)))))))))))) (.refl _) ?_
    refine hl_nil ?_
    refine hq_then ?_
    refine hc_true rfl ?_
    refine hc_seq ?_
    refine hc_region ?_
    refine hl_v rfl rfl rfl (rv_ev rfl) ?_
    refine hl_less (sx 0 rfl (sx 1 rfl (sx 2 rfl (sx 6 rfl (sx 8 rfl (sx 12 rfl (sx 13 rfl (sx 14 rfl (sx 15 rfl (sx 16 rfl (sx 22 rfl (sub_nil _)))))))))))) (.refl _) ?_
    refine hl_nil ?_
    refine hq_then ?_
    refine hc_ret ?_
    refine hq_block_ret ?_
    refine hq_then_ret ?_
    refine hq_then_ret ?_
    refine hq_block_ret ?_
    refine hq_then_ret ?_
    exact hq_ans rfl rfl (congrArg _ (Bool.eq_false_iff.2 (fun h => by obtain ⟨q1, q2⟩ := (wordsB_iff _ _).1 h; first | omega | (have := q2 j (by omega); omega))).symm)
  ·
   refine hl_less (sx 0 rfl (sx 1 rfl (sx 2 rfl (sx 6 rfl (sx 12 rfl (sx 13 rfl (sx 14 rfl (sx 15 rfl (sx 16 rfl (sub_nil _)))))))))) (.refl _) ?_
   refine hl_nil ?_
   refine hq_then ?_
   refine hc_seq ?_
   refine hc_false rfl ?_
   refine hc_exit ?_
   refine hq_then_exit ?_
   refine hq_then_exit ?_
   refine hq_block_exit ?_
   refine hq_then ?_
   refine hc_seq ?_
   refine hc_region ?_
   refine hl_v rfl rfl rfl (rv_ev rfl) ?_
   refine hl_less (sx 0 rfl (sx 1 rfl (sx 2 rfl (sx 6 rfl (sx 12 rfl (sx 13 rfl (sx 14 rfl (sx 15 rfl (sx 16 rfl (sub_nil _)))))))))) (.refl _) ?_
   refine hl_nil ?_
   refine hq_then ?_
   refine hc_ret ?_
   exact hq_ans rfl rfl (congrArg _ ((wordsB_iff _ _).2 ⟨by omega, fun i hi => hk2 i (by omega)⟩).symm)
set_option maxHeartbeats 4000000 in
set_option maxRecDepth 100000 in
theorem implDecodeTile_ret (d : Dev) (xs : List Int) (v : Value) (w : World) (hv : RdsW w v 1 xs.length (xs.map (Value.int .i64))) (hlen : xs.length ≤ 2000000) :
  Calls Try.prog 49 #[.agg #[.int .i64 d.W, .int .i64 d.H, .int .i64 d.T, .int .i64 d.R], v] w (Ret w (IsTc2 (decV2 d xs) (decOk d xs))) := by
 refine calls_hc (N := 20) (args := [.agg #[.int .i64 d.W, .int .i64 d.H, .int .i64 d.T, .int .i64 d.R], v]) Try.func49 rfl rfl ?_
 refine hc_less _ (sx 0 rfl (sx 1 rfl (sub_nil _))) (.refl _) ?_
 refine hc_seq ?_
 refine hc_region ?_
 refine hl_box rfl rfl rfl (rq_box rfl rfl) ?_
 intro b1
 refine hl_box rfl rfl rfl (rq_alloc (z := .agg #[.slice none 0 0, .slice none 0 0, .int .i64 0, .int .i64 0]) rfl (by kernel_rfl)) ?_
 intro b2
 refine hl_v rfl rfl rfl (rv_ev rfl) ?_
 refine hl_less (sx 0 rfl (sx 1 rfl (sx 2 rfl (sx 4 rfl (sx 5 rfl (sub_nil _)))))) (.refl _) ?_
 refine hl_nil ?_
 refine hq_then ?_
 refine hc_seq ?_
 refine hc_seq ?_
 refine hc_region ?_
 refine hl_v rfl rfl rfl (rv_loadN (cs := [.int .i64 d.W, .int .i64 d.H, .int .i64 d.T, .int .i64 d.R]) rfl (by kernel_rfl) (by kernel_rfl) rfl rfl (box_part 1 rfl 0 rfl)) ?_
 refine hl_callV rfl rfl rfl (rq_call (by kernel_rfl) rfl (fun w hm => ret_ans (implDeviceOk_any d w))) ?_
 refine hl_bool (fun h3 => ?_) (fun h3 => ?_)
 ·
  obtain ⟨-, -, ⟨l1, l2⟩, -⟩ := (devB_iff d).1 h3
  refine hl_v rfl rfl rfl (rv_ev rfl) ?_
  refine hl_v rfl rfl rfl (rv_ev rfl) ?_
  refine hl_v rfl rfl rfl (rv_ev rfl) ?_
  refine hl_v rfl rfl rfl (rv_loadN (cs := [.int .i64 d.W, .int .i64 d.H, .int .i64 d.T, .int .i64 d.R]) rfl (by kernel_rfl) (by kernel_rfl) rfl rfl (box_part 1 rfl 0 rfl)) ?_
  refine hl_callV rfl rfl rfl (rq_call (by kernel_rfl) rfl (fun w hm => ret_ans (implFrame_any d (by assumption) w))) ?_
  refine hl_callV rfl rfl rfl (rq_call (by kernel_rfl) rfl (fun w hm => ret_ans (wordsOk_ans xs _ (frW d) w ((rd_old hv) w hm) (by omega)))) ?_
  refine hl_bool (fun h4 => ?_) (fun h4 => ?_)
  ·
   obtain ⟨hwl, hww⟩ := (wordsB_iff _ _).1 h4
   have hfr : frW d = (5 * (5 + 4 * d.T) + 67 + 15) / 16 := rfl
   refine hl_v rfl rfl rfl (rv_ev rfl) ?_
   refine hl_v rfl rfl rfl (rv_ev rfl) ?_
   refine hl_less (sx 0 rfl (sx 1 rfl (sx 2 rfl (sx 4 rfl (sx 5 rfl (sx 15 rfl (sub_nil _))))))) (.refl _) ?_
   refine hl_nil ?_
   refine hq_then ?_
   refine hc_false rfl ?_
   refine hc_skip ?_
   refine hq_then ?_
   refine hc_seq ?_
   refine hc_region ?_
   refine hl_v rfl rfl rfl (rv_loadN (cs := [.int .i64 d.W, .int .i64 d.H, .int .i64 d.T, .int .i64 d.R]) rfl (by kernel_rfl) (by kernel_rfl) rfl rfl (box_part 1 rfl 0 rfl)) ?_
   refine hl_v rfl rfl rfl (rv_ev rfl) ?_
   refine hl_q rfl rfl rfl (rq_call (by kernel_rfl) rfl (fun w hm => decodeTile_ret d xs _ w (by assumption) (hv.below hm.bel) hww (by omega) (by omega))) ?_
   intro v5 p6 hR7
   obtain ⟨t, rfl, rfl, ⟨c1t, c2t⟩, valt, n1t, n2t, n3t⟩ := hR7
   refine hl_storeBoxN (i := 1) (off := 0) (us := [t.mv, t.lv, .int .i64 t.pad, .int .i64 t.ram]) (l' := [tcE t, boxE b2 #[t.mv, t.lv, .int .i64 t.pad, .int .i64 t.ram] 39, boxE b1 #[.int .i64 d.W, .int .i64 d.H, .int .i64 d.T, .int .i64 d.R] 25]) rfl rfl rfl (by kernel_rfl) rfl rfl rfl (all_cons c1t (all_cons c2t (all_cons rfl (all_cons rfl all_nil)))) rfl rfl rfl ?_
   refine hl_v rfl rfl rfl (rv_ev rfl) ?_
   refine hl_less (sx 0 rfl (sx 1 rfl (sx 2 rfl (sx 4 rfl (sx 5 rfl (sx 15 rfl (sub_nil _))))))) (.refl _) ?_
   refine hl_nil ?_
   refine hq_then ?_
   refine hc_ret ?_
   have hyes : decOk d xs = true := by unfold decOk; rw [Bool.and_eq_true]; exact ⟨by assumption, by first | assumption | exact (wordsB_iff _ _).2 ⟨by omega, hww⟩⟩
   exact hq_retM (rs := [.cell 4 39, .tmp 5]) (vs := [.agg #[t.mv, t.lv, .int .i64 t.pad, .int .i64 t.ram], .bool true]) (post := [tcE t]) rfl ⟨⟨b2, 0, [t.mv, t.lv, .int .i64 t.pad, .int .i64 t.ram], rfl, rfl, by kernel_rfl, by kernel_rfl, box_part 1 rfl 0 rfl⟩, rfl, trivial⟩ rfl ((.cons_cons _ (.cons _ (.cons _ .slnil)))) ⟨_, by rw [hyes]; rfl, rfl, ⟨c1t, c2t⟩, by unfold decV2; rw [if_pos hyes]; exact valt, n1t, n2t, n3t⟩
  ·
   refine hl_v rfl rfl rfl (rv_ev rfl) ?_
   refine hl_v rfl rfl rfl (rv_ev rfl) ?_
   refine hl_less (sx 0 rfl (sx 1 rfl (sx 2 rfl (sx 4 rfl (sx 5 rfl (sx 15 rfl (sub_nil _))))))) (.refl _) ?_
   refine hl_nil ?_
   refine hq_then ?_
   refine hc_true rfl ?_
   refine hc_seq ?_
   refine hc_region ?_
   refine hl_v rfl rfl rfl (rv_build (cs := #[.slice none 0 0, .slice none 0 0, .int .i64 0, .int .i64 0]) rfl rfl (by kernel_rfl)) ?_
   refine hl_storeBoxN (i := 0) (off := 0) (us := [.slice none 0 0, .slice none 0 0, .int .i64 0, .int .i64 0]) (l' := [boxE b2 #[.slice none 0 0, .slice none 0 0, .int .i64 0, .int .i64 0] 39, boxE b1 #[.int .i64 d.W, .int .i64 d.H, .int .i64 d.T, .int .i64 d.R] 25]) rfl rfl rfl (by kernel_rfl) rfl rfl rfl (all_cons rfl (all_cons rfl (all_cons rfl (all_cons rfl all_nil)))) rfl rfl rfl ?_
   refine hl_v rfl rfl rfl (rv_ev rfl) ?_
   refine hl_less (sx 0 rfl (sx 1 rfl (sx 2 rfl (sx 4 rfl (sx 5 rfl (sx 15 rfl (sub_nil _))))))) (.refl _) ?_
   refine hl_nil ?_
   refine hq_then ?_
   refine hc_ret ?_
   refine hq_then_ret ?_
   have hno : decOk d xs = false := by unfold decOk; first | (simp only [*]; rfl) | (rw [Bool.and_eq_false_iff]; right; rw [Bool.eq_false_iff]; intro h; obtain ⟨q1, q2⟩ := (wordsB_iff _ _).1 h; first | omega | (have := q2 j (by omega); omega))
   refine hq_conv (tcE (Tc.mk (.slice none 0 0) [] (.slice none 0 0) [] 0 0) :: [boxE b2 #[.slice none 0 0, .slice none 0 0, .int .i64 0, .int .i64 0] 39, boxE b1 #[.int .i64 d.W, .int .i64 d.H, .int .i64 d.T, .int .i64 d.R] 25]) (fun w hm => hm.tcNil) ?_
   exact hq_retM (rs := [.cell 4 39, .tmp 5]) (vs := [.agg #[.slice none 0 0, .slice none 0 0, .int .i64 0, .int .i64 0], .bool false]) (post := [tcE (Tc.mk (.slice none 0 0) [] (.slice none 0 0) [] 0 0)]) rfl ⟨⟨b2, 0, [.slice none 0 0, .slice none 0 0, .int .i64 0, .int .i64 0], rfl, rfl, by kernel_rfl, by kernel_rfl, box_part 1 rfl 0 rfl⟩, rfl, trivial⟩ rfl (.cons_cons _ (List.nil_sublist _)) ⟨Tc.mk (.slice none 0 0) [] (.slice none 0 0) [] 0 0, by rw [hno]; rfl, rfl, ⟨rfl, rfl⟩, by unfold decV2; rw [hno]; rfl, by decide, by decide, by simp⟩
 ·
  refine hl_v rfl rfl rfl (rv_ev rfl) ?_
  refine hl_v rfl rfl rfl (rv_ev rfl) ?_
  refine hl_skip rfl rfl rfl ?_
  refine hl_skip rfl rfl rfl ?_
  refine hl_skip rfl rfl rfl ?_
  refine hl_skip rfl rfl rfl ?_
  refine hl_skip rfl rfl rfl ?_
  refine hl_v rfl rfl rfl (rv_ev rfl) ?_
  refine hl_less (sx 0 rfl (sx 1 rfl (sx 2 rfl (sx 4 rfl (sx 5 rfl (sx 15 rfl (sub_nil _))))))) (.refl _) ?_
  refine hl_nil ?_
  refine hq_then ?_
  refine hc_true rfl ?_
  refine hc_seq ?_
  refine hc_region ?_
  refine hl_v rfl rfl rfl (rv_build (cs := #[.slice none 0 0, .slice none 0 0, .int .i64 0, .int .i64 0]) rfl rfl (by kernel_rfl)) ?_
  refine hl_storeBoxN (i := 0) (off := 0) (us := [.slice none 0 0, .slice none 0 0, .int .i64 0, .int .i64 0]) (l' := [boxE b2 #[.slice none 0 0, .slice none 0 0, .int .i64 0, .int .i64 0] 39, boxE b1 #[.int .i64 d.W, .int .i64 d.H, .int .i64 d.T, .int .i64 d.R] 25]) rfl rfl rfl (by kernel_rfl) rfl rfl rfl (all_cons rfl (all_cons rfl (all_cons rfl (all_cons rfl all_nil)))) rfl rfl rfl ?_
  refine hl_v rfl rfl rfl (rv_ev rfl) ?_
  refine hl_less (sx 0 rfl (sx 1 rfl (sx 2 rfl (sx 4 rfl (sx 5 rfl (sx 15 rfl (sub_nil _))))))) (.refl _) ?_
  refine hl_nil ?_
  refine hq_then ?_
  refine hc_ret ?_
  refine hq_then_ret ?_
  have hno : decOk d xs = false := by unfold decOk; first | (simp only [*]; rfl) | (rw [Bool.and_eq_false_iff]; right; rw [Bool.eq_false_iff]; intro h; obtain ⟨q1, q2⟩ := (wordsB_iff _ _).1 h; first | omega | (have := q2 j (by omega); omega))
  refine hq_conv (tcE (Tc.mk (.slice none 0 0) [] (.slice none 0 0) [] 0 0) :: [boxE b2 #[.slice none 0 0, .slice none 0 0, .int .i64 0, .int .i64 0] 39, boxE b1 #[.int .i64 d.W, .int .i64 d.H, .int .i64 d.T, .int .i64 d.R] 25]) (fun w hm => hm.tcNil) ?_
  exact hq_retM (rs := [.cell 4 39, .tmp 5]) (vs := [.agg #[.slice none 0 0, .slice none 0 0, .int .i64 0, .int .i64 0], .bool false]) (post := [tcE (Tc.mk (.slice none 0 0) [] (.slice none 0 0) [] 0 0)]) rfl ⟨⟨b2, 0, [.slice none 0 0, .slice none 0 0, .int .i64 0, .int .i64 0], rfl, rfl, by kernel_rfl, by kernel_rfl, box_part 1 rfl 0 rfl⟩, rfl, trivial⟩ rfl (.cons_cons _ (List.nil_sublist _)) ⟨Tc.mk (.slice none 0 0) [] (.slice none 0 0) [] 0 0, by rw [hno]; rfl, rfl, ⟨rfl, rfl⟩, by unfold decV2; rw [hno]; rfl, by decide, by decide, by simp⟩
open Go.RowKit
open Go.RowKit
def packJ (N : Nat) (bs : List Int) : Nat → List Int
  | 0 => List.replicate N 0
  | j + 1 => (packJ N bs j).set (j / 16) ((packJ N bs j).getD (j / 16) 0 + bs.getD j 0 * 2 ^ (j % 16))
theorem packJ_len (N : Nat) (bs : List Int) : ∀ j, (packJ N bs j).length = N
  | 0 => by simp [packJ]
  | j + 1 => by rw [packJ, List.length_set, packJ_len N bs j]
theorem packJ_congr (N : Nat) (bs cs : List Int) : ∀ j, (∀ i, i < j → bs.getD i 0 = cs.getD i 0) → packJ N bs j = packJ N cs j
  | 0, _ => rfl
  | j + 1, h => by rw [packJ, packJ, packJ_congr N bs cs j (fun i hi => h i (by omega)), h j (by omega)]
def Bits (bs : List Int) : Prop := ∀ i, 0 ≤ bs.getD i 0 ∧ bs.getD i 0 ≤ 1
theorem pow_16 (j : Nat) (h : j ≤ 16) : 1 ≤ (2 : Int) ^ j ∧ (2 : Int) ^ j ≤ 65536 := by
  have h1 : (2 : Nat) ^ j ≤ 2 ^ 16 := Nat.pow_le_pow_right (by decide) h
  have h2 : 1 ≤ (2 : Nat) ^ j := Nat.one_le_two_pow
  have h3 : ((2 ^ j : Nat) : Int) = (2 : Int) ^ j := by simp
  rw [← h3]; omega
/-- what the words hold, so far: the word at work is small, the words behind it are 0 -/
theorem packJ_low (N : Nat) (bs : List Int) (hb : Bits bs) : ∀ j, j ≤ 16 * N → ∀ w, w < N → (w < j / 16 → 0 ≤ (packJ N bs j).getD w 0 ∧ (packJ N bs j).getD w 0 ≤ 65535) ∧ (w = j / 16 → 0 ≤ (packJ N bs j).getD w 0 ∧ (packJ N bs j).getD w 0 < 2 ^ (j % 16)) ∧ (j / 16 < w → (packJ N bs j).getD w 0 = 0)
  | 0, _, w, hw => by
    have : (packJ N bs 0).getD w 0 = 0 := by rw [packJ, List.getD_eq_getElem?_getD, List.getElem?_replicate]; split <;> rfl
    rw [this]
    exact ⟨fun h => by omega, fun h => ⟨by omega, by simp⟩, fun h => rfl⟩
  | j + 1, hj, w, hw => by
    have ih := packJ_low N bs hb j (by omega)
    have hl := packJ_len N bs j
    have hp := pow_16 (j % 16) (by omega)
    have hbj := hb j
    by_cases hwj : w = j / 16
    · have h1 := (ih w hw).2.1 hwj
      have e : (packJ N bs (j + 1)).getD w 0 = (packJ N bs j).getD w 0 + bs.getD j 0 * 2 ^ (j % 16) := by rw [packJ, hwj, getD_set_self' (by omega)]
      rw [e]
      have h2 : 0 ≤ bs.getD j 0 * 2 ^ (j % 16) ∧ bs.getD j 0 * 2 ^ (j % 16) ≤ 2 ^ (j % 16) := by
        rcases (show bs.getD j 0 = 0 ∨ bs.getD j 0 = 1 by omega) with e | e <;> rw [e] <;> omega
      have h3 : (2 : Int) ^ (j % 16 + 1) = 2 * 2 ^ (j % 16) := by rw [Int.pow_succ, Int.mul_comm]
      refine ⟨fun h => ?_, fun h => ?_, fun h => by omega⟩
      · have h5 : j % 16 = 15 := by omega
        rw [h5] at h1 h2 ⊢
        omega
      · have h5 : (j + 1) % 16 = j % 16 + 1 := by omega
        rw [h5, h3]; omega
    · have e : (packJ N bs (j + 1)).getD w 0 = (packJ N bs j).getD w 0 := by rw [packJ, getD_set_ne' (fun h => hwj h.symm)]
      rw [e]
      refine ⟨fun h => (ih w hw).1 (by omega), fun h => ?_, fun h => (ih w hw).2.2 (by omega)⟩
      have h6 := (ih w hw).2.2 (by omega)
      rw [h6]
      have := pow_16 ((j + 1) % 16) (by omega)
      omega
def bitsOf (n : Int) (k : Nat) : List Int := (List.range k).map (fun i => n / 2 ^ i % 2)
theorem bitsOf_len (n : Int) (k : Nat) : (bitsOf n k).length = k := by simp [bitsOf]
theorem bitsOf_at (n : Int) (k i : Nat) (h : i < k) : (bitsOf n k).getD i 0 = n / 2 ^ i % 2 := by
  rw [List.getD_eq_getElem?_getD, List.getElem?_eq_getElem (by rw [bitsOf_len]; exact h)]; simp [bitsOf]
theorem bitsOf_succ (n : Int) (k : Nat) : bitsOf n (k + 1) = bitsOf n k ++ [n / 2 ^ k % 2] := by unfold bitsOf; rw [List.range_succ, List.map_append]; rfl
theorem bits_app {bs cs : List Int} (h1 : Bits bs) (h2 : Bits cs) : Bits (bs ++ cs) := fun i => by
  rw [List.getD_eq_getElem?_getD]
  by_cases h : i < bs.length
  · rw [List.getElem?_append_left h, ← List.getD_eq_getElem?_getD]; exact h1 i
  · rw [List.getElem?_append_right (by omega), ← List.getD_eq_getElem?_getD]; exact h2 _
theorem bitsOf_bits (n : Int) (k : Nat) : Bits (bitsOf n k) := fun i => by
  by_cases h : i < k
  · rw [bitsOf_at n k i h]; omega
  · rw [List.getD_eq_getElem?_getD, List.getElem?_eq_none (by rw [bitsOf_len]; omega)]; decide
theorem pack_step (N : Nat) (bs : List Int) (n : Int) (j : Nat) : packJ N (bs ++ bitsOf n (j + 1)) (bs.length + (j + 1)) = (packJ N (bs ++ bitsOf n j) (bs.length + j)).set ((bs.length + j) / 16) ((packJ N (bs ++ bitsOf n j) (bs.length + j)).getD ((bs.length + j) / 16) 0 + n / 2 ^ j % 2 * 2 ^ ((bs.length + j) % 16)) := by
  have h1 : packJ N (bs ++ bitsOf n (j + 1)) (bs.length + j) = packJ N (bs ++ bitsOf n j) (bs.length + j) := packJ_congr _ _ _ _ (fun i hi => by
    rw [bitsOf_succ, ← List.append_assoc, List.getD_eq_getElem?_getD, List.getElem?_append_left (by rw [List.length_append, bitsOf_len]; exact hi), ← List.getD_eq_getElem?_getD])
  have h2 : (bs ++ bitsOf n (j + 1)).getD (bs.length + j) 0 = n / 2 ^ j % 2 := by
    rw [List.getD_eq_getElem?_getD, List.getElem?_append_right (by omega), Nat.add_sub_cancel_left, ← List.getD_eq_getElem?_getD, bitsOf_at n (j + 1) j (by omega)]
  rw [show bs.length + (j + 1) = (bs.length + j) + 1 by omega, packJ, h1, h2]
abbrev wrE (b : Nat) (wv : Value) (p : Int) (xs : List Int) : HP := bigE [boxE b #[wv, .int .i64 p] 105, rowE 3 1 wv xs.length (xs.map (Value.int .i64))]
set_option maxHeartbeats 4000000 in
set_option maxRecDepth 100000 in
theorem bitPut_mut (N : Nat) (bs xs : List Int) (wv : Value) (b : Nat) (n k : Int) (w0 : World) (l : List HP) (w : World) (hm0 : Mem w0 (wrE b wv (bs.length : Int) xs :: l) w) (hxs : xs = packJ N bs bs.length) (hb : Bits bs) (hn : 0 ≤ n ∧ n ≤ 65535) (hk : 0 ≤ k ∧ k ≤ 16) (hN : (bs.length : Int) + k ≤ 16 * N) (hN2 : N ≤ 1000000) :
  Calls Try.prog 108 #[.pointer (some ⟨b, 0, none⟩), .int .i64 n, .int .i64 k] w (fun e_ w_ => ∃ v_ p_, e_ = .returned v_ ∧ (fun u_ p_ => p_ = wrE b wv ((bs.length : Int) + k) (packJ N (bs ++ bitsOf n k.toNat) (bs.length + k.toNat))) v_ p_ ∧ Mem w0 (p_ :: l) w_) := by
 have hxl : xs.length = N := by rw [hxs, packJ_len]
 refine calls_hcM (N := 44) (args := [.pointer (some ⟨b, 0, none⟩), .int .i64 n, .int .i64 k]) Try.func108 rfl rfl (l := (boxE b #[wv, .int .i64 (bs.length : Int)] 105 :: rowE 3 1 wv xs.length (xs.map (Value.int .i64)) :: l)) hm0.unbig ?_
 refine hc_less _ (sx 0 rfl (sx 1 rfl (sx 2 rfl (sub_nil _)))) (.refl _) ?_
 refine hc_seq ?_
 refine hc_region ?_
 refine hl_v rfl rfl rfl (rv_ev rfl) ?_
 refine hl_less (sx 0 rfl (sx 1 rfl (sx 2 rfl (sx 6 rfl (sub_nil _))))) (.refl _) ?_
 refine hl_nil ?_
 refine hq_then ?_
 refine hc_block ?_
 refine hc_loop3 (α := Nat) (β := Int) (γ := List Int) (fun j q zs => (boxE b #[wv, .int .i64 q] 105 :: rowE 3 1 wv zs.length (zs.map (Value.int .i64)) :: l)) (fun j q zs => [(0, .pointer (some ⟨b, 0, none⟩)), (1, .int .i64 n), (2, .int .i64 k), (6, .int .i64 (j : Int))]) (fun j q zs => (j : Int) ≤ k ∧ q = (bs.length : Int) + j ∧ zs = packJ N (bs ++ bitsOf n j) (bs.length + j)) (fun j q zs => k.toNat - j) 0 _ _ ⟨by omega, by omega, by rw [hxs]; simp [bitsOf]⟩ (sx 0 rfl (sx 1 rfl (sx 2 rfl (sx 6 rfl (sub_nil _))))) ((.cons_cons _ (.cons_cons _ (.refl _)))) ?_
 intro j q zs hi1
 obtain ⟨hj, hq, hz⟩ := hi1
 have hzl : zs.length = N := by rw [hz, packJ_len]
 refine hc_seq ?_
 refine hc_seq ?_
 refine hc_region ?_
 refine hl_v rfl rfl rfl (rv_ev rfl) ?_
 refine hl_v rfl rfl rfl (rv_ev rfl) ?_
 refine hl_lss rfl rfl rfl rfl rfl rfl (fun h2 => ?_) (fun h2 => ?_)
 ·
  refine hl_less (sx 0 rfl (sx 1 rfl (sx 2 rfl (sx 6 rfl (sx 9 rfl (sub_nil _)))))) (.refl _) ?_
  refine hl_nil ?_
  refine hq_then ?_
  refine hc_true rfl ?_
  refine hc_skip ?_
  refine hq_then ?_
  refine hc_seq ?_
  refine hc_block ?_
  refine hc_seq ?_
  have hqn : (q / 16).toNat = (bs.length + j) / 16 := by omega
  have hqm : (q % 16).toNat = (bs.length + j) % 16 := by omega
  have hlow := (packJ_low N (bs ++ bitsOf n j) (bits_app hb (bitsOf_bits n j)) (bs.length + j) (by omega) ((bs.length + j) / 16) (by omega)).2.1 rfl
  rw [← hz, ← hqn, ← hqm] at hlow
  have hjn : ((j : Int)).toNat = j := rfl
  refine hc_draw (by kernel_rfl) 25 [0, 1, 2, 3, 4, 5, 6, 7, 8, 9, 10, 11, 12, 13, 14, 15, 16, 17, 18, 19, 20, 21, 22, 23, 24] (List.take 25 _) (List.drop 25 _) [[], [0], [1], [2], [], [4], [5], [6], [7], [3, 8], [9], [], [], [12], [11, 13], [14], [], [16], [17], [18], [19], [20], [15, 21], [10, 22], [3, 8]] [12, 13, 14, 15, 16, 17, 18, 19, 20, 21, 22, 23, 24, 25, 26, 27, 28, 29, 30, 31, 32, 33, 34, 35, 36] (fun i vs_ v_ p_ => match i with | 0 => v_ = .pointer (some ⟨b, 0, none⟩) ∧ p_ = [] | 1 => v_ = .pointer (some ⟨b, 0, none⟩) ∧ p_ = [] | 2 => v_ = .pointer (some ⟨b, 0 + 0, none⟩) ∧ p_ = [] | 3 => v_ = wv ∧ p_ = [] | 4 => v_ = .pointer (some ⟨b, 0, none⟩) ∧ p_ = [] | 5 => v_ = .pointer (some ⟨b, 0, none⟩) ∧ p_ = [] | 6 => v_ = .pointer (some ⟨b, 0 + 1, none⟩) ∧ p_ = [] | 7 => v_ = .int .i64 q ∧ p_ = [] | 8 => v_ = .int .i64 (q / 16) ∧ p_ = [] | 9 => v_ = elP wv ((q / 16).toNat * 1) ∧ p_ = [] | 10 => v_ = .int .i64 (zs.getD ((q / 16).toNat) 0) ∧ p_ = [] | 11 => v_ = .int .i64 n ∧ p_ = [] | 12 => v_ = .int .i64 (j : Int) ∧ p_ = [] | 13 => v_ = .int .u64 (j : Int) ∧ p_ = [] | 14 => v_ = .int .i64 (n / 2 ^ ((j : Int)).toNat) ∧ p_ = [] | 15 => v_ = .int .i64 ((n / 2 ^ ((j : Int)).toNat) % 2) ∧ p_ = [] | 16 => v_ = .pointer (some ⟨b, 0, none⟩) ∧ p_ = [] | 17 => v_ = .pointer (some ⟨b, 0, none⟩) ∧ p_ = [] | 18 => v_ = .pointer (some ⟨b, 0 + 1, none⟩) ∧ p_ = [] | 19 => v_ = .int .i64 q ∧ p_ = [] | 20 => v_ = .int .i64 (q % 16) ∧ p_ = [] | 21 => v_ = .int .u64 (q % 16) ∧ p_ = [] | 22 => v_ = .int .i64 (((n / 2 ^ ((j : Int)).toNat) % 2) * 2 ^ (q % 16).toNat) ∧ p_ = [] | 23 => v_ = .int .i64 ((zs.getD ((q / 16).toNat) 0) + (((n / 2 ^ ((j : Int)).toNat) % 2) * 2 ^ (q % 16).toNat)) ∧ p_ = [] | 24 => v_ = elP wv ((q / 16).toNat * 1) ∧ p_ = [] | _ => True) (List.take_append_drop 25 _).symm (by kernel_rfl) (by kernel_rfl) rfl rfl ?_ ?_
  ·
   refine ⟨?_, ?_, ?_, ?_, ?_, ?_, ?_, ?_, ?_, ?_, ?_, ?_, ?_, ?_, ?_, ?_, ?_, ?_, ?_, ?_, ?_, ?_, ?_, ?_, ?_, trivial⟩
   ·
    intro vf pf hR
    refine Or.inl ⟨rfl, ?_⟩
    refine rq_less (sx 0 rfl (sub_nil _)) (List.sublist_append_right _ _) ?_
    exact rq_v (rv_ev rfl)
   ·
    intro vf pf hR
    have e0 : (vf 0) = .pointer (some ⟨b, 0, none⟩) ∧ (pf 0) = [] := hR 0 (by decide)
    refine Or.inl ⟨rfl, ?_⟩
    refine rq_less (sx 12 (congrArg some e0.1) (sub_nil _)) (List.sublist_append_right _ _) ?_
    exact rq_v (rv_nilCheck rfl rfl)
   ·
    intro vf pf hR
    have e1 : (vf 1) = .pointer (some ⟨b, 0, none⟩) ∧ (pf 1) = [] := hR 1 (by decide)
    refine Or.inl ⟨rfl, ?_⟩
    refine rq_less (sx 13 (congrArg some e1.1) (sub_nil _)) (List.sublist_append_right _ _) ?_
    exact rq_v (rv_field (k0 := 0) rfl (by kernel_rfl) rfl)
   ·
    intro vf pf hR
    have e2 : (vf 2) = .pointer (some ⟨b, 0 + 0, none⟩) ∧ (pf 2) = [] := hR 2 (by decide)
    refine Or.inl ⟨rfl, ?_⟩
    refine rq_less (sx 14 (congrArg some e2.1) (sub_nil _)) (List.sublist_append_right _ _) ?_
    exact rq_v (rv_load rfl (by kernel_rfl) rfl (box_cell 0 rfl rfl))
   ·
    intro vf pf hR
    refine Or.inl ⟨rfl, ?_⟩
    refine rq_less (sx 0 rfl (sub_nil _)) (List.sublist_append_right _ _) ?_
    exact rq_v (rv_ev rfl)
   ·
    intro vf pf hR
    have e4 : (vf 4) = .pointer (some ⟨b, 0, none⟩) ∧ (pf 4) = [] := hR 4 (by decide)
    refine Or.inl ⟨rfl, ?_⟩
    refine rq_less (sx 16 (congrArg some e4.1) (sub_nil _)) (List.sublist_append_right _ _) ?_
    exact rq_v (rv_nilCheck rfl rfl)
   ·
    intro vf pf hR
    have e5 : (vf 5) = .pointer (some ⟨b, 0, none⟩) ∧ (pf 5) = [] := hR 5 (by decide)
    refine Or.inl ⟨rfl, ?_⟩
    refine rq_less (sx 17 (congrArg some e5.1) (sub_nil _)) (List.sublist_append_right _ _) ?_
    exact rq_v (rv_field (k0 := 1) rfl (by kernel_rfl) rfl)
   ·
    intro vf pf hR
    have e6 : (vf 6) = .pointer (some ⟨b, 0 + 1, none⟩) ∧ (pf 6) = [] := hR 6 (by decide)
    refine Or.inl ⟨rfl, ?_⟩
    refine rq_less (sx 18 (congrArg some e6.1) (sub_nil _)) (List.sublist_append_right _ _) ?_
    exact rq_v (rv_load rfl (by kernel_rfl) rfl (box_cell 0 rfl rfl))
   ·
    intro vf pf hR
    have e7 : (vf 7) = .int .i64 q ∧ (pf 7) = [] := hR 7 (by decide)
    refine Or.inl ⟨rfl, ?_⟩
    refine rq_less (sx 19 (congrArg some e7.1) (sub_nil _)) (List.sublist_append_right _ _) ?_
    exact rq_v (rv_quo rfl rfl rfl (by refine ⟨?_, ?_, ?_⟩ <;> omega))
   ·
    intro vf pf hR
    have e3 : (vf 3) = wv ∧ (pf 3) = [] := hR 3 (by decide)
    have e8 : (vf 8) = .int .i64 (q / 16) ∧ (pf 8) = [] := hR 8 (by decide)
    refine Or.inl ⟨rfl, ?_⟩
    refine rq_less (sx 15 (congrArg some e3.1) (sx 20 (congrArg some e8.1) (sub_nil _))) (List.sublist_append_right _ _) ?_
    exact rq_v (rv_index (s := 1) rfl Try.underlying30 (by kernel_rfl) rfl rfl (rd_row 1 rfl) (by omega) (by first | omega | (simp only [List.length_set]; omega)))
   ·
    intro vf pf hR
    have e9 : (vf 9) = elP wv ((q / 16).toNat * 1) ∧ (pf 9) = [] := hR 9 (by decide)
    refine Or.inl ⟨rfl, ?_⟩
    refine rq_less (sx 21 (congrArg some e9.1) (sub_nil _)) (List.sublist_append_right _ _) ?_
    exact rq_v (rv_loadEl (u := .int .i64 (zs.getD ((q / 16).toNat) 0)) rfl (by kernel_rfl) rfl (rd_row 1 rfl) (ints_at1 (show _ < zs.length by first | omega | (simp only [List.length_set]; omega))))
   ·
    intro vf pf hR
    refine Or.inl ⟨rfl, ?_⟩
    refine rq_less (sx 1 rfl (sub_nil _)) (List.sublist_append_right _ _) ?_
    exact rq_v (rv_ev rfl)
   ·
    intro vf pf hR
    refine Or.inl ⟨rfl, ?_⟩
    refine rq_less (sx 6 rfl (sub_nil _)) (List.sublist_append_right _ _) ?_
    exact rq_v (rv_ev rfl)
   ·
    intro vf pf hR
    have e12 : (vf 12) = .int .i64 (j : Int) ∧ (pf 12) = [] := hR 12 (by decide)
    refine Or.inl ⟨rfl, ?_⟩
    refine rq_less (sx 24 (congrArg some e12.1) (sub_nil _)) (List.sublist_append_right _ _) ?_
    exact rq_v (rv_conv rfl Try.underlying3 Try.underlying130 rfl (IntWalk.u64_in _ (by omega)))
   ·
    intro vf pf hR
    have e11 : (vf 11) = .int .i64 n ∧ (pf 11) = [] := hR 11 (by decide)
    have e13 : (vf 13) = .int .u64 (j : Int) ∧ (pf 13) = [] := hR 13 (by decide)
    refine Or.inl ⟨rfl, ?_⟩
    refine rq_less (sx 23 (congrArg some e11.1) (sx 25 (congrArg some e13.1) (sub_nil _))) (List.sublist_append_right _ _) ?_
    exact rq_v (rv_shr rfl rfl rfl (by omega))
   ·
    intro vf pf hR
    have e14 : (vf 14) = .int .i64 (n / 2 ^ ((j : Int)).toNat) ∧ (pf 14) = [] := hR 14 (by decide)
    refine Or.inl ⟨rfl, ?_⟩
    refine rq_less (sx 26 (congrArg some e14.1) (sub_nil _)) (List.sublist_append_right _ _) ?_
    exact rq_v (rv_bits rfl (by decide) rfl rfl (r := (n / 2 ^ ((j : Int)).toNat) % 2) (and1 _ hn))
   ·
    intro vf pf hR
    refine Or.inl ⟨rfl, ?_⟩
    refine rq_less (sx 0 rfl (sub_nil _)) (List.sublist_append_right _ _) ?_
    exact rq_v (rv_ev rfl)
   ·
    intro vf pf hR
    have e16 : (vf 16) = .pointer (some ⟨b, 0, none⟩) ∧ (pf 16) = [] := hR 16 (by decide)
    refine Or.inl ⟨rfl, ?_⟩
    refine rq_less (sx 28 (congrArg some e16.1) (sub_nil _)) (List.sublist_append_right _ _) ?_
    exact rq_v (rv_nilCheck rfl rfl)
   ·
    intro vf pf hR
    have e17 : (vf 17) = .pointer (some ⟨b, 0, none⟩) ∧ (pf 17) = [] := hR 17 (by decide)
    refine Or.inl ⟨rfl, ?_⟩
    refine rq_less (sx 29 (congrArg some e17.1) (sub_nil _)) (List.sublist_append_right _ _) ?_
    exact rq_v (rv_field (k0 := 1) rfl (by kernel_rfl) rfl)
   ·
    intro vf pf hR
    have e18 : (vf 18) = .pointer (some ⟨b, 0 + 1, none⟩) ∧ (pf 18) = [] := hR 18 (by decide)
    refine Or.inl ⟨rfl, ?_⟩
    refine rq_less (sx 30 (congrArg some e18.1) (sub_nil _)) (List.sublist_append_right _ _) ?_
    exact rq_v (rv_load rfl (by kernel_rfl) rfl (box_cell 0 rfl rfl))
   ·
    intro vf pf hR
    have e19 : (vf 19) = .int .i64 q ∧ (pf 19) = [] := hR 19 (by decide)
    refine Or.inl ⟨rfl, ?_⟩
    refine rq_less (sx 31 (congrArg some e19.1) (sub_nil _)) (List.sublist_append_right _ _) ?_
    exact rq_v (rv_rem rfl rfl rfl (by constructor <;> omega))
   ·
    intro vf pf hR
    have e20 : (vf 20) = .int .i64 (q % 16) ∧ (pf 20) = [] := hR 20 (by decide)
    refine Or.inl ⟨rfl, ?_⟩
    refine rq_less (sx 32 (congrArg some e20.1) (sub_nil _)) (List.sublist_append_right _ _) ?_
    exact rq_v (rv_conv rfl Try.underlying3 Try.underlying130 rfl (IntWalk.u64_in _ (by omega)))
   ·
    intro vf pf hR
    have e15 : (vf 15) = .int .i64 ((n / 2 ^ ((j : Int)).toNat) % 2) ∧ (pf 15) = [] := hR 15 (by decide)
    have e21 : (vf 21) = .int .u64 (q % 16) ∧ (pf 21) = [] := hR 21 (by decide)
    refine Or.inl ⟨rfl, ?_⟩
    refine rq_less (sx 27 (congrArg some e15.1) (sx 33 (congrArg some e21.1) (sub_nil _))) (List.sublist_append_right _ _) ?_
    exact rq_v (rv_shl (kk' := .i64) rfl rfl rfl (by omega) (shl1 (by omega) (by omega)))
   ·
    intro vf pf hR
    have e10 : (vf 10) = .int .i64 (zs.getD ((q / 16).toNat) 0) ∧ (pf 10) = [] := hR 10 (by decide)
    have e22 : (vf 22) = .int .i64 (((n / 2 ^ ((j : Int)).toNat) % 2) * 2 ^ (q % 16).toNat) ∧ (pf 22) = [] := hR 22 (by decide)
    refine Or.inl ⟨rfl, ?_⟩
    refine rq_less (sx 22 (congrArg some e10.1) (sx 34 (congrArg some e22.1) (sub_nil _))) (List.sublist_append_right _ _) ?_
    exact rq_v (rv_bits rfl (by decide) rfl rfl (r := (zs.getD ((q / 16).toNat) 0) + (((n / 2 ^ ((j : Int)).toNat) % 2) * 2 ^ (q % 16).toNat)) (or1 hlow (by omega) (by omega)))
   ·
    intro vf pf hR
    have e3 : (vf 3) = wv ∧ (pf 3) = [] := hR 3 (by decide)
    have e8 : (vf 8) = .int .i64 (q / 16) ∧ (pf 8) = [] := hR 8 (by decide)
    refine Or.inl ⟨rfl, ?_⟩
    refine rq_less (sx 15 (congrArg some e3.1) (sx 20 (congrArg some e8.1) (sub_nil _))) (List.sublist_append_right _ _) ?_
    exact rq_v (rv_index (s := 1) rfl Try.underlying30 (by kernel_rfl) rfl rfl (rd_row 1 rfl) (by omega) (by first | omega | (simp only [List.length_set]; omega)))
  ·
   intro vf pf hR
   have e23 : (vf 23) = .int .i64 ((zs.getD ((q / 16).toNat) 0) + (((n / 2 ^ ((j : Int)).toNat) % 2) * 2 ^ (q % 16).toNat)) ∧ (pf 23) = [] := hR 23 (by decide)
   have e24 : (vf 24) = elP wv ((q / 16).toNat * 1) ∧ (pf 24) = [] := hR 24 (by decide)
   refine hl_less (l' := (boxE b #[wv, .int .i64 q] 105 :: rowE 3 1 wv zs.length (zs.map (Value.int .i64)) :: l)) (sx 0 rfl (sx 1 rfl (sx 2 rfl (sx 6 rfl (sx 9 rfl (sx 35 (congrArg some e23.1) (sx 36 (congrArg some e24.1) (sub_nil _)))))))) (List.sublist_append_right _ _) ?_
   simp only [List.drop_succ_cons, List.drop_zero]
   refine hl_storeEl (i := 1) (n' := (zs.set ((q / 16).toNat) ((zs.getD ((q / 16).toNat) 0) + (((n / 2 ^ ((j : Int)).toNat) % 2) * 2 ^ (q % 16).toNat))).length) (xs' := ((zs.set ((q / 16).toNat) ((zs.getD ((q / 16).toNat) 0) + (((n / 2 ^ ((j : Int)).toNat) % 2) * 2 ^ (q % 16).toNat))).map (Value.int .i64))) (l' := (boxE b #[wv, .int .i64 q] 105 :: rowE 3 1 wv ((zs.set ((q / 16).toNat) ((zs.getD ((q / 16).toNat) 0) + (((n / 2 ^ ((j : Int)).toNat) % 2) * 2 ^ (q % 16).toNat))).length) ((zs.set ((q / 16).toNat) ((zs.getD ((q / 16).toNat) 0) + (((n / 2 ^ ((j : Int)).toNat) % 2) * 2 ^ (q % 16).toNat))).map (Value.int .i64)) :: l)) rfl rfl rfl (by kernel_rfl) rfl rfl rfl rfl (by first | omega | (simp only [List.length_set]; omega)) List.length_set.symm (ints_set _ _ _) rfl ?_
   refine hl_less (sx 0 rfl (sx 1 rfl (sx 2 rfl (sx 6 rfl (sx 9 rfl (sub_nil _)))))) (.refl _) ?_
   refine hl_nil ?_
   refine hq_then ?_
   refine hc_region ?_
   refine hl_v rfl rfl rfl (rv_ev rfl) ?_
   refine hl_v rfl rfl rfl (rv_nilCheck rfl rfl) ?_
   refine hl_v rfl rfl rfl (rv_field (k0 := 1) rfl (by kernel_rfl) rfl) ?_
   refine hl_v rfl rfl rfl (rv_load rfl (by kernel_rfl) rfl (box_cell 0 rfl rfl)) ?_
   refine hl_v rfl rfl rfl (rv_add rfl rfl rfl (by constructor <;> omega)) ?_
   refine hl_v rfl rfl rfl (rv_nilCheck rfl rfl) ?_
   refine hl_v rfl rfl rfl (rv_field (k0 := 1) rfl (by kernel_rfl) rfl) ?_
   refine hl_storeBox (i := 0) (l' := (boxE b #[wv, .int .i64 (q + 1)] 105 :: rowE 3 1 wv ((zs.set ((q / 16).toNat) ((zs.getD ((q / 16).toNat) 0) + (((n / 2 ^ ((j : Int)).toNat) % 2) * 2 ^ (q % 16).toNat))).length) ((zs.set ((q / 16).toNat) ((zs.getD ((q / 16).toNat) 0) + (((n / 2 ^ ((j : Int)).toNat) % 2) * 2 ^ (q % 16).toNat))).map (Value.int .i64)) :: l)) rfl rfl rfl (by kernel_rfl) rfl rfl rfl rfl rfl rfl ?_
   refine hl_less (sx 0 rfl (sx 1 rfl (sx 2 rfl (sx 6 rfl (sx 9 rfl (sub_nil _)))))) (.refl _) ?_
   refine hl_nil ?_
   refine hq_block_normal ?_
   refine hq_then ?_
   refine hc_region ?_
   refine hl_v rfl rfl rfl (rv_ev rfl) ?_
   refine hl_v rfl rfl rfl (rv_add rfl rfl rfl (by constructor <;> omega)) ?_
   refine hl_v rfl rfl rfl (rv_ev rfl) ?_
   refine hl_less (sx 0 rfl (sx 1 rfl (sx 2 rfl (sx 6 rfl (sx 9 rfl (sub_nil _)))))) (.refl _) ?_
   refine hl_nil ?_
   exact hq_round3 (j + 1) (q + 1) (zs.set ((q / 16).toNat) ((zs.getD ((q / 16).toNat) 0) + (((n / 2 ^ ((j : Int)).toNat) % 2) * 2 ^ (q % 16).toNat))) ⟨by omega, by omega, by rw [pack_step, ← hz, ← hqn, ← hqm]; rfl⟩ (by omega) (sx 0 rfl (sx 1 rfl (sx 2 rfl (sx 6 rfl (sub_nil _))))) ((.cons_cons _ (.cons_cons _ (.refl _))))
 ·
  refine hl_less (sx 0 rfl (sx 1 rfl (sx 2 rfl (sx 6 rfl (sx 9 rfl (sub_nil _)))))) (.refl _) ?_
  refine hl_nil ?_
  refine hq_then ?_
  refine hc_false rfl ?_
  refine hc_exit ?_
  refine hq_then_exit ?_
  refine hq_then_exit ?_
  refine hq_block_exit ?_
  refine hq_normal ?_
  have hjn : j = k.toNat := by omega
  refine hq_conv (wrE b wv q zs :: l) (conv_big (ps := [boxE b #[wv, .int .i64 q] 105, rowE 3 1 wv zs.length (zs.map (Value.int .i64))])) ?_
  exact hq_ret (rs := []) (vs := []) rfl trivial rfl (fun w hm => ⟨.tuple #[], _, rfl, by rw [hq, hz, hjn, show ((k.toNat : Nat) : Int) = k by omega], hm⟩)
open Go.RowKit
theorem bitPut_to (N : Nat) (bs : List Int) (wv : Value) (b : Nat) (n : Int) (k : Nat) (w0 : World) (l : List HP) (w : World) (hm0 : Mem w0 (wrE b wv (bs.length : Int) (packJ N bs bs.length) :: l) w) (hb : Bits bs) (hn : 0 ≤ n ∧ n ≤ 65535) (hk : k ≤ 16) (hN : bs.length + k ≤ 16 * N) (hN2 : N ≤ 1000000) :
    Calls Try.prog 108 #[.pointer (some ⟨b, 0, none⟩), .int .i64 n, .int .i64 (k : Int)] w (fun e_ w_ => ∃ v_ p_, e_ = .returned v_ ∧ p_ = wrE b wv ((bs ++ bitsOf n k).length : Int) (packJ N (bs ++ bitsOf n k) (bs ++ bitsOf n k).length) ∧ Mem w0 (p_ :: l) w_) := by
  have h := bitPut_mut N bs _ wv b n (k : Int) w0 l w hm0 rfl hb hn (by omega) (by omega) hN2
  rw [Int.toNat_natCast, show (bs.length : Int) + (k : Int) = ((bs ++ bitsOf n k).length : Int) by rw [List.length_append, bitsOf_len]; omega, show bs.length + k = (bs ++ bitsOf n k).length by rw [List.length_append, bitsOf_len]] at h
  exact h
def leBits (e : List Int × Int × Int × Int) : List Int := e.1.flatMap (fun x => bitsOf x 3) ++ bitsOf e.2.1 16 ++ bitsOf e.2.2.1 1 ++ bitsOf e.2.2.2 1
def tcBits (v : List Int × List (List Int × Int × Int × Int) × Int × Int) : List Int := v.1.flatMap (fun x => bitsOf x 5) ++ v.2.1.flatMap leBits ++ bitsOf v.2.2.1 2 ++ bitsOf v.2.2.2 5
def encV (d : Dev) (v : List Int × List (List Int × Int × Int × Int) × Int × Int) : List Int := if tcOkV d v = true then packJ (frW d).toNat (tcBits v) (tcBits v).length else []
def IsEnc (d : Dev) (val : List Int × List (List Int × Int × Int × Int) × Int × Int) (v : Value) (post : List HP) : Prop := ∃ u, v = .tuple #[u, .bool (tcOkV d val)] ∧ post = [rowE 3 1 u (encV d val).length ((encV d val).map (Value.int .i64))]
theorem fm_take {α : Type} (f : α → List Int) (xs : List α) (d : α) (j : Nat) (h : j < xs.length) : (xs.take (j + 1)).flatMap f = (xs.take j).flatMap f ++ f (xs.getD j d) := by
  rw [List.take_succ_eq_append_getElem h, List.flatMap_append, List.getD_eq_getElem?_getD, List.getElem?_eq_getElem h]; simp
theorem bits_nil : Bits [] := fun i => by simp
end Go.Proofs.Ytnnkbpcfjjijbaa
