/- TileConfigOk of the reference, and the law FnExactTileConfigOk. -/
import Derived.Test.YtnnkbpcfjjijbaaEx7
set_option linter.unusedVariables false
set_option linter.unusedSimpArgs false
namespace Go.Proofs.Ytnnkbpcfjjijbaa
open Go.RowKit
set_option maxHeartbeats 4000000 in
set_option maxRecDepth 100000 in
theorem specTileConfigOk_ans (d : Dev) (t : Tc) (w : World) (ht : t.Rds w) :
    Calls Try.prog 38 #[.agg #[.int .i64 d.W, .int .i64 d.H, .int .i64 d.T, .int .i64 d.R], .agg #[t.mv, t.lv, .int .i64 t.pad, .int .i64 t.ram]] w (Ans w (.bool (tcOkV d t.val))) := by
  have hn1 := ht.nmx
  have hn2 := ht.nes
  refine calls_hc (N := 94) (args := [.agg #[.int .i64 d.W, .int .i64 d.H, .int .i64 d.T, .int .i64 d.R], .agg #[t.mv, t.lv, .int .i64 t.pad, .int .i64 t.ram]]) Try.func38 rfl rfl ?_
  refine hc_less _ (sub_cons (d := 0) rfl (sub_cons (d := 1) rfl (sub_nil _))) (.refl _) ?_
  refine hc_seq ?_
  refine hc_region ?_
  refine hl_box rfl rfl rfl (rq_box rfl rfl) ?_
  intro b1
  refine hl_box rfl rfl rfl (rq_box rfl rfl) ?_
  intro b2
  refine hl_v rfl rfl rfl (rv_ev rfl) ?_
  refine hl_less (sub_cons (d := 0) rfl (sub_cons (d := 1) rfl (sub_cons (d := 2) rfl (sub_cons (d := 3) rfl (sub_cons (d := 4) rfl (sub_nil _)))))) (.refl _) ?_
  refine hl_nil ?_
  refine hq_then ?_
  refine hc_seq ?_
  refine hc_seq ?_
  rcases Bool.eq_false_or_eq_true (devB d) with hb3 | hb3
  ·
    obtain ⟨-, -, ⟨l1, l2⟩, -⟩ := (devB_iff d).1 hb3
    rcases Bool.eq_false_or_eq_true ((t.mx.length : Int) != (5 + 4 * d.T)) with hb4 | hb4
    ·
      have hb4p : (t.mx.length : Int) ≠ 5 + 4 * d.T := bne_iff_ne.1 hb4
      refine hc_draw (by kernel_rfl) 29 [0, 1, 2, 3, 4, 5, 6, 7, 8, 9, 10, 11, 12, 13, 14, 15, 16, 17, 18, 19, 20, 21, 22, 23, 24, 25, 26, 27, 28] (List.take 29 _) (List.drop 29 _) [[], [0], [1], [2], [3], [3, 4], [3, 5], [3], [3, 7], [3, 6, 8], [3, 9], [10], [11], [11], [11], [11], [11, 15], [16], [17], [17], [17], [17], [17, 21], [22], [23], [23], [23], [23], [23, 27]] [9, 10, 11, 12, 13, 14, 15, 16, 17, 18, 19, 20, 21, 22, 23, 24, 25, 26, 27, 28, 29, 30, 31, 32, 33, 34, 35, 36, 37] (fun i vs_ v_ p_ => match i with | 0 => v_ = .agg #[.int .i64 d.W, .int .i64 d.H, .int .i64 d.T, .int .i64 d.R] ∧ p_ = [] | 1 => v_ = .bool true ∧ p_ = [] | 2 => v_ = .bool false ∧ p_ = [] | 3 => v_ = .bool false ∧ p_ = [] | 4 => v_ = .pointer (some ⟨b2, 0 + 0, none⟩) ∧ p_ = [] | 5 => v_ = t.mv ∧ p_ = [] | 6 => v_ = .int .i64 (t.mx.length : Int) ∧ p_ = [] | 7 => v_ = .agg #[.int .i64 d.W, .int .i64 d.H, .int .i64 d.T, .int .i64 d.R] ∧ p_ = [] | 8 => v_ = .int .i64 (5 + 4 * d.T) ∧ p_ = [] | 9 => v_ = .bool true ∧ p_ = [] | 10 => v_ = .bool true ∧ p_ = [] | 11 => v_ = .bool true ∧ p_ = [] | 12 => v_ = undef ∧ p_ = [] | 13 => v_ = undef ∧ p_ = [] | 14 => v_ = undef ∧ p_ = [] | 15 => v_ = undef ∧ p_ = [] | 16 => v_ = .bool true ∧ p_ = [] | 17 => v_ = .bool true ∧ p_ = [] | 18 => v_ = undef ∧ p_ = [] | 19 => v_ = undef ∧ p_ = [] | 20 => v_ = undef ∧ p_ = [] | 21 => v_ = undef ∧ p_ = [] | 22 => v_ = .bool true ∧ p_ = [] | 23 => v_ = .bool true ∧ p_ = [] | 24 => v_ = undef ∧ p_ = [] | 25 => v_ = undef ∧ p_ = [] | 26 => v_ = undef ∧ p_ = [] | 27 => v_ = undef ∧ p_ = [] | 28 => v_ = .bool true ∧ p_ = [] | _ => True) (List.take_append_drop 29 _).symm (by kernel_rfl) (by kernel_rfl) rfl rfl ?_ ?_
      ·
        refine ⟨?_, ?_, ?_, ?_, ?_, ?_, ?_, ?_, ?_, ?_, ?_, ?_, ?_, ?_, ?_, ?_, ?_, ?_, ?_, ?_, ?_, ?_, ?_, ?_, ?_, ?_, ?_, ?_, ?_, trivial⟩
        ·
          intro vf pf hR
          refine Or.inl ⟨rfl, ?_⟩
          refine rq_less (l' := [boxE b2 #[t.mv, t.lv, .int .i64 t.pad, .int .i64 t.ram] 39, boxE b1 #[.int .i64 d.W, .int .i64 d.H, .int .i64 d.T, .int .i64 d.R] 25]) (sub_cons (d := 2) rfl (sub_nil _)) (List.sublist_append_right _ _) ?_
          exact rq_v (rv_loadN (cs := [.int .i64 d.W, .int .i64 d.H, .int .i64 d.T, .int .i64 d.R]) rfl (by kernel_rfl) (by kernel_rfl) rfl rfl (box_part 1 rfl 0 rfl))
        ·
          intro vf pf hR
          have e0 : (vf 0) = .agg #[.int .i64 d.W, .int .i64 d.H, .int .i64 d.T, .int .i64 d.R] ∧ (pf 0) = [] := hR 0 (by decide)
          refine Or.inl ⟨rfl, ?_⟩
          refine rq_less (l' := [boxE b2 #[t.mv, t.lv, .int .i64 t.pad, .int .i64 t.ram] 39, boxE b1 #[.int .i64 d.W, .int .i64 d.H, .int .i64 d.T, .int .i64 d.R] 25]) (sub_cons (d := 9) (congrArg some e0.1) (sub_nil _)) (List.sublist_append_right _ _) ?_
          exact rq_mono (rq_call (by kernel_rfl) rfl (fun w hm => ret_ans (specDeviceOk_any d w))) (fun _ _ h => ⟨h.1.trans (congrArg Value.bool hb3), h.2⟩)
        ·
          intro vf pf hR
          have e1 : (vf 1) = .bool true ∧ (pf 1) = [] := hR 1 (by decide)
          refine Or.inl ⟨rfl, ?_⟩
          refine rq_less (l' := [boxE b2 #[t.mv, t.lv, .int .i64 t.pad, .int .i64 t.ram] 39, boxE b1 #[.int .i64 d.W, .int .i64 d.H, .int .i64 d.T, .int .i64 d.R] 25]) (sub_cons (d := 10) (congrArg some e1.1) (sub_nil _)) (List.sublist_append_right _ _) ?_
          exact rq_v (rv_ev rfl)
        ·
          intro vf pf hR
          have e2 : (vf 2) = .bool false ∧ (pf 2) = [] := hR 2 (by decide)
          refine Or.inl ⟨rfl, ?_⟩
          refine rq_less (l' := [boxE b2 #[t.mv, t.lv, .int .i64 t.pad, .int .i64 t.ram] 39, boxE b1 #[.int .i64 d.W, .int .i64 d.H, .int .i64 d.T, .int .i64 d.R] 25]) (sub_cons (d := 11) (congrArg some e2.1) (sub_nil _)) (List.sublist_append_right _ _) ?_
          exact rq_v (rv_ev rfl)
        ·
          intro vf pf hR
          have e3 : (vf 3) = .bool false ∧ (pf 3) = [] := hR 3 (by decide)
          refine Or.inl ⟨want_of (congrArg some e3.1) rfl, ?_⟩
          refine rq_less (l' := [boxE b2 #[t.mv, t.lv, .int .i64 t.pad, .int .i64 t.ram] 39, boxE b1 #[.int .i64 d.W, .int .i64 d.H, .int .i64 d.T, .int .i64 d.R] 25]) (sub_cons (d := 3) rfl (sub_nil _)) (List.sublist_append_right _ _) ?_
          exact rq_v (rv_field (k0 := 0) rfl (by kernel_rfl) rfl)
        ·
          intro vf pf hR
          have e3 : (vf 3) = .bool false ∧ (pf 3) = [] := hR 3 (by decide)
          have e4 : (vf 4) = .pointer (some ⟨b2, 0 + 0, none⟩) ∧ (pf 4) = [] := hR 4 (by decide)
          refine Or.inl ⟨want_of (congrArg some e3.1) rfl, ?_⟩
          refine rq_less (l' := [boxE b2 #[t.mv, t.lv, .int .i64 t.pad, .int .i64 t.ram] 39, boxE b1 #[.int .i64 d.W, .int .i64 d.H, .int .i64 d.T, .int .i64 d.R] 25]) (sub_cons (d := 13) (congrArg some e4.1) (sub_nil _)) (List.sublist_append_right _ _) ?_
          exact rq_v (rv_load rfl (by kernel_rfl) rfl (box_cell 0 rfl rfl))
        ·
          intro vf pf hR
          have e3 : (vf 3) = .bool false ∧ (pf 3) = [] := hR 3 (by decide)
          have e5 : (vf 5) = t.mv ∧ (pf 5) = [] := hR 5 (by decide)
          refine Or.inl ⟨want_of (congrArg some e3.1) rfl, ?_⟩
          refine rq_less (l' := [boxE b2 #[t.mv, t.lv, .int .i64 t.pad, .int .i64 t.ram] 39, boxE b1 #[.int .i64 d.W, .int .i64 d.H, .int .i64 d.T, .int .i64 d.R] 25]) (sub_cons (d := 14) (congrArg some e5.1) (sub_nil _)) (List.sublist_append_right _ _) ?_
          exact rq_v (rv_len rfl Try.underlying30 rfl (rd_old ht.mx))
        ·
          intro vf pf hR
          have e3 : (vf 3) = .bool false ∧ (pf 3) = [] := hR 3 (by decide)
          refine Or.inl ⟨want_of (congrArg some e3.1) rfl, ?_⟩
          refine rq_less (l' := [boxE b2 #[t.mv, t.lv, .int .i64 t.pad, .int .i64 t.ram] 39, boxE b1 #[.int .i64 d.W, .int .i64 d.H, .int .i64 d.T, .int .i64 d.R] 25]) (sub_cons (d := 2) rfl (sub_nil _)) (List.sublist_append_right _ _) ?_
          exact rq_v (rv_loadN (cs := [.int .i64 d.W, .int .i64 d.H, .int .i64 d.T, .int .i64 d.R]) rfl (by kernel_rfl) (by kernel_rfl) rfl rfl (box_part 1 rfl 0 rfl))
        ·
          intro vf pf hR
          have e3 : (vf 3) = .bool false ∧ (pf 3) = [] := hR 3 (by decide)
          have e7 : (vf 7) = .agg #[.int .i64 d.W, .int .i64 d.H, .int .i64 d.T, .int .i64 d.R] ∧ (pf 7) = [] := hR 7 (by decide)
          refine Or.inl ⟨want_of (congrArg some e3.1) rfl, ?_⟩
          refine rq_less (l' := [boxE b2 #[t.mv, t.lv, .int .i64 t.pad, .int .i64 t.ram] 39, boxE b1 #[.int .i64 d.W, .int .i64 d.H, .int .i64 d.T, .int .i64 d.R] 25]) (sub_cons (d := 16) (congrArg some e7.1) (sub_nil _)) (List.sublist_append_right _ _) ?_
          exact (rq_call (by kernel_rfl) rfl (fun w hm => ret_ans (specMuxCount_yes d (by assumption) w)))
        ·
          intro vf pf hR
          have e3 : (vf 3) = .bool false ∧ (pf 3) = [] := hR 3 (by decide)
          have e6 : (vf 6) = .int .i64 (t.mx.length : Int) ∧ (pf 6) = [] := hR 6 (by decide)
          have e8 : (vf 8) = .int .i64 (5 + 4 * d.T) ∧ (pf 8) = [] := hR 8 (by decide)
          refine Or.inl ⟨want_of (congrArg some e3.1) rfl, ?_⟩
          refine rq_less (l' := [boxE b2 #[t.mv, t.lv, .int .i64 t.pad, .int .i64 t.ram] 39, boxE b1 #[.int .i64 d.W, .int .i64 d.H, .int .i64 d.T, .int .i64 d.R] 25]) (sub_cons (d := 15) (congrArg some e6.1) (sub_cons (d := 17) (congrArg some e8.1) (sub_nil _))) (List.sublist_append_right _ _) ?_
          exact rq_mono (rq_v (rv_cmp rfl rfl rfl rfl)) (fun _ _ h => ⟨h.1.trans (congrArg Value.bool hb4), h.2⟩)
        ·
          intro vf pf hR
          have e3 : (vf 3) = .bool false ∧ (pf 3) = [] := hR 3 (by decide)
          have e9 : (vf 9) = .bool true ∧ (pf 9) = [] := hR 9 (by decide)
          refine Or.inl ⟨rfl, ?_⟩
          refine rq_less (l' := [boxE b2 #[t.mv, t.lv, .int .i64 t.pad, .int .i64 t.ram] 39, boxE b1 #[.int .i64 d.W, .int .i64 d.H, .int .i64 d.T, .int .i64 d.R] 25]) (sub_cons (d := 12) (congrArg some e3.1) (sub_cons (d := 18) (congrArg some e9.1) (sub_nil _))) (List.sublist_append_right _ _) ?_
          exact rq_v (rv_ev rfl)
        ·
          intro vf pf hR
          have e10 : (vf 10) = .bool true ∧ (pf 10) = [] := hR 10 (by decide)
          refine Or.inl ⟨rfl, ?_⟩
          refine rq_less (l' := [boxE b2 #[t.mv, t.lv, .int .i64 t.pad, .int .i64 t.ram] 39, boxE b1 #[.int .i64 d.W, .int .i64 d.H, .int .i64 d.T, .int .i64 d.R] 25]) (sub_cons (d := 19) (congrArg some e10.1) (sub_nil _)) (List.sublist_append_right _ _) ?_
          exact rq_v (rv_ev rfl)
        ·
          intro vf pf hR
          have e11 : (vf 11) = .bool true ∧ (pf 11) = [] := hR 11 (by decide)
          exact Or.inr ⟨want_of (congrArg some e11.1) rfl, rfl, rfl⟩
        ·
          intro vf pf hR
          have e11 : (vf 11) = .bool true ∧ (pf 11) = [] := hR 11 (by decide)
          exact Or.inr ⟨want_of (congrArg some e11.1) rfl, rfl, rfl⟩
        ·
          intro vf pf hR
          have e11 : (vf 11) = .bool true ∧ (pf 11) = [] := hR 11 (by decide)
          exact Or.inr ⟨want_of (congrArg some e11.1) rfl, rfl, rfl⟩
        ·
          intro vf pf hR
          have e11 : (vf 11) = .bool true ∧ (pf 11) = [] := hR 11 (by decide)
          exact Or.inr ⟨want_of (congrArg some e11.1) rfl, rfl, rfl⟩
        ·
          intro vf pf hR
          have e11 : (vf 11) = .bool true ∧ (pf 11) = [] := hR 11 (by decide)
          have e15 : (vf 15) = undef ∧ (pf 15) = [] := hR 15 (by decide)
          refine Or.inl ⟨rfl, ?_⟩
          refine rq_less (l' := [boxE b2 #[t.mv, t.lv, .int .i64 t.pad, .int .i64 t.ram] 39, boxE b1 #[.int .i64 d.W, .int .i64 d.H, .int .i64 d.T, .int .i64 d.R] 25]) (sub_cons (d := 20) (congrArg some e11.1) (sub_cons (d := 24) (congrArg some e15.1) (sub_nil _))) (List.sublist_append_right _ _) ?_
          exact rq_v (rv_ev rfl)
        ·
          intro vf pf hR
          have e16 : (vf 16) = .bool true ∧ (pf 16) = [] := hR 16 (by decide)
          refine Or.inl ⟨rfl, ?_⟩
          refine rq_less (l' := [boxE b2 #[t.mv, t.lv, .int .i64 t.pad, .int .i64 t.ram] 39, boxE b1 #[.int .i64 d.W, .int .i64 d.H, .int .i64 d.T, .int .i64 d.R] 25]) (sub_cons (d := 25) (congrArg some e16.1) (sub_nil _)) (List.sublist_append_right _ _) ?_
          exact rq_v (rv_ev rfl)
        ·
          intro vf pf hR
          have e17 : (vf 17) = .bool true ∧ (pf 17) = [] := hR 17 (by decide)
          exact Or.inr ⟨want_of (congrArg some e17.1) rfl, rfl, rfl⟩
        ·
          intro vf pf hR
          have e17 : (vf 17) = .bool true ∧ (pf 17) = [] := hR 17 (by decide)
          exact Or.inr ⟨want_of (congrArg some e17.1) rfl, rfl, rfl⟩
        ·
          intro vf pf hR
          have e17 : (vf 17) = .bool true ∧ (pf 17) = [] := hR 17 (by decide)
          exact Or.inr ⟨want_of (congrArg some e17.1) rfl, rfl, rfl⟩
        ·
          intro vf pf hR
          have e17 : (vf 17) = .bool true ∧ (pf 17) = [] := hR 17 (by decide)
          exact Or.inr ⟨want_of (congrArg some e17.1) rfl, rfl, rfl⟩
        ·
          intro vf pf hR
          have e17 : (vf 17) = .bool true ∧ (pf 17) = [] := hR 17 (by decide)
          have e21 : (vf 21) = undef ∧ (pf 21) = [] := hR 21 (by decide)
          refine Or.inl ⟨rfl, ?_⟩
          refine rq_less (l' := [boxE b2 #[t.mv, t.lv, .int .i64 t.pad, .int .i64 t.ram] 39, boxE b1 #[.int .i64 d.W, .int .i64 d.H, .int .i64 d.T, .int .i64 d.R] 25]) (sub_cons (d := 26) (congrArg some e17.1) (sub_cons (d := 30) (congrArg some e21.1) (sub_nil _))) (List.sublist_append_right _ _) ?_
          exact rq_v (rv_ev rfl)
        ·
          intro vf pf hR
          have e22 : (vf 22) = .bool true ∧ (pf 22) = [] := hR 22 (by decide)
          refine Or.inl ⟨rfl, ?_⟩
          refine rq_less (l' := [boxE b2 #[t.mv, t.lv, .int .i64 t.pad, .int .i64 t.ram] 39, boxE b1 #[.int .i64 d.W, .int .i64 d.H, .int .i64 d.T, .int .i64 d.R] 25]) (sub_cons (d := 31) (congrArg some e22.1) (sub_nil _)) (List.sublist_append_right _ _) ?_
          exact rq_v (rv_ev rfl)
        ·
          intro vf pf hR
          have e23 : (vf 23) = .bool true ∧ (pf 23) = [] := hR 23 (by decide)
          exact Or.inr ⟨want_of (congrArg some e23.1) rfl, rfl, rfl⟩
        ·
          intro vf pf hR
          have e23 : (vf 23) = .bool true ∧ (pf 23) = [] := hR 23 (by decide)
          exact Or.inr ⟨want_of (congrArg some e23.1) rfl, rfl, rfl⟩
        ·
          intro vf pf hR
          have e23 : (vf 23) = .bool true ∧ (pf 23) = [] := hR 23 (by decide)
          exact Or.inr ⟨want_of (congrArg some e23.1) rfl, rfl, rfl⟩
        ·
          intro vf pf hR
          have e23 : (vf 23) = .bool true ∧ (pf 23) = [] := hR 23 (by decide)
          exact Or.inr ⟨want_of (congrArg some e23.1) rfl, rfl, rfl⟩
        ·
          intro vf pf hR
          have e23 : (vf 23) = .bool true ∧ (pf 23) = [] := hR 23 (by decide)
          have e27 : (vf 27) = undef ∧ (pf 27) = [] := hR 27 (by decide)
          refine Or.inl ⟨rfl, ?_⟩
          refine rq_less (l' := [boxE b2 #[t.mv, t.lv, .int .i64 t.pad, .int .i64 t.ram] 39, boxE b1 #[.int .i64 d.W, .int .i64 d.H, .int .i64 d.T, .int .i64 d.R] 25]) (sub_cons (d := 32) (congrArg some e23.1) (sub_cons (d := 36) (congrArg some e27.1) (sub_nil _))) (List.sublist_append_right _ _) ?_
          exact rq_v (rv_ev rfl)
      ·
        intro vf pf hR
        have e28 : (vf 28) = .bool true ∧ (pf 28) = [] := hR 28 (by decide)
        refine hl_less (l' := [boxE b2 #[t.mv, t.lv, .int .i64 t.pad, .int .i64 t.ram] 39, boxE b1 #[.int .i64 d.W, .int .i64 d.H, .int .i64 d.T, .int .i64 d.R] 25]) (sub_cons (d := 0) rfl (sub_cons (d := 1) rfl (sub_cons (d := 2) rfl (sub_cons (d := 3) rfl (sub_cons (d := 4) rfl (sub_cons (d := 37) (congrArg some e28.1) (sub_nil _))))))) (List.sublist_append_right _ _) ?_
        simp only [List.drop_succ_cons, List.drop_zero]
        refine hl_less (sub_cons (d := 0) rfl (sub_cons (d := 1) rfl (sub_cons (d := 2) rfl (sub_cons (d := 3) rfl (sub_cons (d := 4) rfl (sub_cons (d := 37) rfl (sub_nil _))))))) (.refl _) ?_
        refine hl_nil ?_
        refine hq_then ?_
        refine hc_true rfl ?_
        refine hc_seq ?_
        refine hc_region ?_
        refine hl_v rfl rfl rfl (rv_ev rfl) ?_
        refine hl_less (sub_cons (d := 0) rfl (sub_cons (d := 1) rfl (sub_cons (d := 2) rfl (sub_cons (d := 3) rfl (sub_cons (d := 4) rfl (sub_cons (d := 37) rfl (sub_nil _))))))) (.refl _) ?_
        refine hl_nil ?_
        refine hq_then ?_
        refine hc_ret ?_
        refine hq_then_ret ?_
        exact hq_ans rfl rfl (congrArg _ (Bool.eq_false_iff.2 (fun h => by obtain ⟨q1, q2, q3, q4, q5, q6, q7⟩ := (tcOkV_iff d t).1 h; first | omega | (have := q6 j (by omega); omega) | (obtain ⟨r1, r2, r3, r4, r5⟩ := (leOkV_iff _).1 (q7 e (by omega)); first | omega | (have := r5 k (by omega); omega)) | contradiction | simp_all)).symm)
    ·
      have hb4p : (t.mx.length : Int) = 5 + 4 * d.T := by simpa using hb4
      rcases Bool.eq_false_or_eq_true ((t.es.length : Int) != 2) with hb5 | hb5
      ·
        have hb5p : (t.es.length : Int) ≠ 2 := bne_iff_ne.1 hb5
        refine hc_draw (by kernel_rfl) 29 [0, 1, 2, 3, 4, 5, 6, 7, 8, 9, 10, 11, 12, 13, 14, 15, 16, 17, 18, 19, 20, 21, 22, 23, 24, 25, 26, 27, 28] (List.take 29 _) (List.drop 29 _) [[], [0], [1], [2], [3], [3, 4], [3, 5], [3], [3, 7], [3, 6, 8], [3, 9], [10], [11], [11, 12], [11, 13], [11, 14], [11, 15], [16], [17], [17], [17], [17], [17, 21], [22], [23], [23], [23], [23], [23, 27]] [9, 10, 11, 12, 13, 14, 15, 16, 17, 18, 19, 20, 21, 22, 23, 24, 25, 26, 27, 28, 29, 30, 31, 32, 33, 34, 35, 36, 37] (fun i vs_ v_ p_ => match i with | 0 => v_ = .agg #[.int .i64 d.W, .int .i64 d.H, .int .i64 d.T, .int .i64 d.R] ∧ p_ = [] | 1 => v_ = .bool true ∧ p_ = [] | 2 => v_ = .bool false ∧ p_ = [] | 3 => v_ = .bool false ∧ p_ = [] | 4 => v_ = .pointer (some ⟨b2, 0 + 0, none⟩) ∧ p_ = [] | 5 => v_ = t.mv ∧ p_ = [] | 6 => v_ = .int .i64 (t.mx.length : Int) ∧ p_ = [] | 7 => v_ = .agg #[.int .i64 d.W, .int .i64 d.H, .int .i64 d.T, .int .i64 d.R] ∧ p_ = [] | 8 => v_ = .int .i64 (5 + 4 * d.T) ∧ p_ = [] | 9 => v_ = .bool false ∧ p_ = [] | 10 => v_ = .bool false ∧ p_ = [] | 11 => v_ = .bool false ∧ p_ = [] | 12 => v_ = .pointer (some ⟨b2, 0 + 1, none⟩) ∧ p_ = [] | 13 => v_ = t.lv ∧ p_ = [] | 14 => v_ = .int .i64 (t.es.length : Int) ∧ p_ = [] | 15 => v_ = .bool true ∧ p_ = [] | 16 => v_ = .bool true ∧ p_ = [] | 17 => v_ = .bool true ∧ p_ = [] | 18 => v_ = undef ∧ p_ = [] | 19 => v_ = undef ∧ p_ = [] | 20 => v_ = undef ∧ p_ = [] | 21 => v_ = undef ∧ p_ = [] | 22 => v_ = .bool true ∧ p_ = [] | 23 => v_ = .bool true ∧ p_ = [] | 24 => v_ = undef ∧ p_ = [] | 25 => v_ = undef ∧ p_ = [] | 26 => v_ = undef ∧ p_ = [] | 27 => v_ = undef ∧ p_ = [] | 28 => v_ = .bool true ∧ p_ = [] | _ => True) (List.take_append_drop 29 _).symm (by kernel_rfl) (by kernel_rfl) rfl rfl ?_ ?_
        ·
          refine ⟨?_, ?_, ?_, ?_, ?_, ?_, ?_, ?_, ?_, ?_, ?_, ?_, ?_, ?_, ?_, ?_, ?_, ?_, ?_, ?_, ?_, ?_, ?_, ?_, ?_, ?_, ?_, ?_, ?_, trivial⟩
          ·
            intro vf pf hR
            refine Or.inl ⟨rfl, ?_⟩
            refine rq_less (l' := [boxE b2 #[t.mv, t.lv, .int .i64 t.pad, .int .i64 t.ram] 39, boxE b1 #[.int .i64 d.W, .int .i64 d.H, .int .i64 d.T, .int .i64 d.R] 25]) (sub_cons (d := 2) rfl (sub_nil _)) (List.sublist_append_right _ _) ?_
            exact rq_v (rv_loadN (cs := [.int .i64 d.W, .int .i64 d.H, .int .i64 d.T, .int .i64 d.R]) rfl (by kernel_rfl) (by kernel_rfl) rfl rfl (box_part 1 rfl 0 rfl))
          ·
            intro vf pf hR
            have e0 : (vf 0) = .agg #[.int .i64 d.W, .int .i64 d.H, .int .i64 d.T, .int .i64 d.R] ∧ (pf 0) = [] := hR 0 (by decide)
            refine Or.inl ⟨rfl, ?_⟩
            refine rq_less (l' := [boxE b2 #[t.mv, t.lv, .int .i64 t.pad, .int .i64 t.ram] 39, boxE b1 #[.int .i64 d.W, .int .i64 d.H, .int .i64 d.T, .int .i64 d.R] 25]) (sub_cons (d := 9) (congrArg some e0.1) (sub_nil _)) (List.sublist_append_right _ _) ?_
            exact rq_mono (rq_call (by kernel_rfl) rfl (fun w hm => ret_ans (specDeviceOk_any d w))) (fun _ _ h => ⟨h.1.trans (congrArg Value.bool hb3), h.2⟩)
          ·
            intro vf pf hR
            have e1 : (vf 1) = .bool true ∧ (pf 1) = [] := hR 1 (by decide)
            refine Or.inl ⟨rfl, ?_⟩
            refine rq_less (l' := [boxE b2 #[t.mv, t.lv, .int .i64 t.pad, .int .i64 t.ram] 39, boxE b1 #[.int .i64 d.W, .int .i64 d.H, .int .i64 d.T, .int .i64 d.R] 25]) (sub_cons (d := 10) (congrArg some e1.1) (sub_nil _)) (List.sublist_append_right _ _) ?_
            exact rq_v (rv_ev rfl)
          ·
            intro vf pf hR
            have e2 : (vf 2) = .bool false ∧ (pf 2) = [] := hR 2 (by decide)
            refine Or.inl ⟨rfl, ?_⟩
            refine rq_less (l' := [boxE b2 #[t.mv, t.lv, .int .i64 t.pad, .int .i64 t.ram] 39, boxE b1 #[.int .i64 d.W, .int .i64 d.H, .int .i64 d.T, .int .i64 d.R] 25]) (sub_cons (d := 11) (congrArg some e2.1) (sub_nil _)) (List.sublist_append_right _ _) ?_
            exact rq_v (rv_ev rfl)
          ·
            intro vf pf hR
            have e3 : (vf 3) = .bool false ∧ (pf 3) = [] := hR 3 (by decide)
            refine Or.inl ⟨want_of (congrArg some e3.1) rfl, ?_⟩
            refine rq_less (l' := [boxE b2 #[t.mv, t.lv, .int .i64 t.pad, .int .i64 t.ram] 39, boxE b1 #[.int .i64 d.W, .int .i64 d.H, .int .i64 d.T, .int .i64 d.R] 25]) (sub_cons (d := 3) rfl (sub_nil _)) (List.sublist_append_right _ _) ?_
            exact rq_v (rv_field (k0 := 0) rfl (by kernel_rfl) rfl)
          ·
            intro vf pf hR
            have e3 : (vf 3) = .bool false ∧ (pf 3) = [] := hR 3 (by decide)
            have e4 : (vf 4) = .pointer (some ⟨b2, 0 + 0, none⟩) ∧ (pf 4) = [] := hR 4 (by decide)
            refine Or.inl ⟨want_of (congrArg some e3.1) rfl, ?_⟩
            refine rq_less (l' := [boxE b2 #[t.mv, t.lv, .int .i64 t.pad, .int .i64 t.ram] 39, boxE b1 #[.int .i64 d.W, .int .i64 d.H, .int .i64 d.T, .int .i64 d.R] 25]) (sub_cons (d := 13) (congrArg some e4.1) (sub_nil _)) (List.sublist_append_right _ _) ?_
            exact rq_v (rv_load rfl (by kernel_rfl) rfl (box_cell 0 rfl rfl))
          ·
            intro vf pf hR
            have e3 : (vf 3) = .bool false ∧ (pf 3) = [] := hR 3 (by decide)
            have e5 : (vf 5) = t.mv ∧ (pf 5) = [] := hR 5 (by decide)
            refine Or.inl ⟨want_of (congrArg some e3.1) rfl, ?_⟩
            refine rq_less (l' := [boxE b2 #[t.mv, t.lv, .int .i64 t.pad, .int .i64 t.ram] 39, boxE b1 #[.int .i64 d.W, .int .i64 d.H, .int .i64 d.T, .int .i64 d.R] 25]) (sub_cons (d := 14) (congrArg some e5.1) (sub_nil _)) (List.sublist_append_right _ _) ?_
            exact rq_v (rv_len rfl Try.underlying30 rfl (rd_old ht.mx))
          ·
            intro vf pf hR
            have e3 : (vf 3) = .bool false ∧ (pf 3) = [] := hR 3 (by decide)
            refine Or.inl ⟨want_of (congrArg some e3.1) rfl, ?_⟩
            refine rq_less (l' := [boxE b2 #[t.mv, t.lv, .int .i64 t.pad, .int .i64 t.ram] 39, boxE b1 #[.int .i64 d.W, .int .i64 d.H, .int .i64 d.T, .int .i64 d.R] 25]) (sub_cons (d := 2) rfl (sub_nil _)) (List.sublist_append_right _ _) ?_
            exact rq_v (rv_loadN (cs := [.int .i64 d.W, .int .i64 d.H, .int .i64 d.T, .int .i64 d.R]) rfl (by kernel_rfl) (by kernel_rfl) rfl rfl (box_part 1 rfl 0 rfl))
          ·
            intro vf pf hR
            have e3 : (vf 3) = .bool false ∧ (pf 3) = [] := hR 3 (by decide)
            have e7 : (vf 7) = .agg #[.int .i64 d.W, .int .i64 d.H, .int .i64 d.T, .int .i64 d.R] ∧ (pf 7) = [] := hR 7 (by decide)
            refine Or.inl ⟨want_of (congrArg some e3.1) rfl, ?_⟩
            refine rq_less (l' := [boxE b2 #[t.mv, t.lv, .int .i64 t.pad, .int .i64 t.ram] 39, boxE b1 #[.int .i64 d.W, .int .i64 d.H, .int .i64 d.T, .int .i64 d.R] 25]) (sub_cons (d := 16) (congrArg some e7.1) (sub_nil _)) (List.sublist_append_right _ _) ?_
            exact (rq_call (by kernel_rfl) rfl (fun w hm => ret_ans (specMuxCount_yes d (by assumption) w)))
          ·
            intro vf pf hR
            have e3 : (vf 3) = .bool false ∧ (pf 3) = [] := hR 3 (by decide)
            have e6 : (vf 6) = .int .i64 (t.mx.length : Int) ∧ (pf 6) = [] := hR 6 (by decide)
            have e8 : (vf 8) = .int .i64 (5 + 4 * d.T) ∧ (pf 8) = [] := hR 8 (by decide)
            refine Or.inl ⟨want_of (congrArg some e3.1) rfl, ?_⟩
            refine rq_less (l' := [boxE b2 #[t.mv, t.lv, .int .i64 t.pad, .int .i64 t.ram] 39, boxE b1 #[.int .i64 d.W, .int .i64 d.H, .int .i64 d.T, .int .i64 d.R] 25]) (sub_cons (d := 15) (congrArg some e6.1) (sub_cons (d := 17) (congrArg some e8.1) (sub_nil _))) (List.sublist_append_right _ _) ?_
            exact rq_mono (rq_v (rv_cmp rfl rfl rfl rfl)) (fun _ _ h => ⟨h.1.trans (congrArg Value.bool hb4), h.2⟩)
          ·
            intro vf pf hR
            have e3 : (vf 3) = .bool false ∧ (pf 3) = [] := hR 3 (by decide)
            have e9 : (vf 9) = .bool false ∧ (pf 9) = [] := hR 9 (by decide)
            refine Or.inl ⟨rfl, ?_⟩
            refine rq_less (l' := [boxE b2 #[t.mv, t.lv, .int .i64 t.pad, .int .i64 t.ram] 39, boxE b1 #[.int .i64 d.W, .int .i64 d.H, .int .i64 d.T, .int .i64 d.R] 25]) (sub_cons (d := 12) (congrArg some e3.1) (sub_cons (d := 18) (congrArg some e9.1) (sub_nil _))) (List.sublist_append_right _ _) ?_
            exact rq_v (rv_ev rfl)
          ·
            intro vf pf hR
            have e10 : (vf 10) = .bool false ∧ (pf 10) = [] := hR 10 (by decide)
            refine Or.inl ⟨rfl, ?_⟩
            refine rq_less (l' := [boxE b2 #[t.mv, t.lv, .int .i64 t.pad, .int .i64 t.ram] 39, boxE b1 #[.int .i64 d.W, .int .i64 d.H, .int .i64 d.T, .int .i64 d.R] 25]) (sub_cons (d := 19) (congrArg some e10.1) (sub_nil _)) (List.sublist_append_right _ _) ?_
            exact rq_v (rv_ev rfl)
          ·
            intro vf pf hR
            have e11 : (vf 11) = .bool false ∧ (pf 11) = [] := hR 11 (by decide)
            refine Or.inl ⟨want_of (congrArg some e11.1) rfl, ?_⟩
            refine rq_less (l' := [boxE b2 #[t.mv, t.lv, .int .i64 t.pad, .int .i64 t.ram] 39, boxE b1 #[.int .i64 d.W, .int .i64 d.H, .int .i64 d.T, .int .i64 d.R] 25]) (sub_cons (d := 3) rfl (sub_nil _)) (List.sublist_append_right _ _) ?_
            exact rq_v (rv_field (k0 := 1) rfl (by kernel_rfl) rfl)
          ·
            intro vf pf hR
            have e11 : (vf 11) = .bool false ∧ (pf 11) = [] := hR 11 (by decide)
            have e12 : (vf 12) = .pointer (some ⟨b2, 0 + 1, none⟩) ∧ (pf 12) = [] := hR 12 (by decide)
            refine Or.inl ⟨want_of (congrArg some e11.1) rfl, ?_⟩
            refine rq_less (l' := [boxE b2 #[t.mv, t.lv, .int .i64 t.pad, .int .i64 t.ram] 39, boxE b1 #[.int .i64 d.W, .int .i64 d.H, .int .i64 d.T, .int .i64 d.R] 25]) (sub_cons (d := 21) (congrArg some e12.1) (sub_nil _)) (List.sublist_append_right _ _) ?_
            exact rq_v (rv_load rfl (by kernel_rfl) rfl (box_cell 0 rfl rfl))
          ·
            intro vf pf hR
            have e11 : (vf 11) = .bool false ∧ (pf 11) = [] := hR 11 (by decide)
            have e13 : (vf 13) = t.lv ∧ (pf 13) = [] := hR 13 (by decide)
            refine Or.inl ⟨want_of (congrArg some e11.1) rfl, ?_⟩
            refine rq_less (l' := [boxE b2 #[t.mv, t.lv, .int .i64 t.pad, .int .i64 t.ram] 39, boxE b1 #[.int .i64 d.W, .int .i64 d.H, .int .i64 d.T, .int .i64 d.R] 25]) (sub_cons (d := 22) (congrArg some e13.1) (sub_nil _)) (List.sublist_append_right _ _) ?_
            exact rq_v (rv_len rfl Try.underlying37 rfl (rd_old ht.lv))
          ·
            intro vf pf hR
            have e11 : (vf 11) = .bool false ∧ (pf 11) = [] := hR 11 (by decide)
            have e14 : (vf 14) = .int .i64 (t.es.length : Int) ∧ (pf 14) = [] := hR 14 (by decide)
            refine Or.inl ⟨want_of (congrArg some e11.1) rfl, ?_⟩
            refine rq_less (l' := [boxE b2 #[t.mv, t.lv, .int .i64 t.pad, .int .i64 t.ram] 39, boxE b1 #[.int .i64 d.W, .int .i64 d.H, .int .i64 d.T, .int .i64 d.R] 25]) (sub_cons (d := 23) (congrArg some e14.1) (sub_nil _)) (List.sublist_append_right _ _) ?_
            exact rq_mono (rq_v (rv_cmp rfl rfl rfl rfl)) (fun _ _ h => ⟨h.1.trans (congrArg Value.bool hb5), h.2⟩)
          ·
            intro vf pf hR
            have e11 : (vf 11) = .bool false ∧ (pf 11) = [] := hR 11 (by decide)
            have e15 : (vf 15) = .bool true ∧ (pf 15) = [] := hR 15 (by decide)
            refine Or.inl ⟨rfl, ?_⟩
            refine rq_less (l' := [boxE b2 #[t.mv, t.lv, .int .i64 t.pad, .int .i64 t.ram] 39, boxE b1 #[.int .i64 d.W, .int .i64 d.H, .int .i64 d.T, .int .i64 d.R] 25]) (sub_cons (d := 20) (congrArg some e11.1) (sub_cons (d := 24) (congrArg some e15.1) (sub_nil _))) (List.sublist_append_right _ _) ?_
            exact rq_v (rv_ev rfl)
          ·
            intro vf pf hR
            have e16 : (vf 16) = .bool true ∧ (pf 16) = [] := hR 16 (by decide)
            refine Or.inl ⟨rfl, ?_⟩
            refine rq_less (l' := [boxE b2 #[t.mv, t.lv, .int .i64 t.pad, .int .i64 t.ram] 39, boxE b1 #[.int .i64 d.W, .int .i64 d.H, .int .i64 d.T, .int .i64 d.R] 25]) (sub_cons (d := 25) (congrArg some e16.1) (sub_nil _)) (List.sublist_append_right _ _) ?_
            exact rq_v (rv_ev rfl)
          ·
            intro vf pf hR
            have e17 : (vf 17) = .bool true ∧ (pf 17) = [] := hR 17 (by decide)
            exact Or.inr ⟨want_of (congrArg some e17.1) rfl, rfl, rfl⟩
          ·
            intro vf pf hR
            have e17 : (vf 17) = .bool true ∧ (pf 17) = [] := hR 17 (by decide)
            exact Or.inr ⟨want_of (congrArg some e17.1) rfl, rfl, rfl⟩
          ·
            intro vf pf hR
            have e17 : (vf 17) = .bool true ∧ (pf 17) = [] := hR 17 (by decide)
            exact Or.inr ⟨want_of (congrArg some e17.1) rfl, rfl, rfl⟩
          ·
            intro vf pf hR
            have e17 : (vf 17) = .bool true ∧ (pf 17) = [] := hR 17 (by decide)
            exact Or.inr ⟨want_of (congrArg some e17.1) rfl, rfl, rfl⟩
          ·
            intro vf pf hR
            have e17 : (vf 17) = .bool true ∧ (pf 17) = [] := hR 17 (by decide)
            have e21 : (vf 21) = undef ∧ (pf 21) = [] := hR 21 (by decide)
            refine Or.inl ⟨rfl, ?_⟩
            refine rq_less (l' := [boxE b2 #[t.mv, t.lv, .int .i64 t.pad, .int .i64 t.ram] 39, boxE b1 #[.int .i64 d.W, .int .i64 d.H, .int .i64 d.T, .int .i64 d.R] 25]) (sub_cons (d := 26) (congrArg some e17.1) (sub_cons (d := 30) (congrArg some e21.1) (sub_nil _))) (List.sublist_append_right _ _) ?_
            exact rq_v (rv_ev rfl)
          ·
            intro vf pf hR
            have e22 : (vf 22) = .bool true ∧ (pf 22) = [] := hR 22 (by decide)
            refine Or.inl ⟨rfl, ?_⟩
            refine rq_less (l' := [boxE b2 #[t.mv, t.lv, .int .i64 t.pad, .int .i64 t.ram] 39, boxE b1 #[.int .i64 d.W, .int .i64 d.H, .int .i64 d.T, .int .i64 d.R] 25]) (sub_cons (d := 31) (congrArg some e22.1) (sub_nil _)) (List.sublist_append_right _ _) ?_
            exact rq_v (rv_ev rfl)
          ·
            intro vf pf hR
            have e23 : (vf 23) = .bool true ∧ (pf 23) = [] := hR 23 (by decide)
            exact Or.inr ⟨want_of (congrArg some e23.1) rfl, rfl, rfl⟩
          ·
            intro vf pf hR
            have e23 : (vf 23) = .bool true ∧ (pf 23) = [] := hR 23 (by decide)
            exact Or.inr ⟨want_of (congrArg some e23.1) rfl, rfl, rfl⟩
          ·
            intro vf pf hR
            have e23 : (vf 23) = .bool true ∧ (pf 23) = [] := hR 23 (by decide)
            exact Or.inr ⟨want_of (congrArg some e23.1) rfl, rfl, rfl⟩
          ·
            intro vf pf hR
            have e23 : (vf 23) = .bool true ∧ (pf 23) = [] := hR 23 (by decide)
            exact Or.inr ⟨want_of (congrArg some e23.1) rfl, rfl, rfl⟩
          ·
            intro vf pf hR
            have e23 : (vf 23) = .bool true ∧ (pf 23) = [] := hR 23 (by decide)
            have e27 : (vf 27) = undef ∧ (pf 27) = [] := hR 27 (by decide)
            refine Or.inl ⟨rfl, ?_⟩
            refine rq_less (l' := [boxE b2 #[t.mv, t.lv, .int .i64 t.pad, .int .i64 t.ram] 39, boxE b1 #[.int .i64 d.W, .int .i64 d.H, .int .i64 d.T, .int .i64 d.R] 25]) (sub_cons (d := 32) (congrArg some e23.1) (sub_cons (d := 36) (congrArg some e27.1) (sub_nil _))) (List.sublist_append_right _ _) ?_
            exact rq_v (rv_ev rfl)
        ·
          intro vf pf hR
          have e28 : (vf 28) = .bool true ∧ (pf 28) = [] := hR 28 (by decide)
          refine hl_less (l' := [boxE b2 #[t.mv, t.lv, .int .i64 t.pad, .int .i64 t.ram] 39, boxE b1 #[.int .i64 d.W, .int .i64 d.H, .int .i64 d.T, .int .i64 d.R] 25]) (sub_cons (d := 0) rfl (sub_cons (d := 1) rfl (sub_cons (d := 2) rfl (sub_cons (d := 3) rfl (sub_cons (d := 4) rfl (sub_cons (d := 37) (congrArg some e28.1) (sub_nil _))))))) (List.sublist_append_right _ _) ?_
          simp only [List.drop_succ_cons, List.drop_zero]
          refine hl_less (sub_cons (d := 0) rfl (sub_cons (d := 1) rfl (sub_cons (d := 2) rfl (sub_cons (d := 3) rfl (sub_cons (d := 4) rfl (sub_cons (d := 37) rfl (sub_nil _))))))) (.refl _) ?_
          refine hl_nil ?_
          refine hq_then ?_
          refine hc_true rfl ?_
          refine hc_seq ?_
          refine hc_region ?_
          refine hl_v rfl rfl rfl (rv_ev rfl) ?_
          refine hl_less (sub_cons (d := 0) rfl (sub_cons (d := 1) rfl (sub_cons (d := 2) rfl (sub_cons (d := 3) rfl (sub_cons (d := 4) rfl (sub_cons (d := 37) rfl (sub_nil _))))))) (.refl _) ?_
          refine hl_nil ?_
          refine hq_then ?_
          refine hc_ret ?_
          refine hq_then_ret ?_
          exact hq_ans rfl rfl (congrArg _ (Bool.eq_false_iff.2 (fun h => by obtain ⟨q1, q2, q3, q4, q5, q6, q7⟩ := (tcOkV_iff d t).1 h; first | omega | (have := q6 j (by omega); omega) | (obtain ⟨r1, r2, r3, r4, r5⟩ := (leOkV_iff _).1 (q7 e (by omega)); first | omega | (have := r5 k (by omega); omega)) | contradiction | simp_all)).symm)
      ·
        have hb5p : (t.es.length : Int) = 2 := by simpa using hb5
        rcases Bool.eq_false_or_eq_true (inR t.pad 0 3) with hb6 | hb6
        ·
          obtain ⟨hb6a, hb6b⟩ := (inR_iff _ _ _).1 hb6
          rcases Bool.eq_false_or_eq_true (inR t.ram 0 31) with hb7 | hb7
          ·
            obtain ⟨hb7a, hb7b⟩ := (inR_iff _ _ _).1 hb7
            refine hc_draw (by kernel_rfl) 29 [0, 1, 2, 3, 4, 5, 6, 7, 8, 9, 10, 11, 12, 13, 14, 15, 16, 17, 18, 19, 20, 21, 22, 23, 24, 25, 26, 27, 28] (List.take 29 _) (List.drop 29 _) [[], [0], [1], [2], [3], [3, 4], [3, 5], [3], [3, 7], [3, 6, 8], [3, 9], [10], [11], [11, 12], [11, 13], [11, 14], [11, 15], [16], [17], [17, 18], [17, 19], [17, 20], [17, 21], [22], [23], [23, 24], [23, 25], [23, 26], [23, 27]] [9, 10, 11, 12, 13, 14, 15, 16, 17, 18, 19, 20, 21, 22, 23, 24, 25, 26, 27, 28, 29, 30, 31, 32, 33, 34, 35, 36, 37] (fun i vs_ v_ p_ => match i with | 0 => v_ = .agg #[.int .i64 d.W, .int .i64 d.H, .int .i64 d.T, .int .i64 d.R] ∧ p_ = [] | 1 => v_ = .bool true ∧ p_ = [] | 2 => v_ = .bool false ∧ p_ = [] | 3 => v_ = .bool false ∧ p_ = [] | 4 => v_ = .pointer (some ⟨b2, 0 + 0, none⟩) ∧ p_ = [] | 5 => v_ = t.mv ∧ p_ = [] | 6 => v_ = .int .i64 (t.mx.length : Int) ∧ p_ = [] | 7 => v_ = .agg #[.int .i64 d.W, .int .i64 d.H, .int .i64 d.T, .int .i64 d.R] ∧ p_ = [] | 8 => v_ = .int .i64 (5 + 4 * d.T) ∧ p_ = [] | 9 => v_ = .bool false ∧ p_ = [] | 10 => v_ = .bool false ∧ p_ = [] | 11 => v_ = .bool false ∧ p_ = [] | 12 => v_ = .pointer (some ⟨b2, 0 + 1, none⟩) ∧ p_ = [] | 13 => v_ = t.lv ∧ p_ = [] | 14 => v_ = .int .i64 (t.es.length : Int) ∧ p_ = [] | 15 => v_ = .bool false ∧ p_ = [] | 16 => v_ = .bool false ∧ p_ = [] | 17 => v_ = .bool false ∧ p_ = [] | 18 => v_ = .pointer (some ⟨b2, 0 + 2, none⟩) ∧ p_ = [] | 19 => v_ = .int .i64 t.pad ∧ p_ = [] | 20 => v_ = .bool true ∧ p_ = [] | 21 => v_ = .bool false ∧ p_ = [] | 22 => v_ = .bool false ∧ p_ = [] | 23 => v_ = .bool false ∧ p_ = [] | 24 => v_ = .pointer (some ⟨b2, 0 + 3, none⟩) ∧ p_ = [] | 25 => v_ = .int .i64 t.ram ∧ p_ = [] | 26 => v_ = .bool true ∧ p_ = [] | 27 => v_ = .bool false ∧ p_ = [] | 28 => v_ = .bool false ∧ p_ = [] | _ => True) (List.take_append_drop 29 _).symm (by kernel_rfl) (by kernel_rfl) rfl rfl ?_ ?_
            ·
              refine ⟨?_, ?_, ?_, ?_, ?_, ?_, ?_, ?_, ?_, ?_, ?_, ?_, ?_, ?_, ?_, ?_, ?_, ?_, ?_, ?_, ?_, ?_, ?_, ?_, ?_, ?_, ?_, ?_, ?_, trivial⟩
              ·
                intro vf pf hR
                refine Or.inl ⟨rfl, ?_⟩
                refine rq_less (l' := [boxE b2 #[t.mv, t.lv, .int .i64 t.pad, .int .i64 t.ram] 39, boxE b1 #[.int .i64 d.W, .int .i64 d.H, .int .i64 d.T, .int .i64 d.R] 25]) (sub_cons (d := 2) rfl (sub_nil _)) (List.sublist_append_right _ _) ?_
                exact rq_v (rv_loadN (cs := [.int .i64 d.W, .int .i64 d.H, .int .i64 d.T, .int .i64 d.R]) rfl (by kernel_rfl) (by kernel_rfl) rfl rfl (box_part 1 rfl 0 rfl))
              ·
                intro vf pf hR
                have e0 : (vf 0) = .agg #[.int .i64 d.W, .int .i64 d.H, .int .i64 d.T, .int .i64 d.R] ∧ (pf 0) = [] := hR 0 (by decide)
                refine Or.inl ⟨rfl, ?_⟩
                refine rq_less (l' := [boxE b2 #[t.mv, t.lv, .int .i64 t.pad, .int .i64 t.ram] 39, boxE b1 #[.int .i64 d.W, .int .i64 d.H, .int .i64 d.T, .int .i64 d.R] 25]) (sub_cons (d := 9) (congrArg some e0.1) (sub_nil _)) (List.sublist_append_right _ _) ?_
                exact rq_mono (rq_call (by kernel_rfl) rfl (fun w hm => ret_ans (specDeviceOk_any d w))) (fun _ _ h => ⟨h.1.trans (congrArg Value.bool hb3), h.2⟩)
              ·
                intro vf pf hR
                have e1 : (vf 1) = .bool true ∧ (pf 1) = [] := hR 1 (by decide)
                refine Or.inl ⟨rfl, ?_⟩
                refine rq_less (l' := [boxE b2 #[t.mv, t.lv, .int .i64 t.pad, .int .i64 t.ram] 39, boxE b1 #[.int .i64 d.W, .int .i64 d.H, .int .i64 d.T, .int .i64 d.R] 25]) (sub_cons (d := 10) (congrArg some e1.1) (sub_nil _)) (List.sublist_append_right _ _) ?_
                exact rq_v (rv_ev rfl)
              ·
                intro vf pf hR
                have e2 : (vf 2) = .bool false ∧ (pf 2) = [] := hR 2 (by decide)
                refine Or.inl ⟨rfl, ?_⟩
                refine rq_less (l' := [boxE b2 #[t.mv, t.lv, .int .i64 t.pad, .int .i64 t.ram] 39, boxE b1 #[.int .i64 d.W, .int .i64 d.H, .int .i64 d.T, .int .i64 d.R] 25]) (sub_cons (d := 11) (congrArg some e2.1) (sub_nil _)) (List.sublist_append_right _ _) ?_
                exact rq_v (rv_ev rfl)
              ·
                intro vf pf hR
                have e3 : (vf 3) = .bool false ∧ (pf 3) = [] := hR 3 (by decide)
                refine Or.inl ⟨want_of (congrArg some e3.1) rfl, ?_⟩
                refine rq_less (l' := [boxE b2 #[t.mv, t.lv, .int .i64 t.pad, .int .i64 t.ram] 39, boxE b1 #[.int .i64 d.W, .int .i64 d.H, .int .i64 d.T, .int .i64 d.R] 25]) (sub_cons (d := 3) rfl (sub_nil _)) (List.sublist_append_right _ _) ?_
                exact rq_v (rv_field (k0 := 0) rfl (by kernel_rfl) rfl)
              ·
                intro vf pf hR
                have e3 : (vf 3) = .bool false ∧ (pf 3) = [] := hR 3 (by decide)
                have e4 : (vf 4) = .pointer (some ⟨b2, 0 + 0, none⟩) ∧ (pf 4) = [] := hR 4 (by decide)
                refine Or.inl ⟨want_of (congrArg some e3.1) rfl, ?_⟩
                refine rq_less (l' := [boxE b2 #[t.mv, t.lv, .int .i64 t.pad, .int .i64 t.ram] 39, boxE b1 #[.int .i64 d.W, .int .i64 d.H, .int .i64 d.T, .int .i64 d.R] 25]) (sub_cons (d := 13) (congrArg some e4.1) (sub_nil _)) (List.sublist_append_right _ _) ?_
                exact rq_v (rv_load rfl (by kernel_rfl) rfl (box_cell 0 rfl rfl))
              ·
                intro vf pf hR
                have e3 : (vf 3) = .bool false ∧ (pf 3) = [] := hR 3 (by decide)
                have e5 : (vf 5) = t.mv ∧ (pf 5) = [] := hR 5 (by decide)
                refine Or.inl ⟨want_of (congrArg some e3.1) rfl, ?_⟩
                refine rq_less (l' := [boxE b2 #[t.mv, t.lv, .int .i64 t.pad, .int .i64 t.ram] 39, boxE b1 #[.int .i64 d.W, .int .i64 d.H, .int .i64 d.T, .int .i64 d.R] 25]) (sub_cons (d := 14) (congrArg some e5.1) (sub_nil _)) (List.sublist_append_right _ _) ?_
                exact rq_v (rv_len rfl Try.underlying30 rfl (rd_old ht.mx))
              ·
                intro vf pf hR
                have e3 : (vf 3) = .bool false ∧ (pf 3) = [] := hR 3 (by decide)
                refine Or.inl ⟨want_of (congrArg some e3.1) rfl, ?_⟩
                refine rq_less (l' := [boxE b2 #[t.mv, t.lv, .int .i64 t.pad, .int .i64 t.ram] 39, boxE b1 #[.int .i64 d.W, .int .i64 d.H, .int .i64 d.T, .int .i64 d.R] 25]) (sub_cons (d := 2) rfl (sub_nil _)) (List.sublist_append_right _ _) ?_
                exact rq_v (rv_loadN (cs := [.int .i64 d.W, .int .i64 d.H, .int .i64 d.T, .int .i64 d.R]) rfl (by kernel_rfl) (by kernel_rfl) rfl rfl (box_part 1 rfl 0 rfl))
              ·
                intro vf pf hR
                have e3 : (vf 3) = .bool false ∧ (pf 3) = [] := hR 3 (by decide)
                have e7 : (vf 7) = .agg #[.int .i64 d.W, .int .i64 d.H, .int .i64 d.T, .int .i64 d.R] ∧ (pf 7) = [] := hR 7 (by decide)
                refine Or.inl ⟨want_of (congrArg some e3.1) rfl, ?_⟩
                refine rq_less (l' := [boxE b2 #[t.mv, t.lv, .int .i64 t.pad, .int .i64 t.ram] 39, boxE b1 #[.int .i64 d.W, .int .i64 d.H, .int .i64 d.T, .int .i64 d.R] 25]) (sub_cons (d := 16) (congrArg some e7.1) (sub_nil _)) (List.sublist_append_right _ _) ?_
                exact (rq_call (by kernel_rfl) rfl (fun w hm => ret_ans (specMuxCount_yes d (by assumption) w)))
              ·
                intro vf pf hR
                have e3 : (vf 3) = .bool false ∧ (pf 3) = [] := hR 3 (by decide)
                have e6 : (vf 6) = .int .i64 (t.mx.length : Int) ∧ (pf 6) = [] := hR 6 (by decide)
                have e8 : (vf 8) = .int .i64 (5 + 4 * d.T) ∧ (pf 8) = [] := hR 8 (by decide)
                refine Or.inl ⟨want_of (congrArg some e3.1) rfl, ?_⟩
                refine rq_less (l' := [boxE b2 #[t.mv, t.lv, .int .i64 t.pad, .int .i64 t.ram] 39, boxE b1 #[.int .i64 d.W, .int .i64 d.H, .int .i64 d.T, .int .i64 d.R] 25]) (sub_cons (d := 15) (congrArg some e6.1) (sub_cons (d := 17) (congrArg some e8.1) (sub_nil _))) (List.sublist_append_right _ _) ?_
                exact rq_mono (rq_v (rv_cmp rfl rfl rfl rfl)) (fun _ _ h => ⟨h.1.trans (congrArg Value.bool hb4), h.2⟩)
              ·
                intro vf pf hR
                have e3 : (vf 3) = .bool false ∧ (pf 3) = [] := hR 3 (by decide)
                have e9 : (vf 9) = .bool false ∧ (pf 9) = [] := hR 9 (by decide)
                refine Or.inl ⟨rfl, ?_⟩
                refine rq_less (l' := [boxE b2 #[t.mv, t.lv, .int .i64 t.pad, .int .i64 t.ram] 39, boxE b1 #[.int .i64 d.W, .int .i64 d.H, .int .i64 d.T, .int .i64 d.R] 25]) (sub_cons (d := 12) (congrArg some e3.1) (sub_cons (d := 18) (congrArg some e9.1) (sub_nil _))) (List.sublist_append_right _ _) ?_
                exact rq_v (rv_ev rfl)
              ·
                intro vf pf hR
                have e10 : (vf 10) = .bool false ∧ (pf 10) = [] := hR 10 (by decide)
                refine Or.inl ⟨rfl, ?_⟩
                refine rq_less (l' := [boxE b2 #[t.mv, t.lv, .int .i64 t.pad, .int .i64 t.ram] 39, boxE b1 #[.int .i64 d.W, .int .i64 d.H, .int .i64 d.T, .int .i64 d.R] 25]) (sub_cons (d := 19) (congrArg some e10.1) (sub_nil _)) (List.sublist_append_right _ _) ?_
                exact rq_v (rv_ev rfl)
              ·
                intro vf pf hR
                have e11 : (vf 11) = .bool false ∧ (pf 11) = [] := hR 11 (by decide)
                refine Or.inl ⟨want_of (congrArg some e11.1) rfl, ?_⟩
                refine rq_less (l' := [boxE b2 #[t.mv, t.lv, .int .i64 t.pad, .int .i64 t.ram] 39, boxE b1 #[.int .i64 d.W, .int .i64 d.H, .int .i64 d.T, .int .i64 d.R] 25]) (sub_cons (d := 3) rfl (sub_nil _)) (List.sublist_append_right _ _) ?_
                exact rq_v (rv_field (k0 := 1) rfl (by kernel_rfl) rfl)
              ·
                intro vf pf hR
                have e11 : (vf 11) = .bool false ∧ (pf 11) = [] := hR 11 (by decide)
                have e12 : (vf 12) = .pointer (some ⟨b2, 0 + 1, none⟩) ∧ (pf 12) = [] := hR 12 (by decide)
                refine Or.inl ⟨want_of (congrArg some e11.1) rfl, ?_⟩
                refine rq_less (l' := [boxE b2 #[t.mv, t.lv, .int .i64 t.pad, .int .i64 t.ram] 39, boxE b1 #[.int .i64 d.W, .int .i64 d.H, .int .i64 d.T, .int .i64 d.R] 25]) (sub_cons (d := 21) (congrArg some e12.1) (sub_nil _)) (List.sublist_append_right _ _) ?_
                exact rq_v (rv_load rfl (by kernel_rfl) rfl (box_cell 0 rfl rfl))
              ·
                intro vf pf hR
                have e11 : (vf 11) = .bool false ∧ (pf 11) = [] := hR 11 (by decide)
                have e13 : (vf 13) = t.lv ∧ (pf 13) = [] := hR 13 (by decide)
                refine Or.inl ⟨want_of (congrArg some e11.1) rfl, ?_⟩
                refine rq_less (l' := [boxE b2 #[t.mv, t.lv, .int .i64 t.pad, .int .i64 t.ram] 39, boxE b1 #[.int .i64 d.W, .int .i64 d.H, .int .i64 d.T, .int .i64 d.R] 25]) (sub_cons (d := 22) (congrArg some e13.1) (sub_nil _)) (List.sublist_append_right _ _) ?_
                exact rq_v (rv_len rfl Try.underlying37 rfl (rd_old ht.lv))
              ·
                intro vf pf hR
                have e11 : (vf 11) = .bool false ∧ (pf 11) = [] := hR 11 (by decide)
                have e14 : (vf 14) = .int .i64 (t.es.length : Int) ∧ (pf 14) = [] := hR 14 (by decide)
                refine Or.inl ⟨want_of (congrArg some e11.1) rfl, ?_⟩
                refine rq_less (l' := [boxE b2 #[t.mv, t.lv, .int .i64 t.pad, .int .i64 t.ram] 39, boxE b1 #[.int .i64 d.W, .int .i64 d.H, .int .i64 d.T, .int .i64 d.R] 25]) (sub_cons (d := 23) (congrArg some e14.1) (sub_nil _)) (List.sublist_append_right _ _) ?_
                exact rq_mono (rq_v (rv_cmp rfl rfl rfl rfl)) (fun _ _ h => ⟨h.1.trans (congrArg Value.bool hb5), h.2⟩)
              ·
                intro vf pf hR
                have e11 : (vf 11) = .bool false ∧ (pf 11) = [] := hR 11 (by decide)
                have e15 : (vf 15) = .bool false ∧ (pf 15) = [] := hR 15 (by decide)
                refine Or.inl ⟨rfl, ?_⟩
                refine rq_less (l' := [boxE b2 #[t.mv, t.lv, .int .i64 t.pad, .int .i64 t.ram] 39, boxE b1 #[.int .i64 d.W, .int .i64 d.H, .int .i64 d.T, .int .i64 d.R] 25]) (sub_cons (d := 20) (congrArg some e11.1) (sub_cons (d := 24) (congrArg some e15.1) (sub_nil _))) (List.sublist_append_right _ _) ?_
                exact rq_v (rv_ev rfl)
              ·
                intro vf pf hR
                have e16 : (vf 16) = .bool false ∧ (pf 16) = [] := hR 16 (by decide)
                refine Or.inl ⟨rfl, ?_⟩
                refine rq_less (l' := [boxE b2 #[t.mv, t.lv, .int .i64 t.pad, .int .i64 t.ram] 39, boxE b1 #[.int .i64 d.W, .int .i64 d.H, .int .i64 d.T, .int .i64 d.R] 25]) (sub_cons (d := 25) (congrArg some e16.1) (sub_nil _)) (List.sublist_append_right _ _) ?_
                exact rq_v (rv_ev rfl)
              ·
                intro vf pf hR
                have e17 : (vf 17) = .bool false ∧ (pf 17) = [] := hR 17 (by decide)
                refine Or.inl ⟨want_of (congrArg some e17.1) rfl, ?_⟩
                refine rq_less (l' := [boxE b2 #[t.mv, t.lv, .int .i64 t.pad, .int .i64 t.ram] 39, boxE b1 #[.int .i64 d.W, .int .i64 d.H, .int .i64 d.T, .int .i64 d.R] 25]) (sub_cons (d := 3) rfl (sub_nil _)) (List.sublist_append_right _ _) ?_
                exact rq_v (rv_field (k0 := 2) rfl (by kernel_rfl) rfl)
              ·
                intro vf pf hR
                have e17 : (vf 17) = .bool false ∧ (pf 17) = [] := hR 17 (by decide)
                have e18 : (vf 18) = .pointer (some ⟨b2, 0 + 2, none⟩) ∧ (pf 18) = [] := hR 18 (by decide)
                refine Or.inl ⟨want_of (congrArg some e17.1) rfl, ?_⟩
                refine rq_less (l' := [boxE b2 #[t.mv, t.lv, .int .i64 t.pad, .int .i64 t.ram] 39, boxE b1 #[.int .i64 d.W, .int .i64 d.H, .int .i64 d.T, .int .i64 d.R] 25]) (sub_cons (d := 27) (congrArg some e18.1) (sub_nil _)) (List.sublist_append_right _ _) ?_
                exact rq_v (rv_load rfl (by kernel_rfl) rfl (box_cell 0 rfl rfl))
              ·
                intro vf pf hR
                have e17 : (vf 17) = .bool false ∧ (pf 17) = [] := hR 17 (by decide)
                have e19 : (vf 19) = .int .i64 t.pad ∧ (pf 19) = [] := hR 19 (by decide)
                refine Or.inl ⟨want_of (congrArg some e17.1) rfl, ?_⟩
                refine rq_less (l' := [boxE b2 #[t.mv, t.lv, .int .i64 t.pad, .int .i64 t.ram] 39, boxE b1 #[.int .i64 d.W, .int .i64 d.H, .int .i64 d.T, .int .i64 d.R] 25]) (sub_cons (d := 28) (congrArg some e19.1) (sub_nil _)) (List.sublist_append_right _ _) ?_
                exact rq_mono (rq_call (by kernel_rfl) rfl (fun w hm => ret_ans (ans_of (l01In_any _ _ _ w)))) (fun _ _ h => ⟨h.1.trans (congrArg Value.bool hb6), h.2⟩)
              ·
                intro vf pf hR
                have e17 : (vf 17) = .bool false ∧ (pf 17) = [] := hR 17 (by decide)
                have e20 : (vf 20) = .bool true ∧ (pf 20) = [] := hR 20 (by decide)
                refine Or.inl ⟨want_of (congrArg some e17.1) rfl, ?_⟩
                refine rq_less (l' := [boxE b2 #[t.mv, t.lv, .int .i64 t.pad, .int .i64 t.ram] 39, boxE b1 #[.int .i64 d.W, .int .i64 d.H, .int .i64 d.T, .int .i64 d.R] 25]) (sub_cons (d := 29) (congrArg some e20.1) (sub_nil _)) (List.sublist_append_right _ _) ?_
                exact rq_v (rv_ev rfl)
              ·
                intro vf pf hR
                have e17 : (vf 17) = .bool false ∧ (pf 17) = [] := hR 17 (by decide)
                have e21 : (vf 21) = .bool false ∧ (pf 21) = [] := hR 21 (by decide)
                refine Or.inl ⟨rfl, ?_⟩
                refine rq_less (l' := [boxE b2 #[t.mv, t.lv, .int .i64 t.pad, .int .i64 t.ram] 39, boxE b1 #[.int .i64 d.W, .int .i64 d.H, .int .i64 d.T, .int .i64 d.R] 25]) (sub_cons (d := 26) (congrArg some e17.1) (sub_cons (d := 30) (congrArg some e21.1) (sub_nil _))) (List.sublist_append_right _ _) ?_
                exact rq_v (rv_ev rfl)
              ·
                intro vf pf hR
                have e22 : (vf 22) = .bool false ∧ (pf 22) = [] := hR 22 (by decide)
                refine Or.inl ⟨rfl, ?_⟩
                refine rq_less (l' := [boxE b2 #[t.mv, t.lv, .int .i64 t.pad, .int .i64 t.ram] 39, boxE b1 #[.int .i64 d.W, .int .i64 d.H, .int .i64 d.T, .int .i64 d.R] 25]) (sub_cons (d := 31) (congrArg some e22.1) (sub_nil _)) (List.sublist_append_right _ _) ?_
                exact rq_v (rv_ev rfl)
              ·
                intro vf pf hR
                have e23 : (vf 23) = .bool false ∧ (pf 23) = [] := hR 23 (by decide)
                refine Or.inl ⟨want_of (congrArg some e23.1) rfl, ?_⟩
                refine rq_less (l' := [boxE b2 #[t.mv, t.lv, .int .i64 t.pad, .int .i64 t.ram] 39, boxE b1 #[.int .i64 d.W, .int .i64 d.H, .int .i64 d.T, .int .i64 d.R] 25]) (sub_cons (d := 3) rfl (sub_nil _)) (List.sublist_append_right _ _) ?_
                exact rq_v (rv_field (k0 := 3) rfl (by kernel_rfl) rfl)
              ·
                intro vf pf hR
                have e23 : (vf 23) = .bool false ∧ (pf 23) = [] := hR 23 (by decide)
                have e24 : (vf 24) = .pointer (some ⟨b2, 0 + 3, none⟩) ∧ (pf 24) = [] := hR 24 (by decide)
                refine Or.inl ⟨want_of (congrArg some e23.1) rfl, ?_⟩
                refine rq_less (l' := [boxE b2 #[t.mv, t.lv, .int .i64 t.pad, .int .i64 t.ram] 39, boxE b1 #[.int .i64 d.W, .int .i64 d.H, .int .i64 d.T, .int .i64 d.R] 25]) (sub_cons (d := 33) (congrArg some e24.1) (sub_nil _)) (List.sublist_append_right _ _) ?_
                exact rq_v (rv_load rfl (by kernel_rfl) rfl (box_cell 0 rfl rfl))
              ·
                intro vf pf hR
                have e23 : (vf 23) = .bool false ∧ (pf 23) = [] := hR 23 (by decide)
                have e25 : (vf 25) = .int .i64 t.ram ∧ (pf 25) = [] := hR 25 (by decide)
                refine Or.inl ⟨want_of (congrArg some e23.1) rfl, ?_⟩
                refine rq_less (l' := [boxE b2 #[t.mv, t.lv, .int .i64 t.pad, .int .i64 t.ram] 39, boxE b1 #[.int .i64 d.W, .int .i64 d.H, .int .i64 d.T, .int .i64 d.R] 25]) (sub_cons (d := 34) (congrArg some e25.1) (sub_nil _)) (List.sublist_append_right _ _) ?_
                exact rq_mono (rq_call (by kernel_rfl) rfl (fun w hm => ret_ans (ans_of (l01In_any _ _ _ w)))) (fun _ _ h => ⟨h.1.trans (congrArg Value.bool hb7), h.2⟩)
              ·
                intro vf pf hR
                have e23 : (vf 23) = .bool false ∧ (pf 23) = [] := hR 23 (by decide)
                have e26 : (vf 26) = .bool true ∧ (pf 26) = [] := hR 26 (by decide)
                refine Or.inl ⟨want_of (congrArg some e23.1) rfl, ?_⟩
                refine rq_less (l' := [boxE b2 #[t.mv, t.lv, .int .i64 t.pad, .int .i64 t.ram] 39, boxE b1 #[.int .i64 d.W, .int .i64 d.H, .int .i64 d.T, .int .i64 d.R] 25]) (sub_cons (d := 35) (congrArg some e26.1) (sub_nil _)) (List.sublist_append_right _ _) ?_
                exact rq_v (rv_ev rfl)
              ·
                intro vf pf hR
                have e23 : (vf 23) = .bool false ∧ (pf 23) = [] := hR 23 (by decide)
                have e27 : (vf 27) = .bool false ∧ (pf 27) = [] := hR 27 (by decide)
                refine Or.inl ⟨rfl, ?_⟩
                refine rq_less (l' := [boxE b2 #[t.mv, t.lv, .int .i64 t.pad, .int .i64 t.ram] 39, boxE b1 #[.int .i64 d.W, .int .i64 d.H, .int .i64 d.T, .int .i64 d.R] 25]) (sub_cons (d := 32) (congrArg some e23.1) (sub_cons (d := 36) (congrArg some e27.1) (sub_nil _))) (List.sublist_append_right _ _) ?_
                exact rq_v (rv_ev rfl)
            ·
              intro vf pf hR
              have e28 : (vf 28) = .bool false ∧ (pf 28) = [] := hR 28 (by decide)
              refine hl_less (l' := [boxE b2 #[t.mv, t.lv, .int .i64 t.pad, .int .i64 t.ram] 39, boxE b1 #[.int .i64 d.W, .int .i64 d.H, .int .i64 d.T, .int .i64 d.R] 25]) (sub_cons (d := 0) rfl (sub_cons (d := 1) rfl (sub_cons (d := 2) rfl (sub_cons (d := 3) rfl (sub_cons (d := 4) rfl (sub_cons (d := 37) (congrArg some e28.1) (sub_nil _))))))) (List.sublist_append_right _ _) ?_
              simp only [List.drop_succ_cons, List.drop_zero]
              refine hl_less (sub_cons (d := 0) rfl (sub_cons (d := 1) rfl (sub_cons (d := 2) rfl (sub_cons (d := 3) rfl (sub_cons (d := 4) rfl (sub_cons (d := 37) rfl (sub_nil _))))))) (.refl _) ?_
              refine hl_nil ?_
              refine hq_then ?_
              refine hc_false rfl ?_
              refine hc_skip ?_
              refine hq_then ?_
              refine hc_seq ?_
              refine hc_seq ?_
              refine hc_region ?_
              refine hl_v rfl rfl rfl (rv_ev rfl) ?_
              refine hl_less (sub_cons (d := 0) rfl (sub_cons (d := 1) rfl (sub_cons (d := 2) rfl (sub_cons (d := 3) rfl (sub_cons (d := 4) rfl (sub_cons (d := 5) rfl (sub_cons (d := 37) rfl (sub_nil _)))))))) (.refl _) ?_
              refine hl_nil ?_
              refine hq_then ?_
              refine hc_block ?_
              refine hc_loop1 (α := Nat) (fun j => [boxE b2 #[t.mv, t.lv, .int .i64 t.pad, .int .i64 t.ram] 39, boxE b1 #[.int .i64 d.W, .int .i64 d.H, .int .i64 d.T, .int .i64 d.R] 25]) (fun j => [(0, .agg #[.int .i64 d.W, .int .i64 d.H, .int .i64 d.T, .int .i64 d.R]), (1, .agg #[t.mv, t.lv, .int .i64 t.pad, .int .i64 t.ram]), (2, .pointer (some ⟨b1, 0, none⟩)), (3, .pointer (some ⟨b2, 0, none⟩)), (4, .bool false), (5, .int .i64 (j : Int)), (37, .bool false)]) (fun j => j ≤ t.mx.length ∧ ∀ i, i < j → 0 ≤ t.mx.getD i 0 ∧ t.mx.getD i 0 ≤ 31) (fun j => t.mx.length - j) 0 ⟨by omega, fun i hi => absurd hi (by omega)⟩ (sub_cons (d := 0) rfl (sub_cons (d := 1) rfl (sub_cons (d := 2) rfl (sub_cons (d := 3) rfl (sub_cons (d := 4) rfl (sub_cons (d := 5) rfl (sub_cons (d := 37) rfl (sub_nil _)))))))) ((.cons_cons _ (.cons_cons _ .slnil))) ?_
              intro j hi8
              obtain ⟨hk1, hk2⟩ := hi8
              refine hc_seq ?_
              refine hc_seq ?_
              refine hc_region ?_
              refine hl_v rfl rfl rfl (rv_ev rfl) ?_
              refine hl_v rfl rfl rfl (rv_field (k0 := 0) rfl (by kernel_rfl) rfl) ?_
              refine hl_v rfl rfl rfl (rv_load rfl (by kernel_rfl) rfl (box_cell 0 rfl rfl)) ?_
              refine hl_v rfl rfl rfl (rv_len rfl Try.underlying30 rfl (rd_old ht.mx)) ?_
              refine hl_lss rfl rfl rfl rfl rfl rfl (fun h9 => ?_) (fun h9 => ?_)
              ·
                refine hl_less (sub_cons (d := 0) rfl (sub_cons (d := 1) rfl (sub_cons (d := 2) rfl (sub_cons (d := 3) rfl (sub_cons (d := 4) rfl (sub_cons (d := 5) rfl (sub_cons (d := 37) rfl (sub_cons (d := 42) rfl (sub_nil _))))))))) (.refl _) ?_
                refine hl_nil ?_
                refine hq_then ?_
                refine hc_true rfl ?_
                refine hc_skip ?_
                refine hq_then ?_
                refine hc_seq ?_
                refine hc_block ?_
                refine hc_seq ?_
                refine hc_region ?_
                refine hl_v rfl rfl rfl (rv_field (k0 := 0) rfl (by kernel_rfl) rfl) ?_
                refine hl_v rfl rfl rfl (rv_load rfl (by kernel_rfl) rfl (box_cell 0 rfl rfl)) ?_
                refine hl_v rfl rfl rfl (rv_ev rfl) ?_
                refine hl_v rfl rfl rfl (rv_index (s := 1) rfl Try.underlying30 (by kernel_rfl) rfl rfl (rd_old ht.mx) (by omega) (by first | omega | (simp only [List.length_set]; omega))) ?_
                refine hl_v rfl rfl rfl (rv_loadEl (u := .int .i64 (t.mx.getD j 0)) rfl (by kernel_rfl) rfl (rd_old ht.mx) (ints_at1 (show _ < t.mx.length by first | omega | (simp only [List.length_set]; omega)))) ?_
                refine hl_callV rfl rfl rfl (rq_call (by kernel_rfl) rfl (fun w hm => ret_ans (ans_of (l01In_any _ _ _ w)))) ?_
                refine hl_bool (fun h10 => ?_) (fun h10 => ?_)
                ·
                  obtain ⟨h10a, h10b⟩ := (inR_iff _ _ _).1 h10
                  refine hl_v rfl rfl rfl (rv_ev rfl) ?_
                  refine hl_less (sub_cons (d := 0) rfl (sub_cons (d := 1) rfl (sub_cons (d := 2) rfl (sub_cons (d := 3) rfl (sub_cons (d := 4) rfl (sub_cons (d := 5) rfl (sub_cons (d := 37) rfl (sub_cons (d := 42) rfl (sub_cons (d := 51) rfl (sub_nil _)))))))))) (.refl _) ?_
                  refine hl_nil ?_
                  refine hq_then ?_
                  refine hc_false rfl ?_
                  refine hc_skip ?_
                  refine hq_block_normal ?_
                  refine hq_then ?_
                  refine hc_region ?_
                  refine hl_v rfl rfl rfl (rv_ev rfl) ?_
                  refine hl_v rfl rfl rfl (rv_add rfl rfl rfl (by constructor <;> omega)) ?_
                  refine hl_v rfl rfl rfl (rv_ev rfl) ?_
                  refine hl_less (sub_cons (d := 0) rfl (sub_cons (d := 1) rfl (sub_cons (d := 2) rfl (sub_cons (d := 3) rfl (sub_cons (d := 4) rfl (sub_cons (d := 5) rfl (sub_cons (d := 37) rfl (sub_cons (d := 42) rfl (sub_cons (d := 51) rfl (sub_nil _)))))))))) (.refl _) ?_
                  refine hl_nil ?_
                  exact hq_round1 (j + 1) ⟨by omega, fun i hi => by by_cases hij : i = j; (subst hij; omega); exact hk2 i (by omega)⟩ (by omega) (sub_cons (d := 0) rfl (sub_cons (d := 1) rfl (sub_cons (d := 2) rfl (sub_cons (d := 3) rfl (sub_cons (d := 4) rfl (sub_cons (d := 5) rfl (sub_cons (d := 37) rfl (sub_nil _)))))))) ((.cons_cons _ (.cons_cons _ .slnil)))
                ·
                  have h10a := inR_nah h10
                  refine hl_v rfl rfl rfl (rv_ev rfl) ?_
                  refine hl_less (sub_cons (d := 0) rfl (sub_cons (d := 1) rfl (sub_cons (d := 2) rfl (sub_cons (d := 3) rfl (sub_cons (d := 4) rfl (sub_cons (d := 5) rfl (sub_cons (d := 37) rfl (sub_cons (d := 42) rfl (sub_cons (d := 51) rfl (sub_nil _)))))))))) (.refl _) ?_
                  refine hl_nil ?_
                  refine hq_then ?_
                  refine hc_true rfl ?_
                  refine hc_seq ?_
                  refine hc_region ?_
                  refine hl_v rfl rfl rfl (rv_ev rfl) ?_
                  refine hl_less (sub_cons (d := 0) rfl (sub_cons (d := 1) rfl (sub_cons (d := 2) rfl (sub_cons (d := 3) rfl (sub_cons (d := 4) rfl (sub_cons (d := 5) rfl (sub_cons (d := 37) rfl (sub_cons (d := 42) rfl (sub_cons (d := 51) rfl (sub_nil _)))))))))) (.refl _) ?_
                  refine hl_nil ?_
                  refine hq_then ?_
                  refine hc_ret ?_
                  refine hq_block_ret ?_
                  refine hq_then_ret ?_
                  refine hq_then_ret ?_
                  refine hq_block_ret ?_
                  refine hq_then_ret ?_
                  exact hq_ans rfl rfl (congrArg _ (Bool.eq_false_iff.2 (fun h => by obtain ⟨q1, q2, q3, q4, q5, q6, q7⟩ := (tcOkV_iff d t).1 h; first | omega | (have := q6 j (by omega); omega) | (obtain ⟨r1, r2, r3, r4, r5⟩ := (leOkV_iff _).1 (q7 e (by omega)); first | omega | (have := r5 k (by omega); omega)) | contradiction | simp_all)).symm)
              ·
                refine hl_less (sub_cons (d := 0) rfl (sub_cons (d := 1) rfl (sub_cons (d := 2) rfl (sub_cons (d := 3) rfl (sub_cons (d := 4) rfl (sub_cons (d := 5) rfl (sub_cons (d := 37) rfl (sub_cons (d := 42) rfl (sub_nil _))))))))) (.refl _) ?_
                refine hl_nil ?_
                refine hq_then ?_
                refine hc_false rfl ?_
                refine hc_exit ?_
                refine hq_then_exit ?_
                refine hq_then_exit ?_
                refine hq_block_exit ?_
                refine hq_then ?_
                refine hc_seq ?_
                refine hc_seq ?_
                refine hc_region ?_
                refine hl_v rfl rfl rfl (rv_ev rfl) ?_
                refine hl_less (sub_cons (d := 0) rfl (sub_cons (d := 1) rfl (sub_cons (d := 2) rfl (sub_cons (d := 3) rfl (sub_cons (d := 4) rfl (sub_cons (d := 5) rfl (sub_cons (d := 6) rfl (sub_cons (d := 37) rfl (sub_cons (d := 42) rfl (sub_nil _)))))))))) (.refl _) ?_
                refine hl_nil ?_
                refine hq_then ?_
                refine hc_block ?_
                have hmx : ∀ i, i < t.mx.length → 0 ≤ t.mx.getD i 0 ∧ t.mx.getD i 0 ≤ 31 := fun i hi => hk2 i (by omega)
                refine hc_loop1 (α := Nat) (fun e => [boxE b2 #[t.mv, t.lv, .int .i64 t.pad, .int .i64 t.ram] 39, boxE b1 #[.int .i64 d.W, .int .i64 d.H, .int .i64 d.T, .int .i64 d.R] 25]) (fun e => [(0, .agg #[.int .i64 d.W, .int .i64 d.H, .int .i64 d.T, .int .i64 d.R]), (1, .agg #[t.mv, t.lv, .int .i64 t.pad, .int .i64 t.ram]), (2, .pointer (some ⟨b1, 0, none⟩)), (3, .pointer (some ⟨b2, 0, none⟩)), (4, .bool false), (5, .int .i64 (j : Int)), (6, .int .i64 (e : Int)), (37, .bool false), (42, .bool false)]) (fun e => e ≤ 2 ∧ ∀ i, i < e → leOkV (t.es.getD i Le0).val = true) (fun e => 2 - e) 0 ⟨by omega, fun i hi => absurd hi (by omega)⟩ (sub_cons (d := 0) rfl (sub_cons (d := 1) rfl (sub_cons (d := 2) rfl (sub_cons (d := 3) rfl (sub_cons (d := 4) rfl (sub_cons (d := 5) rfl (sub_cons (d := 6) rfl (sub_cons (d := 37) rfl (sub_cons (d := 42) rfl (sub_nil _)))))))))) ((.cons_cons _ (.cons_cons _ .slnil))) ?_
                intro e hi11
                obtain ⟨he1, hle⟩ := hi11
                refine hc_seq ?_
                refine hc_seq ?_
                refine hc_region ?_
                refine hl_v rfl rfl rfl (rv_ev rfl) ?_
                refine hl_lss rfl rfl rfl rfl rfl rfl (fun h12 => ?_) (fun h12 => ?_)
                ·
                  refine hl_less (sub_cons (d := 0) rfl (sub_cons (d := 1) rfl (sub_cons (d := 2) rfl (sub_cons (d := 3) rfl (sub_cons (d := 4) rfl (sub_cons (d := 5) rfl (sub_cons (d := 6) rfl (sub_cons (d := 37) rfl (sub_cons (d := 42) rfl (sub_cons (d := 53) rfl (sub_nil _))))))))))) (.refl _) ?_
                  refine hl_nil ?_
                  refine hq_then ?_
                  refine hc_true rfl ?_
                  refine hc_skip ?_
                  refine hq_then ?_
                  refine hc_seq ?_
                  refine hc_block ?_
                  refine hc_seq ?_
                  refine hc_region ?_
                  have hrE := ht.es _ (getD_mem' (es := t.es) (i := e) (d := Le0) (by omega))
                  have hre := hrE.1
                  have hrl := hrE.2
                  have hro := hre.one
                  refine hl_v rfl rfl rfl (rv_field (k0 := 1) rfl (by kernel_rfl) rfl) ?_
                  refine hl_v rfl rfl rfl (rv_load rfl (by kernel_rfl) rfl (box_cell 0 rfl rfl)) ?_
                  refine hl_v rfl rfl rfl (rv_ev rfl) ?_
                  refine hl_v rfl rfl rfl (rv_index (s := 4) rfl Try.underlying37 (by kernel_rfl) rfl rfl (rd_old ht.lv) (by omega) (by first | omega | (simp only [List.length_set]; omega))) ?_
                  refine hl_v rfl rfl rfl (rv_loadElN (us := [(t.es.getD e Le0).v, .int .i64 ((t.es.getD e Le0).m), .int .i64 ((t.es.getD e Le0).f), .int .i64 ((t.es.getD e Le0).i)]) rfl (by kernel_rfl) (by kernel_rfl) rfl (rd_old ht.lv) (by omega) rfl (flat_atN Le.cells 4 (fun _ => rfl) t.es Le0 (show e < _ by first | omega | (simp only [List.length_set]; omega)) rfl)) ?_
                  refine hl_box rfl rfl rfl (rq_alloc (z := .agg #[.slice none 0 0, .int .i64 0, .int .i64 0, .int .i64 0]) rfl (by kernel_rfl)) ?_
                  intro b13
                  refine hl_storeBoxN (i := 0) (off := 0) (us := [(t.es.getD e Le0).v, .int .i64 ((t.es.getD e Le0).m), .int .i64 ((t.es.getD e Le0).f), .int .i64 ((t.es.getD e Le0).i)]) (l' := [boxE b13 #[(t.es.getD e Le0).v, .int .i64 ((t.es.getD e Le0).m), .int .i64 ((t.es.getD e Le0).f), .int .i64 ((t.es.getD e Le0).i)] 87, boxE b2 #[t.mv, t.lv, .int .i64 t.pad, .int .i64 t.ram] 39, boxE b1 #[.int .i64 d.W, .int .i64 d.H, .int .i64 d.T, .int .i64 d.R] 25]) rfl rfl rfl (by kernel_rfl) rfl rfl rfl (all_cons hro (all_cons rfl (all_cons rfl (all_cons rfl all_nil)))) rfl rfl rfl ?_
                  refine hl_less (sub_cons (d := 0) rfl (sub_cons (d := 1) rfl (sub_cons (d := 2) rfl (sub_cons (d := 3) rfl (sub_cons (d := 4) rfl (sub_cons (d := 5) rfl (sub_cons (d := 6) rfl (sub_cons (d := 7) rfl (sub_cons (d := 37) rfl (sub_cons (d := 42) rfl (sub_cons (d := 53) rfl (sub_nil _)))))))))))) (.refl _) ?_
                  refine hl_nil ?_
                  refine hq_then ?_
                  refine hc_seq ?_
                  refine hc_seq ?_
                  refine hc_region ?_
                  refine hl_v rfl rfl rfl (rv_field (k0 := 0) rfl (by kernel_rfl) rfl) ?_
                  refine hl_v rfl rfl rfl (rv_load rfl (by kernel_rfl) rfl (box_cell 0 rfl rfl)) ?_
                  refine hl_v rfl rfl rfl (rv_len rfl Try.underlying30 rfl (rd_old hre)) ?_
                  refine hl_neq rfl rfl rfl rfl rfl rfl (fun h14 => ?_) (fun h14 => ?_)
                  ·
                    refine hl_v rfl rfl rfl (rv_ev rfl) ?_
                    refine hl_skip rfl rfl rfl ?_
                    refine hl_skip rfl rfl rfl ?_
                    refine hl_skip rfl rfl rfl ?_
                    refine hl_skip rfl rfl rfl ?_
                    refine hl_v rfl rfl rfl (rv_ev rfl) ?_
                    refine hl_v rfl rfl rfl (rv_ev rfl) ?_
                    refine hl_skip rfl rfl rfl ?_
                    refine hl_skip rfl rfl rfl ?_
                    refine hl_skip rfl rfl rfl ?_
                    refine hl_skip rfl rfl rfl ?_
                    refine hl_v rfl rfl rfl (rv_ev rfl) ?_
                    refine hl_v rfl rfl rfl (rv_ev rfl) ?_
                    refine hl_skip rfl rfl rfl ?_
                    refine hl_skip rfl rfl rfl ?_
                    refine hl_skip rfl rfl rfl ?_
                    refine hl_skip rfl rfl rfl ?_
                    refine hl_v rfl rfl rfl (rv_ev rfl) ?_
                    refine hl_less (sub_cons (d := 0) rfl (sub_cons (d := 1) rfl (sub_cons (d := 2) rfl (sub_cons (d := 3) rfl (sub_cons (d := 4) rfl (sub_cons (d := 5) rfl (sub_cons (d := 6) rfl (sub_cons (d := 7) rfl (sub_cons (d := 37) rfl (sub_cons (d := 42) rfl (sub_cons (d := 53) rfl (sub_cons (d := 82) rfl (sub_nil _))))))))))))) (.refl _) ?_
                    refine hl_nil ?_
                    refine hq_then ?_
                    refine hc_true rfl ?_
                    refine hc_seq ?_
                    refine hc_region ?_
                    refine hl_v rfl rfl rfl (rv_ev rfl) ?_
                    refine hl_less (sub_cons (d := 0) rfl (sub_cons (d := 1) rfl (sub_cons (d := 2) rfl (sub_cons (d := 3) rfl (sub_cons (d := 4) rfl (sub_cons (d := 5) rfl (sub_cons (d := 6) rfl (sub_cons (d := 7) rfl (sub_cons (d := 37) rfl (sub_cons (d := 42) rfl (sub_cons (d := 53) rfl (sub_cons (d := 82) rfl (sub_nil _))))))))))))) (.refl _) ?_
                    refine hl_nil ?_
                    refine hq_then ?_
                    refine hc_ret ?_
                    refine hq_then_ret ?_
                    refine hq_block_ret ?_
                    refine hq_then_ret ?_
                    refine hq_then_ret ?_
                    refine hq_block_ret ?_
                    refine hq_then_ret ?_
                    exact hq_ans rfl rfl (congrArg _ (Bool.eq_false_iff.2 (fun h => by obtain ⟨q1, q2, q3, q4, q5, q6, q7⟩ := (tcOkV_iff d t).1 h; first | omega | (have := q6 j (by omega); omega) | (obtain ⟨r1, r2, r3, r4, r5⟩ := (leOkV_iff _).1 (q7 e (by omega)); first | omega | (have := r5 k (by omega); omega)) | contradiction | simp_all)).symm)
                  ·
                    refine hl_v rfl rfl rfl (rv_ev rfl) ?_
                    refine hl_v rfl rfl rfl (rv_field (k0 := 1) rfl (by kernel_rfl) rfl) ?_
                    refine hl_v rfl rfl rfl (rv_load rfl (by kernel_rfl) rfl (box_cell 0 rfl rfl)) ?_
                    refine hl_callV rfl rfl rfl (rq_call (by kernel_rfl) rfl (fun w hm => ret_ans (ans_of (l01In_any _ _ _ w)))) ?_
                    refine hl_bool (fun h15 => ?_) (fun h15 => ?_)
                    ·
                      obtain ⟨h15a, h15b⟩ := (inR_iff _ _ _).1 h15
                      refine hl_v rfl rfl rfl (rv_ev rfl) ?_
                      refine hl_v rfl rfl rfl (rv_ev rfl) ?_
                      refine hl_v rfl rfl rfl (rv_ev rfl) ?_
                      refine hl_v rfl rfl rfl (rv_field (k0 := 2) rfl (by kernel_rfl) rfl) ?_
                      refine hl_v rfl rfl rfl (rv_load rfl (by kernel_rfl) rfl (box_cell 0 rfl rfl)) ?_
                      refine hl_callV rfl rfl rfl (rq_call (by kernel_rfl) rfl (fun w hm => ret_ans (ans_of (l01In_any _ _ _ w)))) ?_
                      refine hl_bool (fun h16 => ?_) (fun h16 => ?_)
                      ·
                        obtain ⟨h16a, h16b⟩ := (inR_iff _ _ _).1 h16
                        refine hl_v rfl rfl rfl (rv_ev rfl) ?_
                        refine hl_v rfl rfl rfl (rv_ev rfl) ?_
                        refine hl_v rfl rfl rfl (rv_ev rfl) ?_
                        refine hl_v rfl rfl rfl (rv_field (k0 := 3) rfl (by kernel_rfl) rfl) ?_
                        refine hl_v rfl rfl rfl (rv_load rfl (by kernel_rfl) rfl (box_cell 0 rfl rfl)) ?_
                        refine hl_callV rfl rfl rfl (rq_call (by kernel_rfl) rfl (fun w hm => ret_ans (ans_of (l01In_any _ _ _ w)))) ?_
                        refine hl_bool (fun h17 => ?_) (fun h17 => ?_)
                        ·
                          obtain ⟨h17a, h17b⟩ := (inR_iff _ _ _).1 h17
                          refine hl_v rfl rfl rfl (rv_ev rfl) ?_
                          refine hl_v rfl rfl rfl (rv_ev rfl) ?_
                          refine hl_less (sub_cons (d := 0) rfl (sub_cons (d := 1) rfl (sub_cons (d := 2) rfl (sub_cons (d := 3) rfl (sub_cons (d := 4) rfl (sub_cons (d := 5) rfl (sub_cons (d := 6) rfl (sub_cons (d := 7) rfl (sub_cons (d := 37) rfl (sub_cons (d := 42) rfl (sub_cons (d := 53) rfl (sub_cons (d := 82) rfl (sub_nil _))))))))))))) (.refl _) ?_
                          refine hl_nil ?_
                          refine hq_then ?_
                          refine hc_false rfl ?_
                          refine hc_skip ?_
                          refine hq_then ?_
                          refine hc_seq ?_
                          refine hc_region ?_
                          refine hl_v rfl rfl rfl (rv_ev rfl) ?_
                          refine hl_less (sub_cons (d := 0) rfl (sub_cons (d := 1) rfl (sub_cons (d := 2) rfl (sub_cons (d := 3) rfl (sub_cons (d := 4) rfl (sub_cons (d := 5) rfl (sub_cons (d := 6) rfl (sub_cons (d := 7) rfl (sub_cons (d := 8) rfl (sub_cons (d := 37) rfl (sub_cons (d := 42) rfl (sub_cons (d := 53) rfl (sub_cons (d := 82) rfl (sub_nil _)))))))))))))) (.refl _) ?_
                          refine hl_nil ?_
                          refine hq_then ?_
                          refine hc_block ?_
                          refine hc_loop1 (α := Nat) (fun k => [boxE b13 #[(t.es.getD e Le0).v, .int .i64 ((t.es.getD e Le0).m), .int .i64 ((t.es.getD e Le0).f), .int .i64 ((t.es.getD e Le0).i)] 87, boxE b2 #[t.mv, t.lv, .int .i64 t.pad, .int .i64 t.ram] 39, boxE b1 #[.int .i64 d.W, .int .i64 d.H, .int .i64 d.T, .int .i64 d.R] 25]) (fun k => [(0, .agg #[.int .i64 d.W, .int .i64 d.H, .int .i64 d.T, .int .i64 d.R]), (1, .agg #[t.mv, t.lv, .int .i64 t.pad, .int .i64 t.ram]), (2, .pointer (some ⟨b1, 0, none⟩)), (3, .pointer (some ⟨b2, 0, none⟩)), (4, .bool false), (5, .int .i64 (j : Int)), (6, .int .i64 (e : Int)), (7, .pointer (some ⟨b13, 0, none⟩)), (8, .int .i64 (k : Int)), (37, .bool false), (42, .bool false), (53, .bool true), (82, .bool false)]) (fun k => k ≤ 4 ∧ ∀ i, i < k → 0 ≤ (t.es.getD e Le0).xs.getD i 0 ∧ (t.es.getD e Le0).xs.getD i 0 ≤ 7) (fun k => 4 - k) 0 ⟨by omega, fun i hi => absurd hi (by omega)⟩ (sub_cons (d := 0) rfl (sub_cons (d := 1) rfl (sub_cons (d := 2) rfl (sub_cons (d := 3) rfl (sub_cons (d := 4) rfl (sub_cons (d := 5) rfl (sub_cons (d := 6) rfl (sub_cons (d := 7) rfl (sub_cons (d := 8) rfl (sub_cons (d := 37) rfl (sub_cons (d := 42) rfl (sub_cons (d := 53) rfl (sub_cons (d := 82) rfl (sub_nil _)))))))))))))) ((.cons_cons _ (.cons_cons _ (.cons_cons _ .slnil)))) ?_
                          intro k hi18
                          obtain ⟨hk0, hkk⟩ := hi18
                          refine hc_seq ?_
                          refine hc_seq ?_
                          refine hc_region ?_
                          refine hl_v rfl rfl rfl (rv_ev rfl) ?_
                          refine hl_lss rfl rfl rfl rfl rfl rfl (fun h19 => ?_) (fun h19 => ?_)
                          ·
                            refine hl_less (sub_cons (d := 0) rfl (sub_cons (d := 1) rfl (sub_cons (d := 2) rfl (sub_cons (d := 3) rfl (sub_cons (d := 4) rfl (sub_cons (d := 5) rfl (sub_cons (d := 6) rfl (sub_cons (d := 7) rfl (sub_cons (d := 8) rfl (sub_cons (d := 37) rfl (sub_cons (d := 42) rfl (sub_cons (d := 53) rfl (sub_cons (d := 82) rfl (sub_cons (d := 84) rfl (sub_nil _))))))))))))))) (.refl _) ?_
                            refine hl_nil ?_
                            refine hq_then ?_
                            refine hc_true rfl ?_
                            refine hc_skip ?_
                            refine hq_then ?_
                            refine hc_seq ?_
                            refine hc_block ?_
                            refine hc_seq ?_
                            refine hc_region ?_
                            refine hl_v rfl rfl rfl (rv_field (k0 := 0) rfl (by kernel_rfl) rfl) ?_
                            refine hl_v rfl rfl rfl (rv_load rfl (by kernel_rfl) rfl (box_cell 0 rfl rfl)) ?_
                            refine hl_v rfl rfl rfl (rv_ev rfl) ?_
                            refine hl_v rfl rfl rfl (rv_index (s := 1) rfl Try.underlying30 (by kernel_rfl) rfl rfl (rd_old hre) (by omega) (by first | omega | (simp only [List.length_set]; omega))) ?_
                            refine hl_v rfl rfl rfl (rv_loadEl (u := .int .i64 (((t.es.getD e Le0).xs).getD k 0)) rfl (by kernel_rfl) rfl (rd_old hre) (ints_at1 (show _ < ((t.es.getD e Le0).xs).length by first | omega | (simp only [List.length_set]; omega)))) ?_
                            refine hl_callV rfl rfl rfl (rq_call (by kernel_rfl) rfl (fun w hm => ret_ans (ans_of (l01In_any _ _ _ w)))) ?_
                            refine hl_bool (fun h20 => ?_) (fun h20 => ?_)
                            ·
                              obtain ⟨h20a, h20b⟩ := (inR_iff _ _ _).1 h20
                              refine hl_v rfl rfl rfl (rv_ev rfl) ?_
                              refine hl_less (sub_cons (d := 0) rfl (sub_cons (d := 1) rfl (sub_cons (d := 2) rfl (sub_cons (d := 3) rfl (sub_cons (d := 4) rfl (sub_cons (d := 5) rfl (sub_cons (d := 6) rfl (sub_cons (d := 7) rfl (sub_cons (d := 8) rfl (sub_cons (d := 37) rfl (sub_cons (d := 42) rfl (sub_cons (d := 53) rfl (sub_cons (d := 82) rfl (sub_cons (d := 84) rfl (sub_cons (d := 93) rfl (sub_nil _)))))))))))))))) (.refl _) ?_
                              refine hl_nil ?_
                              refine hq_then ?_
                              refine hc_false rfl ?_
                              refine hc_skip ?_
                              refine hq_block_normal ?_
                              refine hq_then ?_
                              refine hc_region ?_
                              refine hl_v rfl rfl rfl (rv_ev rfl) ?_
                              refine hl_v rfl rfl rfl (rv_add rfl rfl rfl (by constructor <;> omega)) ?_
                              refine hl_v rfl rfl rfl (rv_ev rfl) ?_
                              refine hl_less (sub_cons (d := 0) rfl (sub_cons (d := 1) rfl (sub_cons (d := 2) rfl (sub_cons (d := 3) rfl (sub_cons (d := 4) rfl (sub_cons (d := 5) rfl (sub_cons (d := 6) rfl (sub_cons (d := 7) rfl (sub_cons (d := 8) rfl (sub_cons (d := 37) rfl (sub_cons (d := 42) rfl (sub_cons (d := 53) rfl (sub_cons (d := 82) rfl (sub_cons (d := 84) rfl (sub_cons (d := 93) rfl (sub_nil _)))))))))))))))) (.refl _) ?_
                              refine hl_nil ?_
                              exact hq_round1 (k + 1) ⟨by omega, fun i hi => by by_cases hij : i = k; (subst hij; omega); exact hkk i (by omega)⟩ (by omega) (sub_cons (d := 0) rfl (sub_cons (d := 1) rfl (sub_cons (d := 2) rfl (sub_cons (d := 3) rfl (sub_cons (d := 4) rfl (sub_cons (d := 5) rfl (sub_cons (d := 6) rfl (sub_cons (d := 7) rfl (sub_cons (d := 8) rfl (sub_cons (d := 37) rfl (sub_cons (d := 42) rfl (sub_cons (d := 53) rfl (sub_cons (d := 82) rfl (sub_nil _)))))))))))))) ((.cons_cons _ (.cons_cons _ (.cons_cons _ .slnil))))
                            ·
                              have h20a := inR_nah h20
                              refine hl_v rfl rfl rfl (rv_ev rfl) ?_
                              refine hl_less (sub_cons (d := 0) rfl (sub_cons (d := 1) rfl (sub_cons (d := 2) rfl (sub_cons (d := 3) rfl (sub_cons (d := 4) rfl (sub_cons (d := 5) rfl (sub_cons (d := 6) rfl (sub_cons (d := 7) rfl (sub_cons (d := 8) rfl (sub_cons (d := 37) rfl (sub_cons (d := 42) rfl (sub_cons (d := 53) rfl (sub_cons (d := 82) rfl (sub_cons (d := 84) rfl (sub_cons (d := 93) rfl (sub_nil _)))))))))))))))) (.refl _) ?_
                              refine hl_nil ?_
                              refine hq_then ?_
                              refine hc_true rfl ?_
                              refine hc_seq ?_
                              refine hc_region ?_
                              refine hl_v rfl rfl rfl (rv_ev rfl) ?_
                              refine hl_less (sub_cons (d := 0) rfl (sub_cons (d := 1) rfl (sub_cons (d := 2) rfl (sub_cons (d := 3) rfl (sub_cons (d := 4) rfl (sub_cons (d := 5) rfl (sub_cons (d := 6) rfl (sub_cons (d := 7) rfl (sub_cons (d := 8) rfl (sub_cons (d := 37) rfl (sub_cons (d := 42) rfl (sub_cons (d := 53) rfl (sub_cons (d := 82) rfl (sub_cons (d := 84) rfl (sub_cons (d := 93) rfl (sub_nil _)))))))))))))))) (.refl _) ?_
                              refine hl_nil ?_
                              refine hq_then ?_
                              refine hc_ret ?_
                              refine hq_block_ret ?_
                              refine hq_then_ret ?_
                              refine hq_then_ret ?_
                              refine hq_block_ret ?_
                              refine hq_block_ret ?_
                              refine hq_then_ret ?_
                              refine hq_then_ret ?_
                              refine hq_block_ret ?_
                              refine hq_then_ret ?_
                              exact hq_ans rfl rfl (congrArg _ (Bool.eq_false_iff.2 (fun h => by obtain ⟨q1, q2, q3, q4, q5, q6, q7⟩ := (tcOkV_iff d t).1 h; first | omega | (have := q6 j (by omega); omega) | (obtain ⟨r1, r2, r3, r4, r5⟩ := (leOkV_iff _).1 (q7 e (by omega)); first | omega | (have := r5 k (by omega); omega)) | contradiction | simp_all)).symm)
                          ·
                            refine hl_less (sub_cons (d := 0) rfl (sub_cons (d := 1) rfl (sub_cons (d := 2) rfl (sub_cons (d := 3) rfl (sub_cons (d := 4) rfl (sub_cons (d := 5) rfl (sub_cons (d := 6) rfl (sub_cons (d := 7) rfl (sub_cons (d := 8) rfl (sub_cons (d := 37) rfl (sub_cons (d := 42) rfl (sub_cons (d := 53) rfl (sub_cons (d := 82) rfl (sub_cons (d := 84) rfl (sub_nil _))))))))))))))) (.refl _) ?_
                            refine hl_nil ?_
                            refine hq_then ?_
                            refine hc_false rfl ?_
                            refine hc_exit ?_
                            refine hq_then_exit ?_
                            refine hq_then_exit ?_
                            refine hq_block_exit ?_
                            refine hq_block_normal ?_
                            refine hq_then ?_
                            refine hc_region ?_
                            refine hl_v rfl rfl rfl (rv_ev rfl) ?_
                            refine hl_v rfl rfl rfl (rv_add rfl rfl rfl (by constructor <;> omega)) ?_
                            refine hl_v rfl rfl rfl (rv_ev rfl) ?_
                            refine hl_less (sub_cons (d := 0) rfl (sub_cons (d := 1) rfl (sub_cons (d := 2) rfl (sub_cons (d := 3) rfl (sub_cons (d := 4) rfl (sub_cons (d := 5) rfl (sub_cons (d := 6) rfl (sub_cons (d := 7) rfl (sub_cons (d := 8) rfl (sub_cons (d := 37) rfl (sub_cons (d := 42) rfl (sub_cons (d := 53) rfl (sub_cons (d := 82) rfl (sub_cons (d := 84) rfl (sub_nil _))))))))))))))) (.refl _) ?_
                            refine hl_nil ?_
                            exact hq_round1 (e + 1) ⟨by omega, fun i hi => by by_cases hij : i = e; (subst hij; exact (leOkV_iff _).2 ⟨by omega, by omega, by omega, by omega, fun i hi => hkk i (by omega)⟩); exact hle i (by omega)⟩ (by omega) (sub_cons (d := 0) rfl (sub_cons (d := 1) rfl (sub_cons (d := 2) rfl (sub_cons (d := 3) rfl (sub_cons (d := 4) rfl (sub_cons (d := 5) rfl (sub_cons (d := 6) rfl (sub_cons (d := 37) rfl (sub_cons (d := 42) rfl (sub_nil _)))))))))) ((.cons _ (.cons_cons _ (.cons_cons _ .slnil))))
                        ·
                          have h17a := inR_nah h17
                          refine hl_v rfl rfl rfl (rv_ev rfl) ?_
                          refine hl_v rfl rfl rfl (rv_ev rfl) ?_
                          refine hl_less (sub_cons (d := 0) rfl (sub_cons (d := 1) rfl (sub_cons (d := 2) rfl (sub_cons (d := 3) rfl (sub_cons (d := 4) rfl (sub_cons (d := 5) rfl (sub_cons (d := 6) rfl (sub_cons (d := 7) rfl (sub_cons (d := 37) rfl (sub_cons (d := 42) rfl (sub_cons (d := 53) rfl (sub_cons (d := 82) rfl (sub_nil _))))))))))))) (.refl _) ?_
                          refine hl_nil ?_
                          refine hq_then ?_
                          refine hc_true rfl ?_
                          refine hc_seq ?_
                          refine hc_region ?_
                          refine hl_v rfl rfl rfl (rv_ev rfl) ?_
                          refine hl_less (sub_cons (d := 0) rfl (sub_cons (d := 1) rfl (sub_cons (d := 2) rfl (sub_cons (d := 3) rfl (sub_cons (d := 4) rfl (sub_cons (d := 5) rfl (sub_cons (d := 6) rfl (sub_cons (d := 7) rfl (sub_cons (d := 37) rfl (sub_cons (d := 42) rfl (sub_cons (d := 53) rfl (sub_cons (d := 82) rfl (sub_nil _))))))))))))) (.refl _) ?_
                          refine hl_nil ?_
                          refine hq_then ?_
                          refine hc_ret ?_
                          refine hq_then_ret ?_
                          refine hq_block_ret ?_
                          refine hq_then_ret ?_
                          refine hq_then_ret ?_
                          refine hq_block_ret ?_
                          refine hq_then_ret ?_
                          exact hq_ans rfl rfl (congrArg _ (Bool.eq_false_iff.2 (fun h => by obtain ⟨q1, q2, q3, q4, q5, q6, q7⟩ := (tcOkV_iff d t).1 h; first | omega | (have := q6 j (by omega); omega) | (obtain ⟨r1, r2, r3, r4, r5⟩ := (leOkV_iff _).1 (q7 e (by omega)); first | omega | (have := r5 k (by omega); omega)) | contradiction | simp_all)).symm)
                      ·
                        have h16a := inR_nah h16
                        refine hl_v rfl rfl rfl (rv_ev rfl) ?_
                        refine hl_v rfl rfl rfl (rv_ev rfl) ?_
                        refine hl_v rfl rfl rfl (rv_ev rfl) ?_
                        refine hl_skip rfl rfl rfl ?_
                        refine hl_skip rfl rfl rfl ?_
                        refine hl_skip rfl rfl rfl ?_
                        refine hl_skip rfl rfl rfl ?_
                        refine hl_v rfl rfl rfl (rv_ev rfl) ?_
                        refine hl_less (sub_cons (d := 0) rfl (sub_cons (d := 1) rfl (sub_cons (d := 2) rfl (sub_cons (d := 3) rfl (sub_cons (d := 4) rfl (sub_cons (d := 5) rfl (sub_cons (d := 6) rfl (sub_cons (d := 7) rfl (sub_cons (d := 37) rfl (sub_cons (d := 42) rfl (sub_cons (d := 53) rfl (sub_cons (d := 82) rfl (sub_nil _))))))))))))) (.refl _) ?_
                        refine hl_nil ?_
                        refine hq_then ?_
                        refine hc_true rfl ?_
                        refine hc_seq ?_
                        refine hc_region ?_
                        refine hl_v rfl rfl rfl (rv_ev rfl) ?_
                        refine hl_less (sub_cons (d := 0) rfl (sub_cons (d := 1) rfl (sub_cons (d := 2) rfl (sub_cons (d := 3) rfl (sub_cons (d := 4) rfl (sub_cons (d := 5) rfl (sub_cons (d := 6) rfl (sub_cons (d := 7) rfl (sub_cons (d := 37) rfl (sub_cons (d := 42) rfl (sub_cons (d := 53) rfl (sub_cons (d := 82) rfl (sub_nil _))))))))))))) (.refl _) ?_
                        refine hl_nil ?_
                        refine hq_then ?_
                        refine hc_ret ?_
                        refine hq_then_ret ?_
                        refine hq_block_ret ?_
                        refine hq_then_ret ?_
                        refine hq_then_ret ?_
                        refine hq_block_ret ?_
                        refine hq_then_ret ?_
                        exact hq_ans rfl rfl (congrArg _ (Bool.eq_false_iff.2 (fun h => by obtain ⟨q1, q2, q3, q4, q5, q6, q7⟩ := (tcOkV_iff d t).1 h; first | omega | (have := q6 j (by omega); omega) | (obtain ⟨r1, r2, r3, r4, r5⟩ := (leOkV_iff _).1 (q7 e (by omega)); first | omega | (have := r5 k (by omega); omega)) | contradiction | simp_all)).symm)
                    ·
                      have h15a := inR_nah h15
                      refine hl_v rfl rfl rfl (rv_ev rfl) ?_
                      refine hl_v rfl rfl rfl (rv_ev rfl) ?_
                      refine hl_v rfl rfl rfl (rv_ev rfl) ?_
                      refine hl_skip rfl rfl rfl ?_
                      refine hl_skip rfl rfl rfl ?_
                      refine hl_skip rfl rfl rfl ?_
                      refine hl_skip rfl rfl rfl ?_
                      refine hl_v rfl rfl rfl (rv_ev rfl) ?_
                      refine hl_v rfl rfl rfl (rv_ev rfl) ?_
                      refine hl_skip rfl rfl rfl ?_
                      refine hl_skip rfl rfl rfl ?_
                      refine hl_skip rfl rfl rfl ?_
                      refine hl_skip rfl rfl rfl ?_
                      refine hl_v rfl rfl rfl (rv_ev rfl) ?_
                      refine hl_less (sub_cons (d := 0) rfl (sub_cons (d := 1) rfl (sub_cons (d := 2) rfl (sub_cons (d := 3) rfl (sub_cons (d := 4) rfl (sub_cons (d := 5) rfl (sub_cons (d := 6) rfl (sub_cons (d := 7) rfl (sub_cons (d := 37) rfl (sub_cons (d := 42) rfl (sub_cons (d := 53) rfl (sub_cons (d := 82) rfl (sub_nil _))))))))))))) (.refl _) ?_
                      refine hl_nil ?_
                      refine hq_then ?_
                      refine hc_true rfl ?_
                      refine hc_seq ?_
                      refine hc_region ?_
                      refine hl_v rfl rfl rfl (rv_ev rfl) ?_
                      refine hl_less (sub_cons (d := 0) rfl (sub_cons (d := 1) rfl (sub_cons (d := 2) rfl (sub_cons (d := 3) rfl (sub_cons (d := 4) rfl (sub_cons (d := 5) rfl (sub_cons (d := 6) rfl (sub_cons (d := 7) rfl (sub_cons (d := 37) rfl (sub_cons (d := 42) rfl (sub_cons (d := 53) rfl (sub_cons (d := 82) rfl (sub_nil _))))))))))))) (.refl _) ?_
                      refine hl_nil ?_
                      refine hq_then ?_
                      refine hc_ret ?_
                      refine hq_then_ret ?_
                      refine hq_block_ret ?_
                      refine hq_then_ret ?_
                      refine hq_then_ret ?_
                      refine hq_block_ret ?_
                      refine hq_then_ret ?_
                      exact hq_ans rfl rfl (congrArg _ (Bool.eq_false_iff.2 (fun h => by obtain ⟨q1, q2, q3, q4, q5, q6, q7⟩ := (tcOkV_iff d t).1 h; first | omega | (have := q6 j (by omega); omega) | (obtain ⟨r1, r2, r3, r4, r5⟩ := (leOkV_iff _).1 (q7 e (by omega)); first | omega | (have := r5 k (by omega); omega)) | contradiction | simp_all)).symm)
                ·
                  refine hl_less (sub_cons (d := 0) rfl (sub_cons (d := 1) rfl (sub_cons (d := 2) rfl (sub_cons (d := 3) rfl (sub_cons (d := 4) rfl (sub_cons (d := 5) rfl (sub_cons (d := 6) rfl (sub_cons (d := 37) rfl (sub_cons (d := 42) rfl (sub_cons (d := 53) rfl (sub_nil _))))))))))) (.refl _) ?_
                  refine hl_nil ?_
                  refine hq_then ?_
                  refine hc_false rfl ?_
                  refine hc_exit ?_
                  refine hq_then_exit ?_
                  refine hq_then_exit ?_
                  refine hq_block_exit ?_
                  refine hq_then ?_
                  refine hc_seq ?_
                  refine hc_region ?_
                  refine hl_v rfl rfl rfl (rv_ev rfl) ?_
                  refine hl_less (sub_cons (d := 0) rfl (sub_cons (d := 1) rfl (sub_cons (d := 2) rfl (sub_cons (d := 3) rfl (sub_cons (d := 4) rfl (sub_cons (d := 5) rfl (sub_cons (d := 6) rfl (sub_cons (d := 37) rfl (sub_cons (d := 42) rfl (sub_cons (d := 53) rfl (sub_nil _))))))))))) (.refl _) ?_
                  refine hl_nil ?_
                  refine hq_then ?_
                  refine hc_ret ?_
                  exact hq_ans rfl rfl (congrArg _ ((tcOkV_iff d t).2 ⟨by assumption, by omega, by omega, by omega, by omega, hmx, fun i hi => hle i (by omega)⟩).symm)
          ·
            have hb7a := inR_nah hb7
            refine hc_draw (by kernel_rfl) 29 [0, 1, 2, 3, 4, 5, 6, 7, 8, 9, 10, 11, 12, 13, 14, 15, 16, 17, 18, 19, 20, 21, 22, 23, 24, 25, 26, 27, 28] (List.take 29 _) (List.drop 29 _) [[], [0], [1], [2], [3], [3, 4], [3, 5], [3], [3, 7], [3, 6, 8], [3, 9], [10], [11], [11, 12], [11, 13], [11, 14], [11, 15], [16], [17], [17, 18], [17, 19], [17, 20], [17, 21], [22], [23], [23, 24], [23, 25], [23, 26], [23, 27]] [9, 10, 11, 12, 13, 14, 15, 16, 17, 18, 19, 20, 21, 22, 23, 24, 25, 26, 27, 28, 29, 30, 31, 32, 33, 34, 35, 36, 37] (fun i vs_ v_ p_ => match i with | 0 => v_ = .agg #[.int .i64 d.W, .int .i64 d.H, .int .i64 d.T, .int .i64 d.R] ∧ p_ = [] | 1 => v_ = .bool true ∧ p_ = [] | 2 => v_ = .bool false ∧ p_ = [] | 3 => v_ = .bool false ∧ p_ = [] | 4 => v_ = .pointer (some ⟨b2, 0 + 0, none⟩) ∧ p_ = [] | 5 => v_ = t.mv ∧ p_ = [] | 6 => v_ = .int .i64 (t.mx.length : Int) ∧ p_ = [] | 7 => v_ = .agg #[.int .i64 d.W, .int .i64 d.H, .int .i64 d.T, .int .i64 d.R] ∧ p_ = [] | 8 => v_ = .int .i64 (5 + 4 * d.T) ∧ p_ = [] | 9 => v_ = .bool false ∧ p_ = [] | 10 => v_ = .bool false ∧ p_ = [] | 11 => v_ = .bool false ∧ p_ = [] | 12 => v_ = .pointer (some ⟨b2, 0 + 1, none⟩) ∧ p_ = [] | 13 => v_ = t.lv ∧ p_ = [] | 14 => v_ = .int .i64 (t.es.length : Int) ∧ p_ = [] | 15 => v_ = .bool false ∧ p_ = [] | 16 => v_ = .bool false ∧ p_ = [] | 17 => v_ = .bool false ∧ p_ = [] | 18 => v_ = .pointer (some ⟨b2, 0 + 2, none⟩) ∧ p_ = [] | 19 => v_ = .int .i64 t.pad ∧ p_ = [] | 20 => v_ = .bool true ∧ p_ = [] | 21 => v_ = .bool false ∧ p_ = [] | 22 => v_ = .bool false ∧ p_ = [] | 23 => v_ = .bool false ∧ p_ = [] | 24 => v_ = .pointer (some ⟨b2, 0 + 3, none⟩) ∧ p_ = [] | 25 => v_ = .int .i64 t.ram ∧ p_ = [] | 26 => v_ = .bool false ∧ p_ = [] | 27 => v_ = .bool true ∧ p_ = [] | 28 => v_ = .bool true ∧ p_ = [] | _ => True) (List.take_append_drop 29 _).symm (by kernel_rfl) (by kernel_rfl) rfl rfl ?_ ?_
            ·
              refine ⟨?_, ?_, ?_, ?_, ?_, ?_, ?_, ?_, ?_, ?_, ?_, ?_, ?_, ?_, ?_, ?_, ?_, ?_, ?_, ?_, ?_, ?_, ?_, ?_, ?_, ?_, ?_, ?_, ?_, trivial⟩
              ·
                intro vf pf hR
                refine Or.inl ⟨rfl, ?_⟩
                refine rq_less (l' := [boxE b2 #[t.mv, t.lv, .int .i64 t.pad, .int .i64 t.ram] 39, boxE b1 #[.int .i64 d.W, .int .i64 d.H, .int .i64 d.T, .int .i64 d.R] 25]) (sub_cons (d := 2) rfl (sub_nil _)) (List.sublist_append_right _ _) ?_
                exact rq_v (rv_loadN (cs := [.int .i64 d.W, .int .i64 d.H, .int .i64 d.T, .int .i64 d.R]) rfl (by kernel_rfl) (by kernel_rfl) rfl rfl (box_part 1 rfl 0 rfl))
              ·
                intro vf pf hR
                have e0 : (vf 0) = .agg #[.int .i64 d.W, .int .i64 d.H, .int .i64 d.T, .int .i64 d.R] ∧ (pf 0) = [] := hR 0 (by decide)
                refine Or.inl ⟨rfl, ?_⟩
                refine rq_less (l' := [boxE b2 #[t.mv, t.lv, .int .i64 t.pad, .int .i64 t.ram] 39, boxE b1 #[.int .i64 d.W, .int .i64 d.H, .int .i64 d.T, .int .i64 d.R] 25]) (sub_cons (d := 9) (congrArg some e0.1) (sub_nil _)) (List.sublist_append_right _ _) ?_
                exact rq_mono (rq_call (by kernel_rfl) rfl (fun w hm => ret_ans (specDeviceOk_any d w))) (fun _ _ h => ⟨h.1.trans (congrArg Value.bool hb3), h.2⟩)
              ·
                intro vf pf hR
                have e1 : (vf 1) = .bool true ∧ (pf 1) = [] := hR 1 (by decide)
                refine Or.inl ⟨rfl, ?_⟩
                refine rq_less (l' := [boxE b2 #[t.mv, t.lv, .int .i64 t.pad, .int .i64 t.ram] 39, boxE b1 #[.int .i64 d.W, .int .i64 d.H, .int .i64 d.T, .int .i64 d.R] 25]) (sub_cons (d := 10) (congrArg some e1.1) (sub_nil _)) (List.sublist_append_right _ _) ?_
                exact rq_v (rv_ev rfl)
              ·
                intro vf pf hR
                have e2 : (vf 2) = .bool false ∧ (pf 2) = [] := hR 2 (by decide)
                refine Or.inl ⟨rfl, ?_⟩
                refine rq_less (l' := [boxE b2 #[t.mv, t.lv, .int .i64 t.pad, .int .i64 t.ram] 39, boxE b1 #[.int .i64 d.W, .int .i64 d.H, .int .i64 d.T, .int .i64 d.R] 25]) (sub_cons (d := 11) (congrArg some e2.1) (sub_nil _)) (List.sublist_append_right _ _) ?_
                exact rq_v (rv_ev rfl)
              ·
                intro vf pf hR
                have e3 : (vf 3) = .bool false ∧ (pf 3) = [] := hR 3 (by decide)
                refine Or.inl ⟨want_of (congrArg some e3.1) rfl, ?_⟩
                refine rq_less (l' := [boxE b2 #[t.mv, t.lv, .int .i64 t.pad, .int .i64 t.ram] 39, boxE b1 #[.int .i64 d.W, .int .i64 d.H, .int .i64 d.T, .int .i64 d.R] 25]) (sub_cons (d := 3) rfl (sub_nil _)) (List.sublist_append_right _ _) ?_
                exact rq_v (rv_field (k0 := 0) rfl (by kernel_rfl) rfl)
              ·
                intro vf pf hR
                have e3 : (vf 3) = .bool false ∧ (pf 3) = [] := hR 3 (by decide)
                have e4 : (vf 4) = .pointer (some ⟨b2, 0 + 0, none⟩) ∧ (pf 4) = [] := hR 4 (by decide)
                refine Or.inl ⟨want_of (congrArg some e3.1) rfl, ?_⟩
                refine rq_less (l' := [boxE b2 #[t.mv, t.lv, .int .i64 t.pad, .int .i64 t.ram] 39, boxE b1 #[.int .i64 d.W, .int .i64 d.H, .int .i64 d.T, .int .i64 d.R] 25]) (sub_cons (d := 13) (congrArg some e4.1) (sub_nil _)) (List.sublist_append_right _ _) ?_
                exact rq_v (rv_load rfl (by kernel_rfl) rfl (box_cell 0 rfl rfl))
              ·
                intro vf pf hR
                have e3 : (vf 3) = .bool false ∧ (pf 3) = [] := hR 3 (by decide)
                have e5 : (vf 5) = t.mv ∧ (pf 5) = [] := hR 5 (by decide)
                refine Or.inl ⟨want_of (congrArg some e3.1) rfl, ?_⟩
                refine rq_less (l' := [boxE b2 #[t.mv, t.lv, .int .i64 t.pad, .int .i64 t.ram] 39, boxE b1 #[.int .i64 d.W, .int .i64 d.H, .int .i64 d.T, .int .i64 d.R] 25]) (sub_cons (d := 14) (congrArg some e5.1) (sub_nil _)) (List.sublist_append_right _ _) ?_
                exact rq_v (rv_len rfl Try.underlying30 rfl (rd_old ht.mx))
              ·
                intro vf pf hR
                have e3 : (vf 3) = .bool false ∧ (pf 3) = [] := hR 3 (by decide)
                refine Or.inl ⟨want_of (congrArg some e3.1) rfl, ?_⟩
                refine rq_less (l' := [boxE b2 #[t.mv, t.lv, .int .i64 t.pad, .int .i64 t.ram] 39, boxE b1 #[.int .i64 d.W, .int .i64 d.H, .int .i64 d.T, .int .i64 d.R] 25]) (sub_cons (d := 2) rfl (sub_nil _)) (List.sublist_append_right _ _) ?_
                exact rq_v (rv_loadN (cs := [.int .i64 d.W, .int .i64 d.H, .int .i64 d.T, .int .i64 d.R]) rfl (by kernel_rfl) (by kernel_rfl) rfl rfl (box_part 1 rfl 0 rfl))
              ·
                intro vf pf hR
                have e3 : (vf 3) = .bool false ∧ (pf 3) = [] := hR 3 (by decide)
                have e7 : (vf 7) = .agg #[.int .i64 d.W, .int .i64 d.H, .int .i64 d.T, .int .i64 d.R] ∧ (pf 7) = [] := hR 7 (by decide)
                refine Or.inl ⟨want_of (congrArg some e3.1) rfl, ?_⟩
                refine rq_less (l' := [boxE b2 #[t.mv, t.lv, .int .i64 t.pad, .int .i64 t.ram] 39, boxE b1 #[.int .i64 d.W, .int .i64 d.H, .int .i64 d.T, .int .i64 d.R] 25]) (sub_cons (d := 16) (congrArg some e7.1) (sub_nil _)) (List.sublist_append_right _ _) ?_
                exact (rq_call (by kernel_rfl) rfl (fun w hm => ret_ans (specMuxCount_yes d (by assumption) w)))
              ·
                intro vf pf hR
                have e3 : (vf 3) = .bool false ∧ (pf 3) = [] := hR 3 (by decide)
                have e6 : (vf 6) = .int .i64 (t.mx.length : Int) ∧ (pf 6) = [] := hR 6 (by decide)
                have e8 : (vf 8) = .int .i64 (5 + 4 * d.T) ∧ (pf 8) = [] := hR 8 (by decide)
                refine Or.inl ⟨want_of (congrArg some e3.1) rfl, ?_⟩
                refine rq_less (l' := [boxE b2 #[t.mv, t.lv, .int .i64 t.pad, .int .i64 t.ram] 39, boxE b1 #[.int .i64 d.W, .int .i64 d.H, .int .i64 d.T, .int .i64 d.R] 25]) (sub_cons (d := 15) (congrArg some e6.1) (sub_cons (d := 17) (congrArg some e8.1) (sub_nil _))) (List.sublist_append_right _ _) ?_
                exact rq_mono (rq_v (rv_cmp rfl rfl rfl rfl)) (fun _ _ h => ⟨h.1.trans (congrArg Value.bool hb4), h.2⟩)
              ·
                intro vf pf hR
                have e3 : (vf 3) = .bool false ∧ (pf 3) = [] := hR 3 (by decide)
                have e9 : (vf 9) = .bool false ∧ (pf 9) = [] := hR 9 (by decide)
                refine Or.inl ⟨rfl, ?_⟩
                refine rq_less (l' := [boxE b2 #[t.mv, t.lv, .int .i64 t.pad, .int .i64 t.ram] 39, boxE b1 #[.int .i64 d.W, .int .i64 d.H, .int .i64 d.T, .int .i64 d.R] 25]) (sub_cons (d := 12) (congrArg some e3.1) (sub_cons (d := 18) (congrArg some e9.1) (sub_nil _))) (List.sublist_append_right _ _) ?_
                exact rq_v (rv_ev rfl)
              ·
                intro vf pf hR
                have e10 : (vf 10) = .bool false ∧ (pf 10) = [] := hR 10 (by decide)
                refine Or.inl ⟨rfl, ?_⟩
                refine rq_less (l' := [boxE b2 #[t.mv, t.lv, .int .i64 t.pad, .int .i64 t.ram] 39, boxE b1 #[.int .i64 d.W, .int .i64 d.H, .int .i64 d.T, .int .i64 d.R] 25]) (sub_cons (d := 19) (congrArg some e10.1) (sub_nil _)) (List.sublist_append_right _ _) ?_
                exact rq_v (rv_ev rfl)
              ·
                intro vf pf hR
                have e11 : (vf 11) = .bool false ∧ (pf 11) = [] := hR 11 (by decide)
                refine Or.inl ⟨want_of (congrArg some e11.1) rfl, ?_⟩
                refine rq_less (l' := [boxE b2 #[t.mv, t.lv, .int .i64 t.pad, .int .i64 t.ram] 39, boxE b1 #[.int .i64 d.W, .int .i64 d.H, .int .i64 d.T, .int .i64 d.R] 25]) (sub_cons (d := 3) rfl (sub_nil _)) (List.sublist_append_right _ _) ?_
                exact rq_v (rv_field (k0 := 1) rfl (by kernel_rfl) rfl)
              ·
                intro vf pf hR
                have e11 : (vf 11) = .bool false ∧ (pf 11) = [] := hR 11 (by decide)
                have e12 : (vf 12) = .pointer (some ⟨b2, 0 + 1, none⟩) ∧ (pf 12) = [] := hR 12 (by decide)
                refine Or.inl ⟨want_of (congrArg some e11.1) rfl, ?_⟩
                refine rq_less (l' := [boxE b2 #[t.mv, t.lv, .int .i64 t.pad, .int .i64 t.ram] 39, boxE b1 #[.int .i64 d.W, .int .i64 d.H, .int .i64 d.T, .int .i64 d.R] 25]) (sub_cons (d := 21) (congrArg some e12.1) (sub_nil _)) (List.sublist_append_right _ _) ?_
                exact rq_v (rv_load rfl (by kernel_rfl) rfl (box_cell 0 rfl rfl))
              ·
                intro vf pf hR
                have e11 : (vf 11) = .bool false ∧ (pf 11) = [] := hR 11 (by decide)
                have e13 : (vf 13) = t.lv ∧ (pf 13) = [] := hR 13 (by decide)
                refine Or.inl ⟨want_of (congrArg some e11.1) rfl, ?_⟩
                refine rq_less (l' := [boxE b2 #[t.mv, t.lv, .int .i64 t.pad, .int .i64 t.ram] 39, boxE b1 #[.int .i64 d.W, .int .i64 d.H, .int .i64 d.T, .int .i64 d.R] 25]) (sub_cons (d := 22) (congrArg some e13.1) (sub_nil _)) (List.sublist_append_right _ _) ?_
                exact rq_v (rv_len rfl Try.underlying37 rfl (rd_old ht.lv))
              ·
                intro vf pf hR
                have e11 : (vf 11) = .bool false ∧ (pf 11) = [] := hR 11 (by decide)
                have e14 : (vf 14) = .int .i64 (t.es.length : Int) ∧ (pf 14) = [] := hR 14 (by decide)
                refine Or.inl ⟨want_of (congrArg some e11.1) rfl, ?_⟩
                refine rq_less (l' := [boxE b2 #[t.mv, t.lv, .int .i64 t.pad, .int .i64 t.ram] 39, boxE b1 #[.int .i64 d.W, .int .i64 d.H, .int .i64 d.T, .int .i64 d.R] 25]) (sub_cons (d := 23) (congrArg some e14.1) (sub_nil _)) (List.sublist_append_right _ _) ?_
                exact rq_mono (rq_v (rv_cmp rfl rfl rfl rfl)) (fun _ _ h => ⟨h.1.trans (congrArg Value.bool hb5), h.2⟩)
              ·
                intro vf pf hR
                have e11 : (vf 11) = .bool false ∧ (pf 11) = [] := hR 11 (by decide)
                have e15 : (vf 15) = .bool false ∧ (pf 15) = [] := hR 15 (by decide)
                refine Or.inl ⟨rfl, ?_⟩
                refine rq_less (l' := [boxE b2 #[t.mv, t.lv, .int .i64 t.pad, .int .i64 t.ram] 39, boxE b1 #[.int .i64 d.W, .int .i64 d.H, .int .i64 d.T, .int .i64 d.R] 25]) (sub_cons (d := 20) (congrArg some e11.1) (sub_cons (d := 24) (congrArg some e15.1) (sub_nil _))) (List.sublist_append_right _ _) ?_
                exact rq_v (rv_ev rfl)
              ·
                intro vf pf hR
                have e16 : (vf 16) = .bool false ∧ (pf 16) = [] := hR 16 (by decide)
                refine Or.inl ⟨rfl, ?_⟩
                refine rq_less (l' := [boxE b2 #[t.mv, t.lv, .int .i64 t.pad, .int .i64 t.ram] 39, boxE b1 #[.int .i64 d.W, .int .i64 d.H, .int .i64 d.T, .int .i64 d.R] 25]) (sub_cons (d := 25) (congrArg some e16.1) (sub_nil _)) (List.sublist_append_right _ _) ?_
                exact rq_v (rv_ev rfl)
              ·
                intro vf pf hR
                have e17 : (vf 17) = .bool false ∧ (pf 17) = [] := hR 17 (by decide)
                refine Or.inl ⟨want_of (congrArg some e17.1) rfl, ?_⟩
                refine rq_less (l' := [boxE b2 #[t.mv, t.lv, .int .i64 t.pad, .int .i64 t.ram] 39, boxE b1 #[.int .i64 d.W, .int .i64 d.H, .int .i64 d.T, .int .i64 d.R] 25]) (sub_cons (d := 3) rfl (sub_nil _)) (List.sublist_append_right _ _) ?_
                exact rq_v (rv_field (k0 := 2) rfl (by kernel_rfl) rfl)
              ·
                intro vf pf hR
                have e17 : (vf 17) = .bool false ∧ (pf 17) = [] := hR 17 (by decide)
                have e18 : (vf 18) = .pointer (some ⟨b2, 0 + 2, none⟩) ∧ (pf 18) = [] := hR 18 (by decide)
                refine Or.inl ⟨want_of (congrArg some e17.1) rfl, ?_⟩
                refine rq_less (l' := [boxE b2 #[t.mv, t.lv, .int .i64 t.pad, .int .i64 t.ram] 39, boxE b1 #[.int .i64 d.W, .int .i64 d.H, .int .i64 d.T, .int .i64 d.R] 25]) (sub_cons (d := 27) (congrArg some e18.1) (sub_nil _)) (List.sublist_append_right _ _) ?_
                exact rq_v (rv_load rfl (by kernel_rfl) rfl (box_cell 0 rfl rfl))
              ·
                intro vf pf hR
                have e17 : (vf 17) = .bool false ∧ (pf 17) = [] := hR 17 (by decide)
                have e19 : (vf 19) = .int .i64 t.pad ∧ (pf 19) = [] := hR 19 (by decide)
                refine Or.inl ⟨want_of (congrArg some e17.1) rfl, ?_⟩
                refine rq_less (l' := [boxE b2 #[t.mv, t.lv, .int .i64 t.pad, .int .i64 t.ram] 39, boxE b1 #[.int .i64 d.W, .int .i64 d.H, .int .i64 d.T, .int .i64 d.R] 25]) (sub_cons (d := 28) (congrArg some e19.1) (sub_nil _)) (List.sublist_append_right _ _) ?_
                exact rq_mono (rq_call (by kernel_rfl) rfl (fun w hm => ret_ans (ans_of (l01In_any _ _ _ w)))) (fun _ _ h => ⟨h.1.trans (congrArg Value.bool hb6), h.2⟩)
              ·
                intro vf pf hR
                have e17 : (vf 17) = .bool false ∧ (pf 17) = [] := hR 17 (by decide)
                have e20 : (vf 20) = .bool true ∧ (pf 20) = [] := hR 20 (by decide)
                refine Or.inl ⟨want_of (congrArg some e17.1) rfl, ?_⟩
                refine rq_less (l' := [boxE b2 #[t.mv, t.lv, .int .i64 t.pad, .int .i64 t.ram] 39, boxE b1 #[.int .i64 d.W, .int .i64 d.H, .int .i64 d.T, .int .i64 d.R] 25]) (sub_cons (d := 29) (congrArg some e20.1) (sub_nil _)) (List.sublist_append_right _ _) ?_
                exact rq_v (rv_ev rfl)
              ·
                intro vf pf hR
                have e17 : (vf 17) = .bool false ∧ (pf 17) = [] := hR 17 (by decide)
                have e21 : (vf 21) = .bool false ∧ (pf 21) = [] := hR 21 (by decide)
                refine Or.inl ⟨rfl, ?_⟩
                refine rq_less (l' := [boxE b2 #[t.mv, t.lv, .int .i64 t.pad, .int .i64 t.ram] 39, boxE b1 #[.int .i64 d.W, .int .i64 d.H, .int .i64 d.T, .int .i64 d.R] 25]) (sub_cons (d := 26) (congrArg some e17.1) (sub_cons (d := 30) (congrArg some e21.1) (sub_nil _))) (List.sublist_append_right _ _) ?_
                exact rq_v (rv_ev rfl)
              ·
                intro vf pf hR
                have e22 : (vf 22) = .bool false ∧ (pf 22) = [] := hR 22 (by decide)
                refine Or.inl ⟨rfl, ?_⟩
                refine rq_less (l' := [boxE b2 #[t.mv, t.lv, .int .i64 t.pad, .int .i64 t.ram] 39, boxE b1 #[.int .i64 d.W, .int .i64 d.H, .int .i64 d.T, .int .i64 d.R] 25]) (sub_cons (d := 31) (congrArg some e22.1) (sub_nil _)) (List.sublist_append_right _ _) ?_
                exact rq_v (rv_ev rfl)
              ·
                intro vf pf hR
                have e23 : (vf 23) = .bool false ∧ (pf 23) = [] := hR 23 (by decide)
                refine Or.inl ⟨want_of (congrArg some e23.1) rfl, ?_⟩
                refine rq_less (l' := [boxE b2 #[t.mv, t.lv, .int .i64 t.pad, .int .i64 t.ram] 39, boxE b1 #[.int .i64 d.W, .int .i64 d.H, .int .i64 d.T, .int .i64 d.R] 25]) (sub_cons (d := 3) rfl (sub_nil _)) (List.sublist_append_right _ _) ?_
                exact rq_v (rv_field (k0 := 3) rfl (by kernel_rfl) rfl)
              ·
                intro vf pf hR
                have e23 : (vf 23) = .bool false ∧ (pf 23) = [] := hR 23 (by decide)
                have e24 : (vf 24) = .pointer (some ⟨b2, 0 + 3, none⟩) ∧ (pf 24) = [] := hR 24 (by decide)
                refine Or.inl ⟨want_of (congrArg some e23.1) rfl, ?_⟩
                refine rq_less (l' := [boxE b2 #[t.mv, t.lv, .int .i64 t.pad, .int .i64 t.ram] 39, boxE b1 #[.int .i64 d.W, .int .i64 d.H, .int .i64 d.T, .int .i64 d.R] 25]) (sub_cons (d := 33) (congrArg some e24.1) (sub_nil _)) (List.sublist_append_right _ _) ?_
                exact rq_v (rv_load rfl (by kernel_rfl) rfl (box_cell 0 rfl rfl))
              ·
                intro vf pf hR
                have e23 : (vf 23) = .bool false ∧ (pf 23) = [] := hR 23 (by decide)
                have e25 : (vf 25) = .int .i64 t.ram ∧ (pf 25) = [] := hR 25 (by decide)
                refine Or.inl ⟨want_of (congrArg some e23.1) rfl, ?_⟩
                refine rq_less (l' := [boxE b2 #[t.mv, t.lv, .int .i64 t.pad, .int .i64 t.ram] 39, boxE b1 #[.int .i64 d.W, .int .i64 d.H, .int .i64 d.T, .int .i64 d.R] 25]) (sub_cons (d := 34) (congrArg some e25.1) (sub_nil _)) (List.sublist_append_right _ _) ?_
                exact rq_mono (rq_call (by kernel_rfl) rfl (fun w hm => ret_ans (ans_of (l01In_any _ _ _ w)))) (fun _ _ h => ⟨h.1.trans (congrArg Value.bool hb7), h.2⟩)
              ·
                intro vf pf hR
                have e23 : (vf 23) = .bool false ∧ (pf 23) = [] := hR 23 (by decide)
                have e26 : (vf 26) = .bool false ∧ (pf 26) = [] := hR 26 (by decide)
                refine Or.inl ⟨want_of (congrArg some e23.1) rfl, ?_⟩
                refine rq_less (l' := [boxE b2 #[t.mv, t.lv, .int .i64 t.pad, .int .i64 t.ram] 39, boxE b1 #[.int .i64 d.W, .int .i64 d.H, .int .i64 d.T, .int .i64 d.R] 25]) (sub_cons (d := 35) (congrArg some e26.1) (sub_nil _)) (List.sublist_append_right _ _) ?_
                exact rq_v (rv_ev rfl)
              ·
                intro vf pf hR
                have e23 : (vf 23) = .bool false ∧ (pf 23) = [] := hR 23 (by decide)
                have e27 : (vf 27) = .bool true ∧ (pf 27) = [] := hR 27 (by decide)
                refine Or.inl ⟨rfl, ?_⟩
                refine rq_less (l' := [boxE b2 #[t.mv, t.lv, .int .i64 t.pad, .int .i64 t.ram] 39, boxE b1 #[.int .i64 d.W, .int .i64 d.H, .int .i64 d.T, .int .i64 d.R] 25]) (sub_cons (d := 32) (congrArg some e23.1) (sub_cons (d := 36) (congrArg some e27.1) (sub_nil _))) (List.sublist_append_right _ _) ?_
                exact rq_v (rv_ev rfl)
            ·
              intro vf pf hR
              have e28 : (vf 28) = .bool true ∧ (pf 28) = [] := hR 28 (by decide)
              refine hl_less (l' := [boxE b2 #[t.mv, t.lv, .int .i64 t.pad, .int .i64 t.ram] 39, boxE b1 #[.int .i64 d.W, .int .i64 d.H, .int .i64 d.T, .int .i64 d.R] 25]) (sub_cons (d := 0) rfl (sub_cons (d := 1) rfl (sub_cons (d := 2) rfl (sub_cons (d := 3) rfl (sub_cons (d := 4) rfl (sub_cons (d := 37) (congrArg some e28.1) (sub_nil _))))))) (List.sublist_append_right _ _) ?_
              simp only [List.drop_succ_cons, List.drop_zero]
              refine hl_less (sub_cons (d := 0) rfl (sub_cons (d := 1) rfl (sub_cons (d := 2) rfl (sub_cons (d := 3) rfl (sub_cons (d := 4) rfl (sub_cons (d := 37) rfl (sub_nil _))))))) (.refl _) ?_
              refine hl_nil ?_
              refine hq_then ?_
              refine hc_true rfl ?_
              refine hc_seq ?_
              refine hc_region ?_
              refine hl_v rfl rfl rfl (rv_ev rfl) ?_
              refine hl_less (sub_cons (d := 0) rfl (sub_cons (d := 1) rfl (sub_cons (d := 2) rfl (sub_cons (d := 3) rfl (sub_cons (d := 4) rfl (sub_cons (d := 37) rfl (sub_nil _))))))) (.refl _) ?_
              refine hl_nil ?_
              refine hq_then ?_
              refine hc_ret ?_
              refine hq_then_ret ?_
              exact hq_ans rfl rfl (congrArg _ (Bool.eq_false_iff.2 (fun h => by obtain ⟨q1, q2, q3, q4, q5, q6, q7⟩ := (tcOkV_iff d t).1 h; first | omega | (have := q6 j (by omega); omega) | (obtain ⟨r1, r2, r3, r4, r5⟩ := (leOkV_iff _).1 (q7 e (by omega)); first | omega | (have := r5 k (by omega); omega)) | contradiction | simp_all)).symm)
        ·
          have hb6a := inR_nah hb6
          refine hc_draw (by kernel_rfl) 29 [0, 1, 2, 3, 4, 5, 6, 7, 8, 9, 10, 11, 12, 13, 14, 15, 16, 17, 18, 19, 20, 21, 22, 23, 24, 25, 26, 27, 28] (List.take 29 _) (List.drop 29 _) [[], [0], [1], [2], [3], [3, 4], [3, 5], [3], [3, 7], [3, 6, 8], [3, 9], [10], [11], [11, 12], [11, 13], [11, 14], [11, 15], [16], [17], [17, 18], [17, 19], [17, 20], [17, 21], [22], [23], [23], [23], [23], [23, 27]] [9, 10, 11, 12, 13, 14, 15, 16, 17, 18, 19, 20, 21, 22, 23, 24, 25, 26, 27, 28, 29, 30, 31, 32, 33, 34, 35, 36, 37] (fun i vs_ v_ p_ => match i with | 0 => v_ = .agg #[.int .i64 d.W, .int .i64 d.H, .int .i64 d.T, .int .i64 d.R] ∧ p_ = [] | 1 => v_ = .bool true ∧ p_ = [] | 2 => v_ = .bool false ∧ p_ = [] | 3 => v_ = .bool false ∧ p_ = [] | 4 => v_ = .pointer (some ⟨b2, 0 + 0, none⟩) ∧ p_ = [] | 5 => v_ = t.mv ∧ p_ = [] | 6 => v_ = .int .i64 (t.mx.length : Int) ∧ p_ = [] | 7 => v_ = .agg #[.int .i64 d.W, .int .i64 d.H, .int .i64 d.T, .int .i64 d.R] ∧ p_ = [] | 8 => v_ = .int .i64 (5 + 4 * d.T) ∧ p_ = [] | 9 => v_ = .bool false ∧ p_ = [] | 10 => v_ = .bool false ∧ p_ = [] | 11 => v_ = .bool false ∧ p_ = [] | 12 => v_ = .pointer (some ⟨b2, 0 + 1, none⟩) ∧ p_ = [] | 13 => v_ = t.lv ∧ p_ = [] | 14 => v_ = .int .i64 (t.es.length : Int) ∧ p_ = [] | 15 => v_ = .bool false ∧ p_ = [] | 16 => v_ = .bool false ∧ p_ = [] | 17 => v_ = .bool false ∧ p_ = [] | 18 => v_ = .pointer (some ⟨b2, 0 + 2, none⟩) ∧ p_ = [] | 19 => v_ = .int .i64 t.pad ∧ p_ = [] | 20 => v_ = .bool false ∧ p_ = [] | 21 => v_ = .bool true ∧ p_ = [] | 22 => v_ = .bool true ∧ p_ = [] | 23 => v_ = .bool true ∧ p_ = [] | 24 => v_ = undef ∧ p_ = [] | 25 => v_ = undef ∧ p_ = [] | 26 => v_ = undef ∧ p_ = [] | 27 => v_ = undef ∧ p_ = [] | 28 => v_ = .bool true ∧ p_ = [] | _ => True) (List.take_append_drop 29 _).symm (by kernel_rfl) (by kernel_rfl) rfl rfl ?_ ?_
          ·
            refine ⟨?_, ?_, ?_, ?_, ?_, ?_, ?_, ?_, ?_, ?_, ?_, ?_, ?_, ?_, ?_, ?_, ?_, ?_, ?_, ?_, ?_, ?_, ?_, ?_, ?_, ?_, ?_, ?_, ?_, trivial⟩
            ·
              intro vf pf hR
              refine Or.inl ⟨rfl, ?_⟩
              refine rq_less (l' := [boxE b2 #[t.mv, t.lv, .int .i64 t.pad, .int .i64 t.ram] 39, boxE b1 #[.int .i64 d.W, .int .i64 d.H, .int .i64 d.T, .int .i64 d.R] 25]) (sub_cons (d := 2) rfl (sub_nil _)) (List.sublist_append_right _ _) ?_
              exact rq_v (rv_loadN (cs := [.int .i64 d.W, .int .i64 d.H, .int .i64 d.T, .int .i64 d.R]) rfl (by kernel_rfl) (by kernel_rfl) rfl rfl (box_part 1 rfl 0 rfl))
            ·
              intro vf pf hR
              have e0 : (vf 0) = .agg #[.int .i64 d.W, .int .i64 d.H, .int .i64 d.T, .int .i64 d.R] ∧ (pf 0) = [] := hR 0 (by decide)
              refine Or.inl ⟨rfl, ?_⟩
              refine rq_less (l' := [boxE b2 #[t.mv, t.lv, .int .i64 t.pad, .int .i64 t.ram] 39, boxE b1 #[.int .i64 d.W, .int .i64 d.H, .int .i64 d.T, .int .i64 d.R] 25]) (sub_cons (d := 9) (congrArg some e0.1) (sub_nil _)) (List.sublist_append_right _ _) ?_
              exact rq_mono (rq_call (by kernel_rfl) rfl (fun w hm => ret_ans (specDeviceOk_any d w))) (fun _ _ h => ⟨h.1.trans (congrArg Value.bool hb3), h.2⟩)
            ·
              intro vf pf hR
              have e1 : (vf 1) = .bool true ∧ (pf 1) = [] := hR 1 (by decide)
              refine Or.inl ⟨rfl, ?_⟩
              refine rq_less (l' := [boxE b2 #[t.mv, t.lv, .int .i64 t.pad, .int .i64 t.ram] 39, boxE b1 #[.int .i64 d.W, .int .i64 d.H, .int .i64 d.T, .int .i64 d.R] 25]) (sub_cons (d := 10) (congrArg some e1.1) (sub_nil _)) (List.sublist_append_right _ _) ?_
              exact rq_v (rv_ev rfl)
            ·
              intro vf pf hR
              have e2 : (vf 2) = .bool false ∧ (pf 2) = [] := hR 2 (by decide)
              refine Or.inl ⟨rfl, ?_⟩
              refine rq_less (l' := [boxE b2 #[t.mv, t.lv, .int .i64 t.pad, .int .i64 t.ram] 39, boxE b1 #[.int .i64 d.W, .int .i64 d.H, .int .i64 d.T, .int .i64 d.R] 25]) (sub_cons (d := 11) (congrArg some e2.1) (sub_nil _)) (List.sublist_append_right _ _) ?_
              exact rq_v (rv_ev rfl)
            ·
              intro vf pf hR
              have e3 : (vf 3) = .bool false ∧ (pf 3) = [] := hR 3 (by decide)
              refine Or.inl ⟨want_of (congrArg some e3.1) rfl, ?_⟩
              refine rq_less (l' := [boxE b2 #[t.mv, t.lv, .int .i64 t.pad, .int .i64 t.ram] 39, boxE b1 #[.int .i64 d.W, .int .i64 d.H, .int .i64 d.T, .int .i64 d.R] 25]) (sub_cons (d := 3) rfl (sub_nil _)) (List.sublist_append_right _ _) ?_
              exact rq_v (rv_field (k0 := 0) rfl (by kernel_rfl) rfl)
            ·
              intro vf pf hR
              have e3 : (vf 3) = .bool false ∧ (pf 3) = [] := hR 3 (by decide)
              have e4 : (vf 4) = .pointer (some ⟨b2, 0 + 0, none⟩) ∧ (pf 4) = [] := hR 4 (by decide)
              refine Or.inl ⟨want_of (congrArg some e3.1) rfl, ?_⟩
              refine rq_less (l' := [boxE b2 #[t.mv, t.lv, .int .i64 t.pad, .int .i64 t.ram] 39, boxE b1 #[.int .i64 d.W, .int .i64 d.H, .int .i64 d.T, .int .i64 d.R] 25]) (sub_cons (d := 13) (congrArg some e4.1) (sub_nil _)) (List.sublist_append_right _ _) ?_
              exact rq_v (rv_load rfl (by kernel_rfl) rfl (box_cell 0 rfl rfl))
            ·
              intro vf pf hR
              have e3 : (vf 3) = .bool false ∧ (pf 3) = [] := hR 3 (by decide)
              have e5 : (vf 5) = t.mv ∧ (pf 5) = [] := hR 5 (by decide)
              refine Or.inl ⟨want_of (congrArg some e3.1) rfl, ?_⟩
              refine rq_less (l' := [boxE b2 #[t.mv, t.lv, .int .i64 t.pad, .int .i64 t.ram] 39, boxE b1 #[.int .i64 d.W, .int .i64 d.H, .int .i64 d.T, .int .i64 d.R] 25]) (sub_cons (d := 14) (congrArg some e5.1) (sub_nil _)) (List.sublist_append_right _ _) ?_
              exact rq_v (rv_len rfl Try.underlying30 rfl (rd_old ht.mx))
            ·
              intro vf pf hR
              have e3 : (vf 3) = .bool false ∧ (pf 3) = [] := hR 3 (by decide)
              refine Or.inl ⟨want_of (congrArg some e3.1) rfl, ?_⟩
              refine rq_less (l' := [boxE b2 #[t.mv, t.lv, .int .i64 t.pad, .int .i64 t.ram] 39, boxE b1 #[.int .i64 d.W, .int .i64 d.H, .int .i64 d.T, .int .i64 d.R] 25]) (sub_cons (d := 2) rfl (sub_nil _)) (List.sublist_append_right _ _) ?_
              exact rq_v (rv_loadN (cs := [.int .i64 d.W, .int .i64 d.H, .int .i64 d.T, .int .i64 d.R]) rfl (by kernel_rfl) (by kernel_rfl) rfl rfl (box_part 1 rfl 0 rfl))
            ·
              intro vf pf hR
              have e3 : (vf 3) = .bool false ∧ (pf 3) = [] := hR 3 (by decide)
              have e7 : (vf 7) = .agg #[.int .i64 d.W, .int .i64 d.H, .int .i64 d.T, .int .i64 d.R] ∧ (pf 7) = [] := hR 7 (by decide)
              refine Or.inl ⟨want_of (congrArg some e3.1) rfl, ?_⟩
              refine rq_less (l' := [boxE b2 #[t.mv, t.lv, .int .i64 t.pad, .int .i64 t.ram] 39, boxE b1 #[.int .i64 d.W, .int .i64 d.H, .int .i64 d.T, .int .i64 d.R] 25]) (sub_cons (d := 16) (congrArg some e7.1) (sub_nil _)) (List.sublist_append_right _ _) ?_
              exact (rq_call (by kernel_rfl) rfl (fun w hm => ret_ans (specMuxCount_yes d (by assumption) w)))
            ·
              intro vf pf hR
              have e3 : (vf 3) = .bool false ∧ (pf 3) = [] := hR 3 (by decide)
              have e6 : (vf 6) = .int .i64 (t.mx.length : Int) ∧ (pf 6) = [] := hR 6 (by decide)
              have e8 : (vf 8) = .int .i64 (5 + 4 * d.T) ∧ (pf 8) = [] := hR 8 (by decide)
              refine Or.inl ⟨want_of (congrArg some e3.1) rfl, ?_⟩
              refine rq_less (l' := [boxE b2 #[t.mv, t.lv, .int .i64 t.pad, .int .i64 t.ram] 39, boxE b1 #[.int .i64 d.W, .int .i64 d.H, .int .i64 d.T, .int .i64 d.R] 25]) (sub_cons (d := 15) (congrArg some e6.1) (sub_cons (d := 17) (congrArg some e8.1) (sub_nil _))) (List.sublist_append_right _ _) ?_
              exact rq_mono (rq_v (rv_cmp rfl rfl rfl rfl)) (fun _ _ h => ⟨h.1.trans (congrArg Value.bool hb4), h.2⟩)
            ·
              intro vf pf hR
              have e3 : (vf 3) = .bool false ∧ (pf 3) = [] := hR 3 (by decide)
              have e9 : (vf 9) = .bool false ∧ (pf 9) = [] := hR 9 (by decide)
              refine Or.inl ⟨rfl, ?_⟩
              refine rq_less (l' := [boxE b2 #[t.mv, t.lv, .int .i64 t.pad, .int .i64 t.ram] 39, boxE b1 #[.int .i64 d.W, .int .i64 d.H, .int .i64 d.T, .int .i64 d.R] 25]) (sub_cons (d := 12) (congrArg some e3.1) (sub_cons (d := 18) (congrArg some e9.1) (sub_nil _))) (List.sublist_append_right _ _) ?_
              exact rq_v (rv_ev rfl)
            ·
              intro vf pf hR
              have e10 : (vf 10) = .bool false ∧ (pf 10) = [] := hR 10 (by decide)
              refine Or.inl ⟨rfl, ?_⟩
              refine rq_less (l' := [boxE b2 #[t.mv, t.lv, .int .i64 t.pad, .int .i64 t.ram] 39, boxE b1 #[.int .i64 d.W, .int .i64 d.H, .int .i64 d.T, .int .i64 d.R] 25]) (sub_cons (d := 19) (congrArg some e10.1) (sub_nil _)) (List.sublist_append_right _ _) ?_
              exact rq_v (rv_ev rfl)
            ·
              intro vf pf hR
              have e11 : (vf 11) = .bool false ∧ (pf 11) = [] := hR 11 (by decide)
              refine Or.inl ⟨want_of (congrArg some e11.1) rfl, ?_⟩
              refine rq_less (l' := [boxE b2 #[t.mv, t.lv, .int .i64 t.pad, .int .i64 t.ram] 39, boxE b1 #[.int .i64 d.W, .int .i64 d.H, .int .i64 d.T, .int .i64 d.R] 25]) (sub_cons (d := 3) rfl (sub_nil _)) (List.sublist_append_right _ _) ?_
              exact rq_v (rv_field (k0 := 1) rfl (by kernel_rfl) rfl)
            ·
              intro vf pf hR
              have e11 : (vf 11) = .bool false ∧ (pf 11) = [] := hR 11 (by decide)
              have e12 : (vf 12) = .pointer (some ⟨b2, 0 + 1, none⟩) ∧ (pf 12) = [] := hR 12 (by decide)
              refine Or.inl ⟨want_of (congrArg some e11.1) rfl, ?_⟩
              refine rq_less (l' := [boxE b2 #[t.mv, t.lv, .int .i64 t.pad, .int .i64 t.ram] 39, boxE b1 #[.int .i64 d.W, .int .i64 d.H, .int .i64 d.T, .int .i64 d.R] 25]) (sub_cons (d := 21) (congrArg some e12.1) (sub_nil _)) (List.sublist_append_right _ _) ?_
              exact rq_v (rv_load rfl (by kernel_rfl) rfl (box_cell 0 rfl rfl))
            ·
              intro vf pf hR
              have e11 : (vf 11) = .bool false ∧ (pf 11) = [] := hR 11 (by decide)
              have e13 : (vf 13) = t.lv ∧ (pf 13) = [] := hR 13 (by decide)
              refine Or.inl ⟨want_of (congrArg some e11.1) rfl, ?_⟩
              refine rq_less (l' := [boxE b2 #[t.mv, t.lv, .int .i64 t.pad, .int .i64 t.ram] 39, boxE b1 #[.int .i64 d.W, .int .i64 d.H, .int .i64 d.T, .int .i64 d.R] 25]) (sub_cons (d := 22) (congrArg some e13.1) (sub_nil _)) (List.sublist_append_right _ _) ?_
              exact rq_v (rv_len rfl Try.underlying37 rfl (rd_old ht.lv))
            ·
              intro vf pf hR
              have e11 : (vf 11) = .bool false ∧ (pf 11) = [] := hR 11 (by decide)
              have e14 : (vf 14) = .int .i64 (t.es.length : Int) ∧ (pf 14) = [] := hR 14 (by decide)
              refine Or.inl ⟨want_of (congrArg some e11.1) rfl, ?_⟩
              refine rq_less (l' := [boxE b2 #[t.mv, t.lv, .int .i64 t.pad, .int .i64 t.ram] 39, boxE b1 #[.int .i64 d.W, .int .i64 d.H, .int .i64 d.T, .int .i64 d.R] 25]) (sub_cons (d := 23) (congrArg some e14.1) (sub_nil _)) (List.sublist_append_right _ _) ?_
              exact rq_mono (rq_v (rv_cmp rfl rfl rfl rfl)) (fun _ _ h => ⟨h.1.trans (congrArg Value.bool hb5), h.2⟩)
            ·
              intro vf pf hR
              have e11 : (vf 11) = .bool false ∧ (pf 11) = [] := hR 11 (by decide)
              have e15 : (vf 15) = .bool false ∧ (pf 15) = [] := hR 15 (by decide)
              refine Or.inl ⟨rfl, ?_⟩
              refine rq_less (l' := [boxE b2 #[t.mv, t.lv, .int .i64 t.pad, .int .i64 t.ram] 39, boxE b1 #[.int .i64 d.W, .int .i64 d.H, .int .i64 d.T, .int .i64 d.R] 25]) (sub_cons (d := 20) (congrArg some e11.1) (sub_cons (d := 24) (congrArg some e15.1) (sub_nil _))) (List.sublist_append_right _ _) ?_
              exact rq_v (rv_ev rfl)
            ·
              intro vf pf hR
              have e16 : (vf 16) = .bool false ∧ (pf 16) = [] := hR 16 (by decide)
              refine Or.inl ⟨rfl, ?_⟩
              refine rq_less (l' := [boxE b2 #[t.mv, t.lv, .int .i64 t.pad, .int .i64 t.ram] 39, boxE b1 #[.int .i64 d.W, .int .i64 d.H, .int .i64 d.T, .int .i64 d.R] 25]) (sub_cons (d := 25) (congrArg some e16.1) (sub_nil _)) (List.sublist_append_right _ _) ?_
              exact rq_v (rv_ev rfl)
            ·
              intro vf pf hR
              have e17 : (vf 17) = .bool false ∧ (pf 17) = [] := hR 17 (by decide)
              refine Or.inl ⟨want_of (congrArg some e17.1) rfl, ?_⟩
              refine rq_less (l' := [boxE b2 #[t.mv, t.lv, .int .i64 t.pad, .int .i64 t.ram] 39, boxE b1 #[.int .i64 d.W, .int .i64 d.H, .int .i64 d.T, .int .i64 d.R] 25]) (sub_cons (d := 3) rfl (sub_nil _)) (List.sublist_append_right _ _) ?_
              exact rq_v (rv_field (k0 := 2) rfl (by kernel_rfl) rfl)
            ·
              intro vf pf hR
              have e17 : (vf 17) = .bool false ∧ (pf 17) = [] := hR 17 (by decide)
              have e18 : (vf 18) = .pointer (some ⟨b2, 0 + 2, none⟩) ∧ (pf 18) = [] := hR 18 (by decide)
              refine Or.inl ⟨want_of (congrArg some e17.1) rfl, ?_⟩
              refine rq_less (l' := [boxE b2 #[t.mv, t.lv, .int .i64 t.pad, .int .i64 t.ram] 39, boxE b1 #[.int .i64 d.W, .int .i64 d.H, .int .i64 d.T, .int .i64 d.R] 25]) (sub_cons (d := 27) (congrArg some e18.1) (sub_nil _)) (List.sublist_append_right _ _) ?_
              exact rq_v (rv_load rfl (by kernel_rfl) rfl (box_cell 0 rfl rfl))
            ·
              intro vf pf hR
              have e17 : (vf 17) = .bool false ∧ (pf 17) = [] := hR 17 (by decide)
              have e19 : (vf 19) = .int .i64 t.pad ∧ (pf 19) = [] := hR 19 (by decide)
              refine Or.inl ⟨want_of (congrArg some e17.1) rfl, ?_⟩
              refine rq_less (l' := [boxE b2 #[t.mv, t.lv, .int .i64 t.pad, .int .i64 t.ram] 39, boxE b1 #[.int .i64 d.W, .int .i64 d.H, .int .i64 d.T, .int .i64 d.R] 25]) (sub_cons (d := 28) (congrArg some e19.1) (sub_nil _)) (List.sublist_append_right _ _) ?_
              exact rq_mono (rq_call (by kernel_rfl) rfl (fun w hm => ret_ans (ans_of (l01In_any _ _ _ w)))) (fun _ _ h => ⟨h.1.trans (congrArg Value.bool hb6), h.2⟩)
            ·
              intro vf pf hR
              have e17 : (vf 17) = .bool false ∧ (pf 17) = [] := hR 17 (by decide)
              have e20 : (vf 20) = .bool false ∧ (pf 20) = [] := hR 20 (by decide)
              refine Or.inl ⟨want_of (congrArg some e17.1) rfl, ?_⟩
              refine rq_less (l' := [boxE b2 #[t.mv, t.lv, .int .i64 t.pad, .int .i64 t.ram] 39, boxE b1 #[.int .i64 d.W, .int .i64 d.H, .int .i64 d.T, .int .i64 d.R] 25]) (sub_cons (d := 29) (congrArg some e20.1) (sub_nil _)) (List.sublist_append_right _ _) ?_
              exact rq_v (rv_ev rfl)
            ·
              intro vf pf hR
              have e17 : (vf 17) = .bool false ∧ (pf 17) = [] := hR 17 (by decide)
              have e21 : (vf 21) = .bool true ∧ (pf 21) = [] := hR 21 (by decide)
              refine Or.inl ⟨rfl, ?_⟩
              refine rq_less (l' := [boxE b2 #[t.mv, t.lv, .int .i64 t.pad, .int .i64 t.ram] 39, boxE b1 #[.int .i64 d.W, .int .i64 d.H, .int .i64 d.T, .int .i64 d.R] 25]) (sub_cons (d := 26) (congrArg some e17.1) (sub_cons (d := 30) (congrArg some e21.1) (sub_nil _))) (List.sublist_append_right _ _) ?_
              exact rq_v (rv_ev rfl)
            ·
              intro vf pf hR
              have e22 : (vf 22) = .bool true ∧ (pf 22) = [] := hR 22 (by decide)
              refine Or.inl ⟨rfl, ?_⟩
              refine rq_less (l' := [boxE b2 #[t.mv, t.lv, .int .i64 t.pad, .int .i64 t.ram] 39, boxE b1 #[.int .i64 d.W, .int .i64 d.H, .int .i64 d.T, .int .i64 d.R] 25]) (sub_cons (d := 31) (congrArg some e22.1) (sub_nil _)) (List.sublist_append_right _ _) ?_
              exact rq_v (rv_ev rfl)
            ·
              intro vf pf hR
              have e23 : (vf 23) = .bool true ∧ (pf 23) = [] := hR 23 (by decide)
              exact Or.inr ⟨want_of (congrArg some e23.1) rfl, rfl, rfl⟩
            ·
              intro vf pf hR
              have e23 : (vf 23) = .bool true ∧ (pf 23) = [] := hR 23 (by decide)
              exact Or.inr ⟨want_of (congrArg some e23.1) rfl, rfl, rfl⟩
            ·
              intro vf pf hR
              have e23 : (vf 23) = .bool true ∧ (pf 23) = [] := hR 23 (by decide)
              exact Or.inr ⟨want_of (congrArg some e23.1) rfl, rfl, rfl⟩
            ·
              intro vf pf hR
              have e23 : (vf 23) = .bool true ∧ (pf 23) = [] := hR 23 (by decide)
              exact Or.inr ⟨want_of (congrArg some e23.1) rfl, rfl, rfl⟩
            ·
              intro vf pf hR
              have e23 : (vf 23) = .bool true ∧ (pf 23) = [] := hR 23 (by decide)
              have e27 : (vf 27) = undef ∧ (pf 27) = [] := hR 27 (by decide)
              refine Or.inl ⟨rfl, ?_⟩
              refine rq_less (l' := [boxE b2 #[t.mv, t.lv, .int .i64 t.pad, .int .i64 t.ram] 39, boxE b1 #[.int .i64 d.W, .int .i64 d.H, .int .i64 d.T, .int .i64 d.R] 25]) (sub_cons (d := 32) (congrArg some e23.1) (sub_cons (d := 36) (congrArg some e27.1) (sub_nil _))) (List.sublist_append_right _ _) ?_
              exact rq_v (rv_ev rfl)
          ·
            intro vf pf hR
            have e28 : (vf 28) = .bool true ∧ (pf 28) = [] := hR 28 (by decide)
            refine hl_less (l' := [boxE b2 #[t.mv, t.lv, .int .i64 t.pad, .int .i64 t.ram] 39, boxE b1 #[.int .i64 d.W, .int .i64 d.H, .int .i64 d.T, .int .i64 d.R] 25]) (sub_cons (d := 0) rfl (sub_cons (d := 1) rfl (sub_cons (d := 2) rfl (sub_cons (d := 3) rfl (sub_cons (d := 4) rfl (sub_cons (d := 37) (congrArg some e28.1) (sub_nil _))))))) (List.sublist_append_right _ _) ?_
            simp only [List.drop_succ_cons, List.drop_zero]
            refine hl_less (sub_cons (d := 0) rfl (sub_cons (d := 1) rfl (sub_cons (d := 2) rfl (sub_cons (d := 3) rfl (sub_cons (d := 4) rfl (sub_cons (d := 37) rfl (sub_nil _))))))) (.refl _) ?_
            refine hl_nil ?_
            refine hq_then ?_
            refine hc_true rfl ?_
            refine hc_seq ?_
            refine hc_region ?_
            refine hl_v rfl rfl rfl (rv_ev rfl) ?_
            refine hl_less (sub_cons (d := 0) rfl (sub_cons (d := 1) rfl (sub_cons (d := 2) rfl (sub_cons (d := 3) rfl (sub_cons (d := 4) rfl (sub_cons (d := 37) rfl (sub_nil _))))))) (.refl _) ?_
            refine hl_nil ?_
            refine hq_then ?_
            refine hc_ret ?_
            refine hq_then_ret ?_
            exact hq_ans rfl rfl (congrArg _ (Bool.eq_false_iff.2 (fun h => by obtain ⟨q1, q2, q3, q4, q5, q6, q7⟩ := (tcOkV_iff d t).1 h; first | omega | (have := q6 j (by omega); omega) | (obtain ⟨r1, r2, r3, r4, r5⟩ := (leOkV_iff _).1 (q7 e (by omega)); first | omega | (have := r5 k (by omega); omega)) | contradiction | simp_all)).symm)
  ·
    refine hc_draw (by kernel_rfl) 29 [0, 1, 2, 3, 4, 5, 6, 7, 8, 9, 10, 11, 12, 13, 14, 15, 16, 17, 18, 19, 20, 21, 22, 23, 24, 25, 26, 27, 28] (List.take 29 _) (List.drop 29 _) [[], [0], [1], [2], [3], [3], [3], [3], [3], [3], [3, 9], [10], [11], [11], [11], [11], [11, 15], [16], [17], [17], [17], [17], [17, 21], [22], [23], [23], [23], [23], [23, 27]] [9, 10, 11, 12, 13, 14, 15, 16, 17, 18, 19, 20, 21, 22, 23, 24, 25, 26, 27, 28, 29, 30, 31, 32, 33, 34, 35, 36, 37] (fun i vs_ v_ p_ => match i with | 0 => v_ = .agg #[.int .i64 d.W, .int .i64 d.H, .int .i64 d.T, .int .i64 d.R] ∧ p_ = [] | 1 => v_ = .bool false ∧ p_ = [] | 2 => v_ = .bool true ∧ p_ = [] | 3 => v_ = .bool true ∧ p_ = [] | 4 => v_ = undef ∧ p_ = [] | 5 => v_ = undef ∧ p_ = [] | 6 => v_ = undef ∧ p_ = [] | 7 => v_ = undef ∧ p_ = [] | 8 => v_ = undef ∧ p_ = [] | 9 => v_ = undef ∧ p_ = [] | 10 => v_ = .bool true ∧ p_ = [] | 11 => v_ = .bool true ∧ p_ = [] | 12 => v_ = undef ∧ p_ = [] | 13 => v_ = undef ∧ p_ = [] | 14 => v_ = undef ∧ p_ = [] | 15 => v_ = undef ∧ p_ = [] | 16 => v_ = .bool true ∧ p_ = [] | 17 => v_ = .bool true ∧ p_ = [] | 18 => v_ = undef ∧ p_ = [] | 19 => v_ = undef ∧ p_ = [] | 20 => v_ = undef ∧ p_ = [] | 21 => v_ = undef ∧ p_ = [] | 22 => v_ = .bool true ∧ p_ = [] | 23 => v_ = .bool true ∧ p_ = [] | 24 => v_ = undef ∧ p_ = [] | 25 => v_ = undef ∧ p_ = [] | 26 => v_ = undef ∧ p_ = [] | 27 => v_ = undef ∧ p_ = [] | 28 => v_ = .bool true ∧ p_ = [] | _ => True) (List.take_append_drop 29 _).symm (by kernel_rfl) (by kernel_rfl) rfl rfl ?_ ?_
    ·
      refine ⟨?_, ?_, ?_, ?_, ?_, ?_, ?_, ?_, ?_, ?_, ?_, ?_, ?_, ?_, ?_, ?_, ?_, ?_, ?_, ?_, ?_, ?_, ?_, ?_, ?_, ?_, ?_, ?_, ?_, trivial⟩
      ·
        intro vf pf hR
        refine Or.inl ⟨rfl, ?_⟩
        refine rq_less (l' := [boxE b2 #[t.mv, t.lv, .int .i64 t.pad, .int .i64 t.ram] 39, boxE b1 #[.int .i64 d.W, .int .i64 d.H, .int .i64 d.T, .int .i64 d.R] 25]) (sub_cons (d := 2) rfl (sub_nil _)) (List.sublist_append_right _ _) ?_
        exact rq_v (rv_loadN (cs := [.int .i64 d.W, .int .i64 d.H, .int .i64 d.T, .int .i64 d.R]) rfl (by kernel_rfl) (by kernel_rfl) rfl rfl (box_part 1 rfl 0 rfl))
      ·
        intro vf pf hR
        have e0 : (vf 0) = .agg #[.int .i64 d.W, .int .i64 d.H, .int .i64 d.T, .int .i64 d.R] ∧ (pf 0) = [] := hR 0 (by decide)
        refine Or.inl ⟨rfl, ?_⟩
        refine rq_less (l' := [boxE b2 #[t.mv, t.lv, .int .i64 t.pad, .int .i64 t.ram] 39, boxE b1 #[.int .i64 d.W, .int .i64 d.H, .int .i64 d.T, .int .i64 d.R] 25]) (sub_cons (d := 9) (congrArg some e0.1) (sub_nil _)) (List.sublist_append_right _ _) ?_
        exact rq_mono (rq_call (by kernel_rfl) rfl (fun w hm => ret_ans (specDeviceOk_any d w))) (fun _ _ h => ⟨h.1.trans (congrArg Value.bool hb3), h.2⟩)
      ·
        intro vf pf hR
        have e1 : (vf 1) = .bool false ∧ (pf 1) = [] := hR 1 (by decide)
        refine Or.inl ⟨rfl, ?_⟩
        refine rq_less (l' := [boxE b2 #[t.mv, t.lv, .int .i64 t.pad, .int .i64 t.ram] 39, boxE b1 #[.int .i64 d.W, .int .i64 d.H, .int .i64 d.T, .int .i64 d.R] 25]) (sub_cons (d := 10) (congrArg some e1.1) (sub_nil _)) (List.sublist_append_right _ _) ?_
        exact rq_v (rv_ev rfl)
      ·
        intro vf pf hR
        have e2 : (vf 2) = .bool true ∧ (pf 2) = [] := hR 2 (by decide)
        refine Or.inl ⟨rfl, ?_⟩
        refine rq_less (l' := [boxE b2 #[t.mv, t.lv, .int .i64 t.pad, .int .i64 t.ram] 39, boxE b1 #[.int .i64 d.W, .int .i64 d.H, .int .i64 d.T, .int .i64 d.R] 25]) (sub_cons (d := 11) (congrArg some e2.1) (sub_nil _)) (List.sublist_append_right _ _) ?_
        exact rq_v (rv_ev rfl)
      ·
        intro vf pf hR
        have e3 : (vf 3) = .bool true ∧ (pf 3) = [] := hR 3 (by decide)
        exact Or.inr ⟨want_of (congrArg some e3.1) rfl, rfl, rfl⟩
      ·
        intro vf pf hR
        have e3 : (vf 3) = .bool true ∧ (pf 3) = [] := hR 3 (by decide)
        exact Or.inr ⟨want_of (congrArg some e3.1) rfl, rfl, rfl⟩
      ·
        intro vf pf hR
        have e3 : (vf 3) = .bool true ∧ (pf 3) = [] := hR 3 (by decide)
        exact Or.inr ⟨want_of (congrArg some e3.1) rfl, rfl, rfl⟩
      ·
        intro vf pf hR
        have e3 : (vf 3) = .bool true ∧ (pf 3) = [] := hR 3 (by decide)
        exact Or.inr ⟨want_of (congrArg some e3.1) rfl, rfl, rfl⟩
      ·
        intro vf pf hR
        have e3 : (vf 3) = .bool true ∧ (pf 3) = [] := hR 3 (by decide)
        exact Or.inr ⟨want_of (congrArg some e3.1) rfl, rfl, rfl⟩
      ·
        intro vf pf hR
        have e3 : (vf 3) = .bool true ∧ (pf 3) = [] := hR 3 (by decide)
        exact Or.inr ⟨want_of (congrArg some e3.1) rfl, rfl, rfl⟩
      ·
        intro vf pf hR
        have e3 : (vf 3) = .bool true ∧ (pf 3) = [] := hR 3 (by decide)
        have e9 : (vf 9) = undef ∧ (pf 9) = [] := hR 9 (by decide)
        refine Or.inl ⟨rfl, ?_⟩
        refine rq_less (l' := [boxE b2 #[t.mv, t.lv, .int .i64 t.pad, .int .i64 t.ram] 39, boxE b1 #[.int .i64 d.W, .int .i64 d.H, .int .i64 d.T, .int .i64 d.R] 25]) (sub_cons (d := 12) (congrArg some e3.1) (sub_cons (d := 18) (congrArg some e9.1) (sub_nil _))) (List.sublist_append_right _ _) ?_
        exact rq_v (rv_ev rfl)
      ·
        intro vf pf hR
        have e10 : (vf 10) = .bool true ∧ (pf 10) = [] := hR 10 (by decide)
        refine Or.inl ⟨rfl, ?_⟩
        refine rq_less (l' := [boxE b2 #[t.mv, t.lv, .int .i64 t.pad, .int .i64 t.ram] 39, boxE b1 #[.int .i64 d.W, .int .i64 d.H, .int .i64 d.T, .int .i64 d.R] 25]) (sub_cons (d := 19) (congrArg some e10.1) (sub_nil _)) (List.sublist_append_right _ _) ?_
        exact rq_v (rv_ev rfl)
      ·
        intro vf pf hR
        have e11 : (vf 11) = .bool true ∧ (pf 11) = [] := hR 11 (by decide)
        exact Or.inr ⟨want_of (congrArg some e11.1) rfl, rfl, rfl⟩
      ·
        intro vf pf hR
        have e11 : (vf 11) = .bool true ∧ (pf 11) = [] := hR 11 (by decide)
        exact Or.inr ⟨want_of (congrArg some e11.1) rfl, rfl, rfl⟩
      ·
        intro vf pf hR
        have e11 : (vf 11) = .bool true ∧ (pf 11) = [] := hR 11 (by decide)
        exact Or.inr ⟨want_of (congrArg some e11.1) rfl, rfl, rfl⟩
      ·
        intro vf pf hR
        have e11 : (vf 11) = .bool true ∧ (pf 11) = [] := hR 11 (by decide)
        exact Or.inr ⟨want_of (congrArg some e11.1) rfl, rfl, rfl⟩
      ·
        intro vf pf hR
        have e11 : (vf 11) = .bool true ∧ (pf 11) = [] := hR 11 (by decide)
        have e15 : (vf 15) = undef ∧ (pf 15) = [] := hR 15 (by decide)
        refine Or.inl ⟨rfl, ?_⟩
        refine rq_less (l' := [boxE b2 #[t.mv, t.lv, .int .i64 t.pad, .int .i64 t.ram] 39, boxE b1 #[.int .i64 d.W, .int .i64 d.H, .int .i64 d.T, .int .i64 d.R] 25]) (sub_cons (d := 20) (congrArg some e11.1) (sub_cons (d := 24) (congrArg some e15.1) (sub_nil _))) (List.sublist_append_right _ _) ?_
        exact rq_v (rv_ev rfl)
      ·
        intro vf pf hR
        have e16 : (vf 16) = .bool true ∧ (pf 16) = [] := hR 16 (by decide)
        refine Or.inl ⟨rfl, ?_⟩
        refine rq_less (l' := [boxE b2 #[t.mv, t.lv, .int .i64 t.pad, .int .i64 t.ram] 39, boxE b1 #[.int .i64 d.W, .int .i64 d.H, .int .i64 d.T, .int .i64 d.R] 25]) (sub_cons (d := 25) (congrArg some e16.1) (sub_nil _)) (List.sublist_append_right _ _) ?_
        exact rq_v (rv_ev rfl)
      ·
        intro vf pf hR
        have e17 : (vf 17) = .bool true ∧ (pf 17) = [] := hR 17 (by decide)
        exact Or.inr ⟨want_of (congrArg some e17.1) rfl, rfl, rfl⟩
      ·
        intro vf pf hR
        have e17 : (vf 17) = .bool true ∧ (pf 17) = [] := hR 17 (by decide)
        exact Or.inr ⟨want_of (congrArg some e17.1) rfl, rfl, rfl⟩
      ·
        intro vf pf hR
        have e17 : (vf 17) = .bool true ∧ (pf 17) = [] := hR 17 (by decide)
        exact Or.inr ⟨want_of (congrArg some e17.1) rfl, rfl, rfl⟩
      ·
        intro vf pf hR
        have e17 : (vf 17) = .bool true ∧ (pf 17) = [] := hR 17 (by decide)
        exact Or.inr ⟨want_of (congrArg some e17.1) rfl, rfl, rfl⟩
      ·
        intro vf pf hR
        have e17 : (vf 17) = .bool true ∧ (pf 17) = [] := hR 17 (by decide)
        have e21 : (vf 21) = undef ∧ (pf 21) = [] := hR 21 (by decide)
        refine Or.inl ⟨rfl, ?_⟩
        refine rq_less (l' := [boxE b2 #[t.mv, t.lv, .int .i64 t.pad, .int .i64 t.ram] 39, boxE b1 #[.int .i64 d.W, .int .i64 d.H, .int .i64 d.T, .int .i64 d.R] 25]) (sub_cons (d := 26) (congrArg some e17.1) (sub_cons (d := 30) (congrArg some e21.1) (sub_nil _))) (List.sublist_append_right _ _) ?_
        exact rq_v (rv_ev rfl)
      ·
        intro vf pf hR
        have e22 : (vf 22) = .bool true ∧ (pf 22) = [] := hR 22 (by decide)
        refine Or.inl ⟨rfl, ?_⟩
        refine rq_less (l' := [boxE b2 #[t.mv, t.lv, .int .i64 t.pad, .int .i64 t.ram] 39, boxE b1 #[.int .i64 d.W, .int .i64 d.H, .int .i64 d.T, .int .i64 d.R] 25]) (sub_cons (d := 31) (congrArg some e22.1) (sub_nil _)) (List.sublist_append_right _ _) ?_
        exact rq_v (rv_ev rfl)
      ·
        intro vf pf hR
        have e23 : (vf 23) = .bool true ∧ (pf 23) = [] := hR 23 (by decide)
        exact Or.inr ⟨want_of (congrArg some e23.1) rfl, rfl, rfl⟩
      ·
        intro vf pf hR
        have e23 : (vf 23) = .bool true ∧ (pf 23) = [] := hR 23 (by decide)
        exact Or.inr ⟨want_of (congrArg some e23.1) rfl, rfl, rfl⟩
      ·
        intro vf pf hR
        have e23 : (vf 23) = .bool true ∧ (pf 23) = [] := hR 23 (by decide)
        exact Or.inr ⟨want_of (congrArg some e23.1) rfl, rfl, rfl⟩
      ·
        intro vf pf hR
        have e23 : (vf 23) = .bool true ∧ (pf 23) = [] := hR 23 (by decide)
        exact Or.inr ⟨want_of (congrArg some e23.1) rfl, rfl, rfl⟩
      ·
        intro vf pf hR
        have e23 : (vf 23) = .bool true ∧ (pf 23) = [] := hR 23 (by decide)
        have e27 : (vf 27) = undef ∧ (pf 27) = [] := hR 27 (by decide)
        refine Or.inl ⟨rfl, ?_⟩
        refine rq_less (l' := [boxE b2 #[t.mv, t.lv, .int .i64 t.pad, .int .i64 t.ram] 39, boxE b1 #[.int .i64 d.W, .int .i64 d.H, .int .i64 d.T, .int .i64 d.R] 25]) (sub_cons (d := 32) (congrArg some e23.1) (sub_cons (d := 36) (congrArg some e27.1) (sub_nil _))) (List.sublist_append_right _ _) ?_
        exact rq_v (rv_ev rfl)
    ·
      intro vf pf hR
      have e28 : (vf 28) = .bool true ∧ (pf 28) = [] := hR 28 (by decide)
      refine hl_less (l' := [boxE b2 #[t.mv, t.lv, .int .i64 t.pad, .int .i64 t.ram] 39, boxE b1 #[.int .i64 d.W, .int .i64 d.H, .int .i64 d.T, .int .i64 d.R] 25]) (sub_cons (d := 0) rfl (sub_cons (d := 1) rfl (sub_cons (d := 2) rfl (sub_cons (d := 3) rfl (sub_cons (d := 4) rfl (sub_cons (d := 37) (congrArg some e28.1) (sub_nil _))))))) (List.sublist_append_right _ _) ?_
      simp only [List.drop_succ_cons, List.drop_zero]
      refine hl_less (sub_cons (d := 0) rfl (sub_cons (d := 1) rfl (sub_cons (d := 2) rfl (sub_cons (d := 3) rfl (sub_cons (d := 4) rfl (sub_cons (d := 37) rfl (sub_nil _))))))) (.refl _) ?_
      refine hl_nil ?_
      refine hq_then ?_
      refine hc_true rfl ?_
      refine hc_seq ?_
      refine hc_region ?_
      refine hl_v rfl rfl rfl (rv_ev rfl) ?_
      refine hl_less (sub_cons (d := 0) rfl (sub_cons (d := 1) rfl (sub_cons (d := 2) rfl (sub_cons (d := 3) rfl (sub_cons (d := 4) rfl (sub_cons (d := 37) rfl (sub_nil _))))))) (.refl _) ?_
      refine hl_nil ?_
      refine hq_then ?_
      refine hc_ret ?_
      refine hq_then_ret ?_
      exact hq_ans rfl rfl (congrArg _ (Bool.eq_false_iff.2 (fun h => by obtain ⟨q1, q2, q3, q4, q5, q6, q7⟩ := (tcOkV_iff d t).1 h; first | omega | (have := q6 j (by omega); omega) | (obtain ⟨r1, r2, r3, r4, r5⟩ := (leOkV_iff _).1 (q7 e (by omega)); first | omega | (have := r5 k (by omega); omega)) | contradiction | simp_all)).symm)

theorem Tc.RdU.below {w w' : World} {t : Tc} (h : t.RdU w) (hb : Below w.heap.size w w') : t.RdU w' := ⟨h.mx.below hb, h.lv.below hb, fun e he => (h.es e he).below hb⟩
set_option maxHeartbeats 4000000 in
set_option maxRecDepth 100000 in
theorem walk_FnExactTileConfigOk (d : Dev) (x : Tc) (w : World) (hx : x.RdU w) :
    Calls Try.prog 6 #[.agg #[.int .i64 d.W, .int .i64 d.H, .int .i64 d.T, .int .i64 d.R], .agg #[x.mv, x.lv, .int .i64 x.pad, .int .i64 x.ram]] w (Ans w (.bool true)) := by
  refine calls_hc (N := 33) (args := [.agg #[.int .i64 d.W, .int .i64 d.H, .int .i64 d.T, .int .i64 d.R], .agg #[x.mv, x.lv, .int .i64 x.pad, .int .i64 x.ram]]) Try.func6 rfl rfl ?_
  refine hc_less _ (sub_cons (d := 0) rfl (sub_cons (d := 1) rfl (sub_nil _))) (.refl _) ?_
  refine hc_seq ?_
  refine hc_region ?_
  refine hl_box rfl rfl rfl (rq_box rfl rfl) ?_
  intro b1
  refine hl_box rfl rfl rfl (rq_box rfl rfl) ?_
  intro b2
  refine hl_v rfl rfl rfl (rv_ev rfl) ?_
  refine hl_less (sub_cons (d := 0) rfl (sub_cons (d := 1) rfl (sub_cons (d := 2) rfl (sub_cons (d := 3) rfl (sub_cons (d := 4) rfl (sub_nil _)))))) (.refl _) ?_
  refine hl_nil ?_
  refine hq_then ?_
  refine hc_seq ?_
  refine hc_region ?_
  refine hl_v rfl rfl rfl (rv_ev rfl) ?_
  refine hl_less (sub_cons (d := 0) rfl (sub_cons (d := 1) rfl (sub_cons (d := 2) rfl (sub_cons (d := 3) rfl (sub_cons (d := 4) rfl (sub_cons (d := 5) rfl (sub_nil _))))))) (.refl _) ?_
  refine hl_nil ?_
  refine hq_then ?_
  refine hc_seq ?_
  refine hc_region ?_
  refine hl_v rfl rfl rfl (rv_loadN (cs := [x.mv, x.lv, .int .i64 x.pad, .int .i64 x.ram]) rfl (by kernel_rfl) (by kernel_rfl) rfl rfl (box_part 0 rfl 0 rfl)) ?_
  refine hl_v rfl rfl rfl (rv_ev rfl) ?_
  refine hl_q rfl rfl rfl (rq_call (by kernel_rfl) rfl (fun w hm => szTileConfig_ret x 1048576 w (hx.below hm.bel) (by omega))) ?_
  intro v3 p4 hR5
  obtain ⟨rfl, rhR5, rfl, uhR5, hsz⟩ := hR5
  refine hl_v rfl rfl rfl (rv_ev rfl) ?_
  refine hl_less (sub_cons (d := 0) rfl (sub_cons (d := 1) rfl (sub_cons (d := 2) rfl (sub_cons (d := 3) rfl (sub_cons (d := 4) rfl (sub_cons (d := 5) rfl (sub_nil _))))))) (.refl _) ?_
  refine hl_nil ?_
  refine hq_then ?_
  refine hc_seq ?_
  refine hc_seq ?_
  refine hc_region ?_
  refine hl_v rfl rfl rfl (rv_ev rfl) ?_
  refine hl_lss rfl rfl rfl rfl rfl rfl (fun h6 => ?_) (fun h6 => ?_)
  ·
    refine hl_less (sub_cons (d := 0) rfl (sub_cons (d := 1) rfl (sub_cons (d := 2) rfl (sub_cons (d := 3) rfl (sub_cons (d := 4) rfl (sub_cons (d := 5) rfl (sub_cons (d := 13) rfl (sub_nil _)))))))) (.refl _) ?_
    refine hl_nil ?_
    refine hq_then ?_
    refine hc_true rfl ?_
    refine hc_seq ?_
    refine hc_region ?_
    refine hl_v rfl rfl rfl (rv_ev rfl) ?_
    refine hl_less (sub_cons (d := 0) rfl (sub_cons (d := 1) rfl (sub_cons (d := 2) rfl (sub_cons (d := 3) rfl (sub_cons (d := 4) rfl (sub_cons (d := 5) rfl (sub_cons (d := 13) rfl (sub_nil _)))))))) (.refl _) ?_
    refine hl_nil ?_
    refine hq_then ?_
    refine hc_ret ?_
    refine hq_then_ret ?_
    exact hq_ans rfl rfl rfl
  ·
    refine hl_less (sub_cons (d := 0) rfl (sub_cons (d := 1) rfl (sub_cons (d := 2) rfl (sub_cons (d := 3) rfl (sub_cons (d := 4) rfl (sub_cons (d := 5) rfl (sub_cons (d := 13) rfl (sub_nil _)))))))) (.refl _) ?_
    refine hl_nil ?_
    refine hq_then ?_
    refine hc_false rfl ?_
    refine hc_skip ?_
    refine hq_then ?_
    refine hc_seq ?_
    obtain ⟨hs1, hs2, hs3⟩ := hsz (by omega)
    rcases Bool.eq_false_or_eq_true (tcOkV d x.val) with hb10 | hb10
    ·
      obtain ⟨hs1, hs2, hs3⟩ := hsz (by omega)
      refine hc_draw (by kernel_rfl) 5 [0, 1, 2, 3, 4] (List.take 5 _) (List.drop 5 _) [[], [0], [], [2], [1, 3]] [14, 15, 16, 17, 18] (fun i vs_ v_ p_ => match i with | 0 => v_ = .agg #[.int .i64 d.W, .int .i64 d.H, .int .i64 d.T, .int .i64 d.R] ∧ p_ = [] | 1 => v_ = .agg #[.int .i64 d.W, .int .i64 d.H, .int .i64 d.T, .int .i64 d.R] ∧ p_ = [] | 2 => v_ = .agg #[x.mv, x.lv, .int .i64 x.pad, .int .i64 x.ram] ∧ p_ = [] | 3 => (IsTc x.val) v_ p_ | 4 => v_ = .bool true ∧ p_ = [] | _ => True) (List.take_append_drop 5 _).symm (by kernel_rfl) (by kernel_rfl) rfl rfl ?_ ?_
      ·
        refine ⟨?_, ?_, ?_, ?_, ?_, trivial⟩
        ·
          intro vf pf hR
          refine Or.inl ⟨rfl, ?_⟩
          refine rq_less (l' := [boxE b2 #[x.mv, x.lv, .int .i64 x.pad, .int .i64 x.ram] 50, boxE b1 #[.int .i64 d.W, .int .i64 d.H, .int .i64 d.T, .int .i64 d.R] 36]) (sub_cons (d := 2) rfl (sub_nil _)) (List.sublist_append_right _ _) ?_
          exact rq_v (rv_loadN (cs := [.int .i64 d.W, .int .i64 d.H, .int .i64 d.T, .int .i64 d.R]) rfl (by kernel_rfl) (by kernel_rfl) rfl rfl (box_part 1 rfl 0 rfl))
        ·
          intro vf pf hR
          have e0 : (vf 0) = .agg #[.int .i64 d.W, .int .i64 d.H, .int .i64 d.T, .int .i64 d.R] ∧ (pf 0) = [] := hR 0 (by decide)
          refine Or.inl ⟨rfl, ?_⟩
          refine rq_less (l' := [boxE b2 #[x.mv, x.lv, .int .i64 x.pad, .int .i64 x.ram] 50, boxE b1 #[.int .i64 d.W, .int .i64 d.H, .int .i64 d.T, .int .i64 d.R] 36]) (sub_cons (d := 14) (congrArg some e0.1) (sub_nil _)) (List.sublist_append_right _ _) ?_
          exact (rq_call (by kernel_rfl) rfl (fun w hm => ret_ans (toDevice_any d w)))
        ·
          intro vf pf hR
          refine Or.inl ⟨rfl, ?_⟩
          refine rq_less (l' := [boxE b2 #[x.mv, x.lv, .int .i64 x.pad, .int .i64 x.ram] 50, boxE b1 #[.int .i64 d.W, .int .i64 d.H, .int .i64 d.T, .int .i64 d.R] 36]) (sub_cons (d := 3) rfl (sub_nil _)) (List.sublist_append_right _ _) ?_
          exact rq_v (rv_loadN (cs := [x.mv, x.lv, .int .i64 x.pad, .int .i64 x.ram]) rfl (by kernel_rfl) (by kernel_rfl) rfl rfl (box_part 0 rfl 0 rfl))
        ·
          intro vf pf hR
          have e2 : (vf 2) = .agg #[x.mv, x.lv, .int .i64 x.pad, .int .i64 x.ram] ∧ (pf 2) = [] := hR 2 (by decide)
          refine Or.inl ⟨rfl, ?_⟩
          refine rq_less (l' := [boxE b2 #[x.mv, x.lv, .int .i64 x.pad, .int .i64 x.ram] 50, boxE b1 #[.int .i64 d.W, .int .i64 d.H, .int .i64 d.T, .int .i64 d.R] 36]) (sub_cons (d := 16) (congrArg some e2.1) (sub_nil _)) (List.sublist_append_right _ _) ?_
          exact rq_call (by kernel_rfl) rfl (fun w hm => toTileConfig_ret x w (hx.below hm.bel) hs1 hs2 hs3)
        ·
          intro vf pf hR
          have e1 : (vf 1) = .agg #[.int .i64 d.W, .int .i64 d.H, .int .i64 d.T, .int .i64 d.R] ∧ (pf 1) = [] := hR 1 (by decide)
          have e3 : (IsTc x.val) (vf 3) (pf 3) := hR 3 (by decide)
          obtain ⟨v11, v3⟩ : ∃ x, vf 3 = x := ⟨_, rfl⟩
          obtain ⟨p12, p3⟩ : ∃ x, pf 3 = x := ⟨_, rfl⟩
          have hR13 := e3
          rw [v3, p3] at hR13
          obtain ⟨thR13, rfl, rfl, ⟨c1thR13, c2thR13⟩, valthR13, n1thR13, n2thR13, n3thR13⟩ := hR13
          have bthR13 := And.intro n1thR13 (And.intro n2thR13 n3thR13)
          refine Or.inl ⟨rfl, ?_⟩
          refine rq_less (l' := [tcE thR13, boxE b2 #[x.mv, x.lv, .int .i64 x.pad, .int .i64 x.ram] 50, boxE b1 #[.int .i64 d.W, .int .i64 d.H, .int .i64 d.T, .int .i64 d.R] 36]) (sub_cons (d := 15) (congrArg some e1.1) (sub_cons (d := 17) (congrArg some v3) (sub_nil _))) (by first | (simp only [p3, v3, e1.2, List.flatMap_cons, List.flatMap_nil, List.append_nil, List.nil_append, List.cons_append]; exact List.Sublist.refl _) | simp [p3, v3, e1.2]) ?_
          exact rq_mono (rq_call (by kernel_rfl) rfl (fun w hm => ret_ans (by have h := specTileConfigOk_ans d thR13 w (tc_rds 0 rfl bthR13.1 bthR13.2.1 bthR13.2.2 w hm); rw [valthR13] at h; exact h))) (fun _ _ h => ⟨h.1.trans (congrArg Value.bool hb10), h.2⟩)
      ·
        intro vf pf hR
        have e3 : (IsTc x.val) (vf 3) (pf 3) := hR 3 (by decide)
        obtain ⟨v11, v3⟩ : ∃ x, vf 3 = x := ⟨_, rfl⟩
        obtain ⟨p12, p3⟩ : ∃ x, pf 3 = x := ⟨_, rfl⟩
        have hR13 := e3
        rw [v3, p3] at hR13
        obtain ⟨thR13, rfl, rfl, ⟨c1thR13, c2thR13⟩, valthR13, n1thR13, n2thR13, n3thR13⟩ := hR13
        have bthR13 := And.intro n1thR13 (And.intro n2thR13 n3thR13)
        have e4 : (vf 4) = .bool true ∧ (pf 4) = [] := hR 4 (by decide)
        have q0 : (vf 0) = .agg #[.int .i64 d.W, .int .i64 d.H, .int .i64 d.T, .int .i64 d.R] ∧ (pf 0) = [] := hR 0 (by decide)
        have q1 : (vf 1) = .agg #[.int .i64 d.W, .int .i64 d.H, .int .i64 d.T, .int .i64 d.R] ∧ (pf 1) = [] := hR 1 (by decide)
        have q2 : (vf 2) = .agg #[x.mv, x.lv, .int .i64 x.pad, .int .i64 x.ram] ∧ (pf 2) = [] := hR 2 (by decide)
        have q4 : (vf 4) = .bool true ∧ (pf 4) = [] := hR 4 (by decide)
        refine hl_less (l' := [tcE thR13, boxE b2 #[x.mv, x.lv, .int .i64 x.pad, .int .i64 x.ram] 50, boxE b1 #[.int .i64 d.W, .int .i64 d.H, .int .i64 d.T, .int .i64 d.R] 36]) (sub_cons (d := 0) rfl (sub_cons (d := 1) rfl (sub_cons (d := 2) rfl (sub_cons (d := 3) rfl (sub_cons (d := 4) rfl (sub_cons (d := 5) rfl (sub_cons (d := 13) rfl (sub_cons (d := 18) (congrArg some e4.1) (sub_nil _))))))))) (by first | (simp only [p3, v3, q0.2, q1.2, q2.2, q4.2, List.flatMap_cons, List.flatMap_nil, List.append_nil, List.nil_append, List.cons_append]; exact List.Sublist.refl _) | simp [p3, v3, q0.2, q1.2, q2.2, q4.2]) ?_
        simp only [List.drop_succ_cons, List.drop_zero]
        refine hl_v rfl rfl rfl (rv_ev rfl) ?_
        refine hl_less (sub_cons (d := 0) rfl (sub_cons (d := 1) rfl (sub_cons (d := 2) rfl (sub_cons (d := 3) rfl (sub_cons (d := 4) rfl (sub_cons (d := 5) rfl (sub_cons (d := 6) rfl (sub_cons (d := 13) rfl (sub_nil _))))))))) (.refl _) ?_
        refine hl_nil ?_
        refine hq_then ?_
        refine hc_seq ?_
        refine hc_region ?_
        refine hl_v rfl rfl rfl (rv_loadN (cs := [x.mv, x.lv, .int .i64 x.pad, .int .i64 x.ram]) rfl (by kernel_rfl) (by kernel_rfl) rfl rfl (box_part 1 rfl 0 rfl)) ?_
        refine hl_q rfl rfl rfl (rq_call (by kernel_rfl) rfl (fun w hm => toTileConfig_ret x w (hx.below hm.bel) hs1 hs2 hs3)) ?_
        intro v14 p15 hR16
        obtain ⟨thR16, rfl, rfl, ⟨c1thR16, c2thR16⟩, valthR16, n1thR16, n2thR16, n3thR16⟩ := hR16
        have bthR16 := And.intro n1thR16 (And.intro n2thR16 n3thR16)
        refine hl_box rfl rfl rfl (rq_alloc (z := .agg #[.slice none 0 0, .slice none 0 0, .int .i64 0, .int .i64 0]) rfl (by kernel_rfl)) ?_
        intro b17
        refine hl_storeBoxN (i := 0) (off := 0) (us := [thR16.mv, thR16.lv, .int .i64 thR16.pad, .int .i64 thR16.ram]) (l' := [boxE b17 #[thR16.mv, thR16.lv, .int .i64 thR16.pad, .int .i64 thR16.ram] 39, tcE thR16, tcE thR13, boxE b2 #[x.mv, x.lv, .int .i64 x.pad, .int .i64 x.ram] 50, boxE b1 #[.int .i64 d.W, .int .i64 d.H, .int .i64 d.T, .int .i64 d.R] 36]) rfl rfl rfl (by kernel_rfl) rfl rfl rfl (all_cons c1thR16 (all_cons c2thR16 (all_cons rfl (all_cons rfl all_nil)))) rfl rfl rfl ?_
        refine hl_less (sub_cons (d := 0) rfl (sub_cons (d := 1) rfl (sub_cons (d := 2) rfl (sub_cons (d := 3) rfl (sub_cons (d := 4) rfl (sub_cons (d := 5) rfl (sub_cons (d := 6) rfl (sub_cons (d := 7) rfl (sub_cons (d := 13) rfl (sub_nil _)))))))))) (.refl _) ?_
        refine hl_nil ?_
        refine hq_then ?_
        refine hc_seq ?_
        have hb18 : (tcOkV d x.val) = true := hb10
        refine hc_draw (by kernel_rfl) 4 [0, 1, 2, 3] (List.take 4 _) (List.drop 4 _) [[], [0], [], [1, 2]] [21, 22, 23, 24] (fun i vs_ v_ p_ => match i with | 0 => v_ = .agg #[.int .i64 d.W, .int .i64 d.H, .int .i64 d.T, .int .i64 d.R] ∧ p_ = [] | 1 => v_ = .agg #[.int .i64 d.W, .int .i64 d.H, .int .i64 d.T, .int .i64 d.R] ∧ p_ = [] | 2 => v_ = .agg #[thR16.mv, thR16.lv, .int .i64 thR16.pad, .int .i64 thR16.ram] ∧ p_ = [] | 3 => v_ = .bool true ∧ p_ = [] | _ => True) (List.take_append_drop 4 _).symm (by kernel_rfl) (by kernel_rfl) rfl rfl ?_ ?_
        ·
          refine ⟨?_, ?_, ?_, ?_, trivial⟩
          ·
            intro vf pf hR
            refine Or.inl ⟨rfl, ?_⟩
            refine rq_less (l' := [boxE b17 #[thR16.mv, thR16.lv, .int .i64 thR16.pad, .int .i64 thR16.ram] 39, tcE thR16, tcE thR13, boxE b2 #[x.mv, x.lv, .int .i64 x.pad, .int .i64 x.ram] 50, boxE b1 #[.int .i64 d.W, .int .i64 d.H, .int .i64 d.T, .int .i64 d.R] 36]) (sub_cons (d := 2) rfl (sub_nil _)) (List.sublist_append_right _ _) ?_
            exact rq_v (rv_loadN (cs := [.int .i64 d.W, .int .i64 d.H, .int .i64 d.T, .int .i64 d.R]) rfl (by kernel_rfl) (by kernel_rfl) rfl rfl (box_part 4 rfl 0 rfl))
          ·
            intro vf pf hR
            have e0 : (vf 0) = .agg #[.int .i64 d.W, .int .i64 d.H, .int .i64 d.T, .int .i64 d.R] ∧ (pf 0) = [] := hR 0 (by decide)
            refine Or.inl ⟨rfl, ?_⟩
            refine rq_less (l' := [boxE b17 #[thR16.mv, thR16.lv, .int .i64 thR16.pad, .int .i64 thR16.ram] 39, tcE thR16, tcE thR13, boxE b2 #[x.mv, x.lv, .int .i64 x.pad, .int .i64 x.ram] 50, boxE b1 #[.int .i64 d.W, .int .i64 d.H, .int .i64 d.T, .int .i64 d.R] 36]) (sub_cons (d := 21) (congrArg some e0.1) (sub_nil _)) (List.sublist_append_right _ _) ?_
            exact (rq_call (by kernel_rfl) rfl (fun w hm => ret_ans (toDevice_any d w)))
          ·
            intro vf pf hR
            refine Or.inl ⟨rfl, ?_⟩
            refine rq_less (l' := [boxE b17 #[thR16.mv, thR16.lv, .int .i64 thR16.pad, .int .i64 thR16.ram] 39, tcE thR16, tcE thR13, boxE b2 #[x.mv, x.lv, .int .i64 x.pad, .int .i64 x.ram] 50, boxE b1 #[.int .i64 d.W, .int .i64 d.H, .int .i64 d.T, .int .i64 d.R] 36]) (sub_cons (d := 7) rfl (sub_nil _)) (List.sublist_append_right _ _) ?_
            exact rq_v (rv_loadN (cs := [thR16.mv, thR16.lv, .int .i64 thR16.pad, .int .i64 thR16.ram]) rfl (by kernel_rfl) (by kernel_rfl) rfl rfl (box_part 0 rfl 0 rfl))
          ·
            intro vf pf hR
            have e1 : (vf 1) = .agg #[.int .i64 d.W, .int .i64 d.H, .int .i64 d.T, .int .i64 d.R] ∧ (pf 1) = [] := hR 1 (by decide)
            have e2 : (vf 2) = .agg #[thR16.mv, thR16.lv, .int .i64 thR16.pad, .int .i64 thR16.ram] ∧ (pf 2) = [] := hR 2 (by decide)
            refine Or.inl ⟨rfl, ?_⟩
            refine rq_less (l' := [boxE b17 #[thR16.mv, thR16.lv, .int .i64 thR16.pad, .int .i64 thR16.ram] 39, tcE thR16, tcE thR13, boxE b2 #[x.mv, x.lv, .int .i64 x.pad, .int .i64 x.ram] 50, boxE b1 #[.int .i64 d.W, .int .i64 d.H, .int .i64 d.T, .int .i64 d.R] 36]) (sub_cons (d := 22) (congrArg some e1.1) (sub_cons (d := 23) (congrArg some e2.1) (sub_nil _))) (List.sublist_append_right _ _) ?_
            exact rq_mono (rq_call (by kernel_rfl) rfl (fun w hm => ret_ans (by have h := implTileConfigOk_ans d thR16 w (tc_rds 1 rfl bthR16.1 bthR16.2.1 bthR16.2.2 w hm); rw [valthR16] at h; exact h))) (fun _ _ h => ⟨h.1.trans (congrArg Value.bool hb18), h.2⟩)
        ·
          intro vf pf hR
          have e3 : (vf 3) = .bool true ∧ (pf 3) = [] := hR 3 (by decide)
          refine hl_less (l' := [boxE b17 #[thR16.mv, thR16.lv, .int .i64 thR16.pad, .int .i64 thR16.ram] 39, tcE thR16, tcE thR13, boxE b2 #[x.mv, x.lv, .int .i64 x.pad, .int .i64 x.ram] 50, boxE b1 #[.int .i64 d.W, .int .i64 d.H, .int .i64 d.T, .int .i64 d.R] 36]) (sub_cons (d := 0) rfl (sub_cons (d := 1) rfl (sub_cons (d := 2) rfl (sub_cons (d := 3) rfl (sub_cons (d := 4) rfl (sub_cons (d := 5) rfl (sub_cons (d := 6) rfl (sub_cons (d := 7) rfl (sub_cons (d := 13) rfl (sub_cons (d := 24) (congrArg some e3.1) (sub_nil _))))))))))) (List.sublist_append_right _ _) ?_
          simp only [List.drop_succ_cons, List.drop_zero]
          refine hl_v rfl rfl rfl (rv_ev rfl) ?_
          refine hl_less (sub_cons (d := 0) rfl (sub_cons (d := 1) rfl (sub_cons (d := 2) rfl (sub_cons (d := 3) rfl (sub_cons (d := 4) rfl (sub_cons (d := 5) rfl (sub_cons (d := 6) rfl (sub_cons (d := 7) rfl (sub_cons (d := 8) rfl (sub_cons (d := 13) rfl (sub_nil _))))))))))) (.refl _) ?_
          refine hl_nil ?_
          refine hq_then ?_
          refine hc_seq ?_
          refine hc_seq ?_
          refine hc_region ?_
          refine hl_v rfl rfl rfl (rv_ev rfl) ?_
          refine hl_v rfl rfl rfl (rv_ev rfl) ?_
          refine hl_v rfl rfl rfl (rv_bneq rfl Try.underlying4 rfl rfl) ?_
          refine hl_less (sub_cons (d := 0) rfl (sub_cons (d := 1) rfl (sub_cons (d := 2) rfl (sub_cons (d := 3) rfl (sub_cons (d := 4) rfl (sub_cons (d := 5) rfl (sub_cons (d := 6) rfl (sub_cons (d := 7) rfl (sub_cons (d := 8) rfl (sub_cons (d := 13) rfl (sub_cons (d := 27) rfl (sub_nil _)))))))))))) (.refl _) ?_
          refine hl_nil ?_
          refine hq_then ?_
          refine hc_false rfl ?_
          refine hc_skip ?_
          refine hq_then ?_
          refine hc_seq ?_
          refine hc_seq ?_
          have hb22 : (decide (x.val = x.val)) = true := (decide_eq_true rfl)
          refine hc_draw (by kernel_rfl) 5 [0, 1, 2, 3, 4] (List.take 5 _) (List.drop 5 _) [[], [], [1], [0, 2], [3]] [28, 29, 30, 31, 32] (fun i vs_ v_ p_ => match i with | 0 => v_ = .agg #[thR16.mv, thR16.lv, .int .i64 thR16.pad, .int .i64 thR16.ram] ∧ p_ = [] | 1 => v_ = .agg #[x.mv, x.lv, .int .i64 x.pad, .int .i64 x.ram] ∧ p_ = [] | 2 => (IsTc x.val) v_ p_ | 3 => v_ = .bool true ∧ p_ = [] | 4 => v_ = .bool false ∧ p_ = [] | _ => True) (List.take_append_drop 5 _).symm (by kernel_rfl) (by kernel_rfl) rfl rfl ?_ ?_
          ·
            refine ⟨?_, ?_, ?_, ?_, ?_, trivial⟩
            ·
              intro vf pf hR
              refine Or.inl ⟨rfl, ?_⟩
              refine rq_less (l' := [boxE b17 #[thR16.mv, thR16.lv, .int .i64 thR16.pad, .int .i64 thR16.ram] 39, tcE thR16, tcE thR13, boxE b2 #[x.mv, x.lv, .int .i64 x.pad, .int .i64 x.ram] 50, boxE b1 #[.int .i64 d.W, .int .i64 d.H, .int .i64 d.T, .int .i64 d.R] 36]) (sub_cons (d := 7) rfl (sub_nil _)) (List.sublist_append_right _ _) ?_
              exact rq_v (rv_loadN (cs := [thR16.mv, thR16.lv, .int .i64 thR16.pad, .int .i64 thR16.ram]) rfl (by kernel_rfl) (by kernel_rfl) rfl rfl (box_part 0 rfl 0 rfl))
            ·
              intro vf pf hR
              refine Or.inl ⟨rfl, ?_⟩
              refine rq_less (l' := [boxE b17 #[thR16.mv, thR16.lv, .int .i64 thR16.pad, .int .i64 thR16.ram] 39, tcE thR16, tcE thR13, boxE b2 #[x.mv, x.lv, .int .i64 x.pad, .int .i64 x.ram] 50, boxE b1 #[.int .i64 d.W, .int .i64 d.H, .int .i64 d.T, .int .i64 d.R] 36]) (sub_cons (d := 3) rfl (sub_nil _)) (List.sublist_append_right _ _) ?_
              exact rq_v (rv_loadN (cs := [x.mv, x.lv, .int .i64 x.pad, .int .i64 x.ram]) rfl (by kernel_rfl) (by kernel_rfl) rfl rfl (box_part 3 rfl 0 rfl))
            ·
              intro vf pf hR
              have e1 : (vf 1) = .agg #[x.mv, x.lv, .int .i64 x.pad, .int .i64 x.ram] ∧ (pf 1) = [] := hR 1 (by decide)
              refine Or.inl ⟨rfl, ?_⟩
              refine rq_less (l' := [boxE b17 #[thR16.mv, thR16.lv, .int .i64 thR16.pad, .int .i64 thR16.ram] 39, tcE thR16, tcE thR13, boxE b2 #[x.mv, x.lv, .int .i64 x.pad, .int .i64 x.ram] 50, boxE b1 #[.int .i64 d.W, .int .i64 d.H, .int .i64 d.T, .int .i64 d.R] 36]) (sub_cons (d := 29) (congrArg some e1.1) (sub_nil _)) (List.sublist_append_right _ _) ?_
              exact rq_call (by kernel_rfl) rfl (fun w hm => toTileConfig_ret x w (hx.below hm.bel) hs1 hs2 hs3)
            ·
              intro vf pf hR
              have e0 : (vf 0) = .agg #[thR16.mv, thR16.lv, .int .i64 thR16.pad, .int .i64 thR16.ram] ∧ (pf 0) = [] := hR 0 (by decide)
              have e2 : (IsTc x.val) (vf 2) (pf 2) := hR 2 (by decide)
              obtain ⟨v19, v2⟩ : ∃ x, vf 2 = x := ⟨_, rfl⟩
              obtain ⟨p20, p2⟩ : ∃ x, pf 2 = x := ⟨_, rfl⟩
              have hR21 := e2
              rw [v2, p2] at hR21
              obtain ⟨thR21, rfl, rfl, ⟨c1thR21, c2thR21⟩, valthR21, n1thR21, n2thR21, n3thR21⟩ := hR21
              have bthR21 := And.intro n1thR21 (And.intro n2thR21 n3thR21)
              refine Or.inl ⟨rfl, ?_⟩
              refine rq_less (l' := [tcE thR21, boxE b17 #[thR16.mv, thR16.lv, .int .i64 thR16.pad, .int .i64 thR16.ram] 39, tcE thR16, tcE thR13, boxE b2 #[x.mv, x.lv, .int .i64 x.pad, .int .i64 x.ram] 50, boxE b1 #[.int .i64 d.W, .int .i64 d.H, .int .i64 d.T, .int .i64 d.R] 36]) (sub_cons (d := 28) (congrArg some e0.1) (sub_cons (d := 30) (congrArg some v2) (sub_nil _))) (by first | (simp only [p2, v2, e0.2, List.flatMap_cons, List.flatMap_nil, List.append_nil, List.nil_append, List.cons_append]; exact List.Sublist.refl _) | simp [p2, v2, e0.2]) ?_
              exact rq_mono (rq_call (by kernel_rfl) rfl (fun w hm => ret_ans (by have h := eqTileConfig_ans thR16 thR21 w (tc_rds 2 rfl bthR16.1 bthR16.2.1 bthR16.2.2 w hm) (tc_rds 0 rfl bthR21.1 bthR21.2.1 bthR21.2.2 w hm); rw [valthR16, valthR21] at h; exact h))) (fun _ _ h => ⟨h.1.trans (congrArg Value.bool hb22), h.2⟩)
            ·
              intro vf pf hR
              have e3 : (vf 3) = .bool true ∧ (pf 3) = [] := hR 3 (by decide)
              refine Or.inl ⟨rfl, ?_⟩
              refine rq_less (l' := [boxE b17 #[thR16.mv, thR16.lv, .int .i64 thR16.pad, .int .i64 thR16.ram] 39, tcE thR16, tcE thR13, boxE b2 #[x.mv, x.lv, .int .i64 x.pad, .int .i64 x.ram] 50, boxE b1 #[.int .i64 d.W, .int .i64 d.H, .int .i64 d.T, .int .i64 d.R] 36]) (sub_cons (d := 31) (congrArg some e3.1) (sub_nil _)) (List.sublist_append_right _ _) ?_
              exact rq_v (rv_ev rfl)
          ·
            intro vf pf hR
            have e2 : (IsTc x.val) (vf 2) (pf 2) := hR 2 (by decide)
            obtain ⟨v19, v2⟩ : ∃ x, vf 2 = x := ⟨_, rfl⟩
            obtain ⟨p20, p2⟩ : ∃ x, pf 2 = x := ⟨_, rfl⟩
            have hR21 := e2
            rw [v2, p2] at hR21
            obtain ⟨thR21, rfl, rfl, ⟨c1thR21, c2thR21⟩, valthR21, n1thR21, n2thR21, n3thR21⟩ := hR21
            have bthR21 := And.intro n1thR21 (And.intro n2thR21 n3thR21)
            have e4 : (vf 4) = .bool false ∧ (pf 4) = [] := hR 4 (by decide)
            have q0 : (vf 0) = .agg #[thR16.mv, thR16.lv, .int .i64 thR16.pad, .int .i64 thR16.ram] ∧ (pf 0) = [] := hR 0 (by decide)
            have q1 : (vf 1) = .agg #[x.mv, x.lv, .int .i64 x.pad, .int .i64 x.ram] ∧ (pf 1) = [] := hR 1 (by decide)
            have q3 : (vf 3) = .bool true ∧ (pf 3) = [] := hR 3 (by decide)
            have q4 : (vf 4) = .bool false ∧ (pf 4) = [] := hR 4 (by decide)
            refine hl_less (l' := [tcE thR21, boxE b17 #[thR16.mv, thR16.lv, .int .i64 thR16.pad, .int .i64 thR16.ram] 39, tcE thR16, tcE thR13, boxE b2 #[x.mv, x.lv, .int .i64 x.pad, .int .i64 x.ram] 50, boxE b1 #[.int .i64 d.W, .int .i64 d.H, .int .i64 d.T, .int .i64 d.R] 36]) (sub_cons (d := 0) rfl (sub_cons (d := 1) rfl (sub_cons (d := 2) rfl (sub_cons (d := 3) rfl (sub_cons (d := 4) rfl (sub_cons (d := 5) rfl (sub_cons (d := 6) rfl (sub_cons (d := 7) rfl (sub_cons (d := 8) rfl (sub_cons (d := 13) rfl (sub_cons (d := 27) rfl (sub_cons (d := 32) (congrArg some e4.1) (sub_nil _))))))))))))) (by first | (simp only [p2, v2, q0.2, q1.2, q3.2, q4.2, List.flatMap_cons, List.flatMap_nil, List.append_nil, List.nil_append, List.cons_append]; exact List.Sublist.refl _) | simp [p2, v2, q0.2, q1.2, q3.2, q4.2]) ?_
            simp only [List.drop_succ_cons, List.drop_zero]
            refine hl_less (sub_cons (d := 0) rfl (sub_cons (d := 1) rfl (sub_cons (d := 2) rfl (sub_cons (d := 3) rfl (sub_cons (d := 4) rfl (sub_cons (d := 5) rfl (sub_cons (d := 6) rfl (sub_cons (d := 7) rfl (sub_cons (d := 8) rfl (sub_cons (d := 13) rfl (sub_cons (d := 27) rfl (sub_cons (d := 32) rfl (sub_nil _))))))))))))) (.refl _) ?_
            refine hl_nil ?_
            refine hq_then ?_
            refine hc_false rfl ?_
            refine hc_skip ?_
            refine hq_then ?_
            refine hc_seq ?_
            refine hc_region ?_
            refine hl_v rfl rfl rfl (rv_ev rfl) ?_
            refine hl_less (sub_cons (d := 0) rfl (sub_cons (d := 1) rfl (sub_cons (d := 2) rfl (sub_cons (d := 3) rfl (sub_cons (d := 4) rfl (sub_cons (d := 5) rfl (sub_cons (d := 6) rfl (sub_cons (d := 7) rfl (sub_cons (d := 8) rfl (sub_cons (d := 13) rfl (sub_cons (d := 27) rfl (sub_cons (d := 32) rfl (sub_nil _))))))))))))) (.refl _) ?_
            refine hl_nil ?_
            refine hq_then ?_
            refine hc_ret ?_
            exact hq_ans rfl rfl rfl
    ·
      obtain ⟨hs1, hs2, hs3⟩ := hsz (by omega)
      refine hc_draw (by kernel_rfl) 5 [0, 1, 2, 3, 4] (List.take 5 _) (List.drop 5 _) [[], [0], [], [2], [1, 3]] [14, 15, 16, 17, 18] (fun i vs_ v_ p_ => match i with | 0 => v_ = .agg #[.int .i64 d.W, .int .i64 d.H, .int .i64 d.T, .int .i64 d.R] ∧ p_ = [] | 1 => v_ = .agg #[.int .i64 d.W, .int .i64 d.H, .int .i64 d.T, .int .i64 d.R] ∧ p_ = [] | 2 => v_ = .agg #[x.mv, x.lv, .int .i64 x.pad, .int .i64 x.ram] ∧ p_ = [] | 3 => (IsTc x.val) v_ p_ | 4 => v_ = .bool false ∧ p_ = [] | _ => True) (List.take_append_drop 5 _).symm (by kernel_rfl) (by kernel_rfl) rfl rfl ?_ ?_
      ·
        refine ⟨?_, ?_, ?_, ?_, ?_, trivial⟩
        ·
          intro vf pf hR
          refine Or.inl ⟨rfl, ?_⟩
          refine rq_less (l' := [boxE b2 #[x.mv, x.lv, .int .i64 x.pad, .int .i64 x.ram] 50, boxE b1 #[.int .i64 d.W, .int .i64 d.H, .int .i64 d.T, .int .i64 d.R] 36]) (sub_cons (d := 2) rfl (sub_nil _)) (List.sublist_append_right _ _) ?_
          exact rq_v (rv_loadN (cs := [.int .i64 d.W, .int .i64 d.H, .int .i64 d.T, .int .i64 d.R]) rfl (by kernel_rfl) (by kernel_rfl) rfl rfl (box_part 1 rfl 0 rfl))
        ·
          intro vf pf hR
          have e0 : (vf 0) = .agg #[.int .i64 d.W, .int .i64 d.H, .int .i64 d.T, .int .i64 d.R] ∧ (pf 0) = [] := hR 0 (by decide)
          refine Or.inl ⟨rfl, ?_⟩
          refine rq_less (l' := [boxE b2 #[x.mv, x.lv, .int .i64 x.pad, .int .i64 x.ram] 50, boxE b1 #[.int .i64 d.W, .int .i64 d.H, .int .i64 d.T, .int .i64 d.R] 36]) (sub_cons (d := 14) (congrArg some e0.1) (sub_nil _)) (List.sublist_append_right _ _) ?_
          exact (rq_call (by kernel_rfl) rfl (fun w hm => ret_ans (toDevice_any d w)))
        ·
          intro vf pf hR
          refine Or.inl ⟨rfl, ?_⟩
          refine rq_less (l' := [boxE b2 #[x.mv, x.lv, .int .i64 x.pad, .int .i64 x.ram] 50, boxE b1 #[.int .i64 d.W, .int .i64 d.H, .int .i64 d.T, .int .i64 d.R] 36]) (sub_cons (d := 3) rfl (sub_nil _)) (List.sublist_append_right _ _) ?_
          exact rq_v (rv_loadN (cs := [x.mv, x.lv, .int .i64 x.pad, .int .i64 x.ram]) rfl (by kernel_rfl) (by kernel_rfl) rfl rfl (box_part 0 rfl 0 rfl))
        ·
          intro vf pf hR
          have e2 : (vf 2) = .agg #[x.mv, x.lv, .int .i64 x.pad, .int .i64 x.ram] ∧ (pf 2) = [] := hR 2 (by decide)
          refine Or.inl ⟨rfl, ?_⟩
          refine rq_less (l' := [boxE b2 #[x.mv, x.lv, .int .i64 x.pad, .int .i64 x.ram] 50, boxE b1 #[.int .i64 d.W, .int .i64 d.H, .int .i64 d.T, .int .i64 d.R] 36]) (sub_cons (d := 16) (congrArg some e2.1) (sub_nil _)) (List.sublist_append_right _ _) ?_
          exact rq_call (by kernel_rfl) rfl (fun w hm => toTileConfig_ret x w (hx.below hm.bel) hs1 hs2 hs3)
        ·
          intro vf pf hR
          have e1 : (vf 1) = .agg #[.int .i64 d.W, .int .i64 d.H, .int .i64 d.T, .int .i64 d.R] ∧ (pf 1) = [] := hR 1 (by decide)
          have e3 : (IsTc x.val) (vf 3) (pf 3) := hR 3 (by decide)
          obtain ⟨v23, v3⟩ : ∃ x, vf 3 = x := ⟨_, rfl⟩
          obtain ⟨p24, p3⟩ : ∃ x, pf 3 = x := ⟨_, rfl⟩
          have hR25 := e3
          rw [v3, p3] at hR25
          obtain ⟨thR25, rfl, rfl, ⟨c1thR25, c2thR25⟩, valthR25, n1thR25, n2thR25, n3thR25⟩ := hR25
          have bthR25 := And.intro n1thR25 (And.intro n2thR25 n3thR25)
          refine Or.inl ⟨rfl, ?_⟩
          refine rq_less (l' := [tcE thR25, boxE b2 #[x.mv, x.lv, .int .i64 x.pad, .int .i64 x.ram] 50, boxE b1 #[.int .i64 d.W, .int .i64 d.H, .int .i64 d.T, .int .i64 d.R] 36]) (sub_cons (d := 15) (congrArg some e1.1) (sub_cons (d := 17) (congrArg some v3) (sub_nil _))) (by first | (simp only [p3, v3, e1.2, List.flatMap_cons, List.flatMap_nil, List.append_nil, List.nil_append, List.cons_append]; exact List.Sublist.refl _) | simp [p3, v3, e1.2]) ?_
          exact rq_mono (rq_call (by kernel_rfl) rfl (fun w hm => ret_ans (by have h := specTileConfigOk_ans d thR25 w (tc_rds 0 rfl bthR25.1 bthR25.2.1 bthR25.2.2 w hm); rw [valthR25] at h; exact h))) (fun _ _ h => ⟨h.1.trans (congrArg Value.bool hb10), h.2⟩)
      ·
        intro vf pf hR
        have e3 : (IsTc x.val) (vf 3) (pf 3) := hR 3 (by decide)
        obtain ⟨v23, v3⟩ : ∃ x, vf 3 = x := ⟨_, rfl⟩
        obtain ⟨p24, p3⟩ : ∃ x, pf 3 = x := ⟨_, rfl⟩
        have hR25 := e3
        rw [v3, p3] at hR25
        obtain ⟨thR25, rfl, rfl, ⟨c1thR25, c2thR25⟩, valthR25, n1thR25, n2thR25, n3thR25⟩ := hR25
        have bthR25 := And.intro n1thR25 (And.intro n2thR25 n3thR25)
        have e4 : (vf 4) = .bool false ∧ (pf 4) = [] := hR 4 (by decide)
        have q0 : (vf 0) = .agg #[.int .i64 d.W, .int .i64 d.H, .int .i64 d.T, .int .i64 d.R] ∧ (pf 0) = [] := hR 0 (by decide)
        have q1 : (vf 1) = .agg #[.int .i64 d.W, .int .i64 d.H, .int .i64 d.T, .int .i64 d.R] ∧ (pf 1) = [] := hR 1 (by decide)
        have q2 : (vf 2) = .agg #[x.mv, x.lv, .int .i64 x.pad, .int .i64 x.ram] ∧ (pf 2) = [] := hR 2 (by decide)
        have q4 : (vf 4) = .bool false ∧ (pf 4) = [] := hR 4 (by decide)
        refine hl_less (l' := [tcE thR25, boxE b2 #[x.mv, x.lv, .int .i64 x.pad, .int .i64 x.ram] 50, boxE b1 #[.int .i64 d.W, .int .i64 d.H, .int .i64 d.T, .int .i64 d.R] 36]) (sub_cons (d := 0) rfl (sub_cons (d := 1) rfl (sub_cons (d := 2) rfl (sub_cons (d := 3) rfl (sub_cons (d := 4) rfl (sub_cons (d := 5) rfl (sub_cons (d := 13) rfl (sub_cons (d := 18) (congrArg some e4.1) (sub_nil _))))))))) (by first | (simp only [p3, v3, q0.2, q1.2, q2.2, q4.2, List.flatMap_cons, List.flatMap_nil, List.append_nil, List.nil_append, List.cons_append]; exact List.Sublist.refl _) | simp [p3, v3, q0.2, q1.2, q2.2, q4.2]) ?_
        simp only [List.drop_succ_cons, List.drop_zero]
        refine hl_v rfl rfl rfl (rv_ev rfl) ?_
        refine hl_less (sub_cons (d := 0) rfl (sub_cons (d := 1) rfl (sub_cons (d := 2) rfl (sub_cons (d := 3) rfl (sub_cons (d := 4) rfl (sub_cons (d := 5) rfl (sub_cons (d := 6) rfl (sub_cons (d := 13) rfl (sub_nil _))))))))) (.refl _) ?_
        refine hl_nil ?_
        refine hq_then ?_
        refine hc_seq ?_
        refine hc_region ?_
        refine hl_v rfl rfl rfl (rv_loadN (cs := [x.mv, x.lv, .int .i64 x.pad, .int .i64 x.ram]) rfl (by kernel_rfl) (by kernel_rfl) rfl rfl (box_part 1 rfl 0 rfl)) ?_
        refine hl_q rfl rfl rfl (rq_call (by kernel_rfl) rfl (fun w hm => toTileConfig_ret x w (hx.below hm.bel) hs1 hs2 hs3)) ?_
        intro v26 p27 hR28
        obtain ⟨thR28, rfl, rfl, ⟨c1thR28, c2thR28⟩, valthR28, n1thR28, n2thR28, n3thR28⟩ := hR28
        have bthR28 := And.intro n1thR28 (And.intro n2thR28 n3thR28)
        refine hl_box rfl rfl rfl (rq_alloc (z := .agg #[.slice none 0 0, .slice none 0 0, .int .i64 0, .int .i64 0]) rfl (by kernel_rfl)) ?_
        intro b29
        refine hl_storeBoxN (i := 0) (off := 0) (us := [thR28.mv, thR28.lv, .int .i64 thR28.pad, .int .i64 thR28.ram]) (l' := [boxE b29 #[thR28.mv, thR28.lv, .int .i64 thR28.pad, .int .i64 thR28.ram] 39, tcE thR28, tcE thR25, boxE b2 #[x.mv, x.lv, .int .i64 x.pad, .int .i64 x.ram] 50, boxE b1 #[.int .i64 d.W, .int .i64 d.H, .int .i64 d.T, .int .i64 d.R] 36]) rfl rfl rfl (by kernel_rfl) rfl rfl rfl (all_cons c1thR28 (all_cons c2thR28 (all_cons rfl (all_cons rfl all_nil)))) rfl rfl rfl ?_
        refine hl_less (sub_cons (d := 0) rfl (sub_cons (d := 1) rfl (sub_cons (d := 2) rfl (sub_cons (d := 3) rfl (sub_cons (d := 4) rfl (sub_cons (d := 5) rfl (sub_cons (d := 6) rfl (sub_cons (d := 7) rfl (sub_cons (d := 13) rfl (sub_nil _)))))))))) (.refl _) ?_
        refine hl_nil ?_
        refine hq_then ?_
        refine hc_seq ?_
        have hb30 : (tcOkV d x.val) = false := hb10
        refine hc_draw (by kernel_rfl) 4 [0, 1, 2, 3] (List.take 4 _) (List.drop 4 _) [[], [0], [], [1, 2]] [21, 22, 23, 24] (fun i vs_ v_ p_ => match i with | 0 => v_ = .agg #[.int .i64 d.W, .int .i64 d.H, .int .i64 d.T, .int .i64 d.R] ∧ p_ = [] | 1 => v_ = .agg #[.int .i64 d.W, .int .i64 d.H, .int .i64 d.T, .int .i64 d.R] ∧ p_ = [] | 2 => v_ = .agg #[thR28.mv, thR28.lv, .int .i64 thR28.pad, .int .i64 thR28.ram] ∧ p_ = [] | 3 => v_ = .bool false ∧ p_ = [] | _ => True) (List.take_append_drop 4 _).symm (by kernel_rfl) (by kernel_rfl) rfl rfl ?_ ?_
        ·
          refine ⟨?_, ?_, ?_, ?_, trivial⟩
          ·
            intro vf pf hR
            refine Or.inl ⟨rfl, ?_⟩
            refine rq_less (l' := [boxE b29 #[thR28.mv, thR28.lv, .int .i64 thR28.pad, .int .i64 thR28.ram] 39, tcE thR28, tcE thR25, boxE b2 #[x.mv, x.lv, .int .i64 x.pad, .int .i64 x.ram] 50, boxE b1 #[.int .i64 d.W, .int .i64 d.H, .int .i64 d.T, .int .i64 d.R] 36]) (sub_cons (d := 2) rfl (sub_nil _)) (List.sublist_append_right _ _) ?_
            exact rq_v (rv_loadN (cs := [.int .i64 d.W, .int .i64 d.H, .int .i64 d.T, .int .i64 d.R]) rfl (by kernel_rfl) (by kernel_rfl) rfl rfl (box_part 4 rfl 0 rfl))
          ·
            intro vf pf hR
            have e0 : (vf 0) = .agg #[.int .i64 d.W, .int .i64 d.H, .int .i64 d.T, .int .i64 d.R] ∧ (pf 0) = [] := hR 0 (by decide)
            refine Or.inl ⟨rfl, ?_⟩
            refine rq_less (l' := [boxE b29 #[thR28.mv, thR28.lv, .int .i64 thR28.pad, .int .i64 thR28.ram] 39, tcE thR28, tcE thR25, boxE b2 #[x.mv, x.lv, .int .i64 x.pad, .int .i64 x.ram] 50, boxE b1 #[.int .i64 d.W, .int .i64 d.H, .int .i64 d.T, .int .i64 d.R] 36]) (sub_cons (d := 21) (congrArg some e0.1) (sub_nil _)) (List.sublist_append_right _ _) ?_
            exact (rq_call (by kernel_rfl) rfl (fun w hm => ret_ans (toDevice_any d w)))
          ·
            intro vf pf hR
            refine Or.inl ⟨rfl, ?_⟩
            refine rq_less (l' := [boxE b29 #[thR28.mv, thR28.lv, .int .i64 thR28.pad, .int .i64 thR28.ram] 39, tcE thR28, tcE thR25, boxE b2 #[x.mv, x.lv, .int .i64 x.pad, .int .i64 x.ram] 50, boxE b1 #[.int .i64 d.W, .int .i64 d.H, .int .i64 d.T, .int .i64 d.R] 36]) (sub_cons (d := 7) rfl (sub_nil _)) (List.sublist_append_right _ _) ?_
            exact rq_v (rv_loadN (cs := [thR28.mv, thR28.lv, .int .i64 thR28.pad, .int .i64 thR28.ram]) rfl (by kernel_rfl) (by kernel_rfl) rfl rfl (box_part 0 rfl 0 rfl))
          ·
            intro vf pf hR
            have e1 : (vf 1) = .agg #[.int .i64 d.W, .int .i64 d.H, .int .i64 d.T, .int .i64 d.R] ∧ (pf 1) = [] := hR 1 (by decide)
            have e2 : (vf 2) = .agg #[thR28.mv, thR28.lv, .int .i64 thR28.pad, .int .i64 thR28.ram] ∧ (pf 2) = [] := hR 2 (by decide)
            refine Or.inl ⟨rfl, ?_⟩
            refine rq_less (l' := [boxE b29 #[thR28.mv, thR28.lv, .int .i64 thR28.pad, .int .i64 thR28.ram] 39, tcE thR28, tcE thR25, boxE b2 #[x.mv, x.lv, .int .i64 x.pad, .int .i64 x.ram] 50, boxE b1 #[.int .i64 d.W, .int .i64 d.H, .int .i64 d.T, .int .i64 d.R] 36]) (sub_cons (d := 22) (congrArg some e1.1) (sub_cons (d := 23) (congrArg some e2.1) (sub_nil _))) (List.sublist_append_right _ _) ?_
            exact rq_mono (rq_call (by kernel_rfl) rfl (fun w hm => ret_ans (by have h := implTileConfigOk_ans d thR28 w (tc_rds 1 rfl bthR28.1 bthR28.2.1 bthR28.2.2 w hm); rw [valthR28] at h; exact h))) (fun _ _ h => ⟨h.1.trans (congrArg Value.bool hb30), h.2⟩)
        ·
          intro vf pf hR
          have e3 : (vf 3) = .bool false ∧ (pf 3) = [] := hR 3 (by decide)
          refine hl_less (l' := [boxE b29 #[thR28.mv, thR28.lv, .int .i64 thR28.pad, .int .i64 thR28.ram] 39, tcE thR28, tcE thR25, boxE b2 #[x.mv, x.lv, .int .i64 x.pad, .int .i64 x.ram] 50, boxE b1 #[.int .i64 d.W, .int .i64 d.H, .int .i64 d.T, .int .i64 d.R] 36]) (sub_cons (d := 0) rfl (sub_cons (d := 1) rfl (sub_cons (d := 2) rfl (sub_cons (d := 3) rfl (sub_cons (d := 4) rfl (sub_cons (d := 5) rfl (sub_cons (d := 6) rfl (sub_cons (d := 7) rfl (sub_cons (d := 13) rfl (sub_cons (d := 24) (congrArg some e3.1) (sub_nil _))))))))))) (List.sublist_append_right _ _) ?_
          simp only [List.drop_succ_cons, List.drop_zero]
          refine hl_v rfl rfl rfl (rv_ev rfl) ?_
          refine hl_less (sub_cons (d := 0) rfl (sub_cons (d := 1) rfl (sub_cons (d := 2) rfl (sub_cons (d := 3) rfl (sub_cons (d := 4) rfl (sub_cons (d := 5) rfl (sub_cons (d := 6) rfl (sub_cons (d := 7) rfl (sub_cons (d := 8) rfl (sub_cons (d := 13) rfl (sub_nil _))))))))))) (.refl _) ?_
          refine hl_nil ?_
          refine hq_then ?_
          refine hc_seq ?_
          refine hc_seq ?_
          refine hc_region ?_
          refine hl_v rfl rfl rfl (rv_ev rfl) ?_
          refine hl_v rfl rfl rfl (rv_ev rfl) ?_
          refine hl_v rfl rfl rfl (rv_bneq rfl Try.underlying4 rfl rfl) ?_
          refine hl_less (sub_cons (d := 0) rfl (sub_cons (d := 1) rfl (sub_cons (d := 2) rfl (sub_cons (d := 3) rfl (sub_cons (d := 4) rfl (sub_cons (d := 5) rfl (sub_cons (d := 6) rfl (sub_cons (d := 7) rfl (sub_cons (d := 8) rfl (sub_cons (d := 13) rfl (sub_cons (d := 27) rfl (sub_nil _)))))))))))) (.refl _) ?_
          refine hl_nil ?_
          refine hq_then ?_
          refine hc_false rfl ?_
          refine hc_skip ?_
          refine hq_then ?_
          refine hc_seq ?_
          refine hc_seq ?_
          have hb34 : (decide (x.val = x.val)) = true := (decide_eq_true rfl)
          refine hc_draw (by kernel_rfl) 5 [0, 1, 2, 3, 4] (List.take 5 _) (List.drop 5 _) [[], [], [1], [0, 2], [3]] [28, 29, 30, 31, 32] (fun i vs_ v_ p_ => match i with | 0 => v_ = .agg #[thR28.mv, thR28.lv, .int .i64 thR28.pad, .int .i64 thR28.ram] ∧ p_ = [] | 1 => v_ = .agg #[x.mv, x.lv, .int .i64 x.pad, .int .i64 x.ram] ∧ p_ = [] | 2 => (IsTc x.val) v_ p_ | 3 => v_ = .bool true ∧ p_ = [] | 4 => v_ = .bool false ∧ p_ = [] | _ => True) (List.take_append_drop 5 _).symm (by kernel_rfl) (by kernel_rfl) rfl rfl ?_ ?_
          ·
            refine ⟨?_, ?_, ?_, ?_, ?_, trivial⟩
            ·
              intro vf pf hR
              refine Or.inl ⟨rfl, ?_⟩
              refine rq_less (l' := [boxE b29 #[thR28.mv, thR28.lv, .int .i64 thR28.pad, .int .i64 thR28.ram] 39, tcE thR28, tcE thR25, boxE b2 #[x.mv, x.lv, .int .i64 x.pad, .int .i64 x.ram] 50, boxE b1 #[.int .i64 d.W, .int .i64 d.H, .int .i64 d.T, .int .i64 d.R] 36]) (sub_cons (d := 7) rfl (sub_nil _)) (List.sublist_append_right _ _) ?_
              exact rq_v (rv_loadN (cs := [thR28.mv, thR28.lv, .int .i64 thR28.pad, .int .i64 thR28.ram]) rfl (by kernel_rfl) (by kernel_rfl) rfl rfl (box_part 0 rfl 0 rfl))
            ·
              intro vf pf hR
              refine Or.inl ⟨rfl, ?_⟩
              refine rq_less (l' := [boxE b29 #[thR28.mv, thR28.lv, .int .i64 thR28.pad, .int .i64 thR28.ram] 39, tcE thR28, tcE thR25, boxE b2 #[x.mv, x.lv, .int .i64 x.pad, .int .i64 x.ram] 50, boxE b1 #[.int .i64 d.W, .int .i64 d.H, .int .i64 d.T, .int .i64 d.R] 36]) (sub_cons (d := 3) rfl (sub_nil _)) (List.sublist_append_right _ _) ?_
              exact rq_v (rv_loadN (cs := [x.mv, x.lv, .int .i64 x.pad, .int .i64 x.ram]) rfl (by kernel_rfl) (by kernel_rfl) rfl rfl (box_part 3 rfl 0 rfl))
            ·
              intro vf pf hR
              have e1 : (vf 1) = .agg #[x.mv, x.lv, .int .i64 x.pad, .int .i64 x.ram] ∧ (pf 1) = [] := hR 1 (by decide)
              refine Or.inl ⟨rfl, ?_⟩
              refine rq_less (l' := [boxE b29 #[thR28.mv, thR28.lv, .int .i64 thR28.pad, .int .i64 thR28.ram] 39, tcE thR28, tcE thR25, boxE b2 #[x.mv, x.lv, .int .i64 x.pad, .int .i64 x.ram] 50, boxE b1 #[.int .i64 d.W, .int .i64 d.H, .int .i64 d.T, .int .i64 d.R] 36]) (sub_cons (d := 29) (congrArg some e1.1) (sub_nil _)) (List.sublist_append_right _ _) ?_
              exact rq_call (by kernel_rfl) rfl (fun w hm => toTileConfig_ret x w (hx.below hm.bel) hs1 hs2 hs3)
            ·
              intro vf pf hR
              have e0 : (vf 0) = .agg #[thR28.mv, thR28.lv, .int .i64 thR28.pad, .int .i64 thR28.ram] ∧ (pf 0) = [] := hR 0 (by decide)
              have e2 : (IsTc x.val) (vf 2) (pf 2) := hR 2 (by decide)
              obtain ⟨v31, v2⟩ : ∃ x, vf 2 = x := ⟨_, rfl⟩
              obtain ⟨p32, p2⟩ : ∃ x, pf 2 = x := ⟨_, rfl⟩
              have hR33 := e2
              rw [v2, p2] at hR33
              obtain ⟨thR33, rfl, rfl, ⟨c1thR33, c2thR33⟩, valthR33, n1thR33, n2thR33, n3thR33⟩ := hR33
              have bthR33 := And.intro n1thR33 (And.intro n2thR33 n3thR33)
              refine Or.inl ⟨rfl, ?_⟩
              refine rq_less (l' := [tcE thR33, boxE b29 #[thR28.mv, thR28.lv, .int .i64 thR28.pad, .int .i64 thR28.ram] 39, tcE thR28, tcE thR25, boxE b2 #[x.mv, x.lv, .int .i64 x.pad, .int .i64 x.ram] 50, boxE b1 #[.int .i64 d.W, .int .i64 d.H, .int .i64 d.T, .int .i64 d.R] 36]) (sub_cons (d := 28) (congrArg some e0.1) (sub_cons (d := 30) (congrArg some v2) (sub_nil _))) (by first | (simp only [p2, v2, e0.2, List.flatMap_cons, List.flatMap_nil, List.append_nil, List.nil_append, List.cons_append]; exact List.Sublist.refl _) | simp [p2, v2, e0.2]) ?_
              exact rq_mono (rq_call (by kernel_rfl) rfl (fun w hm => ret_ans (by have h := eqTileConfig_ans thR28 thR33 w (tc_rds 2 rfl bthR28.1 bthR28.2.1 bthR28.2.2 w hm) (tc_rds 0 rfl bthR33.1 bthR33.2.1 bthR33.2.2 w hm); rw [valthR28, valthR33] at h; exact h))) (fun _ _ h => ⟨h.1.trans (congrArg Value.bool hb34), h.2⟩)
            ·
              intro vf pf hR
              have e3 : (vf 3) = .bool true ∧ (pf 3) = [] := hR 3 (by decide)
              refine Or.inl ⟨rfl, ?_⟩
              refine rq_less (l' := [boxE b29 #[thR28.mv, thR28.lv, .int .i64 thR28.pad, .int .i64 thR28.ram] 39, tcE thR28, tcE thR25, boxE b2 #[x.mv, x.lv, .int .i64 x.pad, .int .i64 x.ram] 50, boxE b1 #[.int .i64 d.W, .int .i64 d.H, .int .i64 d.T, .int .i64 d.R] 36]) (sub_cons (d := 31) (congrArg some e3.1) (sub_nil _)) (List.sublist_append_right _ _) ?_
              exact rq_v (rv_ev rfl)
          ·
            intro vf pf hR
            have e2 : (IsTc x.val) (vf 2) (pf 2) := hR 2 (by decide)
            obtain ⟨v31, v2⟩ : ∃ x, vf 2 = x := ⟨_, rfl⟩
            obtain ⟨p32, p2⟩ : ∃ x, pf 2 = x := ⟨_, rfl⟩
            have hR33 := e2
            rw [v2, p2] at hR33
            obtain ⟨thR33, rfl, rfl, ⟨c1thR33, c2thR33⟩, valthR33, n1thR33, n2thR33, n3thR33⟩ := hR33
            have bthR33 := And.intro n1thR33 (And.intro n2thR33 n3thR33)
            have e4 : (vf 4) = .bool false ∧ (pf 4) = [] := hR 4 (by decide)
            have q0 : (vf 0) = .agg #[thR28.mv, thR28.lv, .int .i64 thR28.pad, .int .i64 thR28.ram] ∧ (pf 0) = [] := hR 0 (by decide)
            have q1 : (vf 1) = .agg #[x.mv, x.lv, .int .i64 x.pad, .int .i64 x.ram] ∧ (pf 1) = [] := hR 1 (by decide)
            have q3 : (vf 3) = .bool true ∧ (pf 3) = [] := hR 3 (by decide)
            have q4 : (vf 4) = .bool false ∧ (pf 4) = [] := hR 4 (by decide)
            refine hl_less (l' := [tcE thR33, boxE b29 #[thR28.mv, thR28.lv, .int .i64 thR28.pad, .int .i64 thR28.ram] 39, tcE thR28, tcE thR25, boxE b2 #[x.mv, x.lv, .int .i64 x.pad, .int .i64 x.ram] 50, boxE b1 #[.int .i64 d.W, .int .i64 d.H, .int .i64 d.T, .int .i64 d.R] 36]) (sub_cons (d := 0) rfl (sub_cons (d := 1) rfl (sub_cons (d := 2) rfl (sub_cons (d := 3) rfl (sub_cons (d := 4) rfl (sub_cons (d := 5) rfl (sub_cons (d := 6) rfl (sub_cons (d := 7) rfl (sub_cons (d := 8) rfl (sub_cons (d := 13) rfl (sub_cons (d := 27) rfl (sub_cons (d := 32) (congrArg some e4.1) (sub_nil _))))))))))))) (by first | (simp only [p2, v2, q0.2, q1.2, q3.2, q4.2, List.flatMap_cons, List.flatMap_nil, List.append_nil, List.nil_append, List.cons_append]; exact List.Sublist.refl _) | simp [p2, v2, q0.2, q1.2, q3.2, q4.2]) ?_
            simp only [List.drop_succ_cons, List.drop_zero]
            refine hl_less (sub_cons (d := 0) rfl (sub_cons (d := 1) rfl (sub_cons (d := 2) rfl (sub_cons (d := 3) rfl (sub_cons (d := 4) rfl (sub_cons (d := 5) rfl (sub_cons (d := 6) rfl (sub_cons (d := 7) rfl (sub_cons (d := 8) rfl (sub_cons (d := 13) rfl (sub_cons (d := 27) rfl (sub_cons (d := 32) rfl (sub_nil _))))))))))))) (.refl _) ?_
            refine hl_nil ?_
            refine hq_then ?_
            refine hc_false rfl ?_
            refine hc_skip ?_
            refine hq_then ?_
            refine hc_seq ?_
            refine hc_region ?_
            refine hl_v rfl rfl rfl (rv_ev rfl) ?_
            refine hl_less (sub_cons (d := 0) rfl (sub_cons (d := 1) rfl (sub_cons (d := 2) rfl (sub_cons (d := 3) rfl (sub_cons (d := 4) rfl (sub_cons (d := 5) rfl (sub_cons (d := 6) rfl (sub_cons (d := 7) rfl (sub_cons (d := 8) rfl (sub_cons (d := 13) rfl (sub_cons (d := 27) rfl (sub_cons (d := 32) rfl (sub_nil _))))))))))))) (.refl _) ?_
            refine hl_nil ?_
            refine hq_then ?_
            refine hc_ret ?_
            exact hq_ans rfl rfl rfl
end Go.Proofs.Ytnnkbpcfjjijbaa
