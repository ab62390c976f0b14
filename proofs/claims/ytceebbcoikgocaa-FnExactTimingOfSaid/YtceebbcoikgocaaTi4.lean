/- Texts of the law FnExactTimingOf, part 4: what it uses. -/
import Derived.Test.YtceebbcoikgocaaTi3
set_option linter.unusedVariables false
set_option linter.unusedSimpArgs false
namespace Go.Proofs.Ytceebbcoikgocaa
open Go.RowKit Go.ChangeShapes
open Go.RowKit
set_option maxHeartbeats 4000000 in
set_option maxRecDepth 100000 in
theorem specTimedOk_ans (x : Td) (w : World) (hr : RdsTd w x) :
  Calls Try.prog 11 #[.agg #[.int .i64 x.n.ins, x.n.sv, x.n.lv, x.n.ov, x.pv, x.qv, x.kv, x.av, x.bv, .int .i64 x.oi, .int .i64 x.ni]] w (Ans w (.bool (pB (TdOk x)))) := by
 have t1 := sml hr.ks
 have t2 := sml hr.ao
 have t3 := sml hr.bs
 have t4 := hr.dl.small
 have t5 := hr.ds.small
 have t6 := hr.n.sq.small
 have t7 := hr.n.lt.small
 have t8 := sml hr.n.ou
 have hcnt : x.n.cnt = 1 + x.n.ins + x.n.ss.length + x.n.ls.length := rfl
 have hfst : x.n.fst = 1 + x.n.ins + x.n.ss.length := rfl
 refine calls_hc (N := 99) (args := [.agg #[.int .i64 x.n.ins, x.n.sv, x.n.lv, x.n.ov, x.pv, x.qv, x.kv, x.av, x.bv, .int .i64 x.oi, .int .i64 x.ni]]) Try.func11 rfl rfl ?_
 refine hc_less _ (sx 0 rfl (sub_nil _)) (.refl _) ?_
 refine hc_seq ?_
 refine hc_region ?_
 refine hl_box rfl rfl rfl (rq_box rfl rfl) ?_
 intro b1
 refine hl_v rfl rfl rfl (rv_ev rfl) ?_
 refine hl_less (sx 0 rfl (sx 1 rfl (sx 2 rfl (sub_nil _)))) (.refl _) ?_
 refine hl_nil ?_
 refine hq_then ?_
 refine hc_seq ?_
 refine hc_seq ?_
 refine hc_region ?_
 refine hl_v rfl rfl rfl (rv_field (k0 := 0) rfl (by kernel_rfl) rfl) ?_
 refine hl_v rfl rfl rfl (rv_loadN (cs := [.int .i64 x.n.ins, x.n.sv, x.n.lv, x.n.ov]) rfl (by kernel_rfl) (by kernel_rfl) rfl rfl (box_part 0 rfl 0 rfl)) ?_
 refine hl_v rfl rfl rfl (rv_field (k0 := 7) rfl (by kernel_rfl) rfl) ?_
 refine hl_v rfl rfl rfl (rv_load rfl (by kernel_rfl) rfl (box_cell 0 rfl rfl)) ?_
 refine hl_callV rfl rfl rfl (rq_call (by kernel_rfl) rfl (fun w hm => ret_ans (specLutStateOk_ans x.n x.ao _ w (hr.n.below hm.bel) (hr.ao.below hm.bel)))) ?_
 refine hl_bool (fun h2 => ?_) (fun h2 => ?_)
 ·
  have hSao := of_pB h2
  refine hl_v rfl rfl rfl (rv_ev rfl) ?_
  refine hl_v rfl rfl rfl (rv_ev rfl) ?_
  refine hl_v rfl rfl rfl (rv_field (k0 := 0) rfl (by kernel_rfl) rfl) ?_
  refine hl_v rfl rfl rfl (rv_loadN (cs := [.int .i64 x.n.ins, x.n.sv, x.n.lv, x.n.ov]) rfl (by kernel_rfl) (by kernel_rfl) rfl rfl (box_part 0 rfl 0 rfl)) ?_
  refine hl_v rfl rfl rfl (rv_field (k0 := 8) rfl (by kernel_rfl) rfl) ?_
  refine hl_v rfl rfl rfl (rv_load rfl (by kernel_rfl) rfl (box_cell 0 rfl rfl)) ?_
  refine hl_callV rfl rfl rfl (rq_call (by kernel_rfl) rfl (fun w hm => ret_ans (specLutStateOk_ans x.n x.bs _ w (hr.n.below hm.bel) (hr.bs.below hm.bel)))) ?_
  refine hl_bool (fun h3 => ?_) (fun h3 => ?_)
  ·
   have hSbs := of_pB h3
   refine hl_v rfl rfl rfl (rv_ev rfl) ?_
   refine hl_v rfl rfl rfl (rv_ev rfl) ?_
   refine hl_v rfl rfl rfl (rv_ev rfl) ?_
   refine hl_v rfl rfl rfl (rv_field (k0 := 4) rfl (by kernel_rfl) rfl) ?_
   refine hl_v rfl rfl rfl (rv_field (k0 := 0) rfl (by kernel_rfl) rfl) ?_
   refine hl_v rfl rfl rfl (rv_load rfl (by kernel_rfl) rfl (box_cell 0 rfl rfl)) ?_
   refine hl_v rfl rfl rfl (rv_len rfl Try.underlying27 rfl (rd_old ((hr).dl.row))) ?_
   refine hl_v rfl rfl rfl (rv_field (k0 := 0) rfl (by kernel_rfl) rfl) ?_
   refine hl_v rfl rfl rfl (rv_field (k0 := 2) rfl (by kernel_rfl) rfl) ?_
   refine hl_v rfl rfl rfl (rv_load rfl (by kernel_rfl) rfl (box_cell 0 rfl rfl)) ?_
   refine hl_v rfl rfl rfl (rv_len rfl Try.underlying35 rfl (rd_old ((hr).n.lt.row))) ?_
   refine hl_neq rfl rfl rfl rfl rfl rfl (fun h4 => ?_) (fun h4 => ?_)
   ·
    refine hl_v rfl rfl rfl (rv_ev rfl) ?_
    refine hl_v rfl rfl rfl (rv_ev rfl) ?_
    refine hl_skip rfl rfl rfl ?_
    refine hl_skip rfl rfl rfl ?_
    refine hl_skip rfl rfl rfl ?_
    refine hl_skip rfl rfl rfl ?_
    refine hl_skip rfl rfl rfl ?_
    refine hl_skip rfl rfl rfl ?_
    refine hl_skip rfl rfl rfl ?_
    refine hl_skip rfl rfl rfl ?_
    refine hl_skip rfl rfl rfl ?_
    refine hl_v rfl rfl rfl (rv_ev rfl) ?_
    refine hl_v rfl rfl rfl (rv_ev rfl) ?_
    refine hl_skip rfl rfl rfl ?_
    refine hl_skip rfl rfl rfl ?_
    refine hl_skip rfl rfl rfl ?_
    refine hl_skip rfl rfl rfl ?_
    refine hl_skip rfl rfl rfl ?_
    refine hl_skip rfl rfl rfl ?_
    refine hl_skip rfl rfl rfl ?_
    refine hl_skip rfl rfl rfl ?_
    refine hl_v rfl rfl rfl (rv_ev rfl) ?_
    refine hl_less (sx 0 rfl (sx 1 rfl (sx 2 rfl (sx 50 rfl (sub_nil _))))) (.refl _) ?_
    refine hl_nil ?_
    refine hq_then ?_
    refine hc_true rfl ?_
    refine hc_seq ?_
    refine hc_region ?_
    refine hl_v rfl rfl rfl (rv_ev rfl) ?_
    refine hl_less (sx 0 rfl (sx 1 rfl (sx 2 rfl (sx 50 rfl (sub_nil _))))) (.refl _) ?_
    refine hl_nil ?_
    refine hq_then ?_
    refine hc_ret ?_
    refine hq_then_ret ?_
    exact hq_ans rfl rfl (congrArg _ (pB_no (fun hp => by first | (exact hSao ⟨hp.n, hp.a⟩) | (exact hSbs ⟨hp.n, hp.b⟩) | (exact hK hp.k) | (have h9 := hp.dn; omega) | (have h9 := hp.sn; omega) | (exact absurd (hp.dl i (by omega)) (by assumption)) | (exact absurd (hp.ds k (by omega)) (by assumption)))).symm)
   ·
    refine hl_v rfl rfl rfl (rv_ev rfl) ?_
    refine hl_v rfl rfl rfl (rv_ev rfl) ?_
    refine hl_v rfl rfl rfl (rv_field (k0 := 4) rfl (by kernel_rfl) rfl) ?_
    refine hl_v rfl rfl rfl (rv_field (k0 := 1) rfl (by kernel_rfl) rfl) ?_
    refine hl_v rfl rfl rfl (rv_load rfl (by kernel_rfl) rfl (box_cell 0 rfl rfl)) ?_
    refine hl_v rfl rfl rfl (rv_len rfl Try.underlying27 rfl (rd_old ((hr).ds.row))) ?_
    refine hl_v rfl rfl rfl (rv_field (k0 := 0) rfl (by kernel_rfl) rfl) ?_
    refine hl_v rfl rfl rfl (rv_field (k0 := 1) rfl (by kernel_rfl) rfl) ?_
    refine hl_v rfl rfl rfl (rv_load rfl (by kernel_rfl) rfl (box_cell 0 rfl rfl)) ?_
    refine hl_v rfl rfl rfl (rv_len rfl Try.underlying34 rfl (rd_old ((hr).n.sq.row))) ?_
    refine hl_neq rfl rfl rfl rfl rfl rfl (fun h5 => ?_) (fun h5 => ?_)
    ·
     refine hl_v rfl rfl rfl (rv_ev rfl) ?_
     refine hl_v rfl rfl rfl (rv_ev rfl) ?_
     refine hl_skip rfl rfl rfl ?_
     refine hl_skip rfl rfl rfl ?_
     refine hl_skip rfl rfl rfl ?_
     refine hl_skip rfl rfl rfl ?_
     refine hl_skip rfl rfl rfl ?_
     refine hl_skip rfl rfl rfl ?_
     refine hl_skip rfl rfl rfl ?_
     refine hl_skip rfl rfl rfl ?_
     refine hl_v rfl rfl rfl (rv_ev rfl) ?_
     refine hl_less (sx 0 rfl (sx 1 rfl (sx 2 rfl (sx 50 rfl (sub_nil _))))) (.refl _) ?_
     refine hl_nil ?_
     refine hq_then ?_
     refine hc_true rfl ?_
     refine hc_seq ?_
     refine hc_region ?_
     refine hl_v rfl rfl rfl (rv_ev rfl) ?_
     refine hl_less (sx 0 rfl (sx 1 rfl (sx 2 rfl (sx 50 rfl (sub_nil _))))) (.refl _) ?_
     refine hl_nil ?_
     refine hq_then ?_
     refine hc_ret ?_
     refine hq_then_ret ?_
     exact hq_ans rfl rfl (congrArg _ (pB_no (fun hp => by first | (exact hSao ⟨hp.n, hp.a⟩) | (exact hSbs ⟨hp.n, hp.b⟩) | (exact hK hp.k) | (have h9 := hp.dn; omega) | (have h9 := hp.sn; omega) | (exact absurd (hp.dl i (by omega)) (by assumption)) | (exact absurd (hp.ds k (by omega)) (by assumption)))).symm)
    ·
     refine hl_v rfl rfl rfl (rv_ev rfl) ?_
     refine hl_v rfl rfl rfl (rv_ev rfl) ?_
     refine hl_v rfl rfl rfl (rv_field (k0 := 6) rfl (by kernel_rfl) rfl) ?_
     refine hl_v rfl rfl rfl (rv_load rfl (by kernel_rfl) rfl (box_cell 0 rfl rfl)) ?_
     refine hl_v rfl rfl rfl (rv_field (k0 := 0) rfl (by kernel_rfl) rfl) ?_
     refine hl_v rfl rfl rfl (rv_field (k0 := 1) rfl (by kernel_rfl) rfl) ?_
     refine hl_v rfl rfl rfl (rv_load rfl (by kernel_rfl) rfl (box_cell 0 rfl rfl)) ?_
     refine hl_v rfl rfl rfl (rv_len rfl Try.underlying34 rfl (rd_old ((hr).n.sq.row))) ?_
     refine hl_callV rfl rfl rfl (rq_call (by kernel_rfl) rfl (fun w hm => ret_ans (l37List_ans x.ks (x.n.ss.length : Int) 50 _ w ((rd_old ((hr).ks)) w hm)))) ?_
     refine hl_bool (fun h6 => ?_) (fun h6 => ?_)
     ·
      have hK := of_pB h6
      refine hl_v rfl rfl rfl (rv_ev rfl) ?_
      refine hl_v rfl rfl rfl (rv_ev rfl) ?_
      refine hl_less (sx 0 rfl (sx 1 rfl (sx 2 rfl (sx 50 rfl (sub_nil _))))) (.refl _) ?_
      refine hl_nil ?_
      refine hq_then ?_
      refine hc_false rfl ?_
      refine hc_skip ?_
      refine hq_then ?_
      refine hc_seq ?_
      refine hc_seq ?_
      refine hc_region ?_
      refine hl_v rfl rfl rfl (rv_ev rfl) ?_
      refine hl_less (sx 0 rfl (sx 1 rfl (sx 2 rfl (sx 3 rfl (sx 50 rfl (sub_nil _)))))) (.refl _) ?_
      refine hl_nil ?_
      refine hq_then ?_
      refine hc_block ?_
      refine hc_loop1 (α := Nat) (fun i => [boxE b1 #[.int .i64 x.n.ins, x.n.sv, x.n.lv, x.n.ov, x.pv, x.qv, x.kv, x.av, x.bv, .int .i64 x.oi, .int .i64 x.ni] 40]) (fun i => [(0, .agg #[.int .i64 x.n.ins, x.n.sv, x.n.lv, x.n.ov, x.pv, x.qv, x.kv, x.av, x.bv, .int .i64 x.oi, .int .i64 x.ni]), (1, .pointer (some ⟨b1, 0, none⟩)), (2, .bool false), (3, .int .i64 (i : Int)), (50, .bool false)]) (fun i => i ≤ x.n.ls.length ∧ ∀ q, q < i → LiP (x.dl.getD q ir0).xs (x.n.ls.getD q lt0).xs.length 100) (fun i => x.n.ls.length - i) 0 ⟨Nat.zero_le _, fun q hq => absurd hq (by omega)⟩ (sx 0 rfl (sx 1 rfl (sx 2 rfl (sx 3 rfl (sx 50 rfl (sub_nil _)))))) ((.cons_cons _ .slnil)) ?_
      intro i hi7
      obtain ⟨hi, hq1⟩ := hi7
      refine hc_seq ?_
      refine hc_seq ?_
      refine hc_region ?_
      refine hl_v rfl rfl rfl (rv_ev rfl) ?_
      refine hl_v rfl rfl rfl (rv_field (k0 := 0) rfl (by kernel_rfl) rfl) ?_
      refine hl_v rfl rfl rfl (rv_field (k0 := 2) rfl (by kernel_rfl) rfl) ?_
      refine hl_v rfl rfl rfl (rv_load rfl (by kernel_rfl) rfl (box_cell 0 rfl rfl)) ?_
      refine hl_v rfl rfl rfl (rv_len rfl Try.underlying35 rfl (rd_old ((hr).n.lt.row))) ?_
      refine hl_lss rfl rfl rfl rfl rfl rfl (fun h8 => ?_) (fun h8 => ?_)
      ·
       refine hl_less (sx 0 rfl (sx 1 rfl (sx 2 rfl (sx 3 rfl (sx 50 rfl (sx 56 rfl (sub_nil _))))))) (.refl _) ?_
       refine hl_nil ?_
       refine hq_then ?_
       refine hc_true rfl ?_
       refine hc_skip ?_
       refine hq_then ?_
       refine hc_seq ?_
       refine hc_block ?_
       refine hc_seq ?_
       rcases Bool.eq_false_or_eq_true (pB (LiP ((x.dl.getD i ir0).xs) (((x.n.ls.getD i lt0).xs).length : Int) 100)) with hb9 | hb9
       ·
        have hb9p := of_pB hb9
        refine hc_draw (by kernel_rfl) 16 [0, 1, 2, 3, 4, 5, 6, 7, 8, 9, 10, 11, 12, 13, 14, 15] (List.take 16 _) (List.drop 16 _) [[], [0], [1], [], [2, 3], [4], [], [6], [7], [], [8, 9], [10], [11], [12], [5, 13], [14]] [59, 60, 61, 62, 63, 64, 65, 66, 67, 68, 69, 70, 71, 72, 73, 74] (fun i_ vs_ v_ p_ => match i_ with | 0 => v_ = .pointer (some ⟨b1, 0 + 4, none⟩) ∧ p_ = [] | 1 => v_ = .pointer (some ⟨b1, 0 + 4 + 0, none⟩) ∧ p_ = [] | 2 => v_ = x.pv ∧ p_ = [] | 3 => v_ = .int .i64 (i : Int) ∧ p_ = [] | 4 => v_ = elP x.pv (((i : Int)).toNat * 1) ∧ p_ = [] | 5 => v_ = (x.dl.getD i ir0).v ∧ p_ = [] | 6 => v_ = .pointer (some ⟨b1, 0 + 0, none⟩) ∧ p_ = [] | 7 => v_ = .pointer (some ⟨b1, 0 + 0 + 2, none⟩) ∧ p_ = [] | 8 => v_ = x.n.lv ∧ p_ = [] | 9 => v_ = .int .i64 (i : Int) ∧ p_ = [] | 10 => v_ = elP x.n.lv (((i : Int)).toNat * 2) ∧ p_ = [] | 11 => v_ = elP x.n.lv (((i : Int)).toNat * 2 + 0) ∧ p_ = [] | 12 => v_ = (x.n.ls.getD i lt0).iv ∧ p_ = [] | 13 => v_ = .int .i64 (((x.n.ls.getD i lt0).xs).length : Int) ∧ p_ = [] | 14 => v_ = .bool true ∧ p_ = [] | 15 => v_ = .bool false ∧ p_ = [] | _ => True) (List.take_append_drop 16 _).symm (by kernel_rfl) (by kernel_rfl) rfl rfl ?_ ?_
        ·
         refine ⟨?_, ?_, ?_, ?_, ?_, ?_, ?_, ?_, ?_, ?_, ?_, ?_, ?_, ?_, ?_, ?_, trivial⟩
         ·
          intro vf pf hR
          refine Or.inl ⟨rfl, ?_⟩
          refine rq_less (sx 1 rfl (sub_nil _)) (List.sublist_append_right _ _) ?_
          exact rq_v (rv_field (k0 := 4) rfl (by kernel_rfl) rfl)
         ·
          intro vf pf hR
          have e0 : (vf 0) = .pointer (some ⟨b1, 0 + 4, none⟩) ∧ (pf 0) = [] := hR 0 (by decide)
          refine Or.inl ⟨rfl, ?_⟩
          refine rq_less (sx 59 (congrArg some e0.1) (sub_nil _)) (List.sublist_append_right _ _) ?_
          exact rq_v (rv_field (k0 := 0) rfl (by kernel_rfl) rfl)
         ·
          intro vf pf hR
          have e1 : (vf 1) = .pointer (some ⟨b1, 0 + 4 + 0, none⟩) ∧ (pf 1) = [] := hR 1 (by decide)
          refine Or.inl ⟨rfl, ?_⟩
          refine rq_less (sx 60 (congrArg some e1.1) (sub_nil _)) (List.sublist_append_right _ _) ?_
          exact rq_v (rv_load rfl (by kernel_rfl) rfl (box_cell 0 rfl rfl))
         ·
          intro vf pf hR
          refine Or.inl ⟨rfl, ?_⟩
          refine rq_less (sx 3 rfl (sub_nil _)) (List.sublist_append_right _ _) ?_
          exact rq_v (rv_ev rfl)
         ·
          intro vf pf hR
          have e2 : (vf 2) = x.pv ∧ (pf 2) = [] := hR 2 (by decide)
          have e3 : (vf 3) = .int .i64 (i : Int) ∧ (pf 3) = [] := hR 3 (by decide)
          refine Or.inl ⟨rfl, ?_⟩
          refine rq_less (sx 61 (congrArg some e2.1) (sx 62 (congrArg some e3.1) (sub_nil _))) (List.sublist_append_right _ _) ?_
          exact rq_v (rv_index (s := 1) rfl Try.underlying27 (by kernel_rfl) rfl rfl (rd_old ((hr).dl.row)) (by omega) (by first | omega | (simp only [List.length_set]; omega)))
         ·
          intro vf pf hR
          have e4 : (vf 4) = elP x.pv (((i : Int)).toNat * 1) ∧ (pf 4) = [] := hR 4 (by decide)
          refine Or.inl ⟨rfl, ?_⟩
          refine rq_less (sx 63 (congrArg some e4.1) (sub_nil _)) (List.sublist_append_right _ _) ?_
          exact rq_v (rv_loadEl (u := (x.dl.getD i ir0).v) rfl (by kernel_rfl) rfl (rd_old ((hr).dl.row)) (flat_one irC (fun r => r.v) (fun _ => rfl) x.dl ir0 (show i < _ by first | omega | (simp only [List.length_set]; omega))))
         ·
          intro vf pf hR
          refine Or.inl ⟨rfl, ?_⟩
          refine rq_less (sx 1 rfl (sub_nil _)) (List.sublist_append_right _ _) ?_
          exact rq_v (rv_field (k0 := 0) rfl (by kernel_rfl) rfl)
         ·
          intro vf pf hR
          have e6 : (vf 6) = .pointer (some ⟨b1, 0 + 0, none⟩) ∧ (pf 6) = [] := hR 6 (by decide)
          refine Or.inl ⟨rfl, ?_⟩
          refine rq_less (sx 65 (congrArg some e6.1) (sub_nil _)) (List.sublist_append_right _ _) ?_
          exact rq_v (rv_field (k0 := 2) rfl (by kernel_rfl) rfl)
         ·
          intro vf pf hR
          have e7 : (vf 7) = .pointer (some ⟨b1, 0 + 0 + 2, none⟩) ∧ (pf 7) = [] := hR 7 (by decide)
          refine Or.inl ⟨rfl, ?_⟩
          refine rq_less (sx 66 (congrArg some e7.1) (sub_nil _)) (List.sublist_append_right _ _) ?_
          exact rq_v (rv_load rfl (by kernel_rfl) rfl (box_cell 0 rfl rfl))
         ·
          intro vf pf hR
          refine Or.inl ⟨rfl, ?_⟩
          refine rq_less (sx 3 rfl (sub_nil _)) (List.sublist_append_right _ _) ?_
          exact rq_v (rv_ev rfl)
         ·
          intro vf pf hR
          have e8 : (vf 8) = x.n.lv ∧ (pf 8) = [] := hR 8 (by decide)
          have e9 : (vf 9) = .int .i64 (i : Int) ∧ (pf 9) = [] := hR 9 (by decide)
          refine Or.inl ⟨rfl, ?_⟩
          refine rq_less (sx 67 (congrArg some e8.1) (sx 68 (congrArg some e9.1) (sub_nil _))) (List.sublist_append_right _ _) ?_
          exact rq_v (rv_index (s := 2) rfl Try.underlying35 (by kernel_rfl) rfl rfl (rd_old ((hr).n.lt.row)) (by omega) (by first | omega | (simp only [List.length_set]; omega)))
         ·
          intro vf pf hR
          have e10 : (vf 10) = elP x.n.lv (((i : Int)).toNat * 2) ∧ (pf 10) = [] := hR 10 (by decide)
          refine Or.inl ⟨rfl, ?_⟩
          refine rq_less (sx 69 (congrArg some e10.1) (sub_nil _)) (List.sublist_append_right _ _) ?_
          exact rq_v (rv_fieldEl (k0 := 0) rfl (by kernel_rfl) rfl (rd_old ((hr).n.lt.row)) (by first | omega | (simp only [List.length_set]; omega)))
         ·
          intro vf pf hR
          have e11 : (vf 11) = elP x.n.lv (((i : Int)).toNat * 2 + 0) ∧ (pf 11) = [] := hR 11 (by decide)
          refine Or.inl ⟨rfl, ?_⟩
          refine rq_less (sx 70 (congrArg some e11.1) (sub_nil _)) (List.sublist_append_right _ _) ?_
          exact rq_v (rv_loadEl (u := (x.n.ls.getD i lt0).iv) rfl (by kernel_rfl) rfl (rd_old ((hr).n.lt.row)) ((flat_at ltC 2 (fun _ => rfl) x.n.ls lt0 (show i < _ by first | omega | (simp only [List.length_set]; omega)) (by decide)).trans rfl))
         ·
          intro vf pf hR
          have e12 : (vf 12) = (x.n.ls.getD i lt0).iv ∧ (pf 12) = [] := hR 12 (by decide)
          refine Or.inl ⟨rfl, ?_⟩
          refine rq_less (sx 71 (congrArg some e12.1) (sub_nil _)) (List.sublist_append_right _ _) ?_
          exact rq_v (rv_len rfl Try.underlying24 rfl (rd_old ((hr).n.lt.at (d := lt0) (k := i) (by omega))))
         ·
          intro vf pf hR
          have e5 : (vf 5) = (x.dl.getD i ir0).v ∧ (pf 5) = [] := hR 5 (by decide)
          have e13 : (vf 13) = .int .i64 (((x.n.ls.getD i lt0).xs).length : Int) ∧ (pf 13) = [] := hR 13 (by decide)
          refine Or.inl ⟨rfl, ?_⟩
          refine rq_less (sx 64 (congrArg some e5.1) (sx 72 (congrArg some e13.1) (sub_nil _))) (List.sublist_append_right _ _) ?_
          exact rq_mono (rq_call (by kernel_rfl) rfl (fun w hm => ret_ans (l37List_ans ((x.dl.getD i ir0).xs) (((x.n.ls.getD i lt0).xs).length : Int) 100 _ w ((rd_old ((hr).dl.at (d := ir0) (k := i) (by omega))) w hm)))) (fun _ _ h => ⟨h.1.trans (congrArg Value.bool hb9), h.2⟩)
         ·
          intro vf pf hR
          have e14 : (vf 14) = .bool true ∧ (pf 14) = [] := hR 14 (by decide)
          refine Or.inl ⟨rfl, ?_⟩
          refine rq_less (sx 73 (congrArg some e14.1) (sub_nil _)) (List.sublist_append_right _ _) ?_
          exact rq_v (rv_ev rfl)
        ·
         intro vf pf hR
         have e15 : (vf 15) = .bool false ∧ (pf 15) = [] := hR 15 (by decide)
         refine hl_less (l' := [boxE b1 #[.int .i64 x.n.ins, x.n.sv, x.n.lv, x.n.ov, x.pv, x.qv, x.kv, x.av, x.bv, .int .i64 x.oi, .int .i64 x.ni] 40]) (sx 0 rfl (sx 1 rfl (sx 2 rfl (sx 3 rfl (sx 50 rfl (sx 56 rfl (sx 74 (congrArg some e15.1) (sub_nil _)))))))) (List.sublist_append_right _ _) ?_
         simp only [List.drop_succ_cons, List.drop_zero]
         refine hl_less (sx 0 rfl (sx 1 rfl (sx 2 rfl (sx 3 rfl (sx 50 rfl (sx 56 rfl (sx 74 rfl (sub_nil _)))))))) (.refl _) ?_
         refine hl_nil ?_
         refine hq_then ?_
         refine hc_false rfl ?_
         refine hc_skip ?_
         refine hq_block_normal ?_
         refine hq_then ?_
         refine hc_region ?_
         refine hl_v rfl rfl rfl (rv_ev rfl) ?_
         refine hl_v rfl rfl rfl (rv_add rfl rfl rfl (by constructor <;> omega)) ?_
         refine hl_v rfl rfl rfl (rv_ev rfl) ?_
         refine hl_less (sx 0 rfl (sx 1 rfl (sx 2 rfl (sx 3 rfl (sx 50 rfl (sx 56 rfl (sx 74 rfl (sub_nil _)))))))) (.refl _) ?_
         refine hl_nil ?_
         exact hq_round1 (i + 1) ⟨by omega, fun q hq9 => by by_cases e : q = i; (subst e; assumption); exact hq1 q (by omega)⟩ (by omega) (sx 0 rfl (sx 1 rfl (sx 2 rfl (sx 3 rfl (sx 50 rfl (sub_nil _)))))) ((.cons_cons _ .slnil))
       ·
        have hb9p := of_pBn hb9
        refine hc_draw (by kernel_rfl) 16 [0, 1, 2, 3, 4, 5, 6, 7, 8, 9, 10, 11, 12, 13, 14, 15] (List.take 16 _) (List.drop 16 _) [[], [0], [1], [], [2, 3], [4], [], [6], [7], [], [8, 9], [10], [11], [12], [5, 13], [14]] [59, 60, 61, 62, 63, 64, 65, 66, 67, 68, 69, 70, 71, 72, 73, 74] (fun i_ vs_ v_ p_ => match i_ with | 0 => v_ = .pointer (some ⟨b1, 0 + 4, none⟩) ∧ p_ = [] | 1 => v_ = .pointer (some ⟨b1, 0 + 4 + 0, none⟩) ∧ p_ = [] | 2 => v_ = x.pv ∧ p_ = [] | 3 => v_ = .int .i64 (i : Int) ∧ p_ = [] | 4 => v_ = elP x.pv (((i : Int)).toNat * 1) ∧ p_ = [] | 5 => v_ = (x.dl.getD i ir0).v ∧ p_ = [] | 6 => v_ = .pointer (some ⟨b1, 0 + 0, none⟩) ∧ p_ = [] | 7 => v_ = .pointer (some ⟨b1, 0 + 0 + 2, none⟩) ∧ p_ = [] | 8 => v_ = x.n.lv ∧ p_ = [] | 9 => v_ = .int .i64 (i : Int) ∧ p_ = [] | 10 => v_ = elP x.n.lv (((i : Int)).toNat * 2) ∧ p_ = [] | 11 => v_ = elP x.n.lv (((i : Int)).toNat * 2 + 0) ∧ p_ = [] | 12 => v_ = (x.n.ls.getD i lt0).iv ∧ p_ = [] | 13 => v_ = .int .i64 (((x.n.ls.getD i lt0).xs).length : Int) ∧ p_ = [] | 14 => v_ = .bool false ∧ p_ = [] | 15 => v_ = .bool true ∧ p_ = [] | _ => True) (List.take_append_drop 16 _).symm (by kernel_rfl) (by kernel_rfl) rfl rfl ?_ ?_
        ·
         refine ⟨?_, ?_, ?_, ?_, ?_, ?_, ?_, ?_, ?_, ?_, ?_, ?_, ?_, ?_, ?_, ?_, trivial⟩
         ·
          intro vf pf hR
          refine Or.inl ⟨rfl, ?_⟩
          refine rq_less (sx 1 rfl (sub_nil _)) (List.sublist_append_right _ _) ?_
          exact rq_v (rv_field (k0 := 4) rfl (by kernel_rfl) rfl)
         ·
          intro vf pf hR
          have e0 : (vf 0) = .pointer (some ⟨b1, 0 + 4, none⟩) ∧ (pf 0) = [] := hR 0 (by decide)
          refine Or.inl ⟨rfl, ?_⟩
          refine rq_less (sx 59 (congrArg some e0.1) (sub_nil _)) (List.sublist_append_right _ _) ?_
          exact rq_v (rv_field (k0 := 0) rfl (by kernel_rfl) rfl)
         ·
          intro vf pf hR
          have e1 : (vf 1) = .pointer (some ⟨b1, 0 + 4 + 0, none⟩) ∧ (pf 1) = [] := hR 1 (by decide)
          refine Or.inl ⟨rfl, ?_⟩
          refine rq_less (sx 60 (congrArg some e1.1) (sub_nil _)) (List.sublist_append_right _ _) ?_
          exact rq_v (rv_load rfl (by kernel_rfl) rfl (box_cell 0 rfl rfl))
         ·
          intro vf pf hR
          refine Or.inl ⟨rfl, ?_⟩
          refine rq_less (sx 3 rfl (sub_nil _)) (List.sublist_append_right _ _) ?_
          exact rq_v (rv_ev rfl)
         ·
          intro vf pf hR
          have e2 : (vf 2) = x.pv ∧ (pf 2) = [] := hR 2 (by decide)
          have e3 : (vf 3) = .int .i64 (i : Int) ∧ (pf 3) = [] := hR 3 (by decide)
          refine Or.inl ⟨rfl, ?_⟩
          refine rq_less (sx 61 (congrArg some e2.1) (sx 62 (congrArg some e3.1) (sub_nil _))) (List.sublist_append_right _ _) ?_
          exact rq_v (rv_index (s := 1) rfl Try.underlying27 (by kernel_rfl) rfl rfl (rd_old ((hr).dl.row)) (by omega) (by first | omega | (simp only [List.length_set]; omega)))
         ·
          intro vf pf hR
          have e4 : (vf 4) = elP x.pv (((i : Int)).toNat * 1) ∧ (pf 4) = [] := hR 4 (by decide)
          refine Or.inl ⟨rfl, ?_⟩
          refine rq_less (sx 63 (congrArg some e4.1) (sub_nil _)) (List.sublist_append_right _ _) ?_
          exact rq_v (rv_loadEl (u := (x.dl.getD i ir0).v) rfl (by kernel_rfl) rfl (rd_old ((hr).dl.row)) (flat_one irC (fun r => r.v) (fun _ => rfl) x.dl ir0 (show i < _ by first | omega | (simp only [List.length_set]; omega))))
         ·
          intro vf pf hR
          refine Or.inl ⟨rfl, ?_⟩
          refine rq_less (sx 1 rfl (sub_nil _)) (List.sublist_append_right _ _) ?_
          exact rq_v (rv_field (k0 := 0) rfl (by kernel_rfl) rfl)
         ·
          intro vf pf hR
          have e6 : (vf 6) = .pointer (some ⟨b1, 0 + 0, none⟩) ∧ (pf 6) = [] := hR 6 (by decide)
          refine Or.inl ⟨rfl, ?_⟩
          refine rq_less (sx 65 (congrArg some e6.1) (sub_nil _)) (List.sublist_append_right _ _) ?_
          exact rq_v (rv_field (k0 := 2) rfl (by kernel_rfl) rfl)
         ·
          intro vf pf hR
          have e7 : (vf 7) = .pointer (some ⟨b1, 0 + 0 + 2, none⟩) ∧ (pf 7) = [] := hR 7 (by decide)
          refine Or.inl ⟨rfl, ?_⟩
          refine rq_less (sx 66 (congrArg some e7.1) (sub_nil _)) (List.sublist_append_right _ _) ?_
          exact rq_v (rv_load rfl (by kernel_rfl) rfl (box_cell 0 rfl rfl))
         ·
          intro vf pf hR
          refine Or.inl ⟨rfl, ?_⟩
          refine rq_less (sx 3 rfl (sub_nil _)) (List.sublist_append_right _ _) ?_
          exact rq_v (rv_ev rfl)
         ·
          intro vf pf hR
          have e8 : (vf 8) = x.n.lv ∧ (pf 8) = [] := hR 8 (by decide)
          have e9 : (vf 9) = .int .i64 (i : Int) ∧ (pf 9) = [] := hR 9 (by decide)
          refine Or.inl ⟨rfl, ?_⟩
          refine rq_less (sx 67 (congrArg some e8.1) (sx 68 (congrArg some e9.1) (sub_nil _))) (List.sublist_append_right _ _) ?_
          exact rq_v (rv_index (s := 2) rfl Try.underlying35 (by kernel_rfl) rfl rfl (rd_old ((hr).n.lt.row)) (by omega) (by first | omega | (simp only [List.length_set]; omega)))
         ·
          intro vf pf hR
          have e10 : (vf 10) = elP x.n.lv (((i : Int)).toNat * 2) ∧ (pf 10) = [] := hR 10 (by decide)
          refine Or.inl ⟨rfl, ?_⟩
          refine rq_less (sx 69 (congrArg some e10.1) (sub_nil _)) (List.sublist_append_right _ _) ?_
          exact rq_v (rv_fieldEl (k0 := 0) rfl (by kernel_rfl) rfl (rd_old ((hr).n.lt.row)) (by first | omega | (simp only [List.length_set]; omega)))
         ·
          intro vf pf hR
          have e11 : (vf 11) = elP x.n.lv (((i : Int)).toNat * 2 + 0) ∧ (pf 11) = [] := hR 11 (by decide)
          refine Or.inl ⟨rfl, ?_⟩
          refine rq_less (sx 70 (congrArg some e11.1) (sub_nil _)) (List.sublist_append_right _ _) ?_
          exact rq_v (rv_loadEl (u := (x.n.ls.getD i lt0).iv) rfl (by kernel_rfl) rfl (rd_old ((hr).n.lt.row)) ((flat_at ltC 2 (fun _ => rfl) x.n.ls lt0 (show i < _ by first | omega | (simp only [List.length_set]; omega)) (by decide)).trans rfl))
         ·
          intro vf pf hR
          have e12 : (vf 12) = (x.n.ls.getD i lt0).iv ∧ (pf 12) = [] := hR 12 (by decide)
          refine Or.inl ⟨rfl, ?_⟩
          refine rq_less (sx 71 (congrArg some e12.1) (sub_nil _)) (List.sublist_append_right _ _) ?_
          exact rq_v (rv_len rfl Try.underlying24 rfl (rd_old ((hr).n.lt.at (d := lt0) (k := i) (by omega))))
         ·
          intro vf pf hR
          have e5 : (vf 5) = (x.dl.getD i ir0).v ∧ (pf 5) = [] := hR 5 (by decide)
          have e13 : (vf 13) = .int .i64 (((x.n.ls.getD i lt0).xs).length : Int) ∧ (pf 13) = [] := hR 13 (by decide)
          refine Or.inl ⟨rfl, ?_⟩
          refine rq_less (sx 64 (congrArg some e5.1) (sx 72 (congrArg some e13.1) (sub_nil _))) (List.sublist_append_right _ _) ?_
          exact rq_mono (rq_call (by kernel_rfl) rfl (fun w hm => ret_ans (l37List_ans ((x.dl.getD i ir0).xs) (((x.n.ls.getD i lt0).xs).length : Int) 100 _ w ((rd_old ((hr).dl.at (d := ir0) (k := i) (by omega))) w hm)))) (fun _ _ h => ⟨h.1.trans (congrArg Value.bool hb9), h.2⟩)
         ·
          intro vf pf hR
          have e14 : (vf 14) = .bool false ∧ (pf 14) = [] := hR 14 (by decide)
          refine Or.inl ⟨rfl, ?_⟩
          refine rq_less (sx 73 (congrArg some e14.1) (sub_nil _)) (List.sublist_append_right _ _) ?_
          exact rq_v (rv_ev rfl)
        ·
         intro vf pf hR
         have e15 : (vf 15) = .bool true ∧ (pf 15) = [] := hR 15 (by decide)
         refine hl_less (l' := [boxE b1 #[.int .i64 x.n.ins, x.n.sv, x.n.lv, x.n.ov, x.pv, x.qv, x.kv, x.av, x.bv, .int .i64 x.oi, .int .i64 x.ni] 40]) (sx 0 rfl (sx 1 rfl (sx 2 rfl (sx 3 rfl (sx 50 rfl (sx 56 rfl (sx 74 (congrArg some e15.1) (sub_nil _)))))))) (List.sublist_append_right _ _) ?_
         simp only [List.drop_succ_cons, List.drop_zero]
         refine hl_less (sx 0 rfl (sx 1 rfl (sx 2 rfl (sx 3 rfl (sx 50 rfl (sx 56 rfl (sx 74 rfl (sub_nil _)))))))) (.refl _) ?_
         refine hl_nil ?_
         refine hq_then ?_
         refine hc_true rfl ?_
         refine hc_seq ?_
         refine hc_region ?_
         refine hl_v rfl rfl rfl (rv_ev rfl) ?_
         refine hl_less (sx 0 rfl (sx 1 rfl (sx 2 rfl (sx 3 rfl (sx 50 rfl (sx 56 rfl (sx 74 rfl (sub_nil _)))))))) (.refl _) ?_
         refine hl_nil ?_
         refine hq_then ?_
         refine hc_ret ?_
         refine hq_block_ret ?_
         refine hq_then_ret ?_
         refine hq_then_ret ?_
         refine hq_block_ret ?_
         refine hq_then_ret ?_
         exact hq_ans rfl rfl (congrArg _ (pB_no (fun hp => by first | (exact hSao ⟨hp.n, hp.a⟩) | (exact hSbs ⟨hp.n, hp.b⟩) | (exact hK hp.k) | (have h9 := hp.dn; omega) | (have h9 := hp.sn; omega) | (exact absurd (hp.dl i (by omega)) (by assumption)) | (exact absurd (hp.ds k (by omega)) (by assumption)))).symm)
      ·
       refine hl_less (sx 0 rfl (sx 1 rfl (sx 2 rfl (sx 3 rfl (sx 50 rfl (sx 56 rfl (sub_nil _))))))) (.refl _) ?_
       refine hl_nil ?_
       refine hq_then ?_
       refine hc_false rfl ?_
       refine hc_exit ?_
       refine hq_then_exit ?_
       refine hq_then_exit ?_
       refine hq_block_exit ?_
       refine hq_then ?_
       refine hc_seq ?_
       refine hc_seq ?_
       refine hc_region ?_
       refine hl_v rfl rfl rfl (rv_ev rfl) ?_
       refine hl_less (sx 0 rfl (sx 1 rfl (sx 2 rfl (sx 3 rfl (sx 4 rfl (sx 50 rfl (sx 56 rfl (sub_nil _)))))))) (.refl _) ?_
       refine hl_nil ?_
       refine hq_then ?_
       refine hc_block ?_
       refine hc_loop1 (α := Nat) (fun k => [boxE b1 #[.int .i64 x.n.ins, x.n.sv, x.n.lv, x.n.ov, x.pv, x.qv, x.kv, x.av, x.bv, .int .i64 x.oi, .int .i64 x.ni] 40]) (fun k => [(0, .agg #[.int .i64 x.n.ins, x.n.sv, x.n.lv, x.n.ov, x.pv, x.qv, x.kv, x.av, x.bv, .int .i64 x.oi, .int .i64 x.ni]), (1, .pointer (some ⟨b1, 0, none⟩)), (2, .bool false), (4, .int .i64 (k : Int)), (50, .bool false), (56, .bool false)]) (fun k => k ≤ x.n.ss.length ∧ ∀ q, q < k → LiP (x.ds.getD q ir0).xs (x.n.ss.getD q sq0).xs.length 100) (fun k => x.n.ss.length - k) 0 ⟨Nat.zero_le _, fun q hq => absurd hq (by omega)⟩ (sx 0 rfl (sx 1 rfl (sx 2 rfl (sx 4 rfl (sx 50 rfl (sx 56 rfl (sub_nil _))))))) ((.cons_cons _ .slnil)) ?_
       intro k hi10
       obtain ⟨hk, hq2⟩ := hi10
       refine hc_seq ?_
       refine hc_seq ?_
       refine hc_region ?_
       refine hl_v rfl rfl rfl (rv_ev rfl) ?_
       refine hl_v rfl rfl rfl (rv_field (k0 := 0) rfl (by kernel_rfl) rfl) ?_
       refine hl_v rfl rfl rfl (rv_field (k0 := 1) rfl (by kernel_rfl) rfl) ?_
       refine hl_v rfl rfl rfl (rv_load rfl (by kernel_rfl) rfl (box_cell 0 rfl rfl)) ?_
       refine hl_v rfl rfl rfl (rv_len rfl Try.underlying34 rfl (rd_old ((hr).n.sq.row))) ?_
       refine hl_lss rfl rfl rfl rfl rfl rfl (fun h11 => ?_) (fun h11 => ?_)
       ·
        refine hl_less (sx 0 rfl (sx 1 rfl (sx 2 rfl (sx 4 rfl (sx 50 rfl (sx 56 rfl (sx 80 rfl (sub_nil _)))))))) (.refl _) ?_
        refine hl_nil ?_
        refine hq_then ?_
        refine hc_true rfl ?_
        refine hc_skip ?_
        refine hq_then ?_
        refine hc_seq ?_
        refine hc_block ?_
        refine hc_seq ?_
        rcases Bool.eq_false_or_eq_true (pB (LiP ((x.ds.getD k ir0).xs) (((x.n.ss.getD k sq0).xs).length : Int) 100)) with hb12 | hb12
        ·
         have hb12p := of_pB hb12
         refine hc_draw (by kernel_rfl) 16 [0, 1, 2, 3, 4, 5, 6, 7, 8, 9, 10, 11, 12, 13, 14, 15] (List.take 16 _) (List.drop 16 _) [[], [0], [1], [], [2, 3], [4], [], [6], [7], [], [8, 9], [10], [11], [12], [5, 13], [14]] [83, 84, 85, 86, 87, 88, 89, 90, 91, 92, 93, 94, 95, 96, 97, 98] (fun i_ vs_ v_ p_ => match i_ with | 0 => v_ = .pointer (some ⟨b1, 0 + 4, none⟩) ∧ p_ = [] | 1 => v_ = .pointer (some ⟨b1, 0 + 4 + 1, none⟩) ∧ p_ = [] | 2 => v_ = x.qv ∧ p_ = [] | 3 => v_ = .int .i64 (k : Int) ∧ p_ = [] | 4 => v_ = elP x.qv (((k : Int)).toNat * 1) ∧ p_ = [] | 5 => v_ = (x.ds.getD k ir0).v ∧ p_ = [] | 6 => v_ = .pointer (some ⟨b1, 0 + 0, none⟩) ∧ p_ = [] | 7 => v_ = .pointer (some ⟨b1, 0 + 0 + 1, none⟩) ∧ p_ = [] | 8 => v_ = x.n.sv ∧ p_ = [] | 9 => v_ = .int .i64 (k : Int) ∧ p_ = [] | 10 => v_ = elP x.n.sv (((k : Int)).toNat * 3) ∧ p_ = [] | 11 => v_ = elP x.n.sv (((k : Int)).toNat * 3 + 2) ∧ p_ = [] | 12 => v_ = (x.n.ss.getD k sq0).iv ∧ p_ = [] | 13 => v_ = .int .i64 (((x.n.ss.getD k sq0).xs).length : Int) ∧ p_ = [] | 14 => v_ = .bool true ∧ p_ = [] | 15 => v_ = .bool false ∧ p_ = [] | _ => True) (List.take_append_drop 16 _).symm (by kernel_rfl) (by kernel_rfl) rfl rfl ?_ ?_
         ·
          refine ⟨?_, ?_, ?_, ?_, ?_, ?_, ?_, ?_, ?_, ?_, ?_, ?_, ?_, ?_, ?_, ?_, trivial⟩
          ·
           intro vf pf hR
           refine Or.inl ⟨rfl, ?_⟩
           refine rq_less (sx 1 rfl (sub_nil _)) (List.sublist_append_right _ _) ?_
           exact rq_v (rv_field (k0 := 4) rfl (by kernel_rfl) rfl)
          ·
           intro vf pf hR
           have e0 : (vf 0) = .pointer (some ⟨b1, 0 + 4, none⟩) ∧ (pf 0) = [] := hR 0 (by decide)
           refine Or.inl ⟨rfl, ?_⟩
           refine rq_less (sx 83 (congrArg some e0.1) (sub_nil _)) (List.sublist_append_right _ _) ?_
           exact rq_v (rv_field (k0 := 1) rfl (by kernel_rfl) rfl)
          ·
           intro vf pf hR
           have e1 : (vf 1) = .pointer (some ⟨b1, 0 + 4 + 1, none⟩) ∧ (pf 1) = [] := hR 1 (by decide)
           refine Or.inl ⟨rfl, ?_⟩
           refine rq_less (sx 84 (congrArg some e1.1) (sub_nil _)) (List.sublist_append_right _ _) ?_
           exact rq_v (rv_load rfl (by kernel_rfl) rfl (box_cell 0 rfl rfl))
          ·
           intro vf pf hR
           refine Or.inl ⟨rfl, ?_⟩
           refine rq_less (sx 4 rfl (sub_nil _)) (List.sublist_append_right _ _) ?_
           exact rq_v (rv_ev rfl)
          ·
           intro vf pf hR
           have e2 : (vf 2) = x.qv ∧ (pf 2) = [] := hR 2 (by decide)
           have e3 : (vf 3) = .int .i64 (k : Int) ∧ (pf 3) = [] := hR 3 (by decide)
           refine Or.inl ⟨rfl, ?_⟩
           refine rq_less (sx 85 (congrArg some e2.1) (sx 86 (congrArg some e3.1) (sub_nil _))) (List.sublist_append_right _ _) ?_
           exact rq_v (rv_index (s := 1) rfl Try.underlying27 (by kernel_rfl) rfl rfl (rd_old ((hr).ds.row)) (by omega) (by first | omega | (simp only [List.length_set]; omega)))
          ·
           intro vf pf hR
           have e4 : (vf 4) = elP x.qv (((k : Int)).toNat * 1) ∧ (pf 4) = [] := hR 4 (by decide)
           refine Or.inl ⟨rfl, ?_⟩
           refine rq_less (sx 87 (congrArg some e4.1) (sub_nil _)) (List.sublist_append_right _ _) ?_
           exact rq_v (rv_loadEl (u := (x.ds.getD k ir0).v) rfl (by kernel_rfl) rfl (rd_old ((hr).ds.row)) (flat_one irC (fun r => r.v) (fun _ => rfl) x.ds ir0 (show k < _ by first | omega | (simp only [List.length_set]; omega))))
          ·
           intro vf pf hR
           refine Or.inl ⟨rfl, ?_⟩
           refine rq_less (sx 1 rfl (sub_nil _)) (List.sublist_append_right _ _) ?_
           exact rq_v (rv_field (k0 := 0) rfl (by kernel_rfl) rfl)
          ·
           intro vf pf hR
           have e6 : (vf 6) = .pointer (some ⟨b1, 0 + 0, none⟩) ∧ (pf 6) = [] := hR 6 (by decide)
           refine Or.inl ⟨rfl, ?_⟩
           refine rq_less (sx 89 (congrArg some e6.1) (sub_nil _)) (List.sublist_append_right _ _) ?_
           exact rq_v (rv_field (k0 := 1) rfl (by kernel_rfl) rfl)
          ·
           intro vf pf hR
           have e7 : (vf 7) = .pointer (some ⟨b1, 0 + 0 + 1, none⟩) ∧ (pf 7) = [] := hR 7 (by decide)
           refine Or.inl ⟨rfl, ?_⟩
           refine rq_less (sx 90 (congrArg some e7.1) (sub_nil _)) (List.sublist_append_right _ _) ?_
           exact rq_v (rv_load rfl (by kernel_rfl) rfl (box_cell 0 rfl rfl))
          ·
           intro vf pf hR
           refine Or.inl ⟨rfl, ?_⟩
           refine rq_less (sx 4 rfl (sub_nil _)) (List.sublist_append_right _ _) ?_
           exact rq_v (rv_ev rfl)
          ·
           intro vf pf hR
           have e8 : (vf 8) = x.n.sv ∧ (pf 8) = [] := hR 8 (by decide)
           have e9 : (vf 9) = .int .i64 (k : Int) ∧ (pf 9) = [] := hR 9 (by decide)
           refine Or.inl ⟨rfl, ?_⟩
           refine rq_less (sx 91 (congrArg some e8.1) (sx 92 (congrArg some e9.1) (sub_nil _))) (List.sublist_append_right _ _) ?_
           exact rq_v (rv_index (s := 3) rfl Try.underlying34 (by kernel_rfl) rfl rfl (rd_old ((hr).n.sq.row)) (by omega) (by first | omega | (simp only [List.length_set]; omega)))
          ·
           intro vf pf hR
           have e10 : (vf 10) = elP x.n.sv (((k : Int)).toNat * 3) ∧ (pf 10) = [] := hR 10 (by decide)
           refine Or.inl ⟨rfl, ?_⟩
           refine rq_less (sx 93 (congrArg some e10.1) (sub_nil _)) (List.sublist_append_right _ _) ?_
           exact rq_v (rv_fieldEl (k0 := 2) rfl (by kernel_rfl) rfl (rd_old ((hr).n.sq.row)) (by first | omega | (simp only [List.length_set]; omega)))
          ·
           intro vf pf hR
           have e11 : (vf 11) = elP x.n.sv (((k : Int)).toNat * 3 + 2) ∧ (pf 11) = [] := hR 11 (by decide)
           refine Or.inl ⟨rfl, ?_⟩
           refine rq_less (sx 94 (congrArg some e11.1) (sub_nil _)) (List.sublist_append_right _ _) ?_
           exact rq_v (rv_loadEl (u := (x.n.ss.getD k sq0).iv) rfl (by kernel_rfl) rfl (rd_old ((hr).n.sq.row)) ((flat_at sqC 3 (fun _ => rfl) x.n.ss sq0 (show k < _ by first | omega | (simp only [List.length_set]; omega)) (by decide)).trans rfl))
          ·
           intro vf pf hR
           have e12 : (vf 12) = (x.n.ss.getD k sq0).iv ∧ (pf 12) = [] := hR 12 (by decide)
           refine Or.inl ⟨rfl, ?_⟩
           refine rq_less (sx 95 (congrArg some e12.1) (sub_nil _)) (List.sublist_append_right _ _) ?_
           exact rq_v (rv_len rfl Try.underlying24 rfl (rd_old ((hr).n.sq.at (d := sq0) (k := k) (by omega))))
          ·
           intro vf pf hR
           have e5 : (vf 5) = (x.ds.getD k ir0).v ∧ (pf 5) = [] := hR 5 (by decide)
           have e13 : (vf 13) = .int .i64 (((x.n.ss.getD k sq0).xs).length : Int) ∧ (pf 13) = [] := hR 13 (by decide)
           refine Or.inl ⟨rfl, ?_⟩
           refine rq_less (sx 88 (congrArg some e5.1) (sx 96 (congrArg some e13.1) (sub_nil _))) (List.sublist_append_right _ _) ?_
           exact rq_mono (rq_call (by kernel_rfl) rfl (fun w hm => ret_ans (l37List_ans ((x.ds.getD k ir0).xs) (((x.n.ss.getD k sq0).xs).length : Int) 100 _ w ((rd_old ((hr).ds.at (d := ir0) (k := k) (by omega))) w hm)))) (fun _ _ h => ⟨h.1.trans (congrArg Value.bool hb12), h.2⟩)
          ·
           intro vf pf hR
           have e14 : (vf 14) = .bool true ∧ (pf 14) = [] := hR 14 (by decide)
           refine Or.inl ⟨rfl, ?_⟩
           refine rq_less (sx 97 (congrArg some e14.1) (sub_nil _)) (List.sublist_append_right _ _) ?_
           exact rq_v (rv_ev rfl)
         ·
          intro vf pf hR
          have e15 : (vf 15) = .bool false ∧ (pf 15) = [] := hR 15 (by decide)
          refine hl_less (l' := [boxE b1 #[.int .i64 x.n.ins, x.n.sv, x.n.lv, x.n.ov, x.pv, x.qv, x.kv, x.av, x.bv, .int .i64 x.oi, .int .i64 x.ni] 40]) (sx 0 rfl (sx 1 rfl (sx 2 rfl (sx 4 rfl (sx 50 rfl (sx 56 rfl (sx 80 rfl (sx 98 (congrArg some e15.1) (sub_nil _))))))))) (List.sublist_append_right _ _) ?_
          simp only [List.drop_succ_cons, List.drop_zero]
          refine hl_less (sx 0 rfl (sx 1 rfl (sx 2 rfl (sx 4 rfl (sx 50 rfl (sx 56 rfl (sx 80 rfl (sx 98 rfl (sub_nil _))))))))) (.refl _) ?_
          refine hl_nil ?_
          refine hq_then ?_
          refine hc_false rfl ?_
          refine hc_skip ?_
          refine hq_block_normal ?_
          refine hq_then ?_
          refine hc_region ?_
          refine hl_v rfl rfl rfl (rv_ev rfl) ?_
          refine hl_v rfl rfl rfl (rv_add rfl rfl rfl (by constructor <;> omega)) ?_
          refine hl_v rfl rfl rfl (rv_ev rfl) ?_
          refine hl_less (sx 0 rfl (sx 1 rfl (sx 2 rfl (sx 4 rfl (sx 50 rfl (sx 56 rfl (sx 80 rfl (sx 98 rfl (sub_nil _))))))))) (.refl _) ?_
          refine hl_nil ?_
          exact hq_round1 (k + 1) ⟨by omega, fun q hq9 => by by_cases e : q = k; (subst e; assumption); exact hq2 q (by omega)⟩ (by omega) (sx 0 rfl (sx 1 rfl (sx 2 rfl (sx 4 rfl (sx 50 rfl (sx 56 rfl (sub_nil _))))))) ((.cons_cons _ .slnil))
        ·
         have hb12p := of_pBn hb12
         refine hc_draw (by kernel_rfl) 16 [0, 1, 2, 3, 4, 5, 6, 7, 8, 9, 10, 11, 12, 13, 14, 15] (List.take 16 _) (List.drop 16 _) [[], [0], [1], [], [2, 3], [4], [], [6], [7], [], [8, 9], [10], [11], [12], [5, 13], [14]] [83, 84, 85, 86, 87, 88, 89, 90, 91, 92, 93, 94, 95, 96, 97, 98] (fun i_ vs_ v_ p_ => match i_ with | 0 => v_ = .pointer (some ⟨b1, 0 + 4, none⟩) ∧ p_ = [] | 1 => v_ = .pointer (some ⟨b1, 0 + 4 + 1, none⟩) ∧ p_ = [] | 2 => v_ = x.qv ∧ p_ = [] | 3 => v_ = .int .i64 (k : Int) ∧ p_ = [] | 4 => v_ = elP x.qv (((k : Int)).toNat * 1) ∧ p_ = [] | 5 => v_ = (x.ds.getD k ir0).v ∧ p_ = [] | 6 => v_ = .pointer (some ⟨b1, 0 + 0, none⟩) ∧ p_ = [] | 7 => v_ = .pointer (some ⟨b1, 0 + 0 + 1, none⟩) ∧ p_ = [] | 8 => v_ = x.n.sv ∧ p_ = [] | 9 => v_ = .int .i64 (k : Int) ∧ p_ = [] | 10 => v_ = elP x.n.sv (((k : Int)).toNat * 3) ∧ p_ = [] | 11 => v_ = elP x.n.sv (((k : Int)).toNat * 3 + 2) ∧ p_ = [] | 12 => v_ = (x.n.ss.getD k sq0).iv ∧ p_ = [] | 13 => v_ = .int .i64 (((x.n.ss.getD k sq0).xs).length : Int) ∧ p_ = [] | 14 => v_ = .bool false ∧ p_ = [] | 15 => v_ = .bool true ∧ p_ = [] | _ => True) (List.take_append_drop 16 _).symm (by kernel_rfl) (by kernel_rfl) rfl rfl ?_ ?_
         ·
          refine ⟨?_, ?_, ?_, ?_, ?_, ?_, ?_, ?_, ?_, ?_, ?_, ?_, ?_, ?_, ?_, ?_, trivial⟩
          ·
           intro vf pf hR
           refine Or.inl ⟨rfl, ?_⟩
           refine rq_less (sx 1 rfl (sub_nil _)) (List.sublist_append_right _ _) ?_
           exact rq_v (rv_field (k0 := 4) rfl (by kernel_rfl) rfl)
          ·
           intro vf pf hR
           have e0 : (vf 0) = .pointer (some ⟨b1, 0 + 4, none⟩) ∧ (pf 0) = [] := hR 0 (by decide)
           refine Or.inl ⟨rfl, ?_⟩
           refine rq_less (sx 83 (congrArg some e0.1) (sub_nil _)) (List.sublist_append_right _ _) ?_
           exact rq_v (rv_field (k0 := 1) rfl (by kernel_rfl) rfl)
          ·
           intro vf pf hR
           have e1 : (vf 1) = .pointer (some ⟨b1, 0 + 4 + 1, none⟩) ∧ (pf 1) = [] := hR 1 (by decide)
           refine Or.inl ⟨rfl, ?_⟩
           refine rq_less (sx 84 (congrArg some e1.1) (sub_nil _)) (List.sublist_append_right _ _) ?_
           exact rq_v (rv_load rfl (by kernel_rfl) rfl (box_cell 0 rfl rfl))
          ·
           intro vf pf hR
           refine Or.inl ⟨rfl, ?_⟩
           refine rq_less (sx 4 rfl (sub_nil _)) (List.sublist_append_right _ _) ?_
           exact rq_v (rv_ev rfl)
          ·
           intro vf pf hR
           have e2 : (vf 2) = x.qv ∧ (pf 2) = [] := hR 2 (by decide)
           have e3 : (vf 3) = .int .i64 (k : Int) ∧ (pf 3) = [] := hR 3 (by decide)
           refine Or.inl ⟨rfl, ?_⟩
           refine rq_less (sx 85 (congrArg some e2.1) (sx 86 (congrArg some e3.1) (sub_nil _))) (List.sublist_append_right _ _) ?_
           exact rq_v (rv_index (s := 1) rfl Try.underlying27 (by kernel_rfl) rfl rfl (rd_old ((hr).ds.row)) (by omega) (by first | omega | (simp only [List.length_set]; omega)))
          ·
           intro vf pf hR
           have e4 : (vf 4) = elP x.qv (((k : Int)).toNat * 1) ∧ (pf 4) = [] := hR 4 (by decide)
           refine Or.inl ⟨rfl, ?_⟩
           refine rq_less (sx 87 (congrArg some e4.1) (sub_nil _)) (List.sublist_append_right _ _) ?_
           exact rq_v (rv_loadEl (u := (x.ds.getD k ir0).v) rfl (by kernel_rfl) rfl (rd_old ((hr).ds.row)) (flat_one irC (fun r => r.v) (fun _ => rfl) x.ds ir0 (show k < _ by first | omega | (simp only [List.length_set]; omega))))
          ·
           intro vf pf hR
           refine Or.inl ⟨rfl, ?_⟩
           refine rq_less (sx 1 rfl (sub_nil _)) (List.sublist_append_right _ _) ?_
           exact rq_v (rv_field (k0 := 0) rfl (by kernel_rfl) rfl)
          ·
           intro vf pf hR
           have e6 : (vf 6) = .pointer (some ⟨b1, 0 + 0, none⟩) ∧ (pf 6) = [] := hR 6 (by decide)
           refine Or.inl ⟨rfl, ?_⟩
           refine rq_less (sx 89 (congrArg some e6.1) (sub_nil _)) (List.sublist_append_right _ _) ?_
           exact rq_v (rv_field (k0 := 1) rfl (by kernel_rfl) rfl)
          ·
           intro vf pf hR
           have e7 : (vf 7) = .pointer (some ⟨b1, 0 + 0 + 1, none⟩) ∧ (pf 7) = [] := hR 7 (by decide)
           refine Or.inl ⟨rfl, ?_⟩
           refine rq_less (sx 90 (congrArg some e7.1) (sub_nil _)) (List.sublist_append_right _ _) ?_
           exact rq_v (rv_load rfl (by kernel_rfl) rfl (box_cell 0 rfl rfl))
          ·
           intro vf pf hR
           refine Or.inl ⟨rfl, ?_⟩
           refine rq_less (sx 4 rfl (sub_nil _)) (List.sublist_append_right _ _) ?_
           exact rq_v (rv_ev rfl)
          ·
           intro vf pf hR
           have e8 : (vf 8) = x.n.sv ∧ (pf 8) = [] := hR 8 (by decide)
           have e9 : (vf 9) = .int .i64 (k : Int) ∧ (pf 9) = [] := hR 9 (by decide)
           refine Or.inl ⟨rfl, ?_⟩
           refine rq_less (sx 91 (congrArg some e8.1) (sx 92 (congrArg some e9.1) (sub_nil _))) (List.sublist_append_right _ _) ?_
           exact rq_v (rv_index (s := 3) rfl Try.underlying34 (by kernel_rfl) rfl rfl (rd_old ((hr).n.sq.row)) (by omega) (by first | omega | (simp only [List.length_set]; omega)))
          ·
           intro vf pf hR
           have e10 : (vf 10) = elP x.n.sv (((k : Int)).toNat * 3) ∧ (pf 10) = [] := hR 10 (by decide)
           refine Or.inl ⟨rfl, ?_⟩
           refine rq_less (sx 93 (congrArg some e10.1) (sub_nil _)) (List.sublist_append_right _ _) ?_
           exact rq_v (rv_fieldEl (k0 := 2) rfl (by kernel_rfl) rfl (rd_old ((hr).n.sq.row)) (by first | omega | (simp only [List.length_set]; omega)))
          ·
           intro vf pf hR
           have e11 : (vf 11) = elP x.n.sv (((k : Int)).toNat * 3 + 2) ∧ (pf 11) = [] := hR 11 (by decide)
           refine Or.inl ⟨rfl, ?_⟩
           refine rq_less (sx 94 (congrArg some e11.1) (sub_nil _)) (List.sublist_append_right _ _) ?_
           exact rq_v (rv_loadEl (u := (x.n.ss.getD k sq0).iv) rfl (by kernel_rfl) rfl (rd_old ((hr).n.sq.row)) ((flat_at sqC 3 (fun _ => rfl) x.n.ss sq0 (show k < _ by first | omega | (simp only [List.length_set]; omega)) (by decide)).trans rfl))
          ·
           intro vf pf hR
           have e12 : (vf 12) = (x.n.ss.getD k sq0).iv ∧ (pf 12) = [] := hR 12 (by decide)
           refine Or.inl ⟨rfl, ?_⟩
           refine rq_less (sx 95 (congrArg some e12.1) (sub_nil _)) (List.sublist_append_right _ _) ?_
           exact rq_v (rv_len rfl Try.underlying24 rfl (rd_old ((hr).n.sq.at (d := sq0) (k := k) (by omega))))
          ·
           intro vf pf hR
           have e5 : (vf 5) = (x.ds.getD k ir0).v ∧ (pf 5) = [] := hR 5 (by decide)
           have e13 : (vf 13) = .int .i64 (((x.n.ss.getD k sq0).xs).length : Int) ∧ (pf 13) = [] := hR 13 (by decide)
           refine Or.inl ⟨rfl, ?_⟩
           refine rq_less (sx 88 (congrArg some e5.1) (sx 96 (congrArg some e13.1) (sub_nil _))) (List.sublist_append_right _ _) ?_
           exact rq_mono (rq_call (by kernel_rfl) rfl (fun w hm => ret_ans (l37List_ans ((x.ds.getD k ir0).xs) (((x.n.ss.getD k sq0).xs).length : Int) 100 _ w ((rd_old ((hr).ds.at (d := ir0) (k := k) (by omega))) w hm)))) (fun _ _ h => ⟨h.1.trans (congrArg Value.bool hb12), h.2⟩)
          ·
           intro vf pf hR
           have e14 : (vf 14) = .bool false ∧ (pf 14) = [] := hR 14 (by decide)
           refine Or.inl ⟨rfl, ?_⟩
           refine rq_less (sx 97 (congrArg some e14.1) (sub_nil _)) (List.sublist_append_right _ _) ?_
           exact rq_v (rv_ev rfl)
         ·
          intro vf pf hR
          have e15 : (vf 15) = .bool true ∧ (pf 15) = [] := hR 15 (by decide)
          refine hl_less (l' := [boxE b1 #[.int .i64 x.n.ins, x.n.sv, x.n.lv, x.n.ov, x.pv, x.qv, x.kv, x.av, x.bv, .int .i64 x.oi, .int .i64 x.ni] 40]) (sx 0 rfl (sx 1 rfl (sx 2 rfl (sx 4 rfl (sx 50 rfl (sx 56 rfl (sx 80 rfl (sx 98 (congrArg some e15.1) (sub_nil _))))))))) (List.sublist_append_right _ _) ?_
          simp only [List.drop_succ_cons, List.drop_zero]
          refine hl_less (sx 0 rfl (sx 1 rfl (sx 2 rfl (sx 4 rfl (sx 50 rfl (sx 56 rfl (sx 80 rfl (sx 98 rfl (sub_nil _))))))))) (.refl _) ?_
          refine hl_nil ?_
          refine hq_then ?_
          refine hc_true rfl ?_
          refine hc_seq ?_
          refine hc_region ?_
          refine hl_v rfl rfl rfl (rv_ev rfl) ?_
          refine hl_less (sx 0 rfl (sx 1 rfl (sx 2 rfl (sx 4 rfl (sx 50 rfl (sx 56 rfl (sx 80 rfl (sx 98 rfl (sub_nil _))))))))) (.refl _) ?_
          refine hl_nil ?_
          refine hq_then ?_
          refine hc_ret ?_
          refine hq_block_ret ?_
          refine hq_then_ret ?_
          refine hq_then_ret ?_
          refine hq_block_ret ?_
          refine hq_then_ret ?_
          exact hq_ans rfl rfl (congrArg _ (pB_no (fun hp => by first | (exact hSao ⟨hp.n, hp.a⟩) | (exact hSbs ⟨hp.n, hp.b⟩) | (exact hK hp.k) | (have h9 := hp.dn; omega) | (have h9 := hp.sn; omega) | (exact absurd (hp.dl i (by omega)) (by assumption)) | (exact absurd (hp.ds k (by omega)) (by assumption)))).symm)
       ·
        refine hl_less (sx 0 rfl (sx 1 rfl (sx 2 rfl (sx 4 rfl (sx 50 rfl (sx 56 rfl (sx 80 rfl (sub_nil _)))))))) (.refl _) ?_
        refine hl_nil ?_
        refine hq_then ?_
        refine hc_false rfl ?_
        refine hc_exit ?_
        refine hq_then_exit ?_
        refine hq_then_exit ?_
        refine hq_block_exit ?_
        refine hq_then ?_
        refine hc_seq ?_
        refine hc_region ?_
        refine hl_v rfl rfl rfl (rv_ev rfl) ?_
        refine hl_less (sx 0 rfl (sx 1 rfl (sx 2 rfl (sx 4 rfl (sx 50 rfl (sx 56 rfl (sx 80 rfl (sub_nil _)))))))) (.refl _) ?_
        refine hl_nil ?_
        refine hq_then ?_
        refine hc_ret ?_
        exact hq_ans rfl rfl (congrArg _ (pB_yes ⟨hSao.ok, hSao.sp, hSbs.sp, hK, by omega, fun q hq => hq1 q (by omega), by omega, fun q hq => hq2 q (by omega)⟩).symm)
     ·
      have hK := of_pBn h6
      refine hl_v rfl rfl rfl (rv_ev rfl) ?_
      refine hl_v rfl rfl rfl (rv_ev rfl) ?_
      refine hl_less (sx 0 rfl (sx 1 rfl (sx 2 rfl (sx 50 rfl (sub_nil _))))) (.refl _) ?_
      refine hl_nil ?_
      refine hq_then ?_
      refine hc_true rfl ?_
      refine hc_seq ?_
      refine hc_region ?_
      refine hl_v rfl rfl rfl (rv_ev rfl) ?_
      refine hl_less (sx 0 rfl (sx 1 rfl (sx 2 rfl (sx 50 rfl (sub_nil _))))) (.refl _) ?_
      refine hl_nil ?_
      refine hq_then ?_
      refine hc_ret ?_
      refine hq_then_ret ?_
      exact hq_ans rfl rfl (congrArg _ (pB_no (fun hp => by first | (exact hSao ⟨hp.n, hp.a⟩) | (exact hSbs ⟨hp.n, hp.b⟩) | (exact hK hp.k) | (have h9 := hp.dn; omega) | (have h9 := hp.sn; omega) | (exact absurd (hp.dl i (by omega)) (by assumption)) | (exact absurd (hp.ds k (by omega)) (by assumption)))).symm)
  ·
   have hSbs := of_pBn h3
   refine hl_v rfl rfl rfl (rv_ev rfl) ?_
   refine hl_v rfl rfl rfl (rv_ev rfl) ?_
   refine hl_v rfl rfl rfl (rv_ev rfl) ?_
   refine hl_skip rfl rfl rfl ?_
   refine hl_skip rfl rfl rfl ?_
   refine hl_skip rfl rfl rfl ?_
   refine hl_skip rfl rfl rfl ?_
   refine hl_skip rfl rfl rfl ?_
   refine hl_skip rfl rfl rfl ?_
   refine hl_skip rfl rfl rfl ?_
   refine hl_skip rfl rfl rfl ?_
   refine hl_skip rfl rfl rfl ?_
   refine hl_v rfl rfl rfl (rv_ev rfl) ?_
   refine hl_v rfl rfl rfl (rv_ev rfl) ?_
   refine hl_skip rfl rfl rfl ?_
   refine hl_skip rfl rfl rfl ?_
   refine hl_skip rfl rfl rfl ?_
   refine hl_skip rfl rfl rfl ?_
   refine hl_skip rfl rfl rfl ?_
   refine hl_skip rfl rfl rfl ?_
   refine hl_skip rfl rfl rfl ?_
   refine hl_skip rfl rfl rfl ?_
   refine hl_skip rfl rfl rfl ?_
   refine hl_v rfl rfl rfl (rv_ev rfl) ?_
   refine hl_v rfl rfl rfl (rv_ev rfl) ?_
   refine hl_skip rfl rfl rfl ?_
   refine hl_skip rfl rfl rfl ?_
   refine hl_skip rfl rfl rfl ?_
   refine hl_skip rfl rfl rfl ?_
   refine hl_skip rfl rfl rfl ?_
   refine hl_skip rfl rfl rfl ?_
   refine hl_skip rfl rfl rfl ?_
   refine hl_skip rfl rfl rfl ?_
   refine hl_v rfl rfl rfl (rv_ev rfl) ?_
   refine hl_less (sx 0 rfl (sx 1 rfl (sx 2 rfl (sx 50 rfl (sub_nil _))))) (.refl _) ?_
   refine hl_nil ?_
   refine hq_then ?_
   refine hc_true rfl ?_
   refine hc_seq ?_
   refine hc_region ?_
   refine hl_v rfl rfl rfl (rv_ev rfl) ?_
   refine hl_less (sx 0 rfl (sx 1 rfl (sx 2 rfl (sx 50 rfl (sub_nil _))))) (.refl _) ?_
   refine hl_nil ?_
   refine hq_then ?_
   refine hc_ret ?_
   refine hq_then_ret ?_
   exact hq_ans rfl rfl (congrArg _ (pB_no (fun hp => by first | (exact hSao ⟨hp.n, hp.a⟩) | (exact hSbs ⟨hp.n, hp.b⟩) | (exact hK hp.k) | (have h9 := hp.dn; omega) | (have h9 := hp.sn; omega) | (exact absurd (hp.dl i (by omega)) (by assumption)) | (exact absurd (hp.ds k (by omega)) (by assumption)))).symm)
 ·
  have hSao := of_pBn h2
  refine hl_v rfl rfl rfl (rv_ev rfl) ?_
  refine hl_v rfl rfl rfl (rv_ev rfl) ?_
  refine hl_skip rfl rfl rfl ?_
  refine hl_skip rfl rfl rfl ?_
  refine hl_skip rfl rfl rfl ?_
  refine hl_skip rfl rfl rfl ?_
  refine hl_skip rfl rfl rfl ?_
  refine hl_skip rfl rfl rfl ?_
  refine hl_v rfl rfl rfl (rv_ev rfl) ?_
  refine hl_v rfl rfl rfl (rv_ev rfl) ?_
  refine hl_skip rfl rfl rfl ?_
  refine hl_skip rfl rfl rfl ?_
  refine hl_skip rfl rfl rfl ?_
  refine hl_skip rfl rfl rfl ?_
  refine hl_skip rfl rfl rfl ?_
  refine hl_skip rfl rfl rfl ?_
  refine hl_skip rfl rfl rfl ?_
  refine hl_skip rfl rfl rfl ?_
  refine hl_skip rfl rfl rfl ?_
  refine hl_v rfl rfl rfl (rv_ev rfl) ?_
  refine hl_v rfl rfl rfl (rv_ev rfl) ?_
  refine hl_skip rfl rfl rfl ?_
  refine hl_skip rfl rfl rfl ?_
  refine hl_skip rfl rfl rfl ?_
  refine hl_skip rfl rfl rfl ?_
  refine hl_skip rfl rfl rfl ?_
  refine hl_skip rfl rfl rfl ?_
  refine hl_skip rfl rfl rfl ?_
  refine hl_skip rfl rfl rfl ?_
  refine hl_skip rfl rfl rfl ?_
  refine hl_v rfl rfl rfl (rv_ev rfl) ?_
  refine hl_v rfl rfl rfl (rv_ev rfl) ?_
  refine hl_skip rfl rfl rfl ?_
  refine hl_skip rfl rfl rfl ?_
  refine hl_skip rfl rfl rfl ?_
  refine hl_skip rfl rfl rfl ?_
  refine hl_skip rfl rfl rfl ?_
  refine hl_skip rfl rfl rfl ?_
  refine hl_skip rfl rfl rfl ?_
  refine hl_skip rfl rfl rfl ?_
  refine hl_v rfl rfl rfl (rv_ev rfl) ?_
  refine hl_less (sx 0 rfl (sx 1 rfl (sx 2 rfl (sx 50 rfl (sub_nil _))))) (.refl _) ?_
  refine hl_nil ?_
  refine hq_then ?_
  refine hc_true rfl ?_
  refine hc_seq ?_
  refine hc_region ?_
  refine hl_v rfl rfl rfl (rv_ev rfl) ?_
  refine hl_less (sx 0 rfl (sx 1 rfl (sx 2 rfl (sx 50 rfl (sub_nil _))))) (.refl _) ?_
  refine hl_nil ?_
  refine hq_then ?_
  refine hc_ret ?_
  refine hq_then_ret ?_
  exact hq_ans rfl rfl (congrArg _ (pB_no (fun hp => by first | (exact hSao ⟨hp.n, hp.a⟩) | (exact hSbs ⟨hp.n, hp.b⟩) | (exact hK hp.k) | (have h9 := hp.dn; omega) | (have h9 := hp.sn; omega) | (exact absurd (hp.dl i (by omega)) (by assumption)) | (exact absurd (hp.ds k (by omega)) (by assumption)))).symm)
/-- how many inputs the sequential elements ahead of k have -/
def nS (x : Td) : Nat → Nat
  | 0 => 0
  | k + 1 => nS x k + (x.n.ss.getD k sq0).xs.length
theorem nS_le {x : Td} (h : LnOk x.n) : ∀ k, k ≤ x.n.ss.length → nS x k ≤ 4 * k
  | 0, _ => Nat.le_refl _
  | k + 1, hk => by have := nS_le h k (by omega); have h4 := (h.sq k (by omega)).1.len; unfold nS; omega
def arcL (x : Td) : Nat → List Arc
  | 0 => []
  | i + 1 => arcL x i ++ (List.range (x.n.ls.getD i lt0).xs.length).map (fun j => ⟨(x.n.ls.getD i lt0).xs.getD j 0, x.n.fst + i, (x.dl.getD i ir0).xs.getD j 0⟩)
def arcI (x : Td) (i j : Nat) : List Arc := arcL x i ++ (List.range j).map (fun j => ⟨(x.n.ls.getD i lt0).xs.getD j 0, x.n.fst + i, (x.dl.getD i ir0).xs.getD j 0⟩)
theorem arcI_zero (x : Td) (i : Nat) : arcI x i 0 = arcL x i := by simp [arcI]
theorem arcI_succ (x : Td) (i j : Nat) : arcI x i (j + 1) = arcI x i j ++ [⟨(x.n.ls.getD i lt0).xs.getD j 0, x.n.fst + i, (x.dl.getD i ir0).xs.getD j 0⟩] := by
  unfold arcI; rw [List.range_succ, List.map_append, List.append_assoc]; rfl
theorem arcL_le {x : Td} (h : LnOk x.n) : ∀ i, i ≤ x.n.ls.length → (arcL x i).length ≤ 4 * i
  | 0, _ => Nat.le_refl _
  | i + 1, hi => by
    have := arcL_le h i (by omega)
    have h4 := (h.lt i (by omega)).1.1
    unfold arcL; rw [List.length_append]; simp only [List.length_map, List.length_range]; omega
theorem arcI_len (x : Td) (i j : Nat) : (arcI x i j).length = (arcL x i).length + j := by simp [arcI]
def arcS (x : Td) : Nat → List Arc
  | 0 => arcL x x.n.ls.length
  | k + 1 => arcS x k ++ (List.range (x.n.ss.getD k sq0).xs.length).map (fun j => ⟨(x.n.ss.getD k sq0).xs.getD j 0, x.n.cnt + nS x k + j, (x.ds.getD k ir0).xs.getD j 0⟩)
def arcT (x : Td) (k j : Nat) : List Arc := arcS x k ++ (List.range j).map (fun j => ⟨(x.n.ss.getD k sq0).xs.getD j 0, x.n.cnt + nS x k + j, (x.ds.getD k ir0).xs.getD j 0⟩)
theorem arcT_zero (x : Td) (k : Nat) : arcT x k 0 = arcS x k := by simp [arcT]
theorem arcT_succ (x : Td) (k j : Nat) : arcT x k (j + 1) = arcT x k j ++ [⟨(x.n.ss.getD k sq0).xs.getD j 0, x.n.cnt + nS x k + j, (x.ds.getD k ir0).xs.getD j 0⟩] := by
  unfold arcT; rw [List.range_succ, List.map_append, List.append_assoc]; rfl
theorem arcT_len (x : Td) (k j : Nat) : (arcT x k j).length = (arcS x k).length + j := by simp [arcT]
theorem arcS_len (x : Td) : ∀ k, (arcS x k).length = (arcL x x.n.ls.length).length + nS x k
  | 0 => rfl
  | k + 1 => by unfold arcS nS; rw [List.length_append, arcS_len x k]; simp; omega
noncomputable def arcR (x : Td) : List Arc := if pB (TdOk x) = true then arcS x x.n.ss.length else []
noncomputable def nodR (x : Td) : Int := if pB (TdOk x) = true then x.n.cnt + nS x x.n.ss.length else 0
theorem nS_same {x y : Td} (h : Same x y) : ∀ k, nS y k = nS x k
  | 0 => rfl
  | k + 1 => by unfold nS; rw [nS_same h k, (h.sq k).2.2]
theorem arcL_same {x y : Td} (h : Same x y) : ∀ i, arcL y i = arcL x i
  | 0 => rfl
  | i + 1 => by unfold arcL; rw [arcL_same h i, (h.lt i).1, h.fst, h.dlk i]
theorem arcS_same {x y : Td} (h : Same x y) : ∀ k, arcS y k = arcS x k
  | 0 => by show arcL y y.n.ls.length = arcL x x.n.ls.length; rw [arcL_same h, map_len h.ls]
  | k + 1 => by unfold arcS; rw [arcS_same h k, (h.sq k).2.2, h.cnt, nS_same h k, h.dsk k]
theorem arcR_same {x y : Td} (h : Same x y) : arcR y = arcR x := by unfold arcR; rw [pB_same h, arcS_same h, map_len h.ss]
theorem nodR_same {x y : Td} (h : Same x y) : nodR y = nodR x := by unfold nodR; rw [pB_same h, nS_same h, h.cnt, map_len h.ss]
/-- what a valid timed net keeps -/
structure Bnd (x : Td) : Prop where
  i : 0 ≤ x.n.ins ∧ x.n.ins ≤ 20
  s : x.n.ss.length ≤ 12
  l : x.n.ls.length ≤ 400
  k : x.ks.length = x.n.ss.length
  a : x.ao.length = x.n.ss.length
  b : x.bs.length = x.n.ss.length
  d : x.dl.length = x.n.ls.length
  e : x.ds.length = x.n.ss.length
theorem TdOk.bnd {x : Td} (h : TdOk x) : Bnd x := ⟨h.n.sz.i, h.n.sz.s, h.n.sz.l, by have := h.k.1; omega, h.a.len, h.b.len, h.dn, h.sn⟩
open Go.RowKit
theorem hq_oneT {N : Nat} {w0 : World} {l : List HP} {env : List (Nat × Value)} {Q : Post} {ex : Exit} {i e s n : Nat} {v : Value} {xs : List Value} (hi : l[i]? = some (rowE e s v n xs)) (k : v.oneCell' = true → HQ N w0 l env ex Q) : HQ N w0 l env ex Q := fun a w st => k (rdsW_own (st.mem.holds _ (mem_at hi))).one a w st
set_option maxHeartbeats 4000000 in
set_option maxRecDepth 100000 in
theorem implTimingOf_ret (x : Td) (w : World) (hr : RdsTd w x) :
  Calls Try.prog 24 #[.agg #[.int .i64 x.n.ins, x.n.sv, x.n.lv, x.n.ov, x.pv, x.qv, x.kv, x.av, x.bv, .int .i64 x.oi, .int .i64 x.ni]] w (Ret w (fun v' post => ∃ u : Value, v' = .tuple #[.agg #[.int .i64 (nodR x), u], .bool (pB (TdOk x))] ∧ post = [rowE 86 3 u (arcR x).length ((arcR x).flatMap arcC)] ∧ u.oneCell' = true)) := by
 have t1 := sml hr.ks
 have t2 := sml hr.ao
 have t3 := sml hr.bs
 have t4 := hr.dl.small
 have t5 := hr.ds.small
 have t6 := hr.n.sq.small
 have t7 := hr.n.lt.small
 have t8 := sml hr.n.ou
 have hcnt : x.n.cnt = 1 + x.n.ins + x.n.ss.length + x.n.ls.length := rfl
 have hfst : x.n.fst = 1 + x.n.ins + x.n.ss.length := rfl
 refine calls_hc (N := 103) (args := [.agg #[.int .i64 x.n.ins, x.n.sv, x.n.lv, x.n.ov, x.pv, x.qv, x.kv, x.av, x.bv, .int .i64 x.oi, .int .i64 x.ni]]) Try.func24 rfl rfl ?_
 refine hc_less _ (sx 0 rfl (sub_nil _)) (.refl _) ?_
 refine hc_seq ?_
 refine hc_region ?_
 refine hl_box rfl rfl rfl (rq_box rfl rfl) ?_
 intro b1
 refine hl_box rfl rfl rfl (rq_alloc (z := .agg #[.int .i64 0, .slice none 0 0]) rfl (by kernel_rfl)) ?_
 intro b2
 refine hl_v rfl rfl rfl (rv_ev rfl) ?_
 refine hl_less (sx 0 rfl (sx 1 rfl (sx 2 rfl (sx 3 rfl (sub_nil _))))) (.refl _) ?_
 refine hl_nil ?_
 refine hq_then ?_
 refine hc_seq ?_
 refine hc_seq ?_
 refine hc_region ?_
 refine hl_v rfl rfl rfl (rv_loadN (cs := [.int .i64 x.n.ins, x.n.sv, x.n.lv, x.n.ov, x.pv, x.qv, x.kv, x.av, x.bv, .int .i64 x.oi, .int .i64 x.ni]) rfl (by kernel_rfl) (by kernel_rfl) rfl rfl (box_part 1 rfl 0 rfl)) ?_
 refine hl_callV rfl rfl rfl (rq_call (by kernel_rfl) rfl (fun w hm => ret_ans (implTimedOk_ans x w (hr.below hm.bel)))) ?_
 refine hl_bool (fun h3 => ?_) (fun h3 => ?_)
 ·
  have hok := of_pB h3
  obtain ⟨ci, cs_, cl, ck, ca, cb, cd, ce⟩ := hok.bnd
  have hi0 := ci.1
  have hi1 := ci.2
  refine hl_v rfl rfl rfl (rv_ev rfl) ?_
  refine hl_less (sx 0 rfl (sx 1 rfl (sx 2 rfl (sx 3 rfl (sx 15 rfl (sub_nil _)))))) (.refl _) ?_
  refine hl_nil ?_
  refine hq_then ?_
  refine hc_false rfl ?_
  refine hc_skip ?_
  refine hq_then ?_
  refine hc_seq ?_
  refine hc_region ?_
  refine hl_v rfl rfl rfl (rv_field (k0 := 0) rfl (by kernel_rfl) rfl) ?_
  refine hl_v rfl rfl rfl (rv_loadN (cs := [.int .i64 x.n.ins, x.n.sv, x.n.lv, x.n.ov]) rfl (by kernel_rfl) (by kernel_rfl) rfl rfl (box_part 1 rfl 0 rfl)) ?_
  refine hl_callV rfl rfl rfl (rq_call (by kernel_rfl) rfl (fun w hm => ret_ans (by have h9 := lutNodes_ans x.n w (hr.n.below hm.bel) hok.n.sz; rw [show x.n.cnt = x.n.cnt + (nS x 0 : Int) from (Int.add_zero _).symm] at h9; exact h9))) ?_
  refine hl_v rfl rfl rfl (rv_build (cs := #[.int .i64 (x.n.cnt + (nS x 0 : Int)), .slice none 0 0]) rfl rfl (by kernel_rfl)) ?_
  refine hl_box rfl rfl rfl (rq_alloc (z := .agg #[.int .i64 0, .slice none 0 0]) rfl (by kernel_rfl)) ?_
  intro b4
  refine hl_storeBoxN (i := 0) (off := 0) (us := [.int .i64 (x.n.cnt + (nS x 0 : Int)), .slice none 0 0])  (l' := [boxE b4 #[.int .i64 (x.n.cnt + (nS x 0 : Int)), .slice none 0 0] 51, boxE b2 #[.int .i64 0, .slice none 0 0] 51, boxE b1 #[.int .i64 x.n.ins, x.n.sv, x.n.lv, x.n.ov, x.pv, x.qv, x.kv, x.av, x.bv, .int .i64 x.oi, .int .i64 x.ni] 40]) rfl rfl rfl (by kernel_rfl) rfl rfl rfl (all_cons rfl (all_cons rfl all_nil)) rfl rfl rfl ?_
  refine hl_less (sx 0 rfl (sx 1 rfl (sx 2 rfl (sx 3 rfl (sx 4 rfl (sx 15 rfl (sub_nil _))))))) (.refl _) ?_
  refine hl_nil ?_
  refine hq_then ?_
  refine hc_seq ?_
  refine hc_seq ?_
  refine hc_region ?_
  refine hl_v rfl rfl rfl (rv_field (k0 := 0) rfl (by kernel_rfl) rfl) ?_
  refine hl_v rfl rfl rfl (rv_field (k0 := 2) rfl (by kernel_rfl) rfl) ?_
  refine hl_v rfl rfl rfl (rv_load rfl (by kernel_rfl) rfl (box_cell 2 rfl rfl)) ?_
  refine hl_v rfl rfl rfl (rv_len rfl Try.underlying35 rfl (rd_old ((hr).n.lt.row))) ?_
  refine hl_v rfl rfl rfl (rv_ev rfl) ?_
  refine hl_less (sx 0 rfl (sx 1 rfl (sx 2 rfl (sx 3 rfl (sx 4 rfl (sx 15 rfl (sx 23 rfl (sx 24 rfl (sx 25 rfl (sub_nil _)))))))))) (.refl _) ?_
  refine hl_nil ?_
  refine hq_then ?_
  refine hc_block ?_
  refine hc_conv [rowE 86 3 (.slice none 0 0) (([] : List Arc).length) (([] : List Arc).flatMap arcC), boxE b4 #[.int .i64 (x.n.cnt + (nS x 0 : Int)), .slice none 0 0] 51, boxE b2 #[.int .i64 0, .slice none 0 0] 51, boxE b1 #[.int .i64 x.n.ins, x.n.sv, x.n.lv, x.n.ov, x.pv, x.qv, x.kv, x.av, x.bv, .int .i64 x.oi, .int .i64 x.ni] 40] (fun w hm => hm.nilRow 86 3) ?_
  refine hc_loop3 (α := Nat) (β := Value) (γ := List Arc) (fun i u zs => [rowE 86 3 u zs.length (zs.flatMap arcC), boxE b4 #[.int .i64 (x.n.cnt + (nS x 0 : Int)), u] 51, boxE b2 #[.int .i64 0, .slice none 0 0] 51, boxE b1 #[.int .i64 x.n.ins, x.n.sv, x.n.lv, x.n.ov, x.pv, x.qv, x.kv, x.av, x.bv, .int .i64 x.oi, .int .i64 x.ni] 40]) (fun i u zs => [(0, .agg #[.int .i64 x.n.ins, x.n.sv, x.n.lv, x.n.ov, x.pv, x.qv, x.kv, x.av, x.bv, .int .i64 x.oi, .int .i64 x.ni]), (1, .pointer (some ⟨b1, 0, none⟩)), (2, .pointer (some ⟨b2, 0, none⟩)), (3, .bool false), (4, .pointer (some ⟨b4, 0, none⟩)), (15, .bool false), (23, x.n.lv), (24, .int .i64 (x.n.ls.length : Int)), (25, .int .i64 (i : Int))]) (fun i u zs => i ≤ x.n.ls.length ∧ zs = arcL x i) (fun i u zs => x.n.ls.length - i) 0 _ [] ⟨Nat.zero_le _, rfl⟩ (sx 0 rfl (sx 1 rfl (sx 2 rfl (sx 3 rfl (sx 4 rfl (sx 15 rfl (sx 23 rfl (sx 24 rfl (sx 25 rfl (sub_nil _)))))))))) ((.cons_cons _ (.cons_cons _ (.cons_cons _ (.cons_cons _ .slnil))))) ?_
  intro i u zs hi5
  obtain ⟨hi, hz⟩ := hi5
  have hzl : zs.length ≤ 4 * i := by rw [hz]; exact arcL_le hok.n i hi
  refine hc_seq ?_
  refine hc_region ?_
  refine hl_lss rfl rfl rfl rfl rfl rfl (fun h6 => ?_) (fun h6 => ?_)
  ·
   refine hl_less (sx 0 rfl (sx 1 rfl (sx 2 rfl (sx 3 rfl (sx 4 rfl (sx 15 rfl (sx 23 rfl (sx 24 rfl (sx 25 rfl (sx 26 rfl (sub_nil _))))))))))) (.refl _) ?_
   refine hl_nil ?_
   refine hq_then ?_
   refine hc_seq ?_
   refine hc_true rfl ?_
   refine hc_skip ?_
   refine hq_then ?_
   refine hc_seq ?_
   refine hc_block ?_
   refine hc_seq ?_
   refine hc_region ?_
   refine hl_v rfl rfl rfl (rv_ev rfl) ?_
   refine hl_v rfl rfl rfl (rv_index (s := 2) rfl Try.underlying35 (by kernel_rfl) rfl rfl (rd_old ((hr).n.lt.row)) (by omega) (by first | omega | (simp only [List.length_set]; omega))) ?_
   refine hl_v rfl rfl rfl (rv_loadElN (us := [(x.n.ls.getD i lt0).iv, .int .i64 ((x.n.ls.getD i lt0).ma)]) rfl (by kernel_rfl) (by kernel_rfl) rfl (rd_old ((hr).n.lt.row)) (by omega) rfl (flat_atN ltC 2 (fun _ => rfl) x.n.ls lt0 (show i < _ by first | omega | (simp only [List.length_set]; omega)) rfl)) ?_
   refine hl_box rfl rfl rfl (rq_alloc (z := .agg #[.slice none 0 0, .int .i64 0]) rfl (by kernel_rfl)) ?_
   intro b7
   refine hl_v rfl rfl rfl (rv_ev rfl) ?_
   refine hl_storeBoxN (i := 0) (off := 0) (us := [(x.n.ls.getD i lt0).iv, .int .i64 ((x.n.ls.getD i lt0).ma)])  (l' := [boxE b7 #[(x.n.ls.getD i lt0).iv, .int .i64 ((x.n.ls.getD i lt0).ma)] 69, rowE 86 3 u zs.length (zs.flatMap arcC), boxE b4 #[.int .i64 (x.n.cnt + (nS x 0 : Int)), u] 51, boxE b2 #[.int .i64 0, .slice none 0 0] 51, boxE b1 #[.int .i64 x.n.ins, x.n.sv, x.n.lv, x.n.ov, x.pv, x.qv, x.kv, x.av, x.bv, .int .i64 x.oi, .int .i64 x.ni] 40]) rfl rfl rfl (by kernel_rfl) rfl rfl rfl (all_cons (hr.n.lt.at (d := lt0) (k := i) (by omega)).one (all_cons rfl all_nil)) rfl rfl rfl ?_
   refine hl_less (sx 0 rfl (sx 1 rfl (sx 2 rfl (sx 3 rfl (sx 4 rfl (sx 5 rfl (sx 6 rfl (sx 15 rfl (sx 23 rfl (sx 24 rfl (sx 25 rfl (sx 26 rfl (sub_nil _))))))))))))) (.refl _) ?_
   refine hl_nil ?_
   refine hq_then ?_
   refine hc_seq ?_
   refine hc_region ?_
   have hx4 : (x.n.ls.getD i lt0).xs.length ≤ 4 := (hok.n.lt i (by omega)).1.1
   have hdi : (x.dl.getD i ir0).xs.length = (x.n.ls.getD i lt0).xs.length := by have := (hok.dl i (by omega)).1; omega
   refine hl_v rfl rfl rfl (rv_field (k0 := 0) rfl (by kernel_rfl) rfl) ?_
   refine hl_v rfl rfl rfl (rv_load rfl (by kernel_rfl) rfl (box_cell 0 rfl rfl)) ?_
   refine hl_v rfl rfl rfl (rv_len rfl Try.underlying24 rfl (rd_old ((hr).n.lt.at (d := lt0) (k := i) (by omega)))) ?_
   refine hl_v rfl rfl rfl (rv_ev rfl) ?_
   refine hl_less (sx 0 rfl (sx 1 rfl (sx 2 rfl (sx 3 rfl (sx 4 rfl (sx 5 rfl (sx 6 rfl (sx 15 rfl (sx 23 rfl (sx 24 rfl (sx 25 rfl (sx 26 rfl (sx 31 rfl (sx 32 rfl (sx 33 rfl (sub_nil _)))))))))))))))) (.refl _) ?_
   refine hl_nil ?_
   refine hq_then ?_
   refine hc_block ?_
   refine hc_loop3 (α := Nat) (β := Value) (γ := List Arc) (fun j u2 ys => [boxE b7 #[(x.n.ls.getD i lt0).iv, .int .i64 ((x.n.ls.getD i lt0).ma)] 69, rowE 86 3 u2 ys.length (ys.flatMap arcC), boxE b4 #[.int .i64 (x.n.cnt + (nS x 0 : Int)), u2] 51, boxE b2 #[.int .i64 0, .slice none 0 0] 51, boxE b1 #[.int .i64 x.n.ins, x.n.sv, x.n.lv, x.n.ov, x.pv, x.qv, x.kv, x.av, x.bv, .int .i64 x.oi, .int .i64 x.ni] 40]) (fun j u2 ys => [(0, .agg #[.int .i64 x.n.ins, x.n.sv, x.n.lv, x.n.ov, x.pv, x.qv, x.kv, x.av, x.bv, .int .i64 x.oi, .int .i64 x.ni]), (1, .pointer (some ⟨b1, 0, none⟩)), (2, .pointer (some ⟨b2, 0, none⟩)), (3, .bool false), (4, .pointer (some ⟨b4, 0, none⟩)), (5, .int .i64 (i : Int)), (6, .pointer (some ⟨b7, 0, none⟩)), (15, .bool false), (23, x.n.lv), (24, .int .i64 (x.n.ls.length : Int)), (25, .int .i64 (i : Int)), (26, .bool true), (31, (x.n.ls.getD i lt0).iv), (32, .int .i64 (((x.n.ls.getD i lt0).xs).length : Int)), (33, .int .i64 (j : Int))]) (fun j u2 ys => j ≤ (x.n.ls.getD i lt0).xs.length ∧ ys = arcI x i j) (fun j u2 ys => (x.n.ls.getD i lt0).xs.length - j) 0 _ zs ⟨Nat.zero_le _, by rw [hz, arcI_zero]⟩ (sx 0 rfl (sx 1 rfl (sx 2 rfl (sx 3 rfl (sx 4 rfl (sx 5 rfl (sx 6 rfl (sx 15 rfl (sx 23 rfl (sx 24 rfl (sx 25 rfl (sx 26 rfl (sx 31 rfl (sx 32 rfl (sx 33 rfl (sub_nil _)))))))))))))))) ((.cons_cons _ (.cons_cons _ (.cons_cons _ (.cons_cons _ (.cons_cons _ .slnil)))))) ?_
   intro j u2 ys hi8
   obtain ⟨hj, hy⟩ := hi8
   have hyl : ys.length ≤ 4 * i + j := by rw [hy, arcI_len, ← hz]; omega
   refine hc_seq ?_
   refine hc_region ?_
   refine hl_lss rfl rfl rfl rfl rfl rfl (fun h9 => ?_) (fun h9 => ?_)
   ·
    refine hl_less (sx 0 rfl (sx 1 rfl (sx 2 rfl (sx 3 rfl (sx 4 rfl (sx 5 rfl (sx 6 rfl (sx 15 rfl (sx 23 rfl (sx 24 rfl (sx 25 rfl (sx 26 rfl (sx 31 rfl (sx 32 rfl (sx 33 rfl (sx 34 rfl (sub_nil _))))))))))))))))) (.refl _) ?_
    refine hl_nil ?_
    refine hq_then ?_
    refine hc_seq ?_
    refine hc_true rfl ?_
    refine hc_skip ?_
    refine hq_then ?_
    refine hc_seq ?_
    refine hc_block ?_
    refine hc_seq ?_
    refine hc_region ?_
    refine hl_v rfl rfl rfl (rv_ev rfl) ?_
    refine hl_v rfl rfl rfl (rv_index (s := 1) rfl Try.underlying24 (by kernel_rfl) rfl rfl (rd_old ((hr).n.lt.at (d := lt0) (k := i) (by omega))) (by omega) (by first | omega | (simp only [List.length_set]; omega))) ?_
    refine hl_v rfl rfl rfl (rv_loadEl (u := .int .i64 (((x.n.ls.getD i lt0).xs).getD j 0)) rfl (by kernel_rfl) rfl (rd_old ((hr).n.lt.at (d := lt0) (k := i) (by omega))) (ints_at1 (show _ < ((x.n.ls.getD i lt0).xs).length by first | omega | (simp only [List.length_set]; omega)))) ?_
    refine hl_v rfl rfl rfl (rv_ev rfl) ?_
    refine hl_v rfl rfl rfl (rv_ev rfl) ?_
    refine hl_less (sx 0 rfl (sx 1 rfl (sx 2 rfl (sx 3 rfl (sx 4 rfl (sx 5 rfl (sx 6 rfl (sx 7 rfl (sx 8 rfl (sx 15 rfl (sx 23 rfl (sx 24 rfl (sx 25 rfl (sx 26 rfl (sx 31 rfl (sx 32 rfl (sx 33 rfl (sx 34 rfl (sub_nil _))))))))))))))))))) (.refl _) ?_
    refine hl_nil ?_
    refine hq_then ?_
    refine hc_draw (by kernel_rfl) 19 [0, 1, 2, 3, 4, 5, 6, 7, 8, 9, 10, 11, 12, 13, 14, 15, 16, 17, 18] (List.take 19 _) (List.drop 19 _) [[], [0], [], [], [3], [4], [], [5, 6], [], [8], [9], [], [10, 11], [12], [], [13, 14], [15], [2, 7, 16], [17]] [38, 39, 40, 41, 42, 43, 44, 45, 46, 47, 48, 49, 50, 51, 52, 53, 54, 55, 56] (fun i_ vs_ v_ p_ => match i_ with | 0 => v_ = .pointer (some ⟨b4, 0 + 1, none⟩) ∧ p_ = [] | 1 => v_ = u2 ∧ p_ = [] | 2 => v_ = .int .i64 (((x.n.ls.getD i lt0).xs).getD j 0) ∧ p_ = [] | 3 => v_ = .pointer (some ⟨b1, 0 + 0, none⟩) ∧ p_ = [] | 4 => v_ = .agg #[.int .i64 x.n.ins, x.n.sv, x.n.lv, x.n.ov] ∧ p_ = [] | 5 => v_ = .int .i64 x.n.fst ∧ p_ = [] | 6 => v_ = .int .i64 (i : Int) ∧ p_ = [] | 7 => v_ = .int .i64 (x.n.fst + (i : Int)) ∧ p_ = [] | 8 => v_ = .pointer (some ⟨b1, 0 + 4, none⟩) ∧ p_ = [] | 9 => v_ = .pointer (some ⟨b1, 0 + 4 + 0, none⟩) ∧ p_ = [] | 10 => v_ = x.pv ∧ p_ = [] | 11 => v_ = .int .i64 (i : Int) ∧ p_ = [] | 12 => v_ = elP x.pv (((i : Int)).toNat * 1) ∧ p_ = [] | 13 => v_ = (x.dl.getD i ir0).v ∧ p_ = [] | 14 => v_ = .int .i64 (j : Int) ∧ p_ = [] | 15 => v_ = elP ((x.dl.getD i ir0).v) (((j : Int)).toNat * 1) ∧ p_ = [] | 16 => v_ = .int .i64 (((x.dl.getD i ir0).xs).getD j 0) ∧ p_ = [] | 17 => v_ = .agg #[.int .i64 (((x.n.ls.getD i lt0).xs).getD j 0), .int .i64 (x.n.fst + (i : Int)), .int .i64 (((x.dl.getD i ir0).xs).getD j 0)] ∧ p_ = [] | 18 => IsRow_o 86 3 1 ([((x.n.ls.getD i lt0).xs).getD j 0, x.n.fst + (i : Int), ((x.dl.getD i ir0).xs).getD j 0].map (Value.int .i64)) v_ p_ | _ => True) (List.take_append_drop 19 _).symm (by kernel_rfl) (by kernel_rfl) rfl rfl ?_ ?_
    ·
     refine ⟨?_, ?_, ?_, ?_, ?_, ?_, ?_, ?_, ?_, ?_, ?_, ?_, ?_, ?_, ?_, ?_, ?_, ?_, ?_, trivial⟩
     ·
      intro vf pf hR
      refine Or.inl ⟨rfl, ?_⟩
      refine rq_less (sx 4 rfl (sub_nil _)) (List.sublist_append_right _ _) ?_
      exact rq_v (rv_field (k0 := 1) rfl (by kernel_rfl) rfl)
     ·
      intro vf pf hR
      have e0 : (vf 0) = .pointer (some ⟨b4, 0 + 1, none⟩) ∧ (pf 0) = [] := hR 0 (by decide)
      refine Or.inl ⟨rfl, ?_⟩
      refine rq_less (sx 38 (congrArg some e0.1) (sub_nil _)) (List.sublist_append_right _ _) ?_
      exact rq_v (rv_load rfl (by kernel_rfl) rfl (box_cell 2 rfl rfl))
     ·
      intro vf pf hR
      refine Or.inl ⟨rfl, ?_⟩
      refine rq_less (sx 8 rfl (sub_nil _)) (List.sublist_append_right _ _) ?_
      exact rq_v (rv_ev rfl)
     ·
      intro vf pf hR
      refine Or.inl ⟨rfl, ?_⟩
      refine rq_less (sx 1 rfl (sub_nil _)) (List.sublist_append_right _ _) ?_
      exact rq_v (rv_field (k0 := 0) rfl (by kernel_rfl) rfl)
     ·
      intro vf pf hR
      have e3 : (vf 3) = .pointer (some ⟨b1, 0 + 0, none⟩) ∧ (pf 3) = [] := hR 3 (by decide)
      refine Or.inl ⟨rfl, ?_⟩
      refine rq_less (sx 41 (congrArg some e3.1) (sub_nil _)) (List.sublist_append_right _ _) ?_
      exact rq_v (rv_loadN (cs := [.int .i64 x.n.ins, x.n.sv, x.n.lv, x.n.ov]) rfl (by kernel_rfl) (by kernel_rfl) rfl rfl (box_part 4 rfl 0 rfl))
     ·
      intro vf pf hR
      have e4 : (vf 4) = .agg #[.int .i64 x.n.ins, x.n.sv, x.n.lv, x.n.ov] ∧ (pf 4) = [] := hR 4 (by decide)
      refine Or.inl ⟨rfl, ?_⟩
      refine rq_less (sx 42 (congrArg some e4.1) (sub_nil _)) (List.sublist_append_right _ _) ?_
      exact (rq_call (by kernel_rfl) rfl (fun w hm => ret_ans (firstLut_ans x.n w (hr.n.below hm.bel) hok.n.sz)))
     ·
      intro vf pf hR
      refine Or.inl ⟨rfl, ?_⟩
      refine rq_less (sx 5 rfl (sub_nil _)) (List.sublist_append_right _ _) ?_
      exact rq_v (rv_ev rfl)
     ·
      intro vf pf hR
      have e5 : (vf 5) = .int .i64 x.n.fst ∧ (pf 5) = [] := hR 5 (by decide)
      have e6 : (vf 6) = .int .i64 (i : Int) ∧ (pf 6) = [] := hR 6 (by decide)
      refine Or.inl ⟨rfl, ?_⟩
      refine rq_less (sx 43 (congrArg some e5.1) (sx 44 (congrArg some e6.1) (sub_nil _))) (List.sublist_append_right _ _) ?_
      exact rq_v (rv_add rfl rfl rfl (by constructor <;> omega))
     ·
      intro vf pf hR
      refine Or.inl ⟨rfl, ?_⟩
      refine rq_less (sx 1 rfl (sub_nil _)) (List.sublist_append_right _ _) ?_
      exact rq_v (rv_field (k0 := 4) rfl (by kernel_rfl) rfl)
     ·
      intro vf pf hR
      have e8 : (vf 8) = .pointer (some ⟨b1, 0 + 4, none⟩) ∧ (pf 8) = [] := hR 8 (by decide)
      refine Or.inl ⟨rfl, ?_⟩
      refine rq_less (sx 46 (congrArg some e8.1) (sub_nil _)) (List.sublist_append_right _ _) ?_
      exact rq_v (rv_field (k0 := 0) rfl (by kernel_rfl) rfl)
     ·
      intro vf pf hR
      have e9 : (vf 9) = .pointer (some ⟨b1, 0 + 4 + 0, none⟩) ∧ (pf 9) = [] := hR 9 (by decide)
      refine Or.inl ⟨rfl, ?_⟩
      refine rq_less (sx 47 (congrArg some e9.1) (sub_nil _)) (List.sublist_append_right _ _) ?_
      exact rq_v (rv_load rfl (by kernel_rfl) rfl (box_cell 4 rfl rfl))
     ·
      intro vf pf hR
      refine Or.inl ⟨rfl, ?_⟩
      refine rq_less (sx 5 rfl (sub_nil _)) (List.sublist_append_right _ _) ?_
      exact rq_v (rv_ev rfl)
     ·
      intro vf pf hR
      have e10 : (vf 10) = x.pv ∧ (pf 10) = [] := hR 10 (by decide)
      have e11 : (vf 11) = .int .i64 (i : Int) ∧ (pf 11) = [] := hR 11 (by decide)
      refine Or.inl ⟨rfl, ?_⟩
      refine rq_less (sx 48 (congrArg some e10.1) (sx 49 (congrArg some e11.1) (sub_nil _))) (List.sublist_append_right _ _) ?_
      exact rq_v (rv_index (s := 1) rfl Try.underlying27 (by kernel_rfl) rfl rfl (rd_old ((hr).dl.row)) (by omega) (by first | omega | (simp only [List.length_set]; omega)))
     ·
      intro vf pf hR
      have e12 : (vf 12) = elP x.pv (((i : Int)).toNat * 1) ∧ (pf 12) = [] := hR 12 (by decide)
      refine Or.inl ⟨rfl, ?_⟩
      refine rq_less (sx 50 (congrArg some e12.1) (sub_nil _)) (List.sublist_append_right _ _) ?_
      exact rq_v (rv_loadEl (u := (x.dl.getD i ir0).v) rfl (by kernel_rfl) rfl (rd_old ((hr).dl.row)) (flat_one irC (fun r => r.v) (fun _ => rfl) x.dl ir0 (show i < _ by first | omega | (simp only [List.length_set]; omega))))
     ·
      intro vf pf hR
      refine Or.inl ⟨rfl, ?_⟩
      refine rq_less (sx 7 rfl (sub_nil _)) (List.sublist_append_right _ _) ?_
      exact rq_v (rv_ev rfl)
     ·
      intro vf pf hR
      have e13 : (vf 13) = (x.dl.getD i ir0).v ∧ (pf 13) = [] := hR 13 (by decide)
      have e14 : (vf 14) = .int .i64 (j : Int) ∧ (pf 14) = [] := hR 14 (by decide)
      refine Or.inl ⟨rfl, ?_⟩
      refine rq_less (sx 51 (congrArg some e13.1) (sx 52 (congrArg some e14.1) (sub_nil _))) (List.sublist_append_right _ _) ?_
      exact rq_v (rv_index (s := 1) rfl Try.underlying24 (by kernel_rfl) rfl rfl (rd_old ((hr).dl.at (d := ir0) (k := i) (by omega))) (by omega) (by first | omega | (simp only [List.length_set]; omega)))
     ·
      intro vf pf hR
      have e15 : (vf 15) = elP ((x.dl.getD i ir0).v) (((j : Int)).toNat * 1) ∧ (pf 15) = [] := hR 15 (by decide)
      refine Or.inl ⟨rfl, ?_⟩
      refine rq_less (sx 53 (congrArg some e15.1) (sub_nil _)) (List.sublist_append_right _ _) ?_
      exact rq_v (rv_loadEl (u := .int .i64 (((x.dl.getD i ir0).xs).getD j 0)) rfl (by kernel_rfl) rfl (rd_old ((hr).dl.at (d := ir0) (k := i) (by omega))) (ints_at1 (show _ < ((x.dl.getD i ir0).xs).length by first | omega | (simp only [List.length_set]; omega))))
     ·
      intro vf pf hR
      have e2 : (vf 2) = .int .i64 (((x.n.ls.getD i lt0).xs).getD j 0) ∧ (pf 2) = [] := hR 2 (by decide)
      have e7 : (vf 7) = .int .i64 (x.n.fst + (i : Int)) ∧ (pf 7) = [] := hR 7 (by decide)
      have e16 : (vf 16) = .int .i64 (((x.dl.getD i ir0).xs).getD j 0) ∧ (pf 16) = [] := hR 16 (by decide)
      refine Or.inl ⟨rfl, ?_⟩
      refine rq_less (sx 40 (congrArg some e2.1) (sx 45 (congrArg some e7.1) (sx 54 (congrArg some e16.1) (sub_nil _)))) (List.sublist_append_right _ _) ?_
      exact rq_v (rv_build (cs := #[.int .i64 (((x.n.ls.getD i lt0).xs).getD j 0), .int .i64 (x.n.fst + (i : Int)), .int .i64 (((x.dl.getD i ir0).xs).getD j 0)]) rfl rfl (by kernel_rfl))
     ·
      intro vf pf hR
      have e17 : (vf 17) = .agg #[.int .i64 (((x.n.ls.getD i lt0).xs).getD j 0), .int .i64 (x.n.fst + (i : Int)), .int .i64 (((x.dl.getD i ir0).xs).getD j 0)] ∧ (pf 17) = [] := hR 17 (by decide)
      refine Or.inl ⟨rfl, ?_⟩
      refine rq_less (sx 55 (congrArg some e17.1) (sub_nil _)) (List.sublist_append_right _ _) ?_
      exact rq_buildSlice (z := .agg #[.int .i64 0, .int .i64 0, .int .i64 0]) (s := 3) (cs := ([((x.n.ls.getD i lt0).xs).getD j 0, x.n.fst + (i : Int), ((x.dl.getD i ir0).xs).getD j 0].map (Value.int .i64))) rfl Try.underlying49 (by kernel_rfl) (by decide) rfl (by kernel_rfl) rfl
    ·
     intro vf pf hR
     have e1 : (vf 1) = u2 ∧ (pf 1) = [] := hR 1 (by decide)
     have e18 : IsRow_o 86 3 1 ([((x.n.ls.getD i lt0).xs).getD j 0, x.n.fst + (i : Int), ((x.dl.getD i ir0).xs).getD j 0].map (Value.int .i64)) (vf 18) (pf 18) := hR 18 (by decide)
     obtain ⟨g10, v18, p18⟩ := e18
     have q0 : (vf 0) = .pointer (some ⟨b4, 0 + 1, none⟩) ∧ (pf 0) = [] := hR 0 (by decide)
     have q1 : (vf 1) = u2 ∧ (pf 1) = [] := hR 1 (by decide)
     have q2 : (vf 2) = .int .i64 (((x.n.ls.getD i lt0).xs).getD j 0) ∧ (pf 2) = [] := hR 2 (by decide)
     have q3 : (vf 3) = .pointer (some ⟨b1, 0 + 0, none⟩) ∧ (pf 3) = [] := hR 3 (by decide)
     have q4 : (vf 4) = .agg #[.int .i64 x.n.ins, x.n.sv, x.n.lv, x.n.ov] ∧ (pf 4) = [] := hR 4 (by decide)
     have q5 : (vf 5) = .int .i64 x.n.fst ∧ (pf 5) = [] := hR 5 (by decide)
     have q6 : (vf 6) = .int .i64 (i : Int) ∧ (pf 6) = [] := hR 6 (by decide)
     have q7 : (vf 7) = .int .i64 (x.n.fst + (i : Int)) ∧ (pf 7) = [] := hR 7 (by decide)
     have q8 : (vf 8) = .pointer (some ⟨b1, 0 + 4, none⟩) ∧ (pf 8) = [] := hR 8 (by decide)
     have q9 : (vf 9) = .pointer (some ⟨b1, 0 + 4 + 0, none⟩) ∧ (pf 9) = [] := hR 9 (by decide)
     have q10 : (vf 10) = x.pv ∧ (pf 10) = [] := hR 10 (by decide)
     have q11 : (vf 11) = .int .i64 (i : Int) ∧ (pf 11) = [] := hR 11 (by decide)
     have q12 : (vf 12) = elP x.pv (((i : Int)).toNat * 1) ∧ (pf 12) = [] := hR 12 (by decide)
     have q13 : (vf 13) = (x.dl.getD i ir0).v ∧ (pf 13) = [] := hR 13 (by decide)
     have q14 : (vf 14) = .int .i64 (j : Int) ∧ (pf 14) = [] := hR 14 (by decide)
     have q15 : (vf 15) = elP ((x.dl.getD i ir0).v) (((j : Int)).toNat * 1) ∧ (pf 15) = [] := hR 15 (by decide)
     have q16 : (vf 16) = .int .i64 (((x.dl.getD i ir0).xs).getD j 0) ∧ (pf 16) = [] := hR 16 (by decide)
     have q17 : (vf 17) = .agg #[.int .i64 (((x.n.ls.getD i lt0).xs).getD j 0), .int .i64 (x.n.fst + (i : Int)), .int .i64 (((x.dl.getD i ir0).xs).getD j 0)] ∧ (pf 17) = [] := hR 17 (by decide)
     refine hl_less (l' := [rowE 86 3 (.slice (some ⟨g10, 0, none⟩) 1 1) 1 ([((x.n.ls.getD i lt0).xs).getD j 0, x.n.fst + (i : Int), ((x.dl.getD i ir0).xs).getD j 0].map (Value.int .i64)), boxE b7 #[(x.n.ls.getD i lt0).iv, .int .i64 ((x.n.ls.getD i lt0).ma)] 69, rowE 86 3 u2 ys.length (ys.flatMap arcC), boxE b4 #[.int .i64 (x.n.cnt + (nS x 0 : Int)), u2] 51, boxE b2 #[.int .i64 0, .slice none 0 0] 51, boxE b1 #[.int .i64 x.n.ins, x.n.sv, x.n.lv, x.n.ov, x.pv, x.qv, x.kv, x.av, x.bv, .int .i64 x.oi, .int .i64 x.ni] 40]) (sx 0 rfl (sx 1 rfl (sx 2 rfl (sx 3 rfl (sx 4 rfl (sx 5 rfl (sx 6 rfl (sx 7 rfl (sx 8 rfl (sx 15 rfl (sx 23 rfl (sx 24 rfl (sx 25 rfl (sx 26 rfl (sx 31 rfl (sx 32 rfl (sx 33 rfl (sx 34 rfl (sx 39 (congrArg some e1.1) (sx 56 (congrArg some v18) (sub_nil _))))))))))))))))))))) (by first | (simp only [p18, v18, q0.2, q1.2, q2.2, q3.2, q4.2, q5.2, q6.2, q7.2, q8.2, q9.2, q10.2, q11.2, q12.2, q13.2, q14.2, q15.2, q16.2, q17.2, List.flatMap_cons, List.flatMap_nil, List.append_nil, List.nil_append, List.cons_append]; exact List.Sublist.refl _) | simp [p18, v18, q0.2, q1.2, q2.2, q3.2, q4.2, q5.2, q6.2, q7.2, q8.2, q9.2, q10.2, q11.2, q12.2, q13.2, q14.2, q15.2, q16.2, q17.2]) ?_
     simp only [List.drop_succ_cons, List.drop_zero]
     refine hl_append (i := 2) (z := .agg #[.int .i64 0, .int .i64 0, .int .i64 0]) (bytes := 24) (n' := (ys ++ [Arc.mk ((x.n.ls.getD i lt0).xs.getD j 0) (x.n.fst + (i : Int)) ((x.dl.getD i ir0).xs.getD j 0)]).length) (xs' := ((ys ++ [Arc.mk ((x.n.ls.getD i lt0).xs.getD j 0) (x.n.fst + (i : Int)) ((x.dl.getD i ir0).xs.getD j 0)]).flatMap arcC)) (L := fun v11 => [rowE 86 3 (.slice (some ⟨g10, 0, none⟩) 1 1) 1 ([((x.n.ls.getD i lt0).xs).getD j 0, x.n.fst + (i : Int), ((x.dl.getD i ir0).xs).getD j 0].map (Value.int .i64)), boxE b7 #[(x.n.ls.getD i lt0).iv, .int .i64 ((x.n.ls.getD i lt0).ma)] 69, rowE 86 3 v11 ((ys ++ [Arc.mk ((x.n.ls.getD i lt0).xs.getD j 0) (x.n.fst + (i : Int)) ((x.dl.getD i ir0).xs.getD j 0)]).length) ((ys ++ [Arc.mk ((x.n.ls.getD i lt0).xs.getD j 0) (x.n.fst + (i : Int)) ((x.dl.getD i ir0).xs.getD j 0)]).flatMap arcC), boxE b4 #[.int .i64 (x.n.cnt + (nS x 0 : Int)), u2] 51, boxE b2 #[.int .i64 0, .slice none 0 0] 51, boxE b1 #[.int .i64 x.n.ins, x.n.sv, x.n.lv, x.n.ov, x.pv, x.qv, x.kv, x.av, x.bv, .int .i64 x.oi, .int .i64 x.ni] 40]) rfl rfl rfl rfl Try.underlying49 (by kernel_rfl) (by kernel_rfl) rfl rfl rfl (rd_row 0 rfl) (ints_one _) (by first | omega | (simp only [List.length_append, List.length_cons, List.length_nil]; omega)) (len_app ys [Arc.mk ((x.n.ls.getD i lt0).xs.getD j 0) (x.n.fst + (i : Int)) ((x.dl.getD i ir0).xs.getD j 0)]) (flat_app1 arcC ys (Arc.mk ((x.n.ls.getD i lt0).xs.getD j 0) (x.n.fst + (i : Int)) ((x.dl.getD i ir0).xs.getD j 0)) _ rfl) (fun _ => rfl) ?_
     intro v11
     refine hl_v rfl rfl rfl (rv_field (k0 := 1) rfl (by kernel_rfl) rfl) ?_
     refine hl_one (i := 2) rfl (fun ho12 => ?_)
     refine hl_storeBox (i := 3) (l' := [rowE 86 3 (.slice (some ⟨g10, 0, none⟩) 1 1) 1 ([((x.n.ls.getD i lt0).xs).getD j 0, x.n.fst + (i : Int), ((x.dl.getD i ir0).xs).getD j 0].map (Value.int .i64)), boxE b7 #[(x.n.ls.getD i lt0).iv, .int .i64 ((x.n.ls.getD i lt0).ma)] 69, rowE 86 3 v11 ((ys ++ [Arc.mk ((x.n.ls.getD i lt0).xs.getD j 0) (x.n.fst + (i : Int)) ((x.dl.getD i ir0).xs.getD j 0)]).length) ((ys ++ [Arc.mk ((x.n.ls.getD i lt0).xs.getD j 0) (x.n.fst + (i : Int)) ((x.dl.getD i ir0).xs.getD j 0)]).flatMap arcC), boxE b4 #[.int .i64 (x.n.cnt + (nS x 0 : Int)), v11] 51, boxE b2 #[.int .i64 0, .slice none 0 0] 51, boxE b1 #[.int .i64 x.n.ins, x.n.sv, x.n.lv, x.n.ov, x.pv, x.qv, x.kv, x.av, x.bv, .int .i64 x.oi, .int .i64 x.ni] 40]) rfl rfl rfl (by kernel_rfl) rfl rfl ho12 rfl rfl rfl ?_
     refine hl_less (sx 0 rfl (sx 1 rfl (sx 2 rfl (sx 3 rfl (sx 4 rfl (sx 5 rfl (sx 6 rfl (sx 7 rfl (sx 8 rfl (sx 15 rfl (sx 23 rfl (sx 24 rfl (sx 25 rfl (sx 26 rfl (sx 31 rfl (sx 32 rfl (sx 33 rfl (sx 34 rfl (sub_nil _))))))))))))))))))) (.refl _) ?_
     refine hl_nil ?_
     refine hq_block_normal ?_
     refine hq_then ?_
     refine hc_region ?_
     refine hl_v rfl rfl rfl (rv_add rfl rfl rfl (by constructor <;> omega)) ?_
     refine hl_v rfl rfl rfl (rv_ev rfl) ?_
     refine hl_less (sx 0 rfl (sx 1 rfl (sx 2 rfl (sx 3 rfl (sx 4 rfl (sx 5 rfl (sx 6 rfl (sx 7 rfl (sx 8 rfl (sx 15 rfl (sx 23 rfl (sx 24 rfl (sx 25 rfl (sx 26 rfl (sx 31 rfl (sx 32 rfl (sx 33 rfl (sx 34 rfl (sub_nil _))))))))))))))))))) (.refl _) ?_
     refine hl_nil ?_
     exact hq_round3 (j + 1) v11 (ys ++ [Arc.mk ((x.n.ls.getD i lt0).xs.getD j 0) (x.n.fst + (i : Int)) ((x.dl.getD i ir0).xs.getD j 0)]) ⟨by omega, by rw [arcI_succ, hy]⟩ (by omega) (sx 0 rfl (sx 1 rfl (sx 2 rfl (sx 3 rfl (sx 4 rfl (sx 5 rfl (sx 6 rfl (sx 15 rfl (sx 23 rfl (sx 24 rfl (sx 25 rfl (sx 26 rfl (sx 31 rfl (sx 32 rfl (sx 33 rfl (sub_nil _)))))))))))))))) ((.cons _ (.cons_cons _ (.cons_cons _ (.cons_cons _ (.cons_cons _ (.cons_cons _ .slnil)))))))
   ·
    refine hl_less (sx 0 rfl (sx 1 rfl (sx 2 rfl (sx 3 rfl (sx 4 rfl (sx 5 rfl (sx 6 rfl (sx 15 rfl (sx 23 rfl (sx 24 rfl (sx 25 rfl (sx 26 rfl (sx 31 rfl (sx 32 rfl (sx 33 rfl (sx 34 rfl (sub_nil _))))))))))))))))) (.refl _) ?_
    refine hl_nil ?_
    refine hq_then ?_
    refine hc_seq ?_
    refine hc_false rfl ?_
    refine hc_exit ?_
    refine hq_then_exit ?_
    refine hq_then_exit ?_
    refine hq_block_exit ?_
    refine hq_block_normal ?_
    refine hq_then ?_
    refine hc_region ?_
    refine hl_v rfl rfl rfl (rv_add rfl rfl rfl (by constructor <;> omega)) ?_
    refine hl_v rfl rfl rfl (rv_ev rfl) ?_
    refine hl_less (sx 0 rfl (sx 1 rfl (sx 2 rfl (sx 3 rfl (sx 4 rfl (sx 5 rfl (sx 6 rfl (sx 15 rfl (sx 23 rfl (sx 24 rfl (sx 25 rfl (sx 26 rfl (sx 31 rfl (sx 32 rfl (sx 33 rfl (sx 34 rfl (sub_nil _))))))))))))))))) (.refl _) ?_
    refine hl_nil ?_
    exact hq_round3 (i + 1) u2 ys ⟨by omega, by rw [hy, show j = (x.n.ls.getD i lt0).xs.length by omega]; rfl⟩ (by omega) (sx 0 rfl (sx 1 rfl (sx 2 rfl (sx 3 rfl (sx 4 rfl (sx 15 rfl (sx 23 rfl (sx 24 rfl (sx 25 rfl (sub_nil _)))))))))) ((.cons _ (.cons_cons _ (.cons_cons _ (.cons_cons _ (.cons_cons _ .slnil))))))
  ·
   refine hl_less (sx 0 rfl (sx 1 rfl (sx 2 rfl (sx 3 rfl (sx 4 rfl (sx 15 rfl (sx 23 rfl (sx 24 rfl (sx 25 rfl (sx 26 rfl (sub_nil _))))))))))) (.refl _) ?_
   refine hl_nil ?_
   refine hq_then ?_
   refine hc_seq ?_
   refine hc_false rfl ?_
   refine hc_exit ?_
   refine hq_then_exit ?_
   refine hq_then_exit ?_
   refine hq_block_exit ?_
   refine hq_then ?_
   refine hc_seq ?_
   refine hc_seq ?_
   refine hc_region ?_
   refine hl_v rfl rfl rfl (rv_field (k0 := 0) rfl (by kernel_rfl) rfl) ?_
   refine hl_v rfl rfl rfl (rv_field (k0 := 1) rfl (by kernel_rfl) rfl) ?_
   refine hl_v rfl rfl rfl (rv_load rfl (by kernel_rfl) rfl (box_cell 3 rfl rfl)) ?_
   refine hl_v rfl rfl rfl (rv_len rfl Try.underlying34 rfl (rd_old ((hr).n.sq.row))) ?_
   refine hl_v rfl rfl rfl (rv_ev rfl) ?_
   refine hl_less (sx 0 rfl (sx 1 rfl (sx 2 rfl (sx 3 rfl (sx 4 rfl (sx 15 rfl (sx 23 rfl (sx 24 rfl (sx 25 rfl (sx 26 rfl (sx 63 rfl (sx 64 rfl (sx 65 rfl (sub_nil _)))))))))))))) (.refl _) ?_
   refine hl_nil ?_
   refine hq_then ?_
   refine hc_block ?_
   refine hc_loop3 (α := Nat) (β := Value) (γ := List Arc) (fun k u3 vs => [rowE 86 3 u3 vs.length (vs.flatMap arcC), boxE b4 #[.int .i64 (x.n.cnt + (nS x k : Int)), u3] 51, boxE b2 #[.int .i64 0, .slice none 0 0] 51, boxE b1 #[.int .i64 x.n.ins, x.n.sv, x.n.lv, x.n.ov, x.pv, x.qv, x.kv, x.av, x.bv, .int .i64 x.oi, .int .i64 x.ni] 40]) (fun k u3 vs => [(0, .agg #[.int .i64 x.n.ins, x.n.sv, x.n.lv, x.n.ov, x.pv, x.qv, x.kv, x.av, x.bv, .int .i64 x.oi, .int .i64 x.ni]), (1, .pointer (some ⟨b1, 0, none⟩)), (2, .pointer (some ⟨b2, 0, none⟩)), (3, .bool false), (4, .pointer (some ⟨b4, 0, none⟩)), (15, .bool false), (23, x.n.lv), (24, .int .i64 (x.n.ls.length : Int)), (26, .bool false), (63, x.n.sv), (64, .int .i64 (x.n.ss.length : Int)), (65, .int .i64 (k : Int))]) (fun k u3 vs => k ≤ x.n.ss.length ∧ vs = arcS x k) (fun k u3 vs => x.n.ss.length - k) 0 _ zs ⟨Nat.zero_le _, by rw [hz, show i = x.n.ls.length by omega]; rfl⟩ (sx 0 rfl (sx 1 rfl (sx 2 rfl (sx 3 rfl (sx 4 rfl (sx 15 rfl (sx 23 rfl (sx 24 rfl (sx 26 rfl (sx 63 rfl (sx 64 rfl (sx 65 rfl (sub_nil _))))))))))))) ((.cons_cons _ (.cons_cons _ (.cons_cons _ (.cons_cons _ .slnil))))) ?_
   intro k u3 vs hi13
   obtain ⟨hk, hv⟩ := hi13
   have hvl : vs.length ≤ 1600 + nS x k := by rw [hv, arcS_len]; have := arcL_le hok.n x.n.ls.length (Nat.le_refl _); omega
   have hnk := nS_le hok.n k (by omega)
   refine hc_seq ?_
   refine hc_region ?_
   refine hl_lss rfl rfl rfl rfl rfl rfl (fun h14 => ?_) (fun h14 => ?_)
   ·
    refine hl_less (sx 0 rfl (sx 1 rfl (sx 2 rfl (sx 3 rfl (sx 4 rfl (sx 15 rfl (sx 23 rfl (sx 24 rfl (sx 26 rfl (sx 63 rfl (sx 64 rfl (sx 65 rfl (sx 66 rfl (sub_nil _)))))))))))))) (.refl _) ?_
    refine hl_nil ?_
    refine hq_then ?_
    refine hc_seq ?_
    refine hc_true rfl ?_
    refine hc_skip ?_
    refine hq_then ?_
    refine hc_seq ?_
    refine hc_block ?_
    refine hc_seq ?_
    refine hc_region ?_
    refine hl_v rfl rfl rfl (rv_ev rfl) ?_
    refine hl_v rfl rfl rfl (rv_index (s := 3) rfl Try.underlying34 (by kernel_rfl) rfl rfl (rd_old ((hr).n.sq.row)) (by omega) (by first | omega | (simp only [List.length_set]; omega))) ?_
    refine hl_v rfl rfl rfl (rv_loadElN (us := [.int .i64 ((x.n.ss.getD k sq0).kd), .int .i64 ((x.n.ss.getD k sq0).it), (x.n.ss.getD k sq0).iv]) rfl (by kernel_rfl) (by kernel_rfl) rfl (rd_old ((hr).n.sq.row)) (by omega) rfl (flat_atN sqC 3 (fun _ => rfl) x.n.ss sq0 (show k < _ by first | omega | (simp only [List.length_set]; omega)) rfl)) ?_
    refine hl_box rfl rfl rfl (rq_alloc (z := .agg #[.int .i64 0, .int .i64 0, .slice none 0 0]) rfl (by kernel_rfl)) ?_
    intro b15
    refine hl_v rfl rfl rfl (rv_ev rfl) ?_
    refine hl_storeBoxN (i := 0) (off := 0) (us := [.int .i64 ((x.n.ss.getD k sq0).kd), .int .i64 ((x.n.ss.getD k sq0).it), (x.n.ss.getD k sq0).iv])  (l' := [boxE b15 #[.int .i64 ((x.n.ss.getD k sq0).kd), .int .i64 ((x.n.ss.getD k sq0).it), (x.n.ss.getD k sq0).iv] 71, rowE 86 3 u3 vs.length (vs.flatMap arcC), boxE b4 #[.int .i64 (x.n.cnt + (nS x k : Int)), u3] 51, boxE b2 #[.int .i64 0, .slice none 0 0] 51, boxE b1 #[.int .i64 x.n.ins, x.n.sv, x.n.lv, x.n.ov, x.pv, x.qv, x.kv, x.av, x.bv, .int .i64 x.oi, .int .i64 x.ni] 40]) rfl rfl rfl (by kernel_rfl) rfl rfl rfl (all_cons rfl (all_cons rfl (all_cons (hr.n.sq.at (d := sq0) (k := k) (by omega)).one all_nil))) rfl rfl rfl ?_
    refine hl_less (sx 0 rfl (sx 1 rfl (sx 2 rfl (sx 3 rfl (sx 4 rfl (sx 9 rfl (sx 10 rfl (sx 15 rfl (sx 23 rfl (sx 24 rfl (sx 26 rfl (sx 63 rfl (sx 64 rfl (sx 65 rfl (sx 66 rfl (sub_nil _)))))))))))))))) (.refl _) ?_
    refine hl_nil ?_
    refine hq_then ?_
    refine hc_seq ?_
    refine hc_region ?_
    have hx5 := (hok.n.sq k (by omega)).1.len
    have hdk : (x.ds.getD k ir0).xs.length = (x.n.ss.getD k sq0).xs.length := by have := (hok.ds k (by omega)).1; omega
    refine hl_v rfl rfl rfl (rv_field (k0 := 2) rfl (by kernel_rfl) rfl) ?_
    refine hl_v rfl rfl rfl (rv_load rfl (by kernel_rfl) rfl (box_cell 0 rfl rfl)) ?_
    refine hl_v rfl rfl rfl (rv_len rfl Try.underlying24 rfl (rd_old ((hr).n.sq.at (d := sq0) (k := k) (by omega)))) ?_
    refine hl_v rfl rfl rfl (rv_ev rfl) ?_
    refine hl_less (sx 0 rfl (sx 1 rfl (sx 2 rfl (sx 3 rfl (sx 4 rfl (sx 9 rfl (sx 10 rfl (sx 15 rfl (sx 23 rfl (sx 24 rfl (sx 26 rfl (sx 63 rfl (sx 64 rfl (sx 65 rfl (sx 66 rfl (sx 71 rfl (sx 72 rfl (sx 73 rfl (sub_nil _))))))))))))))))))) (.refl _) ?_
    refine hl_nil ?_
    refine hq_then ?_
    refine hc_block ?_
    refine hc_loop3 (α := Nat) (β := Value) (γ := List Arc) (fun q u4 ws => [boxE b15 #[.int .i64 ((x.n.ss.getD k sq0).kd), .int .i64 ((x.n.ss.getD k sq0).it), (x.n.ss.getD k sq0).iv] 71, rowE 86 3 u4 ws.length (ws.flatMap arcC), boxE b4 #[.int .i64 (x.n.cnt + ((nS x k + q : Nat) : Int)), u4] 51, boxE b2 #[.int .i64 0, .slice none 0 0] 51, boxE b1 #[.int .i64 x.n.ins, x.n.sv, x.n.lv, x.n.ov, x.pv, x.qv, x.kv, x.av, x.bv, .int .i64 x.oi, .int .i64 x.ni] 40]) (fun q u4 ws => [(0, .agg #[.int .i64 x.n.ins, x.n.sv, x.n.lv, x.n.ov, x.pv, x.qv, x.kv, x.av, x.bv, .int .i64 x.oi, .int .i64 x.ni]), (1, .pointer (some ⟨b1, 0, none⟩)), (2, .pointer (some ⟨b2, 0, none⟩)), (3, .bool false), (4, .pointer (some ⟨b4, 0, none⟩)), (9, .int .i64 (k : Int)), (10, .pointer (some ⟨b15, 0, none⟩)), (15, .bool false), (23, x.n.lv), (24, .int .i64 (x.n.ls.length : Int)), (26, .bool false), (63, x.n.sv), (64, .int .i64 (x.n.ss.length : Int)), (65, .int .i64 (k : Int)), (66, .bool true), (71, (x.n.ss.getD k sq0).iv), (72, .int .i64 (((x.n.ss.getD k sq0).xs).length : Int)), (73, .int .i64 (q : Int))]) (fun q u4 ws => q ≤ (x.n.ss.getD k sq0).xs.length ∧ ws = arcT x k q) (fun q u4 ws => (x.n.ss.getD k sq0).xs.length - q) 0 _ vs ⟨Nat.zero_le _, by rw [hv, arcT_zero]⟩ (sx 0 rfl (sx 1 rfl (sx 2 rfl (sx 3 rfl (sx 4 rfl (sx 9 rfl (sx 10 rfl (sx 15 rfl (sx 23 rfl (sx 24 rfl (sx 26 rfl (sx 63 rfl (sx 64 rfl (sx 65 rfl (sx 66 rfl (sx 71 rfl (sx 72 rfl (sx 73 rfl (sub_nil _))))))))))))))))))) ((.cons_cons _ (.cons_cons _ (.cons_cons _ (.cons_cons _ (.cons_cons _ .slnil)))))) ?_
    intro q u4 ws hi16
    obtain ⟨hq, hw⟩ := hi16
    have hwl : ws.length ≤ 1600 + nS x k + q := by rw [hw, arcT_len, ← hv]; omega
    refine hc_seq ?_
    refine hc_region ?_
    refine hl_lss rfl rfl rfl rfl rfl rfl (fun h17 => ?_) (fun h17 => ?_)
    ·
     refine hl_less (sx 0 rfl (sx 1 rfl (sx 2 rfl (sx 3 rfl (sx 4 rfl (sx 9 rfl (sx 10 rfl (sx 15 rfl (sx 23 rfl (sx 24 rfl (sx 26 rfl (sx 63 rfl (sx 64 rfl (sx 65 rfl (sx 66 rfl (sx 71 rfl (sx 72 rfl (sx 73 rfl (sx 74 rfl (sub_nil _)))))))))))))))))))) (.refl _) ?_
     refine hl_nil ?_
     refine hq_then ?_
     refine hc_seq ?_
     refine hc_true rfl ?_
     refine hc_skip ?_
     refine hq_then ?_
     refine hc_seq ?_
     refine hc_block ?_
     refine hc_seq ?_
     refine hc_region ?_
     refine hl_v rfl rfl rfl (rv_ev rfl) ?_
     refine hl_v rfl rfl rfl (rv_index (s := 1) rfl Try.underlying24 (by kernel_rfl) rfl rfl (rd_old ((hr).n.sq.at (d := sq0) (k := k) (by omega))) (by omega) (by first | omega | (simp only [List.length_set]; omega))) ?_
     refine hl_v rfl rfl rfl (rv_loadEl (u := .int .i64 (((x.n.ss.getD k sq0).xs).getD q 0)) rfl (by kernel_rfl) rfl (rd_old ((hr).n.sq.at (d := sq0) (k := k) (by omega))) (ints_at1 (show _ < ((x.n.ss.getD k sq0).xs).length by first | omega | (simp only [List.length_set]; omega)))) ?_
     refine hl_v rfl rfl rfl (rv_ev rfl) ?_
     refine hl_v rfl rfl rfl (rv_ev rfl) ?_
     refine hl_less (sx 0 rfl (sx 1 rfl (sx 2 rfl (sx 3 rfl (sx 4 rfl (sx 9 rfl (sx 10 rfl (sx 11 rfl (sx 12 rfl (sx 15 rfl (sx 23 rfl (sx 24 rfl (sx 26 rfl (sx 63 rfl (sx 64 rfl (sx 65 rfl (sx 66 rfl (sx 71 rfl (sx 72 rfl (sx 73 rfl (sx 74 rfl (sub_nil _)))))))))))))))))))))) (.refl _) ?_
     refine hl_nil ?_
     refine hq_then ?_
     refine hc_seq ?_
     refine hc_draw (by kernel_rfl) 16 [0, 1, 2, 3, 4, 5, 6, 7, 8, 9, 10, 11, 12, 13, 14, 15] (List.take 16 _) (List.drop 16 _) [[], [0], [], [], [3], [], [5], [6], [], [7, 8], [9], [], [10, 11], [12], [2, 4, 13], [14]] [78, 79, 80, 81, 82, 83, 84, 85, 86, 87, 88, 89, 90, 91, 92, 93] (fun i_ vs_ v_ p_ => match i_ with | 0 => v_ = .pointer (some ⟨b4, 0 + 1, none⟩) ∧ p_ = [] | 1 => v_ = u4 ∧ p_ = [] | 2 => v_ = .int .i64 (((x.n.ss.getD k sq0).xs).getD q 0) ∧ p_ = [] | 3 => v_ = .pointer (some ⟨b4, 0 + 0, none⟩) ∧ p_ = [] | 4 => v_ = .int .i64 (x.n.cnt + ((nS x k + q : Nat) : Int)) ∧ p_ = [] | 5 => v_ = .pointer (some ⟨b1, 0 + 4, none⟩) ∧ p_ = [] | 6 => v_ = .pointer (some ⟨b1, 0 + 4 + 1, none⟩) ∧ p_ = [] | 7 => v_ = x.qv ∧ p_ = [] | 8 => v_ = .int .i64 (k : Int) ∧ p_ = [] | 9 => v_ = elP x.qv (((k : Int)).toNat * 1) ∧ p_ = [] | 10 => v_ = (x.ds.getD k ir0).v ∧ p_ = [] | 11 => v_ = .int .i64 (q : Int) ∧ p_ = [] | 12 => v_ = elP ((x.ds.getD k ir0).v) (((q : Int)).toNat * 1) ∧ p_ = [] | 13 => v_ = .int .i64 (((x.ds.getD k ir0).xs).getD q 0) ∧ p_ = [] | 14 => v_ = .agg #[.int .i64 (((x.n.ss.getD k sq0).xs).getD q 0), .int .i64 (x.n.cnt + ((nS x k + q : Nat) : Int)), .int .i64 (((x.ds.getD k ir0).xs).getD q 0)] ∧ p_ = [] | 15 => IsRow_o 86 3 1 ([((x.n.ss.getD k sq0).xs).getD q 0, x.n.cnt + ((nS x k + q : Nat) : Int), ((x.ds.getD k ir0).xs).getD q 0].map (Value.int .i64)) v_ p_ | _ => True) (List.take_append_drop 16 _).symm (by kernel_rfl) (by kernel_rfl) rfl rfl ?_ ?_
     ·
      refine ⟨?_, ?_, ?_, ?_, ?_, ?_, ?_, ?_, ?_, ?_, ?_, ?_, ?_, ?_, ?_, ?_, trivial⟩
      ·
       intro vf pf hR
       refine Or.inl ⟨rfl, ?_⟩
       refine rq_less (sx 4 rfl (sub_nil _)) (List.sublist_append_right _ _) ?_
       exact rq_v (rv_field (k0 := 1) rfl (by kernel_rfl) rfl)
      ·
       intro vf pf hR
       have e0 : (vf 0) = .pointer (some ⟨b4, 0 + 1, none⟩) ∧ (pf 0) = [] := hR 0 (by decide)
       refine Or.inl ⟨rfl, ?_⟩
       refine rq_less (sx 78 (congrArg some e0.1) (sub_nil _)) (List.sublist_append_right _ _) ?_
       exact rq_v (rv_load rfl (by kernel_rfl) rfl (box_cell 2 rfl rfl))
      ·
       intro vf pf hR
       refine Or.inl ⟨rfl, ?_⟩
       refine rq_less (sx 12 rfl (sub_nil _)) (List.sublist_append_right _ _) ?_
       exact rq_v (rv_ev rfl)
      ·
       intro vf pf hR
       refine Or.inl ⟨rfl, ?_⟩
       refine rq_less (sx 4 rfl (sub_nil _)) (List.sublist_append_right _ _) ?_
       exact rq_v (rv_field (k0 := 0) rfl (by kernel_rfl) rfl)
      ·
       intro vf pf hR
       have e3 : (vf 3) = .pointer (some ⟨b4, 0 + 0, none⟩) ∧ (pf 3) = [] := hR 3 (by decide)
       refine Or.inl ⟨rfl, ?_⟩
       refine rq_less (sx 81 (congrArg some e3.1) (sub_nil _)) (List.sublist_append_right _ _) ?_
       exact rq_v (rv_load rfl (by kernel_rfl) rfl (box_cell 2 rfl rfl))
      ·
       intro vf pf hR
       refine Or.inl ⟨rfl, ?_⟩
       refine rq_less (sx 1 rfl (sub_nil _)) (List.sublist_append_right _ _) ?_
       exact rq_v (rv_field (k0 := 4) rfl (by kernel_rfl) rfl)
      ·
       intro vf pf hR
       have e5 : (vf 5) = .pointer (some ⟨b1, 0 + 4, none⟩) ∧ (pf 5) = [] := hR 5 (by decide)
       refine Or.inl ⟨rfl, ?_⟩
       refine rq_less (sx 83 (congrArg some e5.1) (sub_nil _)) (List.sublist_append_right _ _) ?_
       exact rq_v (rv_field (k0 := 1) rfl (by kernel_rfl) rfl)
      ·
       intro vf pf hR
       have e6 : (vf 6) = .pointer (some ⟨b1, 0 + 4 + 1, none⟩) ∧ (pf 6) = [] := hR 6 (by decide)
       refine Or.inl ⟨rfl, ?_⟩
       refine rq_less (sx 84 (congrArg some e6.1) (sub_nil _)) (List.sublist_append_right _ _) ?_
       exact rq_v (rv_load rfl (by kernel_rfl) rfl (box_cell 4 rfl rfl))
      ·
       intro vf pf hR
       refine Or.inl ⟨rfl, ?_⟩
       refine rq_less (sx 9 rfl (sub_nil _)) (List.sublist_append_right _ _) ?_
       exact rq_v (rv_ev rfl)
      ·
       intro vf pf hR
       have e7 : (vf 7) = x.qv ∧ (pf 7) = [] := hR 7 (by decide)
       have e8 : (vf 8) = .int .i64 (k : Int) ∧ (pf 8) = [] := hR 8 (by decide)
       refine Or.inl ⟨rfl, ?_⟩
       refine rq_less (sx 85 (congrArg some e7.1) (sx 86 (congrArg some e8.1) (sub_nil _))) (List.sublist_append_right _ _) ?_
       exact rq_v (rv_index (s := 1) rfl Try.underlying27 (by kernel_rfl) rfl rfl (rd_old ((hr).ds.row)) (by omega) (by first | omega | (simp only [List.length_set]; omega)))
      ·
       intro vf pf hR
       have e9 : (vf 9) = elP x.qv (((k : Int)).toNat * 1) ∧ (pf 9) = [] := hR 9 (by decide)
       refine Or.inl ⟨rfl, ?_⟩
       refine rq_less (sx 87 (congrArg some e9.1) (sub_nil _)) (List.sublist_append_right _ _) ?_
       exact rq_v (rv_loadEl (u := (x.ds.getD k ir0).v) rfl (by kernel_rfl) rfl (rd_old ((hr).ds.row)) (flat_one irC (fun r => r.v) (fun _ => rfl) x.ds ir0 (show k < _ by first | omega | (simp only [List.length_set]; omega))))
      ·
       intro vf pf hR
       refine Or.inl ⟨rfl, ?_⟩
       refine rq_less (sx 11 rfl (sub_nil _)) (List.sublist_append_right _ _) ?_
       exact rq_v (rv_ev rfl)
      ·
       intro vf pf hR
       have e10 : (vf 10) = (x.ds.getD k ir0).v ∧ (pf 10) = [] := hR 10 (by decide)
       have e11 : (vf 11) = .int .i64 (q : Int) ∧ (pf 11) = [] := hR 11 (by decide)
       refine Or.inl ⟨rfl, ?_⟩
       refine rq_less (sx 88 (congrArg some e10.1) (sx 89 (congrArg some e11.1) (sub_nil _))) (List.sublist_append_right _ _) ?_
       exact rq_v (rv_index (s := 1) rfl Try.underlying24 (by kernel_rfl) rfl rfl (rd_old ((hr).ds.at (d := ir0) (k := k) (by omega))) (by omega) (by first | omega | (simp only [List.length_set]; omega)))
      ·
       intro vf pf hR
       have e12 : (vf 12) = elP ((x.ds.getD k ir0).v) (((q : Int)).toNat * 1) ∧ (pf 12) = [] := hR 12 (by decide)
       refine Or.inl ⟨rfl, ?_⟩
       refine rq_less (sx 90 (congrArg some e12.1) (sub_nil _)) (List.sublist_append_right _ _) ?_
       exact rq_v (rv_loadEl (u := .int .i64 (((x.ds.getD k ir0).xs).getD q 0)) rfl (by kernel_rfl) rfl (rd_old ((hr).ds.at (d := ir0) (k := k) (by omega))) (ints_at1 (show _ < ((x.ds.getD k ir0).xs).length by first | omega | (simp only [List.length_set]; omega))))
      ·
       intro vf pf hR
       have e2 : (vf 2) = .int .i64 (((x.n.ss.getD k sq0).xs).getD q 0) ∧ (pf 2) = [] := hR 2 (by decide)
       have e4 : (vf 4) = .int .i64 (x.n.cnt + ((nS x k + q : Nat) : Int)) ∧ (pf 4) = [] := hR 4 (by decide)
       have e13 : (vf 13) = .int .i64 (((x.ds.getD k ir0).xs).getD q 0) ∧ (pf 13) = [] := hR 13 (by decide)
       refine Or.inl ⟨rfl, ?_⟩
       refine rq_less (sx 80 (congrArg some e2.1) (sx 82 (congrArg some e4.1) (sx 91 (congrArg some e13.1) (sub_nil _)))) (List.sublist_append_right _ _) ?_
       exact rq_v (rv_build (cs := #[.int .i64 (((x.n.ss.getD k sq0).xs).getD q 0), .int .i64 (x.n.cnt + ((nS x k + q : Nat) : Int)), .int .i64 (((x.ds.getD k ir0).xs).getD q 0)]) rfl rfl (by kernel_rfl))
      ·
       intro vf pf hR
       have e14 : (vf 14) = .agg #[.int .i64 (((x.n.ss.getD k sq0).xs).getD q 0), .int .i64 (x.n.cnt + ((nS x k + q : Nat) : Int)), .int .i64 (((x.ds.getD k ir0).xs).getD q 0)] ∧ (pf 14) = [] := hR 14 (by decide)
       refine Or.inl ⟨rfl, ?_⟩
       refine rq_less (sx 92 (congrArg some e14.1) (sub_nil _)) (List.sublist_append_right _ _) ?_
       exact rq_buildSlice (z := .agg #[.int .i64 0, .int .i64 0, .int .i64 0]) (s := 3) (cs := ([((x.n.ss.getD k sq0).xs).getD q 0, x.n.cnt + ((nS x k + q : Nat) : Int), ((x.ds.getD k ir0).xs).getD q 0].map (Value.int .i64))) rfl Try.underlying49 (by kernel_rfl) (by decide) rfl (by kernel_rfl) rfl
     ·
      intro vf pf hR
      have e1 : (vf 1) = u4 ∧ (pf 1) = [] := hR 1 (by decide)
      have e15 : IsRow_o 86 3 1 ([((x.n.ss.getD k sq0).xs).getD q 0, x.n.cnt + ((nS x k + q : Nat) : Int), ((x.ds.getD k ir0).xs).getD q 0].map (Value.int .i64)) (vf 15) (pf 15) := hR 15 (by decide)
      obtain ⟨g18, v15, p15⟩ := e15
      have q0 : (vf 0) = .pointer (some ⟨b4, 0 + 1, none⟩) ∧ (pf 0) = [] := hR 0 (by decide)
      have q1 : (vf 1) = u4 ∧ (pf 1) = [] := hR 1 (by decide)
      have q2 : (vf 2) = .int .i64 (((x.n.ss.getD k sq0).xs).getD q 0) ∧ (pf 2) = [] := hR 2 (by decide)
      have q3 : (vf 3) = .pointer (some ⟨b4, 0 + 0, none⟩) ∧ (pf 3) = [] := hR 3 (by decide)
      have q4 : (vf 4) = .int .i64 (x.n.cnt + ((nS x k + q : Nat) : Int)) ∧ (pf 4) = [] := hR 4 (by decide)
      have q5 : (vf 5) = .pointer (some ⟨b1, 0 + 4, none⟩) ∧ (pf 5) = [] := hR 5 (by decide)
      have q6 : (vf 6) = .pointer (some ⟨b1, 0 + 4 + 1, none⟩) ∧ (pf 6) = [] := hR 6 (by decide)
      have q7 : (vf 7) = x.qv ∧ (pf 7) = [] := hR 7 (by decide)
      have q8 : (vf 8) = .int .i64 (k : Int) ∧ (pf 8) = [] := hR 8 (by decide)
      have q9 : (vf 9) = elP x.qv (((k : Int)).toNat * 1) ∧ (pf 9) = [] := hR 9 (by decide)
      have q10 : (vf 10) = (x.ds.getD k ir0).v ∧ (pf 10) = [] := hR 10 (by decide)
      have q11 : (vf 11) = .int .i64 (q : Int) ∧ (pf 11) = [] := hR 11 (by decide)
      have q12 : (vf 12) = elP ((x.ds.getD k ir0).v) (((q : Int)).toNat * 1) ∧ (pf 12) = [] := hR 12 (by decide)
      have q13 : (vf 13) = .int .i64 (((x.ds.getD k ir0).xs).getD q 0) ∧ (pf 13) = [] := hR 13 (by decide)
      have q14 : (vf 14) = .agg #[.int .i64 (((x.n.ss.getD k sq0).xs).getD q 0), .int .i64 (x.n.cnt + ((nS x k + q : Nat) : Int)), .int .i64 (((x.ds.getD k ir0).xs).getD q 0)] ∧ (pf 14) = [] := hR 14 (by decide)
      refine hl_less (l' := [rowE 86 3 (.slice (some ⟨g18, 0, none⟩) 1 1) 1 ([((x.n.ss.getD k sq0).xs).getD q 0, x.n.cnt + ((nS x k + q : Nat) : Int), ((x.ds.getD k ir0).xs).getD q 0].map (Value.int .i64)), boxE b15 #[.int .i64 ((x.n.ss.getD k sq0).kd), .int .i64 ((x.n.ss.getD k sq0).it), (x.n.ss.getD k sq0).iv] 71, rowE 86 3 u4 ws.length (ws.flatMap arcC), boxE b4 #[.int .i64 (x.n.cnt + ((nS x k + q : Nat) : Int)), u4] 51, boxE b2 #[.int .i64 0, .slice none 0 0] 51, boxE b1 #[.int .i64 x.n.ins, x.n.sv, x.n.lv, x.n.ov, x.pv, x.qv, x.kv, x.av, x.bv, .int .i64 x.oi, .int .i64 x.ni] 40]) (sx 0 rfl (sx 1 rfl (sx 2 rfl (sx 3 rfl (sx 4 rfl (sx 9 rfl (sx 10 rfl (sx 11 rfl (sx 12 rfl (sx 15 rfl (sx 23 rfl (sx 24 rfl (sx 26 rfl (sx 63 rfl (sx 64 rfl (sx 65 rfl (sx 66 rfl (sx 71 rfl (sx 72 rfl (sx 73 rfl (sx 74 rfl (sx 79 (congrArg some e1.1) (sx 93 (congrArg some v15) (sub_nil _)))))))))))))))))))))))) (by first | (simp only [p15, v15, q0.2, q1.2, q2.2, q3.2, q4.2, q5.2, q6.2, q7.2, q8.2, q9.2, q10.2, q11.2, q12.2, q13.2, q14.2, List.flatMap_cons, List.flatMap_nil, List.append_nil, List.nil_append, List.cons_append]; exact List.Sublist.refl _) | simp [p15, v15, q0.2, q1.2, q2.2, q3.2, q4.2, q5.2, q6.2, q7.2, q8.2, q9.2, q10.2, q11.2, q12.2, q13.2, q14.2]) ?_
      simp only [List.drop_succ_cons, List.drop_zero]
      refine hl_append (i := 2) (z := .agg #[.int .i64 0, .int .i64 0, .int .i64 0]) (bytes := 24) (n' := (ws ++ [Arc.mk ((x.n.ss.getD k sq0).xs.getD q 0) (x.n.cnt + ((nS x k + q : Nat) : Int)) ((x.ds.getD k ir0).xs.getD q 0)]).length) (xs' := ((ws ++ [Arc.mk ((x.n.ss.getD k sq0).xs.getD q 0) (x.n.cnt + ((nS x k + q : Nat) : Int)) ((x.ds.getD k ir0).xs.getD q 0)]).flatMap arcC)) (L := fun v19 => [rowE 86 3 (.slice (some ⟨g18, 0, none⟩) 1 1) 1 ([((x.n.ss.getD k sq0).xs).getD q 0, x.n.cnt + ((nS x k + q : Nat) : Int), ((x.ds.getD k ir0).xs).getD q 0].map (Value.int .i64)), boxE b15 #[.int .i64 ((x.n.ss.getD k sq0).kd), .int .i64 ((x.n.ss.getD k sq0).it), (x.n.ss.getD k sq0).iv] 71, rowE 86 3 v19 ((ws ++ [Arc.mk ((x.n.ss.getD k sq0).xs.getD q 0) (x.n.cnt + ((nS x k + q : Nat) : Int)) ((x.ds.getD k ir0).xs.getD q 0)]).length) ((ws ++ [Arc.mk ((x.n.ss.getD k sq0).xs.getD q 0) (x.n.cnt + ((nS x k + q : Nat) : Int)) ((x.ds.getD k ir0).xs.getD q 0)]).flatMap arcC), boxE b4 #[.int .i64 (x.n.cnt + ((nS x k + q : Nat) : Int)), u4] 51, boxE b2 #[.int .i64 0, .slice none 0 0] 51, boxE b1 #[.int .i64 x.n.ins, x.n.sv, x.n.lv, x.n.ov, x.pv, x.qv, x.kv, x.av, x.bv, .int .i64 x.oi, .int .i64 x.ni] 40]) rfl rfl rfl rfl Try.underlying49 (by kernel_rfl) (by kernel_rfl) rfl rfl rfl (rd_row 0 rfl) (ints_one _) (by first | omega | (simp only [List.length_append, List.length_cons, List.length_nil]; omega)) (len_app ws [Arc.mk ((x.n.ss.getD k sq0).xs.getD q 0) (x.n.cnt + ((nS x k + q : Nat) : Int)) ((x.ds.getD k ir0).xs.getD q 0)]) (flat_app1 arcC ws (Arc.mk ((x.n.ss.getD k sq0).xs.getD q 0) (x.n.cnt + ((nS x k + q : Nat) : Int)) ((x.ds.getD k ir0).xs.getD q 0)) _ rfl) (fun _ => rfl) ?_
      intro v19
      refine hl_v rfl rfl rfl (rv_field (k0 := 1) rfl (by kernel_rfl) rfl) ?_
      refine hl_one (i := 2) rfl (fun ho20 => ?_)
      refine hl_storeBox (i := 3) (l' := [rowE 86 3 (.slice (some ⟨g18, 0, none⟩) 1 1) 1 ([((x.n.ss.getD k sq0).xs).getD q 0, x.n.cnt + ((nS x k + q : Nat) : Int), ((x.ds.getD k ir0).xs).getD q 0].map (Value.int .i64)), boxE b15 #[.int .i64 ((x.n.ss.getD k sq0).kd), .int .i64 ((x.n.ss.getD k sq0).it), (x.n.ss.getD k sq0).iv] 71, rowE 86 3 v19 ((ws ++ [Arc.mk ((x.n.ss.getD k sq0).xs.getD q 0) (x.n.cnt + ((nS x k + q : Nat) : Int)) ((x.ds.getD k ir0).xs.getD q 0)]).length) ((ws ++ [Arc.mk ((x.n.ss.getD k sq0).xs.getD q 0) (x.n.cnt + ((nS x k + q : Nat) : Int)) ((x.ds.getD k ir0).xs.getD q 0)]).flatMap arcC), boxE b4 #[.int .i64 (x.n.cnt + ((nS x k + q : Nat) : Int)), v19] 51, boxE b2 #[.int .i64 0, .slice none 0 0] 51, boxE b1 #[.int .i64 x.n.ins, x.n.sv, x.n.lv, x.n.ov, x.pv, x.qv, x.kv, x.av, x.bv, .int .i64 x.oi, .int .i64 x.ni] 40]) rfl rfl rfl (by kernel_rfl) rfl rfl ho20 rfl rfl rfl ?_
      refine hl_less (sx 0 rfl (sx 1 rfl (sx 2 rfl (sx 3 rfl (sx 4 rfl (sx 9 rfl (sx 10 rfl (sx 11 rfl (sx 12 rfl (sx 15 rfl (sx 23 rfl (sx 24 rfl (sx 26 rfl (sx 63 rfl (sx 64 rfl (sx 65 rfl (sx 66 rfl (sx 71 rfl (sx 72 rfl (sx 73 rfl (sx 74 rfl (sub_nil _)))))))))))))))))))))) (.refl _) ?_
      refine hl_nil ?_
      refine hq_then ?_
      refine hc_region ?_
      refine hl_v rfl rfl rfl (rv_field (k0 := 0) rfl (by kernel_rfl) rfl) ?_
      refine hl_v rfl rfl rfl (rv_load rfl (by kernel_rfl) rfl (box_cell 3 rfl rfl)) ?_
      refine hl_v rfl rfl rfl (rv_add rfl rfl rfl (by constructor <;> omega)) ?_
      refine hl_v rfl rfl rfl (rv_field (k0 := 0) rfl (by kernel_rfl) rfl) ?_
      refine hl_storeBox (i := 3) (l' := [rowE 86 3 (.slice (some ⟨g18, 0, none⟩) 1 1) 1 ([((x.n.ss.getD k sq0).xs).getD q 0, x.n.cnt + ((nS x k + q : Nat) : Int), ((x.ds.getD k ir0).xs).getD q 0].map (Value.int .i64)), boxE b15 #[.int .i64 ((x.n.ss.getD k sq0).kd), .int .i64 ((x.n.ss.getD k sq0).it), (x.n.ss.getD k sq0).iv] 71, rowE 86 3 v19 ((ws ++ [Arc.mk ((x.n.ss.getD k sq0).xs.getD q 0) (x.n.cnt + ((nS x k + q : Nat) : Int)) ((x.ds.getD k ir0).xs.getD q 0)]).length) ((ws ++ [Arc.mk ((x.n.ss.getD k sq0).xs.getD q 0) (x.n.cnt + ((nS x k + q : Nat) : Int)) ((x.ds.getD k ir0).xs.getD q 0)]).flatMap arcC), boxE b4 #[.int .i64 ((x.n.cnt + ((nS x k + q : Nat) : Int)) + 1), v19] 51, boxE b2 #[.int .i64 0, .slice none 0 0] 51, boxE b1 #[.int .i64 x.n.ins, x.n.sv, x.n.lv, x.n.ov, x.pv, x.qv, x.kv, x.av, x.bv, .int .i64 x.oi, .int .i64 x.ni] 40]) rfl rfl rfl (by kernel_rfl) rfl rfl rfl rfl rfl rfl ?_
      refine hl_less (sx 0 rfl (sx 1 rfl (sx 2 rfl (sx 3 rfl (sx 4 rfl (sx 9 rfl (sx 10 rfl (sx 11 rfl (sx 12 rfl (sx 15 rfl (sx 23 rfl (sx 24 rfl (sx 26 rfl (sx 63 rfl (sx 64 rfl (sx 65 rfl (sx 66 rfl (sx 71 rfl (sx 72 rfl (sx 73 rfl (sx 74 rfl (sub_nil _)))))))))))))))))))))) (.refl _) ?_
      refine hl_nil ?_
      refine hq_block_normal ?_
      refine hq_then ?_
      refine hc_region ?_
      refine hl_v rfl rfl rfl (rv_add rfl rfl rfl (by constructor <;> omega)) ?_
      refine hl_v rfl rfl rfl (rv_ev rfl) ?_
      refine hl_less (sx 0 rfl (sx 1 rfl (sx 2 rfl (sx 3 rfl (sx 4 rfl (sx 9 rfl (sx 10 rfl (sx 11 rfl (sx 12 rfl (sx 15 rfl (sx 23 rfl (sx 24 rfl (sx 26 rfl (sx 63 rfl (sx 64 rfl (sx 65 rfl (sx 66 rfl (sx 71 rfl (sx 72 rfl (sx 73 rfl (sx 74 rfl (sub_nil _)))))))))))))))))))))) (.refl _) ?_
      refine hl_nil ?_
      rw [show (x.n.cnt + ((nS x k + q : Nat) : Int)) + 1 = x.n.cnt + ((nS x k + (q + 1) : Nat) : Int) by omega]
      exact hq_round3 (q + 1) v19 (ws ++ [Arc.mk ((x.n.ss.getD k sq0).xs.getD q 0) (x.n.cnt + ((nS x k + q : Nat) : Int)) ((x.ds.getD k ir0).xs.getD q 0)]) ⟨by omega, by rw [arcT_succ, hw]; congr 2; (try simp only [Arc.mk.injEq, and_true, true_and]); (try omega)⟩ (by omega) (sx 0 rfl (sx 1 rfl (sx 2 rfl (sx 3 rfl (sx 4 rfl (sx 9 rfl (sx 10 rfl (sx 15 rfl (sx 23 rfl (sx 24 rfl (sx 26 rfl (sx 63 rfl (sx 64 rfl (sx 65 rfl (sx 66 rfl (sx 71 rfl (sx 72 rfl (sx 73 rfl (sub_nil _))))))))))))))))))) ((.cons _ (.cons_cons _ (.cons_cons _ (.cons_cons _ (.cons_cons _ (.cons_cons _ .slnil)))))))
    ·
     refine hl_less (sx 0 rfl (sx 1 rfl (sx 2 rfl (sx 3 rfl (sx 4 rfl (sx 9 rfl (sx 10 rfl (sx 15 rfl (sx 23 rfl (sx 24 rfl (sx 26 rfl (sx 63 rfl (sx 64 rfl (sx 65 rfl (sx 66 rfl (sx 71 rfl (sx 72 rfl (sx 73 rfl (sx 74 rfl (sub_nil _)))))))))))))))))))) (.refl _) ?_
     refine hl_nil ?_
     refine hq_then ?_
     refine hc_seq ?_
     refine hc_false rfl ?_
     refine hc_exit ?_
     refine hq_then_exit ?_
     refine hq_then_exit ?_
     refine hq_block_exit ?_
     refine hq_block_normal ?_
     refine hq_then ?_
     refine hc_region ?_
     refine hl_v rfl rfl rfl (rv_add rfl rfl rfl (by constructor <;> omega)) ?_
     refine hl_v rfl rfl rfl (rv_ev rfl) ?_
     refine hl_less (sx 0 rfl (sx 1 rfl (sx 2 rfl (sx 3 rfl (sx 4 rfl (sx 9 rfl (sx 10 rfl (sx 15 rfl (sx 23 rfl (sx 24 rfl (sx 26 rfl (sx 63 rfl (sx 64 rfl (sx 65 rfl (sx 66 rfl (sx 71 rfl (sx 72 rfl (sx 73 rfl (sx 74 rfl (sub_nil _)))))))))))))))))))) (.refl _) ?_
     refine hl_nil ?_
     have hqe : nS x k + q = nS x (k + 1) := by show _ = nS x k + (x.n.ss.getD k sq0).xs.length; omega
     rw [hqe]
     exact hq_round3 (k + 1) u4 ws ⟨by omega, by rw [hw, show q = (x.n.ss.getD k sq0).xs.length by omega]; rfl⟩ (by omega) (sx 0 rfl (sx 1 rfl (sx 2 rfl (sx 3 rfl (sx 4 rfl (sx 15 rfl (sx 23 rfl (sx 24 rfl (sx 26 rfl (sx 63 rfl (sx 64 rfl (sx 65 rfl (sub_nil _))))))))))))) ((.cons _ (.cons_cons _ (.cons_cons _ (.cons_cons _ (.cons_cons _ .slnil))))))
   ·
    refine hl_less (sx 0 rfl (sx 1 rfl (sx 2 rfl (sx 3 rfl (sx 4 rfl (sx 15 rfl (sx 23 rfl (sx 24 rfl (sx 26 rfl (sx 63 rfl (sx 64 rfl (sx 65 rfl (sx 66 rfl (sub_nil _)))))))))))))) (.refl _) ?_
    refine hl_nil ?_
    refine hq_then ?_
    refine hc_seq ?_
    refine hc_false rfl ?_
    refine hc_exit ?_
    refine hq_then_exit ?_
    refine hq_then_exit ?_
    refine hq_block_exit ?_
    refine hq_then ?_
    refine hc_seq ?_
    refine hc_region ?_
    refine hl_v rfl rfl rfl (rv_loadN (cs := [.int .i64 (x.n.cnt + (nS x k : Int)), u3]) rfl (by kernel_rfl) (by kernel_rfl) rfl rfl (box_part 1 rfl 0 rfl)) ?_
    refine hl_one (i := 0) rfl (fun ho21 => ?_)
    refine hl_storeBoxN (i := 2) (off := 0) (us := [.int .i64 (x.n.cnt + (nS x k : Int)), u3])  (l' := [rowE 86 3 u3 vs.length (vs.flatMap arcC), boxE b4 #[.int .i64 (x.n.cnt + (nS x k : Int)), u3] 51, boxE b2 #[.int .i64 (x.n.cnt + (nS x k : Int)), u3] 51, boxE b1 #[.int .i64 x.n.ins, x.n.sv, x.n.lv, x.n.ov, x.pv, x.qv, x.kv, x.av, x.bv, .int .i64 x.oi, .int .i64 x.ni] 40]) rfl rfl rfl (by kernel_rfl) rfl rfl rfl (all_cons rfl (all_cons ho21 all_nil)) rfl rfl rfl ?_
    refine hl_v rfl rfl rfl (rv_ev rfl) ?_
    refine hl_less (sx 0 rfl (sx 1 rfl (sx 2 rfl (sx 3 rfl (sx 4 rfl (sx 15 rfl (sx 23 rfl (sx 24 rfl (sx 26 rfl (sx 63 rfl (sx 64 rfl (sx 65 rfl (sx 66 rfl (sub_nil _)))))))))))))) (.refl _) ?_
    refine hl_nil ?_
    refine hq_then ?_
    refine hc_ret ?_
    have hke : k = x.n.ss.length := by omega
    have hR1 : vs = arcR x := by unfold arcR; rw [if_pos (pB_yes hok), hv, hke]
    have hR2 : x.n.cnt + (nS x k : Int) = nodR x := by unfold nodR; rw [if_pos (pB_yes hok), hke]
    refine hq_oneT (i := 0) rfl (fun hoA => ?_)
    exact hq_retM (rs := [.cell 2 51, .tmp 3]) (vs := [.agg #[.int .i64 (x.n.cnt + (nS x k : Int)), u3], .bool true]) (post := [rowE 86 3 u3 vs.length (vs.flatMap arcC)]) rfl ⟨⟨b2, 0, [.int .i64 (x.n.cnt + (nS x k : Int)), u3], rfl, rfl, by kernel_rfl, by kernel_rfl, box_part 2 rfl 0 rfl⟩, rfl, trivial⟩ rfl ((.cons_cons _ (.cons _ (.cons _ (.cons _ .slnil))))) ⟨_, by rw [← hR2, pB_yes hok]; rfl, by rw [← hR1], hoA⟩
 ·
  have hno := of_pBn h3
  refine hl_v rfl rfl rfl (rv_ev rfl) ?_
  refine hl_less (sx 0 rfl (sx 1 rfl (sx 2 rfl (sx 3 rfl (sx 15 rfl (sub_nil _)))))) (.refl _) ?_
  refine hl_nil ?_
  refine hq_then ?_
  refine hc_true rfl ?_
  refine hc_seq ?_
  refine hc_region ?_
  refine hl_v rfl rfl rfl (rv_build (cs := #[.int .i64 0, .slice none 0 0]) rfl rfl (by kernel_rfl)) ?_
  refine hl_storeBoxN (i := 0) (off := 0) (us := [.int .i64 0, .slice none 0 0])  (l' := [boxE b2 #[.int .i64 0, .slice none 0 0] 51, boxE b1 #[.int .i64 x.n.ins, x.n.sv, x.n.lv, x.n.ov, x.pv, x.qv, x.kv, x.av, x.bv, .int .i64 x.oi, .int .i64 x.ni] 40]) rfl rfl rfl (by kernel_rfl) rfl rfl rfl (all_cons rfl (all_cons rfl all_nil)) rfl rfl rfl ?_
  refine hl_v rfl rfl rfl (rv_ev rfl) ?_
  refine hl_less (sx 0 rfl (sx 1 rfl (sx 2 rfl (sx 3 rfl (sx 15 rfl (sub_nil _)))))) (.refl _) ?_
  refine hl_nil ?_
  refine hq_then ?_
  refine hc_ret ?_
  refine hq_then_ret ?_
  refine hq_conv [rowE 86 3 (.slice none 0 0) (([] : List Arc).length) (([] : List Arc).flatMap arcC), boxE b2 #[.int .i64 0, .slice none 0 0] 51, boxE b1 #[.int .i64 x.n.ins, x.n.sv, x.n.lv, x.n.ov, x.pv, x.qv, x.kv, x.av, x.bv, .int .i64 x.oi, .int .i64 x.ni] 40] (fun w hm => hm.nilRow 86 3) ?_
  have hR1 : arcR x = [] := by unfold arcR; rw [pB_no hno]; rfl
  have hR2 : nodR x = 0 := by unfold nodR; rw [pB_no hno]; rfl
  exact hq_retM (rs := [.cell 2 51, .tmp 3]) (vs := [.agg #[.int .i64 0, .slice none 0 0], .bool false]) (post := [rowE 86 3 (.slice none 0 0) (([] : List Arc).length) (([] : List Arc).flatMap arcC)]) rfl ⟨⟨b2, 0, [.int .i64 0, .slice none 0 0], rfl, rfl, by kernel_rfl, by kernel_rfl, box_part 1 rfl 0 rfl⟩, rfl, trivial⟩ rfl ((.cons_cons _ (.cons _ (.cons _ .slnil)))) ⟨_, by rw [hR2, pB_no hno]; rfl, by rw [hR1], rfl⟩
set_option maxHeartbeats 4000000 in
set_option maxRecDepth 100000 in
theorem specTimingOf_ret (x : Td) (w : World) (hr : RdsTd w x) :
  Calls Try.prog 23 #[.agg #[.int .i64 x.n.ins, x.n.sv, x.n.lv, x.n.ov, x.pv, x.qv, x.kv, x.av, x.bv, .int .i64 x.oi, .int .i64 x.ni]] w (Ret w (fun v' post => ∃ u : Value, v' = .tuple #[.agg #[.int .i64 (nodR x), u], .bool (pB (TdOk x))] ∧ post = [rowE 86 3 u (arcR x).length ((arcR x).flatMap arcC)] ∧ u.oneCell' = true)) := by
 have t1 := sml hr.ks
 have t2 := sml hr.ao
 have t3 := sml hr.bs
 have t4 := hr.dl.small
 have t5 := hr.ds.small
 have t6 := hr.n.sq.small
 have t7 := hr.n.lt.small
 have t8 := sml hr.n.ou
 have hcnt : x.n.cnt = 1 + x.n.ins + x.n.ss.length + x.n.ls.length := rfl
 have hfst : x.n.fst = 1 + x.n.ins + x.n.ss.length := rfl
 refine calls_hc (N := 119) (args := [.agg #[.int .i64 x.n.ins, x.n.sv, x.n.lv, x.n.ov, x.pv, x.qv, x.kv, x.av, x.bv, .int .i64 x.oi, .int .i64 x.ni]]) Try.func23 rfl rfl ?_
 refine hc_less _ (sx 0 rfl (sub_nil _)) (.refl _) ?_
 refine hc_seq ?_
 refine hc_region ?_
 refine hl_box rfl rfl rfl (rq_box rfl rfl) ?_
 intro b1
 refine hl_box rfl rfl rfl (rq_alloc (z := .agg #[.int .i64 0, .slice none 0 0]) rfl (by kernel_rfl)) ?_
 intro b2
 refine hl_v rfl rfl rfl (rv_ev rfl) ?_
 refine hl_less (sx 0 rfl (sx 1 rfl (sx 2 rfl (sx 3 rfl (sub_nil _))))) (.refl _) ?_
 refine hl_nil ?_
 refine hq_then ?_
 refine hc_seq ?_
 refine hc_seq ?_
 refine hc_region ?_
 refine hl_v rfl rfl rfl (rv_loadN (cs := [.int .i64 x.n.ins, x.n.sv, x.n.lv, x.n.ov, x.pv, x.qv, x.kv, x.av, x.bv, .int .i64 x.oi, .int .i64 x.ni]) rfl (by kernel_rfl) (by kernel_rfl) rfl rfl (box_part 1 rfl 0 rfl)) ?_
 refine hl_callV rfl rfl rfl (rq_call (by kernel_rfl) rfl (fun w hm => ret_ans (specTimedOk_ans x w (hr.below hm.bel)))) ?_
 refine hl_bool (fun h3 => ?_) (fun h3 => ?_)
 ·
  have hok := of_pB h3
  obtain ⟨ci, cs_, cl, ck, ca, cb, cd, ce⟩ := hok.bnd
  have hi0 := ci.1
  have hi1 := ci.2
  refine hl_v rfl rfl rfl (rv_ev rfl) ?_
  refine hl_less (sx 0 rfl (sx 1 rfl (sx 2 rfl (sx 3 rfl (sx 11 rfl (sub_nil _)))))) (.refl _) ?_
  refine hl_nil ?_
  refine hq_then ?_
  refine hc_false rfl ?_
  refine hc_skip ?_
  refine hq_then ?_
  refine hc_seq ?_
  refine hc_region ?_
  refine hl_v rfl rfl rfl (rv_field (k0 := 0) rfl (by kernel_rfl) rfl) ?_
  refine hl_v rfl rfl rfl (rv_loadN (cs := [.int .i64 x.n.ins, x.n.sv, x.n.lv, x.n.ov]) rfl (by kernel_rfl) (by kernel_rfl) rfl rfl (box_part 1 rfl 0 rfl)) ?_
  refine hl_callV rfl rfl rfl (rq_call (by kernel_rfl) rfl (fun w hm => ret_ans (by have h9 := specLutNodes_ans x.n w (hr.n.below hm.bel); rw [lnN_yes hok.n.sz, show x.n.cnt = x.n.cnt + (nS x 0 : Int) from (Int.add_zero _).symm] at h9; exact h9))) ?_
  refine hl_v rfl rfl rfl (rv_build (cs := #[.int .i64 (x.n.cnt + (nS x 0 : Int)), .slice none 0 0]) rfl rfl (by kernel_rfl)) ?_
  refine hl_box rfl rfl rfl (rq_alloc (z := .agg #[.int .i64 0, .slice none 0 0]) rfl (by kernel_rfl)) ?_
  intro b4
  refine hl_storeBoxN (i := 0) (off := 0) (us := [.int .i64 (x.n.cnt + (nS x 0 : Int)), .slice none 0 0])  (l' := [boxE b4 #[.int .i64 (x.n.cnt + (nS x 0 : Int)), .slice none 0 0] 51, boxE b2 #[.int .i64 0, .slice none 0 0] 51, boxE b1 #[.int .i64 x.n.ins, x.n.sv, x.n.lv, x.n.ov, x.pv, x.qv, x.kv, x.av, x.bv, .int .i64 x.oi, .int .i64 x.ni] 40]) rfl rfl rfl (by kernel_rfl) rfl rfl rfl (all_cons rfl (all_cons rfl all_nil)) rfl rfl rfl ?_
  refine hl_less (sx 0 rfl (sx 1 rfl (sx 2 rfl (sx 3 rfl (sx 4 rfl (sx 11 rfl (sub_nil _))))))) (.refl _) ?_
  refine hl_nil ?_
  refine hq_then ?_
  refine hc_seq ?_
  refine hc_seq ?_
  refine hc_region ?_
  refine hl_v rfl rfl rfl (rv_ev rfl) ?_
  refine hl_less (sx 0 rfl (sx 1 rfl (sx 2 rfl (sx 3 rfl (sx 4 rfl (sx 5 rfl (sx 11 rfl (sub_nil _)))))))) (.refl _) ?_
  refine hl_nil ?_
  refine hq_then ?_
  refine hc_block ?_
  refine hc_conv [rowE 86 3 (.slice none 0 0) (([] : List Arc).length) (([] : List Arc).flatMap arcC), boxE b4 #[.int .i64 (x.n.cnt + (nS x 0 : Int)), .slice none 0 0] 51, boxE b2 #[.int .i64 0, .slice none 0 0] 51, boxE b1 #[.int .i64 x.n.ins, x.n.sv, x.n.lv, x.n.ov, x.pv, x.qv, x.kv, x.av, x.bv, .int .i64 x.oi, .int .i64 x.ni] 40] (fun w hm => hm.nilRow 86 3) ?_
  refine hc_loop3 (α := Nat) (β := Value) (γ := List Arc) (fun i u zs => [rowE 86 3 u zs.length (zs.flatMap arcC), boxE b4 #[.int .i64 (x.n.cnt + (nS x 0 : Int)), u] 51, boxE b2 #[.int .i64 0, .slice none 0 0] 51, boxE b1 #[.int .i64 x.n.ins, x.n.sv, x.n.lv, x.n.ov, x.pv, x.qv, x.kv, x.av, x.bv, .int .i64 x.oi, .int .i64 x.ni] 40]) (fun i u zs => [(0, .agg #[.int .i64 x.n.ins, x.n.sv, x.n.lv, x.n.ov, x.pv, x.qv, x.kv, x.av, x.bv, .int .i64 x.oi, .int .i64 x.ni]), (1, .pointer (some ⟨b1, 0, none⟩)), (2, .pointer (some ⟨b2, 0, none⟩)), (3, .bool false), (4, .pointer (some ⟨b4, 0, none⟩)), (5, .int .i64 (i : Int)), (11, .bool false)]) (fun i u zs => i ≤ x.n.ls.length ∧ zs = arcL x i) (fun i u zs => x.n.ls.length - i) 0 _ [] ⟨Nat.zero_le _, rfl⟩ (sx 0 rfl (sx 1 rfl (sx 2 rfl (sx 3 rfl (sx 4 rfl (sx 5 rfl (sx 11 rfl (sub_nil _)))))))) ((.cons_cons _ (.cons_cons _ (.cons_cons _ (.cons_cons _ .slnil))))) ?_
  intro i u zs hi5
  obtain ⟨hi, hz⟩ := hi5
  have hzl : zs.length ≤ 4 * i := by rw [hz]; exact arcL_le hok.n i hi
  refine hc_seq ?_
  refine hc_seq ?_
  refine hc_region ?_
  refine hl_v rfl rfl rfl (rv_ev rfl) ?_
  refine hl_v rfl rfl rfl (rv_field (k0 := 0) rfl (by kernel_rfl) rfl) ?_
  refine hl_v rfl rfl rfl (rv_field (k0 := 2) rfl (by kernel_rfl) rfl) ?_
  refine hl_v rfl rfl rfl (rv_load rfl (by kernel_rfl) rfl (box_cell 3 rfl rfl)) ?_
  refine hl_v rfl rfl rfl (rv_len rfl Try.underlying35 rfl (rd_old ((hr).n.lt.row))) ?_
  refine hl_lss rfl rfl rfl rfl rfl rfl (fun h6 => ?_) (fun h6 => ?_)
  ·
   refine hl_less (sx 0 rfl (sx 1 rfl (sx 2 rfl (sx 3 rfl (sx 4 rfl (sx 5 rfl (sx 11 rfl (sx 22 rfl (sub_nil _))))))))) (.refl _) ?_
   refine hl_nil ?_
   refine hq_then ?_
   refine hc_true rfl ?_
   refine hc_skip ?_
   refine hq_then ?_
   refine hc_seq ?_
   refine hc_block ?_
   refine hc_seq ?_
   refine hc_region ?_
   have hx4 : (x.n.ls.getD i lt0).xs.length ≤ 4 := (hok.n.lt i (by omega)).1.1
   have hdi : (x.dl.getD i ir0).xs.length = (x.n.ls.getD i lt0).xs.length := by have := (hok.dl i (by omega)).1; omega
   refine hl_v rfl rfl rfl (rv_ev rfl) ?_
   refine hl_less (sx 0 rfl (sx 1 rfl (sx 2 rfl (sx 3 rfl (sx 4 rfl (sx 5 rfl (sx 6 rfl (sx 11 rfl (sx 22 rfl (sub_nil _)))))))))) (.refl _) ?_
   refine hl_nil ?_
   refine hq_then ?_
   refine hc_block ?_
   refine hc_loop3 (α := Nat) (β := Value) (γ := List Arc) (fun j u2 ys => [rowE 86 3 u2 ys.length (ys.flatMap arcC), boxE b4 #[.int .i64 (x.n.cnt + (nS x 0 : Int)), u2] 51, boxE b2 #[.int .i64 0, .slice none 0 0] 51, boxE b1 #[.int .i64 x.n.ins, x.n.sv, x.n.lv, x.n.ov, x.pv, x.qv, x.kv, x.av, x.bv, .int .i64 x.oi, .int .i64 x.ni] 40]) (fun j u2 ys => [(0, .agg #[.int .i64 x.n.ins, x.n.sv, x.n.lv, x.n.ov, x.pv, x.qv, x.kv, x.av, x.bv, .int .i64 x.oi, .int .i64 x.ni]), (1, .pointer (some ⟨b1, 0, none⟩)), (2, .pointer (some ⟨b2, 0, none⟩)), (3, .bool false), (4, .pointer (some ⟨b4, 0, none⟩)), (5, .int .i64 (i : Int)), (6, .int .i64 (j : Int)), (11, .bool false), (22, .bool true)]) (fun j u2 ys => j ≤ (x.n.ls.getD i lt0).xs.length ∧ ys = arcI x i j) (fun j u2 ys => (x.n.ls.getD i lt0).xs.length - j) 0 _ zs ⟨Nat.zero_le _, by rw [hz, arcI_zero]⟩ (sx 0 rfl (sx 1 rfl (sx 2 rfl (sx 3 rfl (sx 4 rfl (sx 5 rfl (sx 6 rfl (sx 11 rfl (sx 22 rfl (sub_nil _)))))))))) ((.cons_cons _ (.cons_cons _ (.cons_cons _ (.cons_cons _ .slnil))))) ?_
   intro j u2 ys hi7
   obtain ⟨hj, hy⟩ := hi7
   have hyl : ys.length ≤ 4 * i + j := by rw [hy, arcI_len, ← hz]; omega
   refine hc_seq ?_
   refine hc_seq ?_
   refine hc_region ?_
   refine hl_v rfl rfl rfl (rv_ev rfl) ?_
   refine hl_v rfl rfl rfl (rv_field (k0 := 0) rfl (by kernel_rfl) rfl) ?_
   refine hl_v rfl rfl rfl (rv_field (k0 := 2) rfl (by kernel_rfl) rfl) ?_
   refine hl_v rfl rfl rfl (rv_load rfl (by kernel_rfl) rfl (box_cell 3 rfl rfl)) ?_
   refine hl_v rfl rfl rfl (rv_ev rfl) ?_
   refine hl_v rfl rfl rfl (rv_index (s := 2) rfl Try.underlying35 (by kernel_rfl) rfl rfl (rd_old ((hr).n.lt.row)) (by omega) (by first | omega | (simp only [List.length_set]; omega))) ?_
   refine hl_v rfl rfl rfl (rv_fieldEl (k0 := 0) rfl (by kernel_rfl) rfl (rd_old ((hr).n.lt.row)) (by first | omega | (simp only [List.length_set]; omega))) ?_
   refine hl_v rfl rfl rfl (rv_loadEl (u := (x.n.ls.getD i lt0).iv) rfl (by kernel_rfl) rfl (rd_old ((hr).n.lt.row)) ((flat_at ltC 2 (fun _ => rfl) x.n.ls lt0 (show i < _ by first | omega | (simp only [List.length_set]; omega)) (by decide)).trans rfl)) ?_
   refine hl_v rfl rfl rfl (rv_len rfl Try.underlying24 rfl (rd_old ((hr).n.lt.at (d := lt0) (k := i) (by omega)))) ?_
   refine hl_lss rfl rfl rfl rfl rfl rfl (fun h8 => ?_) (fun h8 => ?_)
   ·
    refine hl_less (sx 0 rfl (sx 1 rfl (sx 2 rfl (sx 3 rfl (sx 4 rfl (sx 5 rfl (sx 6 rfl (sx 11 rfl (sx 22 rfl (sx 34 rfl (sub_nil _))))))))))) (.refl _) ?_
    refine hl_nil ?_
    refine hq_then ?_
    refine hc_true rfl ?_
    refine hc_skip ?_
    refine hq_then ?_
    refine hc_seq ?_
    refine hc_block ?_
    refine hc_draw (by kernel_rfl) 28 [0, 1, 2, 3, 4, 5, 6, 7, 8, 9, 10, 11, 12, 13, 14, 15, 16, 17, 18, 19, 20, 21, 22, 23, 24, 25, 26, 27] (List.take 28 _) (List.drop 28 _) [[], [0], [], [2], [3], [], [4, 5], [6], [7], [], [8, 9], [10], [], [12], [13], [], [14, 15], [], [17], [18], [], [19, 20], [21], [], [22, 23], [24], [11, 16, 25], [26]] [37, 38, 39, 40, 41, 42, 43, 44, 45, 46, 47, 48, 49, 50, 51, 52, 53, 54, 55, 56, 57, 58, 59, 60, 61, 62, 63, 64] (fun i_ vs_ v_ p_ => match i_ with | 0 => v_ = .pointer (some ⟨b4, 0 + 1, none⟩) ∧ p_ = [] | 1 => v_ = u2 ∧ p_ = [] | 2 => v_ = .pointer (some ⟨b1, 0 + 0, none⟩) ∧ p_ = [] | 3 => v_ = .pointer (some ⟨b1, 0 + 0 + 2, none⟩) ∧ p_ = [] | 4 => v_ = x.n.lv ∧ p_ = [] | 5 => v_ = .int .i64 (i : Int) ∧ p_ = [] | 6 => v_ = elP x.n.lv (((i : Int)).toNat * 2) ∧ p_ = [] | 7 => v_ = elP x.n.lv (((i : Int)).toNat * 2 + 0) ∧ p_ = [] | 8 => v_ = (x.n.ls.getD i lt0).iv ∧ p_ = [] | 9 => v_ = .int .i64 (j : Int) ∧ p_ = [] | 10 => v_ = elP ((x.n.ls.getD i lt0).iv) (((j : Int)).toNat * 1) ∧ p_ = [] | 11 => v_ = .int .i64 (((x.n.ls.getD i lt0).xs).getD j 0) ∧ p_ = [] | 12 => v_ = .pointer (some ⟨b1, 0 + 0, none⟩) ∧ p_ = [] | 13 => v_ = .agg #[.int .i64 x.n.ins, x.n.sv, x.n.lv, x.n.ov] ∧ p_ = [] | 14 => v_ = .int .i64 x.n.fst ∧ p_ = [] | 15 => v_ = .int .i64 (i : Int) ∧ p_ = [] | 16 => v_ = .int .i64 (x.n.fst + (i : Int)) ∧ p_ = [] | 17 => v_ = .pointer (some ⟨b1, 0 + 4, none⟩) ∧ p_ = [] | 18 => v_ = .pointer (some ⟨b1, 0 + 4 + 0, none⟩) ∧ p_ = [] | 19 => v_ = x.pv ∧ p_ = [] | 20 => v_ = .int .i64 (i : Int) ∧ p_ = [] | 21 => v_ = elP x.pv (((i : Int)).toNat * 1) ∧ p_ = [] | 22 => v_ = (x.dl.getD i ir0).v ∧ p_ = [] | 23 => v_ = .int .i64 (j : Int) ∧ p_ = [] | 24 => v_ = elP ((x.dl.getD i ir0).v) (((j : Int)).toNat * 1) ∧ p_ = [] | 25 => v_ = .int .i64 (((x.dl.getD i ir0).xs).getD j 0) ∧ p_ = [] | 26 => v_ = .agg #[.int .i64 (((x.n.ls.getD i lt0).xs).getD j 0), .int .i64 (x.n.fst + (i : Int)), .int .i64 (((x.dl.getD i ir0).xs).getD j 0)] ∧ p_ = [] | 27 => IsRow_o 86 3 1 ([((x.n.ls.getD i lt0).xs).getD j 0, x.n.fst + (i : Int), ((x.dl.getD i ir0).xs).getD j 0].map (Value.int .i64)) v_ p_ | _ => True) (List.take_append_drop 28 _).symm (by kernel_rfl) (by kernel_rfl) rfl rfl ?_ ?_
    ·
     refine ⟨?_, ?_, ?_, ?_, ?_, ?_, ?_, ?_, ?_, ?_, ?_, ?_, ?_, ?_, ?_, ?_, ?_, ?_, ?_, ?_, ?_, ?_, ?_, ?_, ?_, ?_, ?_, ?_, trivial⟩
     ·
      intro vf pf hR
      refine Or.inl ⟨rfl, ?_⟩
      refine rq_less (sx 4 rfl (sub_nil _)) (List.sublist_append_right _ _) ?_
      exact rq_v (rv_field (k0 := 1) rfl (by kernel_rfl) rfl)
     ·
      intro vf pf hR
      have e0 : (vf 0) = .pointer (some ⟨b4, 0 + 1, none⟩) ∧ (pf 0) = [] := hR 0 (by decide)
      refine Or.inl ⟨rfl, ?_⟩
      refine rq_less (sx 37 (congrArg some e0.1) (sub_nil _)) (List.sublist_append_right _ _) ?_
      exact rq_v (rv_load rfl (by kernel_rfl) rfl (box_cell 1 rfl rfl))
     ·
      intro vf pf hR
      refine Or.inl ⟨rfl, ?_⟩
      refine rq_less (sx 1 rfl (sub_nil _)) (List.sublist_append_right _ _) ?_
      exact rq_v (rv_field (k0 := 0) rfl (by kernel_rfl) rfl)
     ·
      intro vf pf hR
      have e2 : (vf 2) = .pointer (some ⟨b1, 0 + 0, none⟩) ∧ (pf 2) = [] := hR 2 (by decide)
      refine Or.inl ⟨rfl, ?_⟩
      refine rq_less (sx 39 (congrArg some e2.1) (sub_nil _)) (List.sublist_append_right _ _) ?_
      exact rq_v (rv_field (k0 := 2) rfl (by kernel_rfl) rfl)
     ·
      intro vf pf hR
      have e3 : (vf 3) = .pointer (some ⟨b1, 0 + 0 + 2, none⟩) ∧ (pf 3) = [] := hR 3 (by decide)
      refine Or.inl ⟨rfl, ?_⟩
      refine rq_less (sx 40 (congrArg some e3.1) (sub_nil _)) (List.sublist_append_right _ _) ?_
      exact rq_v (rv_load rfl (by kernel_rfl) rfl (box_cell 3 rfl rfl))
     ·
      intro vf pf hR
      refine Or.inl ⟨rfl, ?_⟩
      refine rq_less (sx 5 rfl (sub_nil _)) (List.sublist_append_right _ _) ?_
      exact rq_v (rv_ev rfl)
     ·
      intro vf pf hR
      have e4 : (vf 4) = x.n.lv ∧ (pf 4) = [] := hR 4 (by decide)
      have e5 : (vf 5) = .int .i64 (i : Int) ∧ (pf 5) = [] := hR 5 (by decide)
      refine Or.inl ⟨rfl, ?_⟩
      refine rq_less (sx 41 (congrArg some e4.1) (sx 42 (congrArg some e5.1) (sub_nil _))) (List.sublist_append_right _ _) ?_
      exact rq_v (rv_index (s := 2) rfl Try.underlying35 (by kernel_rfl) rfl rfl (rd_old ((hr).n.lt.row)) (by omega) (by first | omega | (simp only [List.length_set]; omega)))
     ·
      intro vf pf hR
      have e6 : (vf 6) = elP x.n.lv (((i : Int)).toNat * 2) ∧ (pf 6) = [] := hR 6 (by decide)
      refine Or.inl ⟨rfl, ?_⟩
      refine rq_less (sx 43 (congrArg some e6.1) (sub_nil _)) (List.sublist_append_right _ _) ?_
      exact rq_v (rv_fieldEl (k0 := 0) rfl (by kernel_rfl) rfl (rd_old ((hr).n.lt.row)) (by first | omega | (simp only [List.length_set]; omega)))
     ·
      intro vf pf hR
      have e7 : (vf 7) = elP x.n.lv (((i : Int)).toNat * 2 + 0) ∧ (pf 7) = [] := hR 7 (by decide)
      refine Or.inl ⟨rfl, ?_⟩
      refine rq_less (sx 44 (congrArg some e7.1) (sub_nil _)) (List.sublist_append_right _ _) ?_
      exact rq_v (rv_loadEl (u := (x.n.ls.getD i lt0).iv) rfl (by kernel_rfl) rfl (rd_old ((hr).n.lt.row)) ((flat_at ltC 2 (fun _ => rfl) x.n.ls lt0 (show i < _ by first | omega | (simp only [List.length_set]; omega)) (by decide)).trans rfl))
     ·
      intro vf pf hR
      refine Or.inl ⟨rfl, ?_⟩
      refine rq_less (sx 6 rfl (sub_nil _)) (List.sublist_append_right _ _) ?_
      exact rq_v (rv_ev rfl)
     ·
      intro vf pf hR
      have e8 : (vf 8) = (x.n.ls.getD i lt0).iv ∧ (pf 8) = [] := hR 8 (by decide)
      have e9 : (vf 9) = .int .i64 (j : Int) ∧ (pf 9) = [] := hR 9 (by decide)
      refine Or.inl ⟨rfl, ?_⟩
      refine rq_less (sx 45 (congrArg some e8.1) (sx 46 (congrArg some e9.1) (sub_nil _))) (List.sublist_append_right _ _) ?_
      exact rq_v (rv_index (s := 1) rfl Try.underlying24 (by kernel_rfl) rfl rfl (rd_old ((hr).n.lt.at (d := lt0) (k := i) (by omega))) (by omega) (by first | omega | (simp only [List.length_set]; omega)))
     ·
      intro vf pf hR
      have e10 : (vf 10) = elP ((x.n.ls.getD i lt0).iv) (((j : Int)).toNat * 1) ∧ (pf 10) = [] := hR 10 (by decide)
      refine Or.inl ⟨rfl, ?_⟩
      refine rq_less (sx 47 (congrArg some e10.1) (sub_nil _)) (List.sublist_append_right _ _) ?_
      exact rq_v (rv_loadEl (u := .int .i64 (((x.n.ls.getD i lt0).xs).getD j 0)) rfl (by kernel_rfl) rfl (rd_old ((hr).n.lt.at (d := lt0) (k := i) (by omega))) (ints_at1 (show _ < ((x.n.ls.getD i lt0).xs).length by first | omega | (simp only [List.length_set]; omega))))
     ·
      intro vf pf hR
      refine Or.inl ⟨rfl, ?_⟩
      refine rq_less (sx 1 rfl (sub_nil _)) (List.sublist_append_right _ _) ?_
      exact rq_v (rv_field (k0 := 0) rfl (by kernel_rfl) rfl)
     ·
      intro vf pf hR
      have e12 : (vf 12) = .pointer (some ⟨b1, 0 + 0, none⟩) ∧ (pf 12) = [] := hR 12 (by decide)
      refine Or.inl ⟨rfl, ?_⟩
      refine rq_less (sx 49 (congrArg some e12.1) (sub_nil _)) (List.sublist_append_right _ _) ?_
      exact rq_v (rv_loadN (cs := [.int .i64 x.n.ins, x.n.sv, x.n.lv, x.n.ov]) rfl (by kernel_rfl) (by kernel_rfl) rfl rfl (box_part 3 rfl 0 rfl))
     ·
      intro vf pf hR
      have e13 : (vf 13) = .agg #[.int .i64 x.n.ins, x.n.sv, x.n.lv, x.n.ov] ∧ (pf 13) = [] := hR 13 (by decide)
      refine Or.inl ⟨rfl, ?_⟩
      refine rq_less (sx 50 (congrArg some e13.1) (sub_nil _)) (List.sublist_append_right _ _) ?_
      exact (rq_call (by kernel_rfl) rfl (fun w hm => ret_ans (l20First_ans x.n w (hr.n.below hm.bel) hok.n.sz)))
     ·
      intro vf pf hR
      refine Or.inl ⟨rfl, ?_⟩
      refine rq_less (sx 5 rfl (sub_nil _)) (List.sublist_append_right _ _) ?_
      exact rq_v (rv_ev rfl)
     ·
      intro vf pf hR
      have e14 : (vf 14) = .int .i64 x.n.fst ∧ (pf 14) = [] := hR 14 (by decide)
      have e15 : (vf 15) = .int .i64 (i : Int) ∧ (pf 15) = [] := hR 15 (by decide)
      refine Or.inl ⟨rfl, ?_⟩
      refine rq_less (sx 51 (congrArg some e14.1) (sx 52 (congrArg some e15.1) (sub_nil _))) (List.sublist_append_right _ _) ?_
      exact rq_v (rv_add rfl rfl rfl (by constructor <;> omega))
     ·
      intro vf pf hR
      refine Or.inl ⟨rfl, ?_⟩
      refine rq_less (sx 1 rfl (sub_nil _)) (List.sublist_append_right _ _) ?_
      exact rq_v (rv_field (k0 := 4) rfl (by kernel_rfl) rfl)
     ·
      intro vf pf hR
      have e17 : (vf 17) = .pointer (some ⟨b1, 0 + 4, none⟩) ∧ (pf 17) = [] := hR 17 (by decide)
      refine Or.inl ⟨rfl, ?_⟩
      refine rq_less (sx 54 (congrArg some e17.1) (sub_nil _)) (List.sublist_append_right _ _) ?_
      exact rq_v (rv_field (k0 := 0) rfl (by kernel_rfl) rfl)
     ·
      intro vf pf hR
      have e18 : (vf 18) = .pointer (some ⟨b1, 0 + 4 + 0, none⟩) ∧ (pf 18) = [] := hR 18 (by decide)
      refine Or.inl ⟨rfl, ?_⟩
      refine rq_less (sx 55 (congrArg some e18.1) (sub_nil _)) (List.sublist_append_right _ _) ?_
      exact rq_v (rv_load rfl (by kernel_rfl) rfl (box_cell 3 rfl rfl))
     ·
      intro vf pf hR
      refine Or.inl ⟨rfl, ?_⟩
      refine rq_less (sx 5 rfl (sub_nil _)) (List.sublist_append_right _ _) ?_
      exact rq_v (rv_ev rfl)
     ·
      intro vf pf hR
      have e19 : (vf 19) = x.pv ∧ (pf 19) = [] := hR 19 (by decide)
      have e20 : (vf 20) = .int .i64 (i : Int) ∧ (pf 20) = [] := hR 20 (by decide)
      refine Or.inl ⟨rfl, ?_⟩
      refine rq_less (sx 56 (congrArg some e19.1) (sx 57 (congrArg some e20.1) (sub_nil _))) (List.sublist_append_right _ _) ?_
      exact rq_v (rv_index (s := 1) rfl Try.underlying27 (by kernel_rfl) rfl rfl (rd_old ((hr).dl.row)) (by omega) (by first | omega | (simp only [List.length_set]; omega)))
     ·
      intro vf pf hR
      have e21 : (vf 21) = elP x.pv (((i : Int)).toNat * 1) ∧ (pf 21) = [] := hR 21 (by decide)
      refine Or.inl ⟨rfl, ?_⟩
      refine rq_less (sx 58 (congrArg some e21.1) (sub_nil _)) (List.sublist_append_right _ _) ?_
      exact rq_v (rv_loadEl (u := (x.dl.getD i ir0).v) rfl (by kernel_rfl) rfl (rd_old ((hr).dl.row)) (flat_one irC (fun r => r.v) (fun _ => rfl) x.dl ir0 (show i < _ by first | omega | (simp only [List.length_set]; omega))))
     ·
      intro vf pf hR
      refine Or.inl ⟨rfl, ?_⟩
      refine rq_less (sx 6 rfl (sub_nil _)) (List.sublist_append_right _ _) ?_
      exact rq_v (rv_ev rfl)
     ·
      intro vf pf hR
      have e22 : (vf 22) = (x.dl.getD i ir0).v ∧ (pf 22) = [] := hR 22 (by decide)
      have e23 : (vf 23) = .int .i64 (j : Int) ∧ (pf 23) = [] := hR 23 (by decide)
      refine Or.inl ⟨rfl, ?_⟩
      refine rq_less (sx 59 (congrArg some e22.1) (sx 60 (congrArg some e23.1) (sub_nil _))) (List.sublist_append_right _ _) ?_
      exact rq_v (rv_index (s := 1) rfl Try.underlying24 (by kernel_rfl) rfl rfl (rd_old ((hr).dl.at (d := ir0) (k := i) (by omega))) (by omega) (by first | omega | (simp only [List.length_set]; omega)))
     ·
      intro vf pf hR
      have e24 : (vf 24) = elP ((x.dl.getD i ir0).v) (((j : Int)).toNat * 1) ∧ (pf 24) = [] := hR 24 (by decide)
      refine Or.inl ⟨rfl, ?_⟩
      refine rq_less (sx 61 (congrArg some e24.1) (sub_nil _)) (List.sublist_append_right _ _) ?_
      exact rq_v (rv_loadEl (u := .int .i64 (((x.dl.getD i ir0).xs).getD j 0)) rfl (by kernel_rfl) rfl (rd_old ((hr).dl.at (d := ir0) (k := i) (by omega))) (ints_at1 (show _ < ((x.dl.getD i ir0).xs).length by first | omega | (simp only [List.length_set]; omega))))
     ·
      intro vf pf hR
      have e11 : (vf 11) = .int .i64 (((x.n.ls.getD i lt0).xs).getD j 0) ∧ (pf 11) = [] := hR 11 (by decide)
      have e16 : (vf 16) = .int .i64 (x.n.fst + (i : Int)) ∧ (pf 16) = [] := hR 16 (by decide)
      have e25 : (vf 25) = .int .i64 (((x.dl.getD i ir0).xs).getD j 0) ∧ (pf 25) = [] := hR 25 (by decide)
      refine Or.inl ⟨rfl, ?_⟩
      refine rq_less (sx 48 (congrArg some e11.1) (sx 53 (congrArg some e16.1) (sx 62 (congrArg some e25.1) (sub_nil _)))) (List.sublist_append_right _ _) ?_
      exact rq_v (rv_build (cs := #[.int .i64 (((x.n.ls.getD i lt0).xs).getD j 0), .int .i64 (x.n.fst + (i : Int)), .int .i64 (((x.dl.getD i ir0).xs).getD j 0)]) rfl rfl (by kernel_rfl))
     ·
      intro vf pf hR
      have e26 : (vf 26) = .agg #[.int .i64 (((x.n.ls.getD i lt0).xs).getD j 0), .int .i64 (x.n.fst + (i : Int)), .int .i64 (((x.dl.getD i ir0).xs).getD j 0)] ∧ (pf 26) = [] := hR 26 (by decide)
      refine Or.inl ⟨rfl, ?_⟩
      refine rq_less (sx 63 (congrArg some e26.1) (sub_nil _)) (List.sublist_append_right _ _) ?_
      exact rq_buildSlice (z := .agg #[.int .i64 0, .int .i64 0, .int .i64 0]) (s := 3) (cs := ([((x.n.ls.getD i lt0).xs).getD j 0, x.n.fst + (i : Int), ((x.dl.getD i ir0).xs).getD j 0].map (Value.int .i64))) rfl Try.underlying49 (by kernel_rfl) (by decide) rfl (by kernel_rfl) rfl
    ·
     intro vf pf hR
     have e1 : (vf 1) = u2 ∧ (pf 1) = [] := hR 1 (by decide)
     have e27 : IsRow_o 86 3 1 ([((x.n.ls.getD i lt0).xs).getD j 0, x.n.fst + (i : Int), ((x.dl.getD i ir0).xs).getD j 0].map (Value.int .i64)) (vf 27) (pf 27) := hR 27 (by decide)
     obtain ⟨g9, v27, p27⟩ := e27
     have q0 : (vf 0) = .pointer (some ⟨b4, 0 + 1, none⟩) ∧ (pf 0) = [] := hR 0 (by decide)
     have q1 : (vf 1) = u2 ∧ (pf 1) = [] := hR 1 (by decide)
     have q2 : (vf 2) = .pointer (some ⟨b1, 0 + 0, none⟩) ∧ (pf 2) = [] := hR 2 (by decide)
     have q3 : (vf 3) = .pointer (some ⟨b1, 0 + 0 + 2, none⟩) ∧ (pf 3) = [] := hR 3 (by decide)
     have q4 : (vf 4) = x.n.lv ∧ (pf 4) = [] := hR 4 (by decide)
     have q5 : (vf 5) = .int .i64 (i : Int) ∧ (pf 5) = [] := hR 5 (by decide)
     have q6 : (vf 6) = elP x.n.lv (((i : Int)).toNat * 2) ∧ (pf 6) = [] := hR 6 (by decide)
     have q7 : (vf 7) = elP x.n.lv (((i : Int)).toNat * 2 + 0) ∧ (pf 7) = [] := hR 7 (by decide)
     have q8 : (vf 8) = (x.n.ls.getD i lt0).iv ∧ (pf 8) = [] := hR 8 (by decide)
     have q9 : (vf 9) = .int .i64 (j : Int) ∧ (pf 9) = [] := hR 9 (by decide)
     have q10 : (vf 10) = elP ((x.n.ls.getD i lt0).iv) (((j : Int)).toNat * 1) ∧ (pf 10) = [] := hR 10 (by decide)
     have q11 : (vf 11) = .int .i64 (((x.n.ls.getD i lt0).xs).getD j 0) ∧ (pf 11) = [] := hR 11 (by decide)
     have q12 : (vf 12) = .pointer (some ⟨b1, 0 + 0, none⟩) ∧ (pf 12) = [] := hR 12 (by decide)
     have q13 : (vf 13) = .agg #[.int .i64 x.n.ins, x.n.sv, x.n.lv, x.n.ov] ∧ (pf 13) = [] := hR 13 (by decide)
     have q14 : (vf 14) = .int .i64 x.n.fst ∧ (pf 14) = [] := hR 14 (by decide)
     have q15 : (vf 15) = .int .i64 (i : Int) ∧ (pf 15) = [] := hR 15 (by decide)
     have q16 : (vf 16) = .int .i64 (x.n.fst + (i : Int)) ∧ (pf 16) = [] := hR 16 (by decide)
     have q17 : (vf 17) = .pointer (some ⟨b1, 0 + 4, none⟩) ∧ (pf 17) = [] := hR 17 (by decide)
     have q18 : (vf 18) = .pointer (some ⟨b1, 0 + 4 + 0, none⟩) ∧ (pf 18) = [] := hR 18 (by decide)
     have q19 : (vf 19) = x.pv ∧ (pf 19) = [] := hR 19 (by decide)
     have q20 : (vf 20) = .int .i64 (i : Int) ∧ (pf 20) = [] := hR 20 (by decide)
     have q21 : (vf 21) = elP x.pv (((i : Int)).toNat * 1) ∧ (pf 21) = [] := hR 21 (by decide)
     have q22 : (vf 22) = (x.dl.getD i ir0).v ∧ (pf 22) = [] := hR 22 (by decide)
     have q23 : (vf 23) = .int .i64 (j : Int) ∧ (pf 23) = [] := hR 23 (by decide)
     have q24 : (vf 24) = elP ((x.dl.getD i ir0).v) (((j : Int)).toNat * 1) ∧ (pf 24) = [] := hR 24 (by decide)
     have q25 : (vf 25) = .int .i64 (((x.dl.getD i ir0).xs).getD j 0) ∧ (pf 25) = [] := hR 25 (by decide)
     have q26 : (vf 26) = .agg #[.int .i64 (((x.n.ls.getD i lt0).xs).getD j 0), .int .i64 (x.n.fst + (i : Int)), .int .i64 (((x.dl.getD i ir0).xs).getD j 0)] ∧ (pf 26) = [] := hR 26 (by decide)
     refine hl_less (l' := [rowE 86 3 (.slice (some ⟨g9, 0, none⟩) 1 1) 1 ([((x.n.ls.getD i lt0).xs).getD j 0, x.n.fst + (i : Int), ((x.dl.getD i ir0).xs).getD j 0].map (Value.int .i64)), rowE 86 3 u2 ys.length (ys.flatMap arcC), boxE b4 #[.int .i64 (x.n.cnt + (nS x 0 : Int)), u2] 51, boxE b2 #[.int .i64 0, .slice none 0 0] 51, boxE b1 #[.int .i64 x.n.ins, x.n.sv, x.n.lv, x.n.ov, x.pv, x.qv, x.kv, x.av, x.bv, .int .i64 x.oi, .int .i64 x.ni] 40]) (sx 0 rfl (sx 1 rfl (sx 2 rfl (sx 3 rfl (sx 4 rfl (sx 5 rfl (sx 6 rfl (sx 11 rfl (sx 22 rfl (sx 34 rfl (sx 38 (congrArg some e1.1) (sx 64 (congrArg some v27) (sub_nil _))))))))))))) (by first | (simp only [p27, v27, q0.2, q1.2, q2.2, q3.2, q4.2, q5.2, q6.2, q7.2, q8.2, q9.2, q10.2, q11.2, q12.2, q13.2, q14.2, q15.2, q16.2, q17.2, q18.2, q19.2, q20.2, q21.2, q22.2, q23.2, q24.2, q25.2, q26.2, List.flatMap_cons, List.flatMap_nil, List.append_nil, List.nil_append, List.cons_append]; exact List.Sublist.refl _) | simp [p27, v27, q0.2, q1.2, q2.2, q3.2, q4.2, q5.2, q6.2, q7.2, q8.2, q9.2, q10.2, q11.2, q12.2, q13.2, q14.2, q15.2, q16.2, q17.2, q18.2, q19.2, q20.2, q21.2, q22.2, q23.2, q24.2, q25.2, q26.2]) ?_
     simp only [List.drop_succ_cons, List.drop_zero]
     refine hl_append (i := 1) (z := .agg #[.int .i64 0, .int .i64 0, .int .i64 0]) (bytes := 24) (n' := (ys ++ [Arc.mk ((x.n.ls.getD i lt0).xs.getD j 0) (x.n.fst + (i : Int)) ((x.dl.getD i ir0).xs.getD j 0)]).length) (xs' := ((ys ++ [Arc.mk ((x.n.ls.getD i lt0).xs.getD j 0) (x.n.fst + (i : Int)) ((x.dl.getD i ir0).xs.getD j 0)]).flatMap arcC)) (L := fun v10 => [rowE 86 3 (.slice (some ⟨g9, 0, none⟩) 1 1) 1 ([((x.n.ls.getD i lt0).xs).getD j 0, x.n.fst + (i : Int), ((x.dl.getD i ir0).xs).getD j 0].map (Value.int .i64)), rowE 86 3 v10 ((ys ++ [Arc.mk ((x.n.ls.getD i lt0).xs.getD j 0) (x.n.fst + (i : Int)) ((x.dl.getD i ir0).xs.getD j 0)]).length) ((ys ++ [Arc.mk ((x.n.ls.getD i lt0).xs.getD j 0) (x.n.fst + (i : Int)) ((x.dl.getD i ir0).xs.getD j 0)]).flatMap arcC), boxE b4 #[.int .i64 (x.n.cnt + (nS x 0 : Int)), u2] 51, boxE b2 #[.int .i64 0, .slice none 0 0] 51, boxE b1 #[.int .i64 x.n.ins, x.n.sv, x.n.lv, x.n.ov, x.pv, x.qv, x.kv, x.av, x.bv, .int .i64 x.oi, .int .i64 x.ni] 40]) rfl rfl rfl rfl Try.underlying49 (by kernel_rfl) (by kernel_rfl) rfl rfl rfl (rd_row 0 rfl) (ints_one _) (by first | omega | (simp only [List.length_append, List.length_cons, List.length_nil]; omega)) (len_app ys [Arc.mk ((x.n.ls.getD i lt0).xs.getD j 0) (x.n.fst + (i : Int)) ((x.dl.getD i ir0).xs.getD j 0)]) (flat_app1 arcC ys (Arc.mk ((x.n.ls.getD i lt0).xs.getD j 0) (x.n.fst + (i : Int)) ((x.dl.getD i ir0).xs.getD j 0)) _ rfl) (fun _ => rfl) ?_
     intro v10
     refine hl_v rfl rfl rfl (rv_field (k0 := 1) rfl (by kernel_rfl) rfl) ?_
     refine hl_one (i := 1) rfl (fun ho11 => ?_)
     refine hl_storeBox (i := 2) (l' := [rowE 86 3 (.slice (some ⟨g9, 0, none⟩) 1 1) 1 ([((x.n.ls.getD i lt0).xs).getD j 0, x.n.fst + (i : Int), ((x.dl.getD i ir0).xs).getD j 0].map (Value.int .i64)), rowE 86 3 v10 ((ys ++ [Arc.mk ((x.n.ls.getD i lt0).xs.getD j 0) (x.n.fst + (i : Int)) ((x.dl.getD i ir0).xs.getD j 0)]).length) ((ys ++ [Arc.mk ((x.n.ls.getD i lt0).xs.getD j 0) (x.n.fst + (i : Int)) ((x.dl.getD i ir0).xs.getD j 0)]).flatMap arcC), boxE b4 #[.int .i64 (x.n.cnt + (nS x 0 : Int)), v10] 51, boxE b2 #[.int .i64 0, .slice none 0 0] 51, boxE b1 #[.int .i64 x.n.ins, x.n.sv, x.n.lv, x.n.ov, x.pv, x.qv, x.kv, x.av, x.bv, .int .i64 x.oi, .int .i64 x.ni] 40]) rfl rfl rfl (by kernel_rfl) rfl rfl ho11 rfl rfl rfl ?_
     refine hl_less (sx 0 rfl (sx 1 rfl (sx 2 rfl (sx 3 rfl (sx 4 rfl (sx 5 rfl (sx 6 rfl (sx 11 rfl (sx 22 rfl (sx 34 rfl (sub_nil _))))))))))) (.refl _) ?_
     refine hl_nil ?_
     refine hq_block_normal ?_
     refine hq_then ?_
     refine hc_region ?_
     refine hl_v rfl rfl rfl (rv_ev rfl) ?_
     refine hl_v rfl rfl rfl (rv_add rfl rfl rfl (by constructor <;> omega)) ?_
     have hx4 : (x.n.ls.getD i lt0).xs.length ≤ 4 := (hok.n.lt i (by omega)).1.1
     have hdi : (x.dl.getD i ir0).xs.length = (x.n.ls.getD i lt0).xs.length := by have := (hok.dl i (by omega)).1; omega
     refine hl_v rfl rfl rfl (rv_ev rfl) ?_
     refine hl_less (sx 0 rfl (sx 1 rfl (sx 2 rfl (sx 3 rfl (sx 4 rfl (sx 5 rfl (sx 6 rfl (sx 11 rfl (sx 22 rfl (sx 34 rfl (sub_nil _))))))))))) (.refl _) ?_
     refine hl_nil ?_
     exact hq_round3 (j + 1) v10 (ys ++ [Arc.mk ((x.n.ls.getD i lt0).xs.getD j 0) (x.n.fst + (i : Int)) ((x.dl.getD i ir0).xs.getD j 0)]) ⟨by omega, by rw [arcI_succ, hy]⟩ (by omega) (sx 0 rfl (sx 1 rfl (sx 2 rfl (sx 3 rfl (sx 4 rfl (sx 5 rfl (sx 6 rfl (sx 11 rfl (sx 22 rfl (sub_nil _)))))))))) ((.cons _ (.cons_cons _ (.cons_cons _ (.cons_cons _ (.cons_cons _ .slnil))))))
   ·
    refine hl_less (sx 0 rfl (sx 1 rfl (sx 2 rfl (sx 3 rfl (sx 4 rfl (sx 5 rfl (sx 6 rfl (sx 11 rfl (sx 22 rfl (sx 34 rfl (sub_nil _))))))))))) (.refl _) ?_
    refine hl_nil ?_
    refine hq_then ?_
    refine hc_false rfl ?_
    refine hc_exit ?_
    refine hq_then_exit ?_
    refine hq_then_exit ?_
    refine hq_block_exit ?_
    refine hq_block_normal ?_
    refine hq_then ?_
    refine hc_region ?_
    refine hl_v rfl rfl rfl (rv_ev rfl) ?_
    refine hl_v rfl rfl rfl (rv_add rfl rfl rfl (by constructor <;> omega)) ?_
    refine hl_v rfl rfl rfl (rv_ev rfl) ?_
    refine hl_less (sx 0 rfl (sx 1 rfl (sx 2 rfl (sx 3 rfl (sx 4 rfl (sx 5 rfl (sx 6 rfl (sx 11 rfl (sx 22 rfl (sx 34 rfl (sub_nil _))))))))))) (.refl _) ?_
    refine hl_nil ?_
    exact hq_round3 (i + 1) u2 ys ⟨by omega, by rw [hy, show j = (x.n.ls.getD i lt0).xs.length by omega]; rfl⟩ (by omega) (sx 0 rfl (sx 1 rfl (sx 2 rfl (sx 3 rfl (sx 4 rfl (sx 5 rfl (sx 11 rfl (sub_nil _)))))))) ((.cons_cons _ (.cons_cons _ (.cons_cons _ (.cons_cons _ .slnil)))))
  ·
   refine hl_less (sx 0 rfl (sx 1 rfl (sx 2 rfl (sx 3 rfl (sx 4 rfl (sx 5 rfl (sx 11 rfl (sx 22 rfl (sub_nil _))))))))) (.refl _) ?_
   refine hl_nil ?_
   refine hq_then ?_
   refine hc_false rfl ?_
   refine hc_exit ?_
   refine hq_then_exit ?_
   refine hq_then_exit ?_
   refine hq_block_exit ?_
   refine hq_then ?_
   refine hc_seq ?_
   refine hc_seq ?_
   refine hc_region ?_
   refine hl_v rfl rfl rfl (rv_ev rfl) ?_
   refine hl_less (sx 0 rfl (sx 1 rfl (sx 2 rfl (sx 3 rfl (sx 4 rfl (sx 5 rfl (sx 7 rfl (sx 11 rfl (sx 22 rfl (sub_nil _)))))))))) (.refl _) ?_
   refine hl_nil ?_
   refine hq_then ?_
   refine hc_block ?_
   refine hc_loop3 (α := Nat) (β := Value) (γ := List Arc) (fun k u3 vs => [rowE 86 3 u3 vs.length (vs.flatMap arcC), boxE b4 #[.int .i64 (x.n.cnt + (nS x k : Int)), u3] 51, boxE b2 #[.int .i64 0, .slice none 0 0] 51, boxE b1 #[.int .i64 x.n.ins, x.n.sv, x.n.lv, x.n.ov, x.pv, x.qv, x.kv, x.av, x.bv, .int .i64 x.oi, .int .i64 x.ni] 40]) (fun k u3 vs => [(0, .agg #[.int .i64 x.n.ins, x.n.sv, x.n.lv, x.n.ov, x.pv, x.qv, x.kv, x.av, x.bv, .int .i64 x.oi, .int .i64 x.ni]), (1, .pointer (some ⟨b1, 0, none⟩)), (2, .pointer (some ⟨b2, 0, none⟩)), (3, .bool false), (4, .pointer (some ⟨b4, 0, none⟩)), (7, .int .i64 (k : Int)), (11, .bool false), (22, .bool false)]) (fun k u3 vs => k ≤ x.n.ss.length ∧ vs = arcS x k) (fun k u3 vs => x.n.ss.length - k) 0 _ zs ⟨Nat.zero_le _, by rw [hz, show i = x.n.ls.length by omega]; rfl⟩ (sx 0 rfl (sx 1 rfl (sx 2 rfl (sx 3 rfl (sx 4 rfl (sx 7 rfl (sx 11 rfl (sx 22 rfl (sub_nil _))))))))) ((.cons_cons _ (.cons_cons _ (.cons_cons _ (.cons_cons _ .slnil))))) ?_
   intro k u3 vs hi12
   obtain ⟨hk, hv⟩ := hi12
   have hvl : vs.length ≤ 1600 + nS x k := by rw [hv, arcS_len]; have := arcL_le hok.n x.n.ls.length (Nat.le_refl _); omega
   have hnk := nS_le hok.n k (by omega)
   refine hc_seq ?_
   refine hc_seq ?_
   refine hc_region ?_
   refine hl_v rfl rfl rfl (rv_ev rfl) ?_
   refine hl_v rfl rfl rfl (rv_field (k0 := 0) rfl (by kernel_rfl) rfl) ?_
   refine hl_v rfl rfl rfl (rv_field (k0 := 1) rfl (by kernel_rfl) rfl) ?_
   refine hl_v rfl rfl rfl (rv_load rfl (by kernel_rfl) rfl (box_cell 3 rfl rfl)) ?_
   refine hl_v rfl rfl rfl (rv_len rfl Try.underlying34 rfl (rd_old ((hr).n.sq.row))) ?_
   refine hl_lss rfl rfl rfl rfl rfl rfl (fun h13 => ?_) (fun h13 => ?_)
   ·
    refine hl_less (sx 0 rfl (sx 1 rfl (sx 2 rfl (sx 3 rfl (sx 4 rfl (sx 7 rfl (sx 11 rfl (sx 22 rfl (sx 72 rfl (sub_nil _)))))))))) (.refl _) ?_
    refine hl_nil ?_
    refine hq_then ?_
    refine hc_true rfl ?_
    refine hc_skip ?_
    refine hq_then ?_
    refine hc_seq ?_
    refine hc_block ?_
    refine hc_seq ?_
    refine hc_region ?_
    have hx5 := (hok.n.sq k (by omega)).1.len
    have hdk : (x.ds.getD k ir0).xs.length = (x.n.ss.getD k sq0).xs.length := by have := (hok.ds k (by omega)).1; omega
    refine hl_v rfl rfl rfl (rv_ev rfl) ?_
    refine hl_less (sx 0 rfl (sx 1 rfl (sx 2 rfl (sx 3 rfl (sx 4 rfl (sx 7 rfl (sx 8 rfl (sx 11 rfl (sx 22 rfl (sx 72 rfl (sub_nil _))))))))))) (.refl _) ?_
    refine hl_nil ?_
    refine hq_then ?_
    refine hc_block ?_
    refine hc_loop3 (α := Nat) (β := Value) (γ := List Arc) (fun q u4 ws => [rowE 86 3 u4 ws.length (ws.flatMap arcC), boxE b4 #[.int .i64 (x.n.cnt + ((nS x k + q : Nat) : Int)), u4] 51, boxE b2 #[.int .i64 0, .slice none 0 0] 51, boxE b1 #[.int .i64 x.n.ins, x.n.sv, x.n.lv, x.n.ov, x.pv, x.qv, x.kv, x.av, x.bv, .int .i64 x.oi, .int .i64 x.ni] 40]) (fun q u4 ws => [(0, .agg #[.int .i64 x.n.ins, x.n.sv, x.n.lv, x.n.ov, x.pv, x.qv, x.kv, x.av, x.bv, .int .i64 x.oi, .int .i64 x.ni]), (1, .pointer (some ⟨b1, 0, none⟩)), (2, .pointer (some ⟨b2, 0, none⟩)), (3, .bool false), (4, .pointer (some ⟨b4, 0, none⟩)), (7, .int .i64 (k : Int)), (8, .int .i64 (q : Int)), (11, .bool false), (22, .bool false), (72, .bool true)]) (fun q u4 ws => q ≤ (x.n.ss.getD k sq0).xs.length ∧ ws = arcT x k q) (fun q u4 ws => (x.n.ss.getD k sq0).xs.length - q) 0 _ vs ⟨Nat.zero_le _, by rw [hv, arcT_zero]⟩ (sx 0 rfl (sx 1 rfl (sx 2 rfl (sx 3 rfl (sx 4 rfl (sx 7 rfl (sx 8 rfl (sx 11 rfl (sx 22 rfl (sx 72 rfl (sub_nil _))))))))))) ((.cons_cons _ (.cons_cons _ (.cons_cons _ (.cons_cons _ .slnil))))) ?_
    intro q u4 ws hi14
    obtain ⟨hq, hw⟩ := hi14
    have hwl : ws.length ≤ 1600 + nS x k + q := by rw [hw, arcT_len, ← hv]; omega
    refine hc_seq ?_
    refine hc_seq ?_
    refine hc_region ?_
    refine hl_v rfl rfl rfl (rv_ev rfl) ?_
    refine hl_v rfl rfl rfl (rv_field (k0 := 0) rfl (by kernel_rfl) rfl) ?_
    refine hl_v rfl rfl rfl (rv_field (k0 := 1) rfl (by kernel_rfl) rfl) ?_
    refine hl_v rfl rfl rfl (rv_load rfl (by kernel_rfl) rfl (box_cell 3 rfl rfl)) ?_
    refine hl_v rfl rfl rfl (rv_ev rfl) ?_
    refine hl_v rfl rfl rfl (rv_index (s := 3) rfl Try.underlying34 (by kernel_rfl) rfl rfl (rd_old ((hr).n.sq.row)) (by omega) (by first | omega | (simp only [List.length_set]; omega))) ?_
    refine hl_v rfl rfl rfl (rv_fieldEl (k0 := 2) rfl (by kernel_rfl) rfl (rd_old ((hr).n.sq.row)) (by first | omega | (simp only [List.length_set]; omega))) ?_
    refine hl_v rfl rfl rfl (rv_loadEl (u := (x.n.ss.getD k sq0).iv) rfl (by kernel_rfl) rfl (rd_old ((hr).n.sq.row)) ((flat_at sqC 3 (fun _ => rfl) x.n.ss sq0 (show k < _ by first | omega | (simp only [List.length_set]; omega)) (by decide)).trans rfl)) ?_
    refine hl_v rfl rfl rfl (rv_len rfl Try.underlying24 rfl (rd_old ((hr).n.sq.at (d := sq0) (k := k) (by omega)))) ?_
    refine hl_lss rfl rfl rfl rfl rfl rfl (fun h15 => ?_) (fun h15 => ?_)
    ·
     refine hl_less (sx 0 rfl (sx 1 rfl (sx 2 rfl (sx 3 rfl (sx 4 rfl (sx 7 rfl (sx 8 rfl (sx 11 rfl (sx 22 rfl (sx 72 rfl (sx 84 rfl (sub_nil _)))))))))))) (.refl _) ?_
     refine hl_nil ?_
     refine hq_then ?_
     refine hc_true rfl ?_
     refine hc_skip ?_
     refine hq_then ?_
     refine hc_seq ?_
     refine hc_block ?_
     refine hc_seq ?_
     refine hc_draw (by kernel_rfl) 25 [0, 1, 2, 3, 4, 5, 6, 7, 8, 9, 10, 11, 12, 13, 14, 15, 16, 17, 18, 19, 20, 21, 22, 23, 24] (List.take 25 _) (List.drop 25 _) [[], [0], [], [2], [3], [], [4, 5], [6], [7], [], [8, 9], [10], [], [12], [], [14], [15], [], [16, 17], [18], [], [19, 20], [21], [11, 13, 22], [23]] [87, 88, 89, 90, 91, 92, 93, 94, 95, 96, 97, 98, 99, 100, 101, 102, 103, 104, 105, 106, 107, 108, 109, 110, 111] (fun i_ vs_ v_ p_ => match i_ with | 0 => v_ = .pointer (some ⟨b4, 0 + 1, none⟩) ∧ p_ = [] | 1 => v_ = u4 ∧ p_ = [] | 2 => v_ = .pointer (some ⟨b1, 0 + 0, none⟩) ∧ p_ = [] | 3 => v_ = .pointer (some ⟨b1, 0 + 0 + 1, none⟩) ∧ p_ = [] | 4 => v_ = x.n.sv ∧ p_ = [] | 5 => v_ = .int .i64 (k : Int) ∧ p_ = [] | 6 => v_ = elP x.n.sv (((k : Int)).toNat * 3) ∧ p_ = [] | 7 => v_ = elP x.n.sv (((k : Int)).toNat * 3 + 2) ∧ p_ = [] | 8 => v_ = (x.n.ss.getD k sq0).iv ∧ p_ = [] | 9 => v_ = .int .i64 (q : Int) ∧ p_ = [] | 10 => v_ = elP ((x.n.ss.getD k sq0).iv) (((q : Int)).toNat * 1) ∧ p_ = [] | 11 => v_ = .int .i64 (((x.n.ss.getD k sq0).xs).getD q 0) ∧ p_ = [] | 12 => v_ = .pointer (some ⟨b4, 0 + 0, none⟩) ∧ p_ = [] | 13 => v_ = .int .i64 (x.n.cnt + ((nS x k + q : Nat) : Int)) ∧ p_ = [] | 14 => v_ = .pointer (some ⟨b1, 0 + 4, none⟩) ∧ p_ = [] | 15 => v_ = .pointer (some ⟨b1, 0 + 4 + 1, none⟩) ∧ p_ = [] | 16 => v_ = x.qv ∧ p_ = [] | 17 => v_ = .int .i64 (k : Int) ∧ p_ = [] | 18 => v_ = elP x.qv (((k : Int)).toNat * 1) ∧ p_ = [] | 19 => v_ = (x.ds.getD k ir0).v ∧ p_ = [] | 20 => v_ = .int .i64 (q : Int) ∧ p_ = [] | 21 => v_ = elP ((x.ds.getD k ir0).v) (((q : Int)).toNat * 1) ∧ p_ = [] | 22 => v_ = .int .i64 (((x.ds.getD k ir0).xs).getD q 0) ∧ p_ = [] | 23 => v_ = .agg #[.int .i64 (((x.n.ss.getD k sq0).xs).getD q 0), .int .i64 (x.n.cnt + ((nS x k + q : Nat) : Int)), .int .i64 (((x.ds.getD k ir0).xs).getD q 0)] ∧ p_ = [] | 24 => IsRow_o 86 3 1 ([((x.n.ss.getD k sq0).xs).getD q 0, x.n.cnt + ((nS x k + q : Nat) : Int), ((x.ds.getD k ir0).xs).getD q 0].map (Value.int .i64)) v_ p_ | _ => True) (List.take_append_drop 25 _).symm (by kernel_rfl) (by kernel_rfl) rfl rfl ?_ ?_
     ·
      refine ⟨?_, ?_, ?_, ?_, ?_, ?_, ?_, ?_, ?_, ?_, ?_, ?_, ?_, ?_, ?_, ?_, ?_, ?_, ?_, ?_, ?_, ?_, ?_, ?_, ?_, trivial⟩
      ·
       intro vf pf hR
       refine Or.inl ⟨rfl, ?_⟩
       refine rq_less (sx 4 rfl (sub_nil _)) (List.sublist_append_right _ _) ?_
       exact rq_v (rv_field (k0 := 1) rfl (by kernel_rfl) rfl)
      ·
       intro vf pf hR
       have e0 : (vf 0) = .pointer (some ⟨b4, 0 + 1, none⟩) ∧ (pf 0) = [] := hR 0 (by decide)
       refine Or.inl ⟨rfl, ?_⟩
       refine rq_less (sx 87 (congrArg some e0.1) (sub_nil _)) (List.sublist_append_right _ _) ?_
       exact rq_v (rv_load rfl (by kernel_rfl) rfl (box_cell 1 rfl rfl))
      ·
       intro vf pf hR
       refine Or.inl ⟨rfl, ?_⟩
       refine rq_less (sx 1 rfl (sub_nil _)) (List.sublist_append_right _ _) ?_
       exact rq_v (rv_field (k0 := 0) rfl (by kernel_rfl) rfl)
      ·
       intro vf pf hR
       have e2 : (vf 2) = .pointer (some ⟨b1, 0 + 0, none⟩) ∧ (pf 2) = [] := hR 2 (by decide)
       refine Or.inl ⟨rfl, ?_⟩
       refine rq_less (sx 89 (congrArg some e2.1) (sub_nil _)) (List.sublist_append_right _ _) ?_
       exact rq_v (rv_field (k0 := 1) rfl (by kernel_rfl) rfl)
      ·
       intro vf pf hR
       have e3 : (vf 3) = .pointer (some ⟨b1, 0 + 0 + 1, none⟩) ∧ (pf 3) = [] := hR 3 (by decide)
       refine Or.inl ⟨rfl, ?_⟩
       refine rq_less (sx 90 (congrArg some e3.1) (sub_nil _)) (List.sublist_append_right _ _) ?_
       exact rq_v (rv_load rfl (by kernel_rfl) rfl (box_cell 3 rfl rfl))
      ·
       intro vf pf hR
       refine Or.inl ⟨rfl, ?_⟩
       refine rq_less (sx 7 rfl (sub_nil _)) (List.sublist_append_right _ _) ?_
       exact rq_v (rv_ev rfl)
      ·
       intro vf pf hR
       have e4 : (vf 4) = x.n.sv ∧ (pf 4) = [] := hR 4 (by decide)
       have e5 : (vf 5) = .int .i64 (k : Int) ∧ (pf 5) = [] := hR 5 (by decide)
       refine Or.inl ⟨rfl, ?_⟩
       refine rq_less (sx 91 (congrArg some e4.1) (sx 92 (congrArg some e5.1) (sub_nil _))) (List.sublist_append_right _ _) ?_
       exact rq_v (rv_index (s := 3) rfl Try.underlying34 (by kernel_rfl) rfl rfl (rd_old ((hr).n.sq.row)) (by omega) (by first | omega | (simp only [List.length_set]; omega)))
      ·
       intro vf pf hR
       have e6 : (vf 6) = elP x.n.sv (((k : Int)).toNat * 3) ∧ (pf 6) = [] := hR 6 (by decide)
       refine Or.inl ⟨rfl, ?_⟩
       refine rq_less (sx 93 (congrArg some e6.1) (sub_nil _)) (List.sublist_append_right _ _) ?_
       exact rq_v (rv_fieldEl (k0 := 2) rfl (by kernel_rfl) rfl (rd_old ((hr).n.sq.row)) (by first | omega | (simp only [List.length_set]; omega)))
      ·
       intro vf pf hR
       have e7 : (vf 7) = elP x.n.sv (((k : Int)).toNat * 3 + 2) ∧ (pf 7) = [] := hR 7 (by decide)
       refine Or.inl ⟨rfl, ?_⟩
       refine rq_less (sx 94 (congrArg some e7.1) (sub_nil _)) (List.sublist_append_right _ _) ?_
       exact rq_v (rv_loadEl (u := (x.n.ss.getD k sq0).iv) rfl (by kernel_rfl) rfl (rd_old ((hr).n.sq.row)) ((flat_at sqC 3 (fun _ => rfl) x.n.ss sq0 (show k < _ by first | omega | (simp only [List.length_set]; omega)) (by decide)).trans rfl))
      ·
       intro vf pf hR
       refine Or.inl ⟨rfl, ?_⟩
       refine rq_less (sx 8 rfl (sub_nil _)) (List.sublist_append_right _ _) ?_
       exact rq_v (rv_ev rfl)
      ·
       intro vf pf hR
       have e8 : (vf 8) = (x.n.ss.getD k sq0).iv ∧ (pf 8) = [] := hR 8 (by decide)
       have e9 : (vf 9) = .int .i64 (q : Int) ∧ (pf 9) = [] := hR 9 (by decide)
       refine Or.inl ⟨rfl, ?_⟩
       refine rq_less (sx 95 (congrArg some e8.1) (sx 96 (congrArg some e9.1) (sub_nil _))) (List.sublist_append_right _ _) ?_
       exact rq_v (rv_index (s := 1) rfl Try.underlying24 (by kernel_rfl) rfl rfl (rd_old ((hr).n.sq.at (d := sq0) (k := k) (by omega))) (by omega) (by first | omega | (simp only [List.length_set]; omega)))
      ·
       intro vf pf hR
       have e10 : (vf 10) = elP ((x.n.ss.getD k sq0).iv) (((q : Int)).toNat * 1) ∧ (pf 10) = [] := hR 10 (by decide)
       refine Or.inl ⟨rfl, ?_⟩
       refine rq_less (sx 97 (congrArg some e10.1) (sub_nil _)) (List.sublist_append_right _ _) ?_
       exact rq_v (rv_loadEl (u := .int .i64 (((x.n.ss.getD k sq0).xs).getD q 0)) rfl (by kernel_rfl) rfl (rd_old ((hr).n.sq.at (d := sq0) (k := k) (by omega))) (ints_at1 (show _ < ((x.n.ss.getD k sq0).xs).length by first | omega | (simp only [List.length_set]; omega))))
      ·
       intro vf pf hR
       refine Or.inl ⟨rfl, ?_⟩
       refine rq_less (sx 4 rfl (sub_nil _)) (List.sublist_append_right _ _) ?_
       exact rq_v (rv_field (k0 := 0) rfl (by kernel_rfl) rfl)
      ·
       intro vf pf hR
       have e12 : (vf 12) = .pointer (some ⟨b4, 0 + 0, none⟩) ∧ (pf 12) = [] := hR 12 (by decide)
       refine Or.inl ⟨rfl, ?_⟩
       refine rq_less (sx 99 (congrArg some e12.1) (sub_nil _)) (List.sublist_append_right _ _) ?_
       exact rq_v (rv_load rfl (by kernel_rfl) rfl (box_cell 1 rfl rfl))
      ·
       intro vf pf hR
       refine Or.inl ⟨rfl, ?_⟩
       refine rq_less (sx 1 rfl (sub_nil _)) (List.sublist_append_right _ _) ?_
       exact rq_v (rv_field (k0 := 4) rfl (by kernel_rfl) rfl)
      ·
       intro vf pf hR
       have e14 : (vf 14) = .pointer (some ⟨b1, 0 + 4, none⟩) ∧ (pf 14) = [] := hR 14 (by decide)
       refine Or.inl ⟨rfl, ?_⟩
       refine rq_less (sx 101 (congrArg some e14.1) (sub_nil _)) (List.sublist_append_right _ _) ?_
       exact rq_v (rv_field (k0 := 1) rfl (by kernel_rfl) rfl)
      ·
       intro vf pf hR
       have e15 : (vf 15) = .pointer (some ⟨b1, 0 + 4 + 1, none⟩) ∧ (pf 15) = [] := hR 15 (by decide)
       refine Or.inl ⟨rfl, ?_⟩
       refine rq_less (sx 102 (congrArg some e15.1) (sub_nil _)) (List.sublist_append_right _ _) ?_
       exact rq_v (rv_load rfl (by kernel_rfl) rfl (box_cell 3 rfl rfl))
      ·
       intro vf pf hR
       refine Or.inl ⟨rfl, ?_⟩
       refine rq_less (sx 7 rfl (sub_nil _)) (List.sublist_append_right _ _) ?_
       exact rq_v (rv_ev rfl)
      ·
       intro vf pf hR
       have e16 : (vf 16) = x.qv ∧ (pf 16) = [] := hR 16 (by decide)
       have e17 : (vf 17) = .int .i64 (k : Int) ∧ (pf 17) = [] := hR 17 (by decide)
       refine Or.inl ⟨rfl, ?_⟩
       refine rq_less (sx 103 (congrArg some e16.1) (sx 104 (congrArg some e17.1) (sub_nil _))) (List.sublist_append_right _ _) ?_
       exact rq_v (rv_index (s := 1) rfl Try.underlying27 (by kernel_rfl) rfl rfl (rd_old ((hr).ds.row)) (by omega) (by first | omega | (simp only [List.length_set]; omega)))
      ·
       intro vf pf hR
       have e18 : (vf 18) = elP x.qv (((k : Int)).toNat * 1) ∧ (pf 18) = [] := hR 18 (by decide)
       refine Or.inl ⟨rfl, ?_⟩
       refine rq_less (sx 105 (congrArg some e18.1) (sub_nil _)) (List.sublist_append_right _ _) ?_
       exact rq_v (rv_loadEl (u := (x.ds.getD k ir0).v) rfl (by kernel_rfl) rfl (rd_old ((hr).ds.row)) (flat_one irC (fun r => r.v) (fun _ => rfl) x.ds ir0 (show k < _ by first | omega | (simp only [List.length_set]; omega))))
      ·
       intro vf pf hR
       refine Or.inl ⟨rfl, ?_⟩
       refine rq_less (sx 8 rfl (sub_nil _)) (List.sublist_append_right _ _) ?_
       exact rq_v (rv_ev rfl)
      ·
       intro vf pf hR
       have e19 : (vf 19) = (x.ds.getD k ir0).v ∧ (pf 19) = [] := hR 19 (by decide)
       have e20 : (vf 20) = .int .i64 (q : Int) ∧ (pf 20) = [] := hR 20 (by decide)
       refine Or.inl ⟨rfl, ?_⟩
       refine rq_less (sx 106 (congrArg some e19.1) (sx 107 (congrArg some e20.1) (sub_nil _))) (List.sublist_append_right _ _) ?_
       exact rq_v (rv_index (s := 1) rfl Try.underlying24 (by kernel_rfl) rfl rfl (rd_old ((hr).ds.at (d := ir0) (k := k) (by omega))) (by omega) (by first | omega | (simp only [List.length_set]; omega)))
      ·
       intro vf pf hR
       have e21 : (vf 21) = elP ((x.ds.getD k ir0).v) (((q : Int)).toNat * 1) ∧ (pf 21) = [] := hR 21 (by decide)
       refine Or.inl ⟨rfl, ?_⟩
       refine rq_less (sx 108 (congrArg some e21.1) (sub_nil _)) (List.sublist_append_right _ _) ?_
       exact rq_v (rv_loadEl (u := .int .i64 (((x.ds.getD k ir0).xs).getD q 0)) rfl (by kernel_rfl) rfl (rd_old ((hr).ds.at (d := ir0) (k := k) (by omega))) (ints_at1 (show _ < ((x.ds.getD k ir0).xs).length by first | omega | (simp only [List.length_set]; omega))))
      ·
       intro vf pf hR
       have e11 : (vf 11) = .int .i64 (((x.n.ss.getD k sq0).xs).getD q 0) ∧ (pf 11) = [] := hR 11 (by decide)
       have e13 : (vf 13) = .int .i64 (x.n.cnt + ((nS x k + q : Nat) : Int)) ∧ (pf 13) = [] := hR 13 (by decide)
       have e22 : (vf 22) = .int .i64 (((x.ds.getD k ir0).xs).getD q 0) ∧ (pf 22) = [] := hR 22 (by decide)
       refine Or.inl ⟨rfl, ?_⟩
       refine rq_less (sx 98 (congrArg some e11.1) (sx 100 (congrArg some e13.1) (sx 109 (congrArg some e22.1) (sub_nil _)))) (List.sublist_append_right _ _) ?_
       exact rq_v (rv_build (cs := #[.int .i64 (((x.n.ss.getD k sq0).xs).getD q 0), .int .i64 (x.n.cnt + ((nS x k + q : Nat) : Int)), .int .i64 (((x.ds.getD k ir0).xs).getD q 0)]) rfl rfl (by kernel_rfl))
      ·
       intro vf pf hR
       have e23 : (vf 23) = .agg #[.int .i64 (((x.n.ss.getD k sq0).xs).getD q 0), .int .i64 (x.n.cnt + ((nS x k + q : Nat) : Int)), .int .i64 (((x.ds.getD k ir0).xs).getD q 0)] ∧ (pf 23) = [] := hR 23 (by decide)
       refine Or.inl ⟨rfl, ?_⟩
       refine rq_less (sx 110 (congrArg some e23.1) (sub_nil _)) (List.sublist_append_right _ _) ?_
       exact rq_buildSlice (z := .agg #[.int .i64 0, .int .i64 0, .int .i64 0]) (s := 3) (cs := ([((x.n.ss.getD k sq0).xs).getD q 0, x.n.cnt + ((nS x k + q : Nat) : Int), ((x.ds.getD k ir0).xs).getD q 0].map (Value.int .i64))) rfl Try.underlying49 (by kernel_rfl) (by decide) rfl (by kernel_rfl) rfl
     ·
      intro vf pf hR
      have e1 : (vf 1) = u4 ∧ (pf 1) = [] := hR 1 (by decide)
      have e24 : IsRow_o 86 3 1 ([((x.n.ss.getD k sq0).xs).getD q 0, x.n.cnt + ((nS x k + q : Nat) : Int), ((x.ds.getD k ir0).xs).getD q 0].map (Value.int .i64)) (vf 24) (pf 24) := hR 24 (by decide)
      obtain ⟨g16, v24, p24⟩ := e24
      have q0 : (vf 0) = .pointer (some ⟨b4, 0 + 1, none⟩) ∧ (pf 0) = [] := hR 0 (by decide)
      have q1 : (vf 1) = u4 ∧ (pf 1) = [] := hR 1 (by decide)
      have q2 : (vf 2) = .pointer (some ⟨b1, 0 + 0, none⟩) ∧ (pf 2) = [] := hR 2 (by decide)
      have q3 : (vf 3) = .pointer (some ⟨b1, 0 + 0 + 1, none⟩) ∧ (pf 3) = [] := hR 3 (by decide)
      have q4 : (vf 4) = x.n.sv ∧ (pf 4) = [] := hR 4 (by decide)
      have q5 : (vf 5) = .int .i64 (k : Int) ∧ (pf 5) = [] := hR 5 (by decide)
      have q6 : (vf 6) = elP x.n.sv (((k : Int)).toNat * 3) ∧ (pf 6) = [] := hR 6 (by decide)
      have q7 : (vf 7) = elP x.n.sv (((k : Int)).toNat * 3 + 2) ∧ (pf 7) = [] := hR 7 (by decide)
      have q8 : (vf 8) = (x.n.ss.getD k sq0).iv ∧ (pf 8) = [] := hR 8 (by decide)
      have q9 : (vf 9) = .int .i64 (q : Int) ∧ (pf 9) = [] := hR 9 (by decide)
      have q10 : (vf 10) = elP ((x.n.ss.getD k sq0).iv) (((q : Int)).toNat * 1) ∧ (pf 10) = [] := hR 10 (by decide)
      have q11 : (vf 11) = .int .i64 (((x.n.ss.getD k sq0).xs).getD q 0) ∧ (pf 11) = [] := hR 11 (by decide)
      have q12 : (vf 12) = .pointer (some ⟨b4, 0 + 0, none⟩) ∧ (pf 12) = [] := hR 12 (by decide)
      have q13 : (vf 13) = .int .i64 (x.n.cnt + ((nS x k + q : Nat) : Int)) ∧ (pf 13) = [] := hR 13 (by decide)
      have q14 : (vf 14) = .pointer (some ⟨b1, 0 + 4, none⟩) ∧ (pf 14) = [] := hR 14 (by decide)
      have q15 : (vf 15) = .pointer (some ⟨b1, 0 + 4 + 1, none⟩) ∧ (pf 15) = [] := hR 15 (by decide)
      have q16 : (vf 16) = x.qv ∧ (pf 16) = [] := hR 16 (by decide)
      have q17 : (vf 17) = .int .i64 (k : Int) ∧ (pf 17) = [] := hR 17 (by decide)
      have q18 : (vf 18) = elP x.qv (((k : Int)).toNat * 1) ∧ (pf 18) = [] := hR 18 (by decide)
      have q19 : (vf 19) = (x.ds.getD k ir0).v ∧ (pf 19) = [] := hR 19 (by decide)
      have q20 : (vf 20) = .int .i64 (q : Int) ∧ (pf 20) = [] := hR 20 (by decide)
      have q21 : (vf 21) = elP ((x.ds.getD k ir0).v) (((q : Int)).toNat * 1) ∧ (pf 21) = [] := hR 21 (by decide)
      have q22 : (vf 22) = .int .i64 (((x.ds.getD k ir0).xs).getD q 0) ∧ (pf 22) = [] := hR 22 (by decide)
      have q23 : (vf 23) = .agg #[.int .i64 (((x.n.ss.getD k sq0).xs).getD q 0), .int .i64 (x.n.cnt + ((nS x k + q : Nat) : Int)), .int .i64 (((x.ds.getD k ir0).xs).getD q 0)] ∧ (pf 23) = [] := hR 23 (by decide)
      refine hl_less (l' := [rowE 86 3 (.slice (some ⟨g16, 0, none⟩) 1 1) 1 ([((x.n.ss.getD k sq0).xs).getD q 0, x.n.cnt + ((nS x k + q : Nat) : Int), ((x.ds.getD k ir0).xs).getD q 0].map (Value.int .i64)), rowE 86 3 u4 ws.length (ws.flatMap arcC), boxE b4 #[.int .i64 (x.n.cnt + ((nS x k + q : Nat) : Int)), u4] 51, boxE b2 #[.int .i64 0, .slice none 0 0] 51, boxE b1 #[.int .i64 x.n.ins, x.n.sv, x.n.lv, x.n.ov, x.pv, x.qv, x.kv, x.av, x.bv, .int .i64 x.oi, .int .i64 x.ni] 40]) (sx 0 rfl (sx 1 rfl (sx 2 rfl (sx 3 rfl (sx 4 rfl (sx 7 rfl (sx 8 rfl (sx 11 rfl (sx 22 rfl (sx 72 rfl (sx 84 rfl (sx 88 (congrArg some e1.1) (sx 111 (congrArg some v24) (sub_nil _)))))))))))))) (by first | (simp only [p24, v24, q0.2, q1.2, q2.2, q3.2, q4.2, q5.2, q6.2, q7.2, q8.2, q9.2, q10.2, q11.2, q12.2, q13.2, q14.2, q15.2, q16.2, q17.2, q18.2, q19.2, q20.2, q21.2, q22.2, q23.2, List.flatMap_cons, List.flatMap_nil, List.append_nil, List.nil_append, List.cons_append]; exact List.Sublist.refl _) | simp [p24, v24, q0.2, q1.2, q2.2, q3.2, q4.2, q5.2, q6.2, q7.2, q8.2, q9.2, q10.2, q11.2, q12.2, q13.2, q14.2, q15.2, q16.2, q17.2, q18.2, q19.2, q20.2, q21.2, q22.2, q23.2]) ?_
      simp only [List.drop_succ_cons, List.drop_zero]
      refine hl_append (i := 1) (z := .agg #[.int .i64 0, .int .i64 0, .int .i64 0]) (bytes := 24) (n' := (ws ++ [Arc.mk ((x.n.ss.getD k sq0).xs.getD q 0) (x.n.cnt + ((nS x k + q : Nat) : Int)) ((x.ds.getD k ir0).xs.getD q 0)]).length) (xs' := ((ws ++ [Arc.mk ((x.n.ss.getD k sq0).xs.getD q 0) (x.n.cnt + ((nS x k + q : Nat) : Int)) ((x.ds.getD k ir0).xs.getD q 0)]).flatMap arcC)) (L := fun v17 => [rowE 86 3 (.slice (some ⟨g16, 0, none⟩) 1 1) 1 ([((x.n.ss.getD k sq0).xs).getD q 0, x.n.cnt + ((nS x k + q : Nat) : Int), ((x.ds.getD k ir0).xs).getD q 0].map (Value.int .i64)), rowE 86 3 v17 ((ws ++ [Arc.mk ((x.n.ss.getD k sq0).xs.getD q 0) (x.n.cnt + ((nS x k + q : Nat) : Int)) ((x.ds.getD k ir0).xs.getD q 0)]).length) ((ws ++ [Arc.mk ((x.n.ss.getD k sq0).xs.getD q 0) (x.n.cnt + ((nS x k + q : Nat) : Int)) ((x.ds.getD k ir0).xs.getD q 0)]).flatMap arcC), boxE b4 #[.int .i64 (x.n.cnt + ((nS x k + q : Nat) : Int)), u4] 51, boxE b2 #[.int .i64 0, .slice none 0 0] 51, boxE b1 #[.int .i64 x.n.ins, x.n.sv, x.n.lv, x.n.ov, x.pv, x.qv, x.kv, x.av, x.bv, .int .i64 x.oi, .int .i64 x.ni] 40]) rfl rfl rfl rfl Try.underlying49 (by kernel_rfl) (by kernel_rfl) rfl rfl rfl (rd_row 0 rfl) (ints_one _) (by first | omega | (simp only [List.length_append, List.length_cons, List.length_nil]; omega)) (len_app ws [Arc.mk ((x.n.ss.getD k sq0).xs.getD q 0) (x.n.cnt + ((nS x k + q : Nat) : Int)) ((x.ds.getD k ir0).xs.getD q 0)]) (flat_app1 arcC ws (Arc.mk ((x.n.ss.getD k sq0).xs.getD q 0) (x.n.cnt + ((nS x k + q : Nat) : Int)) ((x.ds.getD k ir0).xs.getD q 0)) _ rfl) (fun _ => rfl) ?_
      intro v17
      refine hl_v rfl rfl rfl (rv_field (k0 := 1) rfl (by kernel_rfl) rfl) ?_
      refine hl_one (i := 1) rfl (fun ho18 => ?_)
      refine hl_storeBox (i := 2) (l' := [rowE 86 3 (.slice (some ⟨g16, 0, none⟩) 1 1) 1 ([((x.n.ss.getD k sq0).xs).getD q 0, x.n.cnt + ((nS x k + q : Nat) : Int), ((x.ds.getD k ir0).xs).getD q 0].map (Value.int .i64)), rowE 86 3 v17 ((ws ++ [Arc.mk ((x.n.ss.getD k sq0).xs.getD q 0) (x.n.cnt + ((nS x k + q : Nat) : Int)) ((x.ds.getD k ir0).xs.getD q 0)]).length) ((ws ++ [Arc.mk ((x.n.ss.getD k sq0).xs.getD q 0) (x.n.cnt + ((nS x k + q : Nat) : Int)) ((x.ds.getD k ir0).xs.getD q 0)]).flatMap arcC), boxE b4 #[.int .i64 (x.n.cnt + ((nS x k + q : Nat) : Int)), v17] 51, boxE b2 #[.int .i64 0, .slice none 0 0] 51, boxE b1 #[.int .i64 x.n.ins, x.n.sv, x.n.lv, x.n.ov, x.pv, x.qv, x.kv, x.av, x.bv, .int .i64 x.oi, .int .i64 x.ni] 40]) rfl rfl rfl (by kernel_rfl) rfl rfl ho18 rfl rfl rfl ?_
      refine hl_less (sx 0 rfl (sx 1 rfl (sx 2 rfl (sx 3 rfl (sx 4 rfl (sx 7 rfl (sx 8 rfl (sx 11 rfl (sx 22 rfl (sx 72 rfl (sx 84 rfl (sub_nil _)))))))))))) (.refl _) ?_
      refine hl_nil ?_
      refine hq_then ?_
      refine hc_region ?_
      refine hl_v rfl rfl rfl (rv_field (k0 := 0) rfl (by kernel_rfl) rfl) ?_
      refine hl_v rfl rfl rfl (rv_load rfl (by kernel_rfl) rfl (box_cell 2 rfl rfl)) ?_
      refine hl_v rfl rfl rfl (rv_add rfl rfl rfl (by constructor <;> omega)) ?_
      refine hl_v rfl rfl rfl (rv_field (k0 := 0) rfl (by kernel_rfl) rfl) ?_
      refine hl_storeBox (i := 2) (l' := [rowE 86 3 (.slice (some ⟨g16, 0, none⟩) 1 1) 1 ([((x.n.ss.getD k sq0).xs).getD q 0, x.n.cnt + ((nS x k + q : Nat) : Int), ((x.ds.getD k ir0).xs).getD q 0].map (Value.int .i64)), rowE 86 3 v17 ((ws ++ [Arc.mk ((x.n.ss.getD k sq0).xs.getD q 0) (x.n.cnt + ((nS x k + q : Nat) : Int)) ((x.ds.getD k ir0).xs.getD q 0)]).length) ((ws ++ [Arc.mk ((x.n.ss.getD k sq0).xs.getD q 0) (x.n.cnt + ((nS x k + q : Nat) : Int)) ((x.ds.getD k ir0).xs.getD q 0)]).flatMap arcC), boxE b4 #[.int .i64 ((x.n.cnt + ((nS x k + q : Nat) : Int)) + 1), v17] 51, boxE b2 #[.int .i64 0, .slice none 0 0] 51, boxE b1 #[.int .i64 x.n.ins, x.n.sv, x.n.lv, x.n.ov, x.pv, x.qv, x.kv, x.av, x.bv, .int .i64 x.oi, .int .i64 x.ni] 40]) rfl rfl rfl (by kernel_rfl) rfl rfl rfl rfl rfl rfl ?_
      refine hl_less (sx 0 rfl (sx 1 rfl (sx 2 rfl (sx 3 rfl (sx 4 rfl (sx 7 rfl (sx 8 rfl (sx 11 rfl (sx 22 rfl (sx 72 rfl (sx 84 rfl (sub_nil _)))))))))))) (.refl _) ?_
      refine hl_nil ?_
      refine hq_block_normal ?_
      refine hq_then ?_
      refine hc_region ?_
      refine hl_v rfl rfl rfl (rv_ev rfl) ?_
      refine hl_v rfl rfl rfl (rv_add rfl rfl rfl (by constructor <;> omega)) ?_
      have hx5 := (hok.n.sq k (by omega)).1.len
      have hdk : (x.ds.getD k ir0).xs.length = (x.n.ss.getD k sq0).xs.length := by have := (hok.ds k (by omega)).1; omega
      refine hl_v rfl rfl rfl (rv_ev rfl) ?_
      refine hl_less (sx 0 rfl (sx 1 rfl (sx 2 rfl (sx 3 rfl (sx 4 rfl (sx 7 rfl (sx 8 rfl (sx 11 rfl (sx 22 rfl (sx 72 rfl (sx 84 rfl (sub_nil _)))))))))))) (.refl _) ?_
      refine hl_nil ?_
      rw [show (x.n.cnt + ((nS x k + q : Nat) : Int)) + 1 = x.n.cnt + ((nS x k + (q + 1) : Nat) : Int) by omega]
      exact hq_round3 (q + 1) v17 (ws ++ [Arc.mk ((x.n.ss.getD k sq0).xs.getD q 0) (x.n.cnt + ((nS x k + q : Nat) : Int)) ((x.ds.getD k ir0).xs.getD q 0)]) ⟨by omega, by rw [arcT_succ, hw]; congr 2; (try simp only [Arc.mk.injEq, and_true, true_and]); (try omega)⟩ (by omega) (sx 0 rfl (sx 1 rfl (sx 2 rfl (sx 3 rfl (sx 4 rfl (sx 7 rfl (sx 8 rfl (sx 11 rfl (sx 22 rfl (sx 72 rfl (sub_nil _))))))))))) ((.cons _ (.cons_cons _ (.cons_cons _ (.cons_cons _ (.cons_cons _ .slnil))))))
    ·
     refine hl_less (sx 0 rfl (sx 1 rfl (sx 2 rfl (sx 3 rfl (sx 4 rfl (sx 7 rfl (sx 8 rfl (sx 11 rfl (sx 22 rfl (sx 72 rfl (sx 84 rfl (sub_nil _)))))))))))) (.refl _) ?_
     refine hl_nil ?_
     refine hq_then ?_
     refine hc_false rfl ?_
     refine hc_exit ?_
     refine hq_then_exit ?_
     refine hq_then_exit ?_
     refine hq_block_exit ?_
     refine hq_block_normal ?_
     refine hq_then ?_
     refine hc_region ?_
     refine hl_v rfl rfl rfl (rv_ev rfl) ?_
     refine hl_v rfl rfl rfl (rv_add rfl rfl rfl (by constructor <;> omega)) ?_
     refine hl_v rfl rfl rfl (rv_ev rfl) ?_
     refine hl_less (sx 0 rfl (sx 1 rfl (sx 2 rfl (sx 3 rfl (sx 4 rfl (sx 7 rfl (sx 8 rfl (sx 11 rfl (sx 22 rfl (sx 72 rfl (sx 84 rfl (sub_nil _)))))))))))) (.refl _) ?_
     refine hl_nil ?_
     have hqe : nS x k + q = nS x (k + 1) := by show _ = nS x k + (x.n.ss.getD k sq0).xs.length; omega
     rw [hqe]
     exact hq_round3 (k + 1) u4 ws ⟨by omega, by rw [hw, show q = (x.n.ss.getD k sq0).xs.length by omega]; rfl⟩ (by omega) (sx 0 rfl (sx 1 rfl (sx 2 rfl (sx 3 rfl (sx 4 rfl (sx 7 rfl (sx 11 rfl (sx 22 rfl (sub_nil _))))))))) ((.cons_cons _ (.cons_cons _ (.cons_cons _ (.cons_cons _ .slnil)))))
   ·
    refine hl_less (sx 0 rfl (sx 1 rfl (sx 2 rfl (sx 3 rfl (sx 4 rfl (sx 7 rfl (sx 11 rfl (sx 22 rfl (sx 72 rfl (sub_nil _)))))))))) (.refl _) ?_
    refine hl_nil ?_
    refine hq_then ?_
    refine hc_false rfl ?_
    refine hc_exit ?_
    refine hq_then_exit ?_
    refine hq_then_exit ?_
    refine hq_block_exit ?_
    refine hq_then ?_
    refine hc_seq ?_
    refine hc_region ?_
    refine hl_v rfl rfl rfl (rv_loadN (cs := [.int .i64 (x.n.cnt + (nS x k : Int)), u3]) rfl (by kernel_rfl) (by kernel_rfl) rfl rfl (box_part 1 rfl 0 rfl)) ?_
    refine hl_one (i := 0) rfl (fun ho19 => ?_)
    refine hl_storeBoxN (i := 2) (off := 0) (us := [.int .i64 (x.n.cnt + (nS x k : Int)), u3])  (l' := [rowE 86 3 u3 vs.length (vs.flatMap arcC), boxE b4 #[.int .i64 (x.n.cnt + (nS x k : Int)), u3] 51, boxE b2 #[.int .i64 (x.n.cnt + (nS x k : Int)), u3] 51, boxE b1 #[.int .i64 x.n.ins, x.n.sv, x.n.lv, x.n.ov, x.pv, x.qv, x.kv, x.av, x.bv, .int .i64 x.oi, .int .i64 x.ni] 40]) rfl rfl rfl (by kernel_rfl) rfl rfl rfl (all_cons rfl (all_cons ho19 all_nil)) rfl rfl rfl ?_
    refine hl_v rfl rfl rfl (rv_ev rfl) ?_
    refine hl_less (sx 0 rfl (sx 1 rfl (sx 2 rfl (sx 3 rfl (sx 4 rfl (sx 7 rfl (sx 11 rfl (sx 22 rfl (sx 72 rfl (sub_nil _)))))))))) (.refl _) ?_
    refine hl_nil ?_
    refine hq_then ?_
    refine hc_ret ?_
    have hke : k = x.n.ss.length := by omega
    have hR1 : vs = arcR x := by unfold arcR; rw [if_pos (pB_yes hok), hv, hke]
    have hR2 : x.n.cnt + (nS x k : Int) = nodR x := by unfold nodR; rw [if_pos (pB_yes hok), hke]
    refine hq_oneT (i := 0) rfl (fun hoA => ?_)
    exact hq_retM (rs := [.cell 2 51, .tmp 3]) (vs := [.agg #[.int .i64 (x.n.cnt + (nS x k : Int)), u3], .bool true]) (post := [rowE 86 3 u3 vs.length (vs.flatMap arcC)]) rfl ⟨⟨b2, 0, [.int .i64 (x.n.cnt + (nS x k : Int)), u3], rfl, rfl, by kernel_rfl, by kernel_rfl, box_part 2 rfl 0 rfl⟩, rfl, trivial⟩ rfl ((.cons_cons _ (.cons _ (.cons _ (.cons _ .slnil))))) ⟨_, by rw [← hR2, pB_yes hok]; rfl, by rw [← hR1], hoA⟩
 ·
  have hno := of_pBn h3
  refine hl_v rfl rfl rfl (rv_ev rfl) ?_
  refine hl_less (sx 0 rfl (sx 1 rfl (sx 2 rfl (sx 3 rfl (sx 11 rfl (sub_nil _)))))) (.refl _) ?_
  refine hl_nil ?_
  refine hq_then ?_
  refine hc_true rfl ?_
  refine hc_seq ?_
  refine hc_region ?_
  refine hl_v rfl rfl rfl (rv_build (cs := #[.int .i64 0, .slice none 0 0]) rfl rfl (by kernel_rfl)) ?_
  refine hl_storeBoxN (i := 0) (off := 0) (us := [.int .i64 0, .slice none 0 0])  (l' := [boxE b2 #[.int .i64 0, .slice none 0 0] 51, boxE b1 #[.int .i64 x.n.ins, x.n.sv, x.n.lv, x.n.ov, x.pv, x.qv, x.kv, x.av, x.bv, .int .i64 x.oi, .int .i64 x.ni] 40]) rfl rfl rfl (by kernel_rfl) rfl rfl rfl (all_cons rfl (all_cons rfl all_nil)) rfl rfl rfl ?_
  refine hl_v rfl rfl rfl (rv_ev rfl) ?_
  refine hl_less (sx 0 rfl (sx 1 rfl (sx 2 rfl (sx 3 rfl (sx 11 rfl (sub_nil _)))))) (.refl _) ?_
  refine hl_nil ?_
  refine hq_then ?_
  refine hc_ret ?_
  refine hq_then_ret ?_
  refine hq_conv [rowE 86 3 (.slice none 0 0) (([] : List Arc).length) (([] : List Arc).flatMap arcC), boxE b2 #[.int .i64 0, .slice none 0 0] 51, boxE b1 #[.int .i64 x.n.ins, x.n.sv, x.n.lv, x.n.ov, x.pv, x.qv, x.kv, x.av, x.bv, .int .i64 x.oi, .int .i64 x.ni] 40] (fun w hm => hm.nilRow 86 3) ?_
  have hR1 : arcR x = [] := by unfold arcR; rw [pB_no hno]; rfl
  have hR2 : nodR x = 0 := by unfold nodR; rw [pB_no hno]; rfl
  exact hq_retM (rs := [.cell 2 51, .tmp 3]) (vs := [.agg #[.int .i64 0, .slice none 0 0], .bool false]) (post := [rowE 86 3 (.slice none 0 0) (([] : List Arc).length) (([] : List Arc).flatMap arcC)]) rfl ⟨⟨b2, 0, [.int .i64 0, .slice none 0 0], rfl, rfl, by kernel_rfl, by kernel_rfl, box_part 1 rfl 0 rfl⟩, rfl, trivial⟩ rfl ((.cons_cons _ (.cons _ (.cons _ .slnil)))) ⟨_, by rw [hR2, pB_no hno]; rfl, by rw [hR1], rfl⟩
open Go.RowKit
theorem arcR_le (x : Td) : (arcR x).length ≤ 2000 := by
  unfold arcR
  by_cases h : TdOk x
  · rw [if_pos (pB_yes h), arcS_len]; have := nS_le h.n x.n.ss.length (Nat.le_refl _); have := arcL_le h.n x.n.ls.length (Nat.le_refl _); have := h.n.sz.s; have := h.n.sz.l; omega
  · rw [pB_no h]; simp
set_option maxHeartbeats 4000000 in
set_option maxRecDepth 100000 in
theorem markTimingGraph_mut (n : Int) (es : List Arc) (k : Int) (v : Value) (w0 : World) (l : List HP) (w : World) (hm0 : Mem w0 (rowE 86 3 v es.length (es.flatMap arcC) :: l) w) (hk : -100000000000000 ≤ k ∧ k ≤ 100000000000000) (hl : es.length ≤ 100000000) (hv1 : v.oneCell' = true) :
  Calls Try.prog 26 #[.agg #[.int .i64 n, v], .int .i64 k] w (fun e_ w_ => ∃ v_ p_, e_ = .returned v_ ∧ (fun u_ p_ => u_ = .int .i64 (k + 3 * es.length) ∧ p_ = rowE 86 3 v es.length ((glL (arM k) es.length).flatMap arcC)) v_ p_ ∧ Mem w0 (p_ :: l) w_) := by
 refine calls_hcM (N := 10) (args := [.agg #[.int .i64 n, v], .int .i64 k]) Try.func26 rfl rfl hm0 ?_
 refine hc_less _ (sx 0 rfl (sx 1 rfl (sub_nil _))) (.refl _) ?_
 refine hc_seq ?_
 refine hc_region ?_
 refine hl_box rfl rfl rfl (rq_box rfl rfl) ?_
 intro b1
 refine hl_v rfl rfl rfl (rv_ev rfl) ?_
 refine hl_less (sx 0 rfl (sx 1 rfl (sx 2 rfl (sx 4 rfl (sub_nil _))))) (.refl _) ?_
 refine hl_nil ?_
 refine hq_then ?_
 refine hc_seq ?_
 refine hc_region ?_
 refine hl_v rfl rfl rfl (rv_field (k0 := 1) rfl (by kernel_rfl) rfl) ?_
 refine hl_v rfl rfl rfl (rv_load rfl (by kernel_rfl) rfl (box_cell 0 rfl rfl)) ?_
 refine hl_v rfl rfl rfl (rv_ev rfl) ?_
 refine hl_callM (R := (fun u_ p_ => u_ = .int .i64 (k + 3 * es.length) ∧ p_ = rowE 86 3 v es.length ((glL (arM k) es.length).flatMap arcC))) 1 rfl rfl (by kernel_rfl) rfl rfl (fun l' w hm => markArcS_mut es k v _ _ w hm hk hl) ?_
 intro v2 p3 hR4
 obtain ⟨rfl, rfl⟩ := hR4
 refine hl_eqL (l' := (boxE b1 #[.int .i64 n, v] 51 :: rowE 86 3 v es.length ((glL (arM k) es.length).flatMap arcC) :: l)) rfl ?_
 refine hl_v rfl rfl rfl (rv_ev rfl) ?_
 refine hl_less (sx 0 rfl (sx 1 rfl (sx 2 rfl (sx 4 rfl (sub_nil _))))) (.refl _) ?_
 refine hl_nil ?_
 refine hq_then ?_
 refine hc_seq ?_
 refine hc_region ?_
 refine hl_v rfl rfl rfl (rv_ev rfl) ?_
 refine hl_v rfl rfl rfl (rv_ev rfl) ?_
 refine hl_less (sx 0 rfl (sx 1 rfl (sx 2 rfl (sx 4 rfl (sub_nil _))))) (.refl _) ?_
 refine hl_nil ?_
 refine hq_then ?_
 refine hc_ret ?_
 exact hq_retMut (p' := rowE 86 3 v es.length ((glL (arM k) es.length).flatMap arcC)) rfl rfl (by first | exact (.refl _) | exact (.cons _ (.cons_cons _ (.refl _)))) ⟨rfl, rfl⟩
set_option maxHeartbeats 4000000 in
set_option maxRecDepth 100000 in
theorem heldTimingGraph_ans (m : Int) (n : Nat) (k : Int) (v : Value) (w : World) (hv : RdsW w v 3 n ((glL (arM k) n).flatMap arcC)) (hk : 0 ≤ k ∧ k ≤ 100000000000000) (hl : n ≤ 100000000) :
  Calls Try.prog 27 #[.agg #[.int .i64 m, v], .int .i64 k] w (Ans w (.int .i64 (k + 3 * n))) := by
 refine calls_hc (N := 12) (args := [.agg #[.int .i64 m, v], .int .i64 k]) Try.func27 rfl rfl ?_
 refine hc_less _ (sx 0 rfl (sx 1 rfl (sub_nil _))) (.refl _) ?_
 refine hc_seq ?_
 refine hc_region ?_
 refine hl_box rfl rfl rfl (rq_box rfl rfl) ?_
 intro b1
 refine hl_v rfl rfl rfl (rv_ev rfl) ?_
 refine hl_less (sx 0 rfl (sx 1 rfl (sx 2 rfl (sx 4 rfl (sub_nil _))))) (.refl _) ?_
 refine hl_nil ?_
 refine hq_then ?_
 refine hc_seq ?_
 refine hc_region ?_
 refine hl_v rfl rfl rfl (rv_field (k0 := 1) rfl (by kernel_rfl) rfl) ?_
 refine hl_v rfl rfl rfl (rv_load rfl (by kernel_rfl) rfl (box_cell 0 rfl rfl)) ?_
 refine hl_v rfl rfl rfl (rv_ev rfl) ?_
 refine hl_callV rfl rfl rfl (rq_call (by kernel_rfl) rfl (fun w hm => ret_ans (heldArcS_ans n k v w (hv.below hm.bel) (by omega) hl))) ?_
 refine hl_v rfl rfl rfl (rv_ev rfl) ?_
 refine hl_less (sx 0 rfl (sx 1 rfl (sx 2 rfl (sx 4 rfl (sub_nil _))))) (.refl _) ?_
 refine hl_nil ?_
 refine hq_then ?_
 refine hc_seq ?_
 refine hc_seq ?_
 refine hc_region ?_
 refine hl_v rfl rfl rfl (rv_ev rfl) ?_
 refine hl_lss rfl rfl rfl rfl rfl rfl (fun h2 => ?_) (fun h2 => ?_)
 ·
  refine hl_less (sx 0 rfl (sx 1 rfl (sx 2 rfl (sx 4 rfl (sx 10 rfl (sub_nil _)))))) (.refl _) ?_
  refine hl_nil ?_
  refine hq_then ?_
  refine hc_true rfl ?_
  refine hc_seq ?_
  refine hc_region ?_
  refine hl_v rfl rfl rfl (rv_ev rfl) ?_
  refine hl_less (sx 0 rfl (sx 1 rfl (sx 2 rfl (sx 4 rfl (sx 10 rfl (sub_nil _)))))) (.refl _) ?_
  refine hl_nil ?_
  refine hq_then ?_
  refine hc_ret ?_
  refine hq_then_ret ?_
  exfalso
  omega
 ·
  refine hl_less (sx 0 rfl (sx 1 rfl (sx 2 rfl (sx 4 rfl (sx 10 rfl (sub_nil _)))))) (.refl _) ?_
  refine hl_nil ?_
  refine hq_then ?_
  refine hc_false rfl ?_
  refine hc_skip ?_
  refine hq_then ?_
  refine hc_seq ?_
  refine hc_region ?_
  refine hl_v rfl rfl rfl (rv_ev rfl) ?_
  refine hl_v rfl rfl rfl (rv_ev rfl) ?_
  refine hl_less (sx 0 rfl (sx 1 rfl (sx 2 rfl (sx 4 rfl (sx 10 rfl (sub_nil _)))))) (.refl _) ?_
  refine hl_nil ?_
  refine hq_then ?_
  refine hc_ret ?_
  exact hq_ans rfl rfl rfl
set_option maxHeartbeats 4000000 in
set_option maxRecDepth 100000 in
theorem walk_FnExactTimingOf (x : Td) (w : World) (hr : RdsTd w x) :
  Calls Try.prog 6 #[.agg #[.int .i64 x.n.ins, x.n.sv, x.n.lv, x.n.ov, x.pv, x.qv, x.kv, x.av, x.bv, .int .i64 x.oi, .int .i64 x.ni]] w (Ans w (.bool true)) := by
 refine calls_hc (N := 96) (args := [.agg #[.int .i64 x.n.ins, x.n.sv, x.n.lv, x.n.ov, x.pv, x.qv, x.kv, x.av, x.bv, .int .i64 x.oi, .int .i64 x.ni]]) Try.func6 rfl rfl ?_
 refine hc_less _ (sx 0 rfl (sub_nil _)) (.refl _) ?_
 refine hc_seq ?_
 refine hc_region ?_
 refine hl_box rfl rfl rfl (rq_box rfl rfl) ?_
 intro b1
 refine hl_v rfl rfl rfl (rv_ev rfl) ?_
 refine hl_less (sx 0 rfl (sx 1 rfl (sx 2 rfl (sub_nil _)))) (.refl _) ?_
 refine hl_nil ?_
 refine hq_then ?_
 refine hc_seq ?_
 refine hc_region ?_
 refine hl_v rfl rfl rfl (rv_ev rfl) ?_
 refine hl_less (sx 0 rfl (sx 1 rfl (sx 2 rfl (sx 3 rfl (sub_nil _))))) (.refl _) ?_
 refine hl_nil ?_
 refine hq_then ?_
 refine hc_seq ?_
 refine hc_region ?_
 refine hl_v rfl rfl rfl (rv_loadN (cs := [.int .i64 x.n.ins, x.n.sv, x.n.lv, x.n.ov, x.pv, x.qv, x.kv, x.av, x.bv, .int .i64 x.oi, .int .i64 x.ni]) rfl (by kernel_rfl) (by kernel_rfl) rfl rfl (box_part 0 rfl 0 rfl)) ?_
 refine hl_v rfl rfl rfl (rv_ev rfl) ?_
 refine hl_q rfl rfl rfl (rq_call (by kernel_rfl) rfl (fun w hm => szTimed_ret x 1048576 w (hr.below hm.bel) (by omega))) ?_
 intro v2 p3 hR4
 obtain ⟨rfl, rhR4, rfl, hszx⟩ := hR4
 refine hl_v rfl rfl rfl (rv_ev rfl) ?_
 refine hl_less (sx 0 rfl (sx 1 rfl (sx 2 rfl (sx 3 rfl (sub_nil _))))) (.refl _) ?_
 refine hl_nil ?_
 refine hq_then ?_
 refine hc_seq ?_
 refine hc_seq ?_
 refine hc_region ?_
 refine hl_v rfl rfl rfl (rv_ev rfl) ?_
 refine hl_lss rfl rfl rfl rfl rfl rfl (fun h5 => ?_) (fun h5 => ?_)
 ·
  refine hl_less (sx 0 rfl (sx 1 rfl (sx 2 rfl (sx 3 rfl (sx 18 rfl (sub_nil _)))))) (.refl _) ?_
  refine hl_nil ?_
  refine hq_then ?_
  refine hc_true rfl ?_
  refine hc_seq ?_
  refine hc_region ?_
  refine hl_v rfl rfl rfl (rv_ev rfl) ?_
  refine hl_less (sx 0 rfl (sx 1 rfl (sx 2 rfl (sx 3 rfl (sx 18 rfl (sub_nil _)))))) (.refl _) ?_
  refine hl_nil ?_
  refine hq_then ?_
  refine hc_ret ?_
  refine hq_then_ret ?_
  exact hq_ans rfl rfl rfl
 ·
  refine hl_less (sx 0 rfl (sx 1 rfl (sx 2 rfl (sx 3 rfl (sx 18 rfl (sub_nil _)))))) (.refl _) ?_
  refine hl_nil ?_
  refine hq_then ?_
  refine hc_false rfl ?_
  refine hc_skip ?_
  refine hq_then ?_
  refine hc_seq ?_
  refine hc_region ?_
  have hz := hszx (by omega)
  have hrl := arcR_le x
  refine hl_v rfl rfl rfl (rv_loadN (cs := [.int .i64 x.n.ins, x.n.sv, x.n.lv, x.n.ov, x.pv, x.qv, x.kv, x.av, x.bv, .int .i64 x.oi, .int .i64 x.ni]) rfl (by kernel_rfl) (by kernel_rfl) rfl rfl (box_part 0 rfl 0 rfl)) ?_
  refine hl_q rfl rfl rfl (rq_call (by kernel_rfl) rfl (fun w hm => toTimed_ret x w (hr.below hm.bel) hz)) ?_
  intro v6 p7 hR8
  obtain ⟨yhR8, rfl, rfl, hshR8, hohR8⟩ := hR8
  have hzhR8 := hz.same hshR8
  refine hl_q rfl rfl rfl (rq_call (by kernel_rfl) rfl (fun w hm => by have h9 := specTimingOf_ret yhR8 w (td_rds 0 rfl w hm); rw [arcR_same hshR8, nodR_same hshR8, pB_same hshR8] at h9; exact h9)) ?_
  intro v9 p10 hR11
  obtain ⟨uhR11, rfl, rfl, ouhR11⟩ := hR11
  refine hl_v rfl rfl rfl (rv_ev rfl) ?_
  refine hl_v rfl rfl rfl (rv_ev rfl) ?_
  refine hl_v rfl rfl rfl (rv_ev rfl) ?_
  refine hl_bool (fun h12 => ?_) (fun h12 => ?_)
  ·
   refine hl_box rfl rfl rfl (rq_alloc (z := .agg #[.int .i64 0, .slice none 0 0]) rfl (by kernel_rfl)) ?_
   intro b13
   refine hl_storeBoxN (i := 0) (off := 0) (us := [.int .i64 (nodR x), uhR11])  (l' := [boxE b13 #[.int .i64 (nodR x), uhR11] 51, rowE 86 3 uhR11 ((arcR x).length) ((arcR x).flatMap arcC), tdE yhR8, boxE b1 #[.int .i64 x.n.ins, x.n.sv, x.n.lv, x.n.ov, x.pv, x.qv, x.kv, x.av, x.bv, .int .i64 x.oi, .int .i64 x.ni] 31]) rfl rfl rfl (by kernel_rfl) rfl rfl rfl (all_cons rfl (all_cons ouhR11 all_nil)) rfl rfl rfl ?_
   refine hl_v rfl rfl rfl (rv_ev rfl) ?_
   refine hl_less (sx 0 rfl (sx 1 rfl (sx 2 rfl (sx 3 rfl (sx 4 rfl (sx 5 rfl (sx 18 rfl (sub_nil _)))))))) (.refl _) ?_
   refine hl_nil ?_
   refine hq_then ?_
   refine hc_seq ?_
   refine hc_region ?_
   refine hl_v rfl rfl rfl (rv_loadN (cs := [.int .i64 x.n.ins, x.n.sv, x.n.lv, x.n.ov, x.pv, x.qv, x.kv, x.av, x.bv, .int .i64 x.oi, .int .i64 x.ni]) rfl (by kernel_rfl) (by kernel_rfl) rfl rfl (box_part 3 rfl 0 rfl)) ?_
   refine hl_q rfl rfl rfl (rq_call (by kernel_rfl) rfl (fun w hm => toTimed_ret x w (hr.below hm.bel) hz)) ?_
   intro v14 p15 hR16
   obtain ⟨yhR16, rfl, rfl, hshR16, hohR16⟩ := hR16
   have hzhR16 := hz.same hshR16
   refine hl_box rfl rfl rfl (rq_alloc (z := .agg #[.int .i64 0, .slice none 0 0, .slice none 0 0, .slice none 0 0, .slice none 0 0, .slice none 0 0, .slice none 0 0, .slice none 0 0, .slice none 0 0, .int .i64 0, .int .i64 0]) rfl (by kernel_rfl)) ?_
   intro b17
   refine hl_storeBoxN (i := 0) (off := 0) (us := [.int .i64 yhR16.n.ins, yhR16.n.sv, yhR16.n.lv, yhR16.n.ov, yhR16.pv, yhR16.qv, yhR16.kv, yhR16.av, yhR16.bv, .int .i64 yhR16.oi, .int .i64 yhR16.ni]) (cs' := #[.int .i64 yhR16.n.ins, yhR16.n.sv, yhR16.n.lv, yhR16.n.ov, yhR16.pv, yhR16.qv, yhR16.kv, yhR16.av, yhR16.bv, .int .i64 yhR16.oi, .int .i64 yhR16.ni]) (l' := [boxE b17 #[.int .i64 yhR16.n.ins, yhR16.n.sv, yhR16.n.lv, yhR16.n.ov, yhR16.pv, yhR16.qv, yhR16.kv, yhR16.av, yhR16.bv, .int .i64 yhR16.oi, .int .i64 yhR16.ni] 40, tdE yhR16, boxE b13 #[.int .i64 (nodR x), uhR11] 51, rowE 86 3 uhR11 ((arcR x).length) ((arcR x).flatMap arcC), tdE yhR8, boxE b1 #[.int .i64 x.n.ins, x.n.sv, x.n.lv, x.n.ov, x.pv, x.qv, x.kv, x.av, x.bv, .int .i64 x.oi, .int .i64 x.ni] 31]) rfl rfl rfl (by kernel_rfl) rfl rfl rfl (all_cons rfl (all_cons hohR16.sv (all_cons hohR16.lv (all_cons hohR16.ov (all_cons hohR16.pv (all_cons hohR16.qv (all_cons hohR16.kv (all_cons hohR16.av (all_cons hohR16.bv (all_cons rfl (all_cons rfl all_nil))))))))))) rfl (by kernel_rfl) rfl ?_
   refine hl_less (sx 0 rfl (sx 1 rfl (sx 2 rfl (sx 3 rfl (sx 4 rfl (sx 5 rfl (sx 6 rfl (sx 18 rfl (sub_nil _))))))))) (.refl _) ?_
   refine hl_nil ?_
   refine hq_then ?_
   refine hc_seq ?_
   refine hc_region ?_
   refine hl_v rfl rfl rfl (rv_loadN (cs := [.int .i64 yhR16.n.ins, yhR16.n.sv, yhR16.n.lv, yhR16.n.ov, yhR16.pv, yhR16.qv, yhR16.kv, yhR16.av, yhR16.bv, .int .i64 yhR16.oi, .int .i64 yhR16.ni]) rfl (by kernel_rfl) (by kernel_rfl) rfl rfl (box_part 0 rfl 0 rfl)) ?_
   refine hl_q rfl rfl rfl (rq_call (by kernel_rfl) rfl (fun w hm => by have h9 := implTimingOf_ret yhR16 w (td_rds 1 rfl w hm); rw [arcR_same hshR16, nodR_same hshR16, pB_same hshR16] at h9; exact h9)) ?_
   intro v18 p19 hR20
   obtain ⟨uhR20, rfl, rfl, ouhR20⟩ := hR20
   refine hl_v rfl rfl rfl (rv_ev rfl) ?_
   refine hl_v rfl rfl rfl (rv_ev rfl) ?_
   refine hl_v rfl rfl rfl (rv_ev rfl) ?_
   refine hl_bool (fun h21 => ?_) (fun h21 => absurd ((h12).symm.trans h21) (by decide))
   refine hl_box rfl rfl rfl (rq_alloc (z := .agg #[.int .i64 0, .slice none 0 0]) rfl (by kernel_rfl)) ?_
   intro b22
   refine hl_storeBoxN (i := 0) (off := 0) (us := [.int .i64 (nodR x), uhR20])  (l' := [boxE b22 #[.int .i64 (nodR x), uhR20] 51, rowE 86 3 uhR20 ((arcR x).length) ((arcR x).flatMap arcC), boxE b17 #[.int .i64 yhR16.n.ins, yhR16.n.sv, yhR16.n.lv, yhR16.n.ov, yhR16.pv, yhR16.qv, yhR16.kv, yhR16.av, yhR16.bv, .int .i64 yhR16.oi, .int .i64 yhR16.ni] 40, tdE yhR16, boxE b13 #[.int .i64 (nodR x), uhR11] 51, rowE 86 3 uhR11 ((arcR x).length) ((arcR x).flatMap arcC), tdE yhR8, boxE b1 #[.int .i64 x.n.ins, x.n.sv, x.n.lv, x.n.ov, x.pv, x.qv, x.kv, x.av, x.bv, .int .i64 x.oi, .int .i64 x.ni] 31]) rfl rfl rfl (by kernel_rfl) rfl rfl rfl (all_cons rfl (all_cons ouhR20 all_nil)) rfl rfl rfl ?_
   refine hl_v rfl rfl rfl (rv_ev rfl) ?_
   refine hl_less (sx 0 rfl (sx 1 rfl (sx 2 rfl (sx 3 rfl (sx 4 rfl (sx 5 rfl (sx 6 rfl (sx 7 rfl (sx 8 rfl (sx 18 rfl (sub_nil _))))))))))) (.refl _) ?_
   refine hl_nil ?_
   refine hq_then ?_
   refine hc_seq ?_
   refine hc_seq ?_
   refine hc_region ?_
   refine hl_v rfl rfl rfl (rv_loadN (cs := [.int .i64 (nodR x), uhR20]) rfl (by kernel_rfl) (by kernel_rfl) rfl rfl (box_part 0 rfl 0 rfl)) ?_
   refine hl_v rfl rfl rfl (rv_loadN (cs := [.int .i64 (nodR x), uhR11]) rfl (by kernel_rfl) (by kernel_rfl) rfl rfl (box_part 4 rfl 0 rfl)) ?_
   refine hl_callV rfl rfl rfl (rq_call (by kernel_rfl) rfl (fun w hm => ret_ans (eqTimingGraph_yes (nodR x) (arcR x) _ _ w ((rd_row 1 rfl) w hm) ((rd_row 5 rfl) w hm)))) ?_
   refine hl_v rfl rfl rfl (rv_ev rfl) ?_
   refine hl_v rfl rfl rfl (rv_ev rfl) ?_
   refine hl_v rfl rfl rfl (rv_ev rfl) ?_
   refine hl_v rfl rfl rfl (rv_ev rfl) ?_
   refine hl_v rfl rfl rfl (rv_bneq (m := true) (n := true) rfl Try.underlying4 rfl rfl) ?_
   refine hl_v rfl rfl rfl (rv_ev rfl) ?_
   refine hl_less (sx 0 rfl (sx 1 rfl (sx 2 rfl (sx 3 rfl (sx 4 rfl (sx 5 rfl (sx 6 rfl (sx 7 rfl (sx 8 rfl (sx 18 rfl (sx 40 rfl (sub_nil _)))))))))))) (.refl _) ?_
   refine hl_nil ?_
   refine hq_then ?_
   refine hc_false rfl ?_
   refine hc_skip ?_
   refine hq_then ?_
   refine hc_seq ?_
   refine hc_seq ?_
   refine hc_draw (by kernel_rfl) 5 [0, 1, 2, 3, 4] (List.take 5 _) (List.drop 5 _) [[], [], [1], [0, 2], [2, 3]] [41, 42, 43, 44, 45] (fun i_ vs_ v_ p_ => match i_ with | 0 => v_ = .agg #[.int .i64 yhR16.n.ins, yhR16.n.sv, yhR16.n.lv, yhR16.n.ov, yhR16.pv, yhR16.qv, yhR16.kv, yhR16.av, yhR16.bv, .int .i64 yhR16.oi, .int .i64 yhR16.ni] ∧ p_ = [] | 1 => v_ = .agg #[.int .i64 x.n.ins, x.n.sv, x.n.lv, x.n.ov, x.pv, x.qv, x.kv, x.av, x.bv, .int .i64 x.oi, .int .i64 x.ni] ∧ p_ = [] | 2 => (fun v_ p_ => ∃ y : Td, v_ = y.agg ∧ p_ = [tdE y] ∧ Same x y ∧ OneTd y) v_ p_ | 3 => v_ = .bool true ∧ p_ = [] | 4 => v_ = .bool false ∧ p_ = [] | _ => True) (List.take_append_drop 5 _).symm (by kernel_rfl) (by kernel_rfl) rfl rfl ?_ ?_
   ·
    refine ⟨?_, ?_, ?_, ?_, ?_, trivial⟩
    ·
     intro vf pf hR
     refine Or.inl ⟨rfl, ?_⟩
     refine rq_less (sx 6 rfl (sub_nil _)) (List.sublist_append_right _ _) ?_
     exact rq_v (rv_loadN (cs := [.int .i64 yhR16.n.ins, yhR16.n.sv, yhR16.n.lv, yhR16.n.ov, yhR16.pv, yhR16.qv, yhR16.kv, yhR16.av, yhR16.bv, .int .i64 yhR16.oi, .int .i64 yhR16.ni]) rfl (by kernel_rfl) (by kernel_rfl) rfl rfl (box_part 2 rfl 0 rfl))
    ·
     intro vf pf hR
     refine Or.inl ⟨rfl, ?_⟩
     refine rq_less (sx 1 rfl (sub_nil _)) (List.sublist_append_right _ _) ?_
     exact rq_v (rv_loadN (cs := [.int .i64 x.n.ins, x.n.sv, x.n.lv, x.n.ov, x.pv, x.qv, x.kv, x.av, x.bv, .int .i64 x.oi, .int .i64 x.ni]) rfl (by kernel_rfl) (by kernel_rfl) rfl rfl (box_part 7 rfl 0 rfl))
    ·
     intro vf pf hR
     have e1 : (vf 1) = .agg #[.int .i64 x.n.ins, x.n.sv, x.n.lv, x.n.ov, x.pv, x.qv, x.kv, x.av, x.bv, .int .i64 x.oi, .int .i64 x.ni] ∧ (pf 1) = [] := hR 1 (by decide)
     refine Or.inl ⟨rfl, ?_⟩
     refine rq_less (sx 42 (congrArg some e1.1) (sub_nil _)) (List.sublist_append_right _ _) ?_
     exact rq_call (by kernel_rfl) rfl (fun w hm => toTimed_ret x w (hr.below hm.bel) hz)
    ·
     intro vf pf hR
     have e0 : (vf 0) = .agg #[.int .i64 yhR16.n.ins, yhR16.n.sv, yhR16.n.lv, yhR16.n.ov, yhR16.pv, yhR16.qv, yhR16.kv, yhR16.av, yhR16.bv, .int .i64 yhR16.oi, .int .i64 yhR16.ni] ∧ (pf 0) = [] := hR 0 (by decide)
     have e2 : (fun v_ p_ => ∃ y : Td, v_ = y.agg ∧ p_ = [tdE y] ∧ Same x y ∧ OneTd y) (vf 2) (pf 2) := hR 2 (by decide)
     obtain ⟨v23, v2⟩ : ∃ x, vf 2 = x := ⟨_, rfl⟩
     obtain ⟨p24, p2⟩ : ∃ x, pf 2 = x := ⟨_, rfl⟩
     have hR25 := e2
     rw [v2, p2] at hR25
     obtain ⟨yhR25, rfl, rfl, hshR25, hohR25⟩ := hR25
     have hzhR25 := hz.same hshR25
     refine Or.inl ⟨rfl, ?_⟩
     refine rq_less (l' := [tdE yhR25, boxE b22 #[.int .i64 (nodR x), uhR20] 51, rowE 86 3 uhR20 ((arcR x).length) ((arcR x).flatMap arcC), boxE b17 #[.int .i64 yhR16.n.ins, yhR16.n.sv, yhR16.n.lv, yhR16.n.ov, yhR16.pv, yhR16.qv, yhR16.kv, yhR16.av, yhR16.bv, .int .i64 yhR16.oi, .int .i64 yhR16.ni] 40, tdE yhR16, boxE b13 #[.int .i64 (nodR x), uhR11] 51, rowE 86 3 uhR11 ((arcR x).length) ((arcR x).flatMap arcC), tdE yhR8, boxE b1 #[.int .i64 x.n.ins, x.n.sv, x.n.lv, x.n.ov, x.pv, x.qv, x.kv, x.av, x.bv, .int .i64 x.oi, .int .i64 x.ni] 31]) (sx 41 (congrArg some e0.1) (sx 43 (congrArg some v2) (sub_nil _))) (by first | (simp only [p2, v2, e0.2, List.flatMap_cons, List.flatMap_nil, List.append_nil, List.nil_append, List.cons_append]; exact List.Sublist.refl _) | simp [p2, v2, e0.2]) ?_
     exact (rq_call (by kernel_rfl) rfl (fun w hm => ret_ans (eqTimed_yes yhR16 yhR25 w (td_rds 4 rfl w hm) (td_rds 0 rfl w hm) (hshR25.symm.trans hshR16) hzhR16)))
    ·
     intro vf pf hR
     have e2 : (fun v_ p_ => ∃ y : Td, v_ = y.agg ∧ p_ = [tdE y] ∧ Same x y ∧ OneTd y) (vf 2) (pf 2) := hR 2 (by decide)
     obtain ⟨v23, v2⟩ : ∃ x, vf 2 = x := ⟨_, rfl⟩
     obtain ⟨p24, p2⟩ : ∃ x, pf 2 = x := ⟨_, rfl⟩
     have hR25 := e2
     rw [v2, p2] at hR25
     obtain ⟨yhR25, rfl, rfl, hshR25, hohR25⟩ := hR25
     have hzhR25 := hz.same hshR25
     have e3 : (vf 3) = .bool true ∧ (pf 3) = [] := hR 3 (by decide)
     refine Or.inl ⟨rfl, ?_⟩
     refine rq_less (l' := [tdE yhR25, boxE b22 #[.int .i64 (nodR x), uhR20] 51, rowE 86 3 uhR20 ((arcR x).length) ((arcR x).flatMap arcC), boxE b17 #[.int .i64 yhR16.n.ins, yhR16.n.sv, yhR16.n.lv, yhR16.n.ov, yhR16.pv, yhR16.qv, yhR16.kv, yhR16.av, yhR16.bv, .int .i64 yhR16.oi, .int .i64 yhR16.ni] 40, tdE yhR16, boxE b13 #[.int .i64 (nodR x), uhR11] 51, rowE 86 3 uhR11 ((arcR x).length) ((arcR x).flatMap arcC), tdE yhR8, boxE b1 #[.int .i64 x.n.ins, x.n.sv, x.n.lv, x.n.ov, x.pv, x.qv, x.kv, x.av, x.bv, .int .i64 x.oi, .int .i64 x.ni] 31]) (sx 44 (congrArg some e3.1) (sub_nil _)) (by first | (simp only [p2, v2, e3.2, List.flatMap_cons, List.flatMap_nil, List.append_nil, List.nil_append, List.cons_append]; exact List.Sublist.refl _) | simp [p2, v2, e3.2]) ?_
     exact rq_v (rv_ev rfl)
   ·
    intro vf pf hR
    have e2 : (fun v_ p_ => ∃ y : Td, v_ = y.agg ∧ p_ = [tdE y] ∧ Same x y ∧ OneTd y) (vf 2) (pf 2) := hR 2 (by decide)
    obtain ⟨v23, v2⟩ : ∃ x, vf 2 = x := ⟨_, rfl⟩
    obtain ⟨p24, p2⟩ : ∃ x, pf 2 = x := ⟨_, rfl⟩
    have hR25 := e2
    rw [v2, p2] at hR25
    obtain ⟨yhR25, rfl, rfl, hshR25, hohR25⟩ := hR25
    have hzhR25 := hz.same hshR25
    have e4 : (vf 4) = .bool false ∧ (pf 4) = [] := hR 4 (by decide)
    have q0 : (vf 0) = .agg #[.int .i64 yhR16.n.ins, yhR16.n.sv, yhR16.n.lv, yhR16.n.ov, yhR16.pv, yhR16.qv, yhR16.kv, yhR16.av, yhR16.bv, .int .i64 yhR16.oi, .int .i64 yhR16.ni] ∧ (pf 0) = [] := hR 0 (by decide)
    have q1 : (vf 1) = .agg #[.int .i64 x.n.ins, x.n.sv, x.n.lv, x.n.ov, x.pv, x.qv, x.kv, x.av, x.bv, .int .i64 x.oi, .int .i64 x.ni] ∧ (pf 1) = [] := hR 1 (by decide)
    have q3 : (vf 3) = .bool true ∧ (pf 3) = [] := hR 3 (by decide)
    have q4 : (vf 4) = .bool false ∧ (pf 4) = [] := hR 4 (by decide)
    refine hl_less (l' := [tdE yhR25, boxE b22 #[.int .i64 (nodR x), uhR20] 51, rowE 86 3 uhR20 ((arcR x).length) ((arcR x).flatMap arcC), boxE b17 #[.int .i64 yhR16.n.ins, yhR16.n.sv, yhR16.n.lv, yhR16.n.ov, yhR16.pv, yhR16.qv, yhR16.kv, yhR16.av, yhR16.bv, .int .i64 yhR16.oi, .int .i64 yhR16.ni] 40, tdE yhR16, boxE b13 #[.int .i64 (nodR x), uhR11] 51, rowE 86 3 uhR11 ((arcR x).length) ((arcR x).flatMap arcC), tdE yhR8, boxE b1 #[.int .i64 x.n.ins, x.n.sv, x.n.lv, x.n.ov, x.pv, x.qv, x.kv, x.av, x.bv, .int .i64 x.oi, .int .i64 x.ni] 31]) (sx 0 rfl (sx 1 rfl (sx 2 rfl (sx 3 rfl (sx 4 rfl (sx 5 rfl (sx 6 rfl (sx 7 rfl (sx 8 rfl (sx 18 rfl (sx 40 rfl (sx 45 (congrArg some e4.1) (sub_nil _))))))))))))) (by first | (simp only [p2, v2, q0.2, q1.2, q3.2, q4.2, List.flatMap_cons, List.flatMap_nil, List.append_nil, List.nil_append, List.cons_append]; exact List.Sublist.refl _) | simp [p2, v2, q0.2, q1.2, q3.2, q4.2]) ?_
    simp only [List.drop_succ_cons, List.drop_zero]
    refine hl_less (sx 0 rfl (sx 1 rfl (sx 2 rfl (sx 3 rfl (sx 4 rfl (sx 5 rfl (sx 6 rfl (sx 7 rfl (sx 8 rfl (sx 18 rfl (sx 40 rfl (sx 45 rfl (sub_nil _))))))))))))) (.refl _) ?_
    refine hl_nil ?_
    refine hq_then ?_
    refine hc_false rfl ?_
    refine hc_skip ?_
    refine hq_then ?_
    refine hc_seq ?_
    refine hc_region ?_
    refine hl_v rfl rfl rfl (rv_ev rfl) ?_
    refine hl_less (sx 0 rfl (sx 1 rfl (sx 2 rfl (sx 3 rfl (sx 4 rfl (sx 5 rfl (sx 6 rfl (sx 7 rfl (sx 8 rfl (sx 9 rfl (sx 18 rfl (sx 40 rfl (sx 45 rfl (sub_nil _)))))))))))))) (.refl _) ?_
    refine hl_nil ?_
    refine hq_then ?_
    refine hc_seq ?_
    refine hc_region ?_
    refine hl_v rfl rfl rfl (rv_loadN (cs := [.int .i64 yhR16.n.ins, yhR16.n.sv, yhR16.n.lv, yhR16.n.ov, yhR16.pv, yhR16.qv, yhR16.kv, yhR16.av, yhR16.bv, .int .i64 yhR16.oi, .int .i64 yhR16.ni]) rfl (by kernel_rfl) (by kernel_rfl) rfl rfl (box_part 3 rfl 0 rfl)) ?_
    refine hl_v rfl rfl rfl (rv_ev rfl) ?_
    refine hl_callM (R := (fun u_ p_ => ∃ q : Int, u_ = .int .i64 q ∧ 1 ≤ q ∧ q ≤ 1 + 30000000000000)) 4 rfl rfl (by kernel_rfl) rfl rfl (fun l' w hm => markTimed_mut yhR16 1 _ _ w hm (by omega) hzhR16 hohR16) ?_
    intro v26 p27 hR28
    obtain ⟨qhR28, rfl, ahR28, bhR28⟩ := hR28
    refine hl_eqL (l' := [tdE yhR25, boxE b22 #[.int .i64 (nodR x), uhR20] 51, rowE 86 3 uhR20 ((arcR x).length) ((arcR x).flatMap arcC), boxE b17 #[.int .i64 yhR16.n.ins, yhR16.n.sv, yhR16.n.lv, yhR16.n.ov, yhR16.pv, yhR16.qv, yhR16.kv, yhR16.av, yhR16.bv, .int .i64 yhR16.oi, .int .i64 yhR16.ni] 40, p27, boxE b13 #[.int .i64 (nodR x), uhR11] 51, rowE 86 3 uhR11 ((arcR x).length) ((arcR x).flatMap arcC), tdE yhR8, boxE b1 #[.int .i64 x.n.ins, x.n.sv, x.n.lv, x.n.ov, x.pv, x.qv, x.kv, x.av, x.bv, .int .i64 x.oi, .int .i64 x.ni] 31]) rfl ?_
    refine hl_v rfl rfl rfl (rv_ev rfl) ?_
    refine hl_less (sx 0 rfl (sx 1 rfl (sx 2 rfl (sx 3 rfl (sx 4 rfl (sx 5 rfl (sx 6 rfl (sx 7 rfl (sx 8 rfl (sx 9 rfl (sx 18 rfl (sx 40 rfl (sx 45 rfl (sub_nil _)))))))))))))) (.refl _) ?_
    refine hl_nil ?_
    refine hq_then ?_
    refine hc_seq ?_
    refine hc_seq ?_
    refine hc_region ?_
    refine hl_v rfl rfl rfl (rv_ev rfl) ?_
    refine hl_lss rfl rfl rfl rfl rfl rfl (fun h29 => ?_) (fun h29 => ?_)
    ·
     refine hl_v rfl rfl rfl (rv_ev rfl) ?_
     refine hl_skip rfl rfl rfl ?_
     refine hl_skip rfl rfl rfl ?_
     refine hl_skip rfl rfl rfl ?_
     refine hl_skip rfl rfl rfl ?_
     refine hl_v rfl rfl rfl (rv_ev rfl) ?_
     refine hl_v rfl rfl rfl (rv_ev rfl) ?_
     refine hl_skip rfl rfl rfl ?_
     refine hl_skip rfl rfl rfl ?_
     refine hl_skip rfl rfl rfl ?_
     refine hl_v rfl rfl rfl (rv_ev rfl) ?_
     refine hl_less (sx 0 rfl (sx 1 rfl (sx 2 rfl (sx 3 rfl (sx 4 rfl (sx 5 rfl (sx 6 rfl (sx 7 rfl (sx 8 rfl (sx 9 rfl (sx 18 rfl (sx 40 rfl (sx 45 rfl (sx 61 rfl (sub_nil _))))))))))))))) (.refl _) ?_
     refine hl_nil ?_
     refine hq_then ?_
     refine hc_true rfl ?_
     refine hc_seq ?_
     refine hc_region ?_
     refine hl_v rfl rfl rfl (rv_ev rfl) ?_
     refine hl_less (sx 0 rfl (sx 1 rfl (sx 2 rfl (sx 3 rfl (sx 4 rfl (sx 5 rfl (sx 6 rfl (sx 7 rfl (sx 8 rfl (sx 9 rfl (sx 18 rfl (sx 40 rfl (sx 45 rfl (sx 61 rfl (sub_nil _))))))))))))))) (.refl _) ?_
     refine hl_nil ?_
     refine hq_then ?_
     refine hc_ret ?_
     refine hq_then_ret ?_
     exfalso
     omega
    ·
     refine hl_v rfl rfl rfl (rv_ev rfl) ?_
     refine hl_v rfl rfl rfl (rv_loadN (cs := [.int .i64 (nodR x), uhR20]) rfl (by kernel_rfl) (by kernel_rfl) rfl rfl (box_part 1 rfl 0 rfl)) ?_
     refine hl_v rfl rfl rfl (rv_loadN (cs := [.int .i64 (nodR x), uhR11]) rfl (by kernel_rfl) (by kernel_rfl) rfl rfl (box_part 5 rfl 0 rfl)) ?_
     refine hl_callV rfl rfl rfl (rq_call (by kernel_rfl) rfl (fun w hm => ret_ans (eqTimingGraph_yes (nodR x) (arcR x) _ _ w ((rd_row 2 rfl) w hm) ((rd_row 6 rfl) w hm)))) ?_
     refine hl_v rfl rfl rfl (rv_ev rfl) ?_
     refine hl_v rfl rfl rfl (rv_ev rfl) ?_
     refine hl_v rfl rfl rfl (rv_ev rfl) ?_
     refine hl_v rfl rfl rfl (rv_ev rfl) ?_
     refine hl_v rfl rfl rfl (rv_ev rfl) ?_
     refine hl_v rfl rfl rfl (rv_bneq (m := true) (n := true) rfl Try.underlying4 rfl rfl) ?_
     refine hl_v rfl rfl rfl (rv_ev rfl) ?_
     refine hl_less (sx 0 rfl (sx 1 rfl (sx 2 rfl (sx 3 rfl (sx 4 rfl (sx 5 rfl (sx 6 rfl (sx 7 rfl (sx 8 rfl (sx 9 rfl (sx 18 rfl (sx 40 rfl (sx 45 rfl (sx 61 rfl (sub_nil _))))))))))))))) (.refl _) ?_
     refine hl_nil ?_
     refine hq_then ?_
     refine hc_false rfl ?_
     refine hc_skip ?_
     refine hq_then ?_
     refine hc_seq ?_
     refine hc_region ?_
     refine hl_v rfl rfl rfl (rv_ev rfl) ?_
     refine hl_less (sx 0 rfl (sx 1 rfl (sx 2 rfl (sx 3 rfl (sx 4 rfl (sx 5 rfl (sx 6 rfl (sx 7 rfl (sx 8 rfl (sx 9 rfl (sx 10 rfl (sx 18 rfl (sx 40 rfl (sx 45 rfl (sx 61 rfl (sub_nil _)))))))))))))))) (.refl _) ?_
     refine hl_nil ?_
     refine hq_then ?_
     refine hc_seq ?_
     refine hc_region ?_
     refine hl_v rfl rfl rfl (rv_loadN (cs := [.int .i64 (nodR x), uhR20]) rfl (by kernel_rfl) (by kernel_rfl) rfl rfl (box_part 1 rfl 0 rfl)) ?_
     refine hl_v rfl rfl rfl (rv_ev rfl) ?_
     refine hl_callM (R := (fun u_ p_ => u_ = .int .i64 (1 + 3 * (arcR x).length) ∧ p_ = rowE 86 3 uhR20 (arcR x).length ((glL (arM 1) (arcR x).length).flatMap arcC))) 2 rfl rfl (by kernel_rfl) rfl rfl (fun l' w hm => markTimingGraph_mut (nodR x) (arcR x) 1 uhR20 _ _ w hm (by omega) (by omega) ouhR20) ?_
     intro v30 p31 hR32
     obtain ⟨rfl, rfl⟩ := hR32
     refine hl_eqL (l' := [tdE yhR25, boxE b22 #[.int .i64 (nodR x), uhR20] 51, rowE 86 3 uhR20 ((arcR x).length) ((glL (arM 1) (arcR x).length).flatMap arcC), boxE b17 #[.int .i64 yhR16.n.ins, yhR16.n.sv, yhR16.n.lv, yhR16.n.ov, yhR16.pv, yhR16.qv, yhR16.kv, yhR16.av, yhR16.bv, .int .i64 yhR16.oi, .int .i64 yhR16.ni] 40, p27, boxE b13 #[.int .i64 (nodR x), uhR11] 51, rowE 86 3 uhR11 ((arcR x).length) ((arcR x).flatMap arcC), tdE yhR8, boxE b1 #[.int .i64 x.n.ins, x.n.sv, x.n.lv, x.n.ov, x.pv, x.qv, x.kv, x.av, x.bv, .int .i64 x.oi, .int .i64 x.ni] 31]) rfl ?_
     refine hl_v rfl rfl rfl (rv_ev rfl) ?_
     refine hl_less (sx 0 rfl (sx 1 rfl (sx 2 rfl (sx 3 rfl (sx 4 rfl (sx 5 rfl (sx 6 rfl (sx 7 rfl (sx 8 rfl (sx 9 rfl (sx 10 rfl (sx 18 rfl (sx 40 rfl (sx 45 rfl (sx 61 rfl (sub_nil _)))))))))))))))) (.refl _) ?_
     refine hl_nil ?_
     refine hq_then ?_
     refine hc_seq ?_
     refine hc_region ?_
     refine hl_v rfl rfl rfl (rv_ev rfl) ?_
     refine hl_less (sx 0 rfl (sx 1 rfl (sx 2 rfl (sx 3 rfl (sx 4 rfl (sx 5 rfl (sx 6 rfl (sx 7 rfl (sx 8 rfl (sx 9 rfl (sx 10 rfl (sx 11 rfl (sx 18 rfl (sx 40 rfl (sx 45 rfl (sx 61 rfl (sub_nil _))))))))))))))))) (.refl _) ?_
     refine hl_nil ?_
     refine hq_then ?_
     refine hc_seq ?_
     refine hc_region ?_
     refine hl_v rfl rfl rfl (rv_loadN (cs := [.int .i64 (nodR x), uhR20]) rfl (by kernel_rfl) (by kernel_rfl) rfl rfl (box_part 1 rfl 0 rfl)) ?_
     refine hl_v rfl rfl rfl (rv_ev rfl) ?_
     refine hl_callV rfl rfl rfl (rq_call (by kernel_rfl) rfl (fun w hm => ret_ans (heldTimingGraph_ans (nodR x) (arcR x).length 1 uhR20 w (rd_row 2 rfl w hm) (by omega) (by omega)))) ?_
     refine hl_v rfl rfl rfl (rv_ev rfl) ?_
     refine hl_less (sx 0 rfl (sx 1 rfl (sx 2 rfl (sx 3 rfl (sx 4 rfl (sx 5 rfl (sx 6 rfl (sx 7 rfl (sx 8 rfl (sx 9 rfl (sx 10 rfl (sx 11 rfl (sx 18 rfl (sx 40 rfl (sx 45 rfl (sx 61 rfl (sub_nil _))))))))))))))))) (.refl _) ?_
     refine hl_nil ?_
     refine hq_then ?_
     refine hc_seq ?_
     refine hc_seq ?_
     refine hc_region ?_
     refine hl_v rfl rfl rfl (rv_ev rfl) ?_
     refine hl_lss rfl rfl rfl rfl rfl rfl (fun h33 => ?_) (fun h33 => ?_)
     ·
      refine hl_less (sx 0 rfl (sx 1 rfl (sx 2 rfl (sx 3 rfl (sx 4 rfl (sx 5 rfl (sx 6 rfl (sx 7 rfl (sx 8 rfl (sx 9 rfl (sx 10 rfl (sx 11 rfl (sx 18 rfl (sx 40 rfl (sx 45 rfl (sx 61 rfl (sx 69 rfl (sub_nil _)))))))))))))))))) (.refl _) ?_
      refine hl_nil ?_
      refine hq_then ?_
      refine hc_true rfl ?_
      refine hc_seq ?_
      refine hc_region ?_
      refine hl_v rfl rfl rfl (rv_ev rfl) ?_
      refine hl_less (sx 0 rfl (sx 1 rfl (sx 2 rfl (sx 3 rfl (sx 4 rfl (sx 5 rfl (sx 6 rfl (sx 7 rfl (sx 8 rfl (sx 9 rfl (sx 10 rfl (sx 11 rfl (sx 18 rfl (sx 40 rfl (sx 45 rfl (sx 61 rfl (sx 69 rfl (sub_nil _)))))))))))))))))) (.refl _) ?_
      refine hl_nil ?_
      refine hq_then ?_
      refine hc_ret ?_
      refine hq_then_ret ?_
      exfalso
      omega
     ·
      refine hl_less (sx 0 rfl (sx 1 rfl (sx 2 rfl (sx 3 rfl (sx 4 rfl (sx 5 rfl (sx 6 rfl (sx 7 rfl (sx 8 rfl (sx 9 rfl (sx 10 rfl (sx 11 rfl (sx 18 rfl (sx 40 rfl (sx 45 rfl (sx 61 rfl (sx 69 rfl (sub_nil _)))))))))))))))))) (.refl _) ?_
      refine hl_nil ?_
      refine hq_then ?_
      refine hc_false rfl ?_
      refine hc_skip ?_
      refine hq_then ?_
      refine hc_seq ?_
      refine hc_seq ?_
      refine hc_region ?_
      refine hl_v rfl rfl rfl (rv_ev rfl) ?_
      refine hl_v rfl rfl rfl (rv_ev rfl) ?_
      refine hl_neq rfl rfl rfl rfl rfl rfl (fun h34 => ?_) (fun h34 => ?_)
      ·
       refine hl_less (sx 0 rfl (sx 1 rfl (sx 2 rfl (sx 3 rfl (sx 4 rfl (sx 5 rfl (sx 6 rfl (sx 7 rfl (sx 8 rfl (sx 9 rfl (sx 10 rfl (sx 11 rfl (sx 18 rfl (sx 40 rfl (sx 45 rfl (sx 61 rfl (sx 69 rfl (sx 72 rfl (sub_nil _))))))))))))))))))) (.refl _) ?_
       refine hl_nil ?_
       refine hq_then ?_
       refine hc_true rfl ?_
       refine hc_seq ?_
       refine hc_region ?_
       refine hl_v rfl rfl rfl (rv_ev rfl) ?_
       refine hl_less (sx 0 rfl (sx 1 rfl (sx 2 rfl (sx 3 rfl (sx 4 rfl (sx 5 rfl (sx 6 rfl (sx 7 rfl (sx 8 rfl (sx 9 rfl (sx 10 rfl (sx 11 rfl (sx 18 rfl (sx 40 rfl (sx 45 rfl (sx 61 rfl (sx 69 rfl (sx 72 rfl (sub_nil _))))))))))))))))))) (.refl _) ?_
       refine hl_nil ?_
       refine hq_then ?_
       refine hc_ret ?_
       refine hq_then_ret ?_
       exfalso
       omega
      ·
       refine hl_less (sx 0 rfl (sx 1 rfl (sx 2 rfl (sx 3 rfl (sx 4 rfl (sx 5 rfl (sx 6 rfl (sx 7 rfl (sx 8 rfl (sx 9 rfl (sx 10 rfl (sx 11 rfl (sx 18 rfl (sx 40 rfl (sx 45 rfl (sx 61 rfl (sx 69 rfl (sx 72 rfl (sub_nil _))))))))))))))))))) (.refl _) ?_
       refine hl_nil ?_
       refine hq_then ?_
       refine hc_false rfl ?_
       refine hc_skip ?_
       refine hq_then ?_
       refine hc_seq ?_
       refine hc_region ?_
       refine hl_v rfl rfl rfl (rv_loadN (cs := [.int .i64 x.n.ins, x.n.sv, x.n.lv, x.n.ov, x.pv, x.qv, x.kv, x.av, x.bv, .int .i64 x.oi, .int .i64 x.ni]) rfl (by kernel_rfl) (by kernel_rfl) rfl rfl (box_part 8 rfl 0 rfl)) ?_
       refine hl_q rfl rfl rfl (rq_call (by kernel_rfl) rfl (fun w hm => toTimed_ret x w (hr.below hm.bel) hz)) ?_
       intro v35 p36 hR37
       obtain ⟨yhR37, rfl, rfl, hshR37, hohR37⟩ := hR37
       have hzhR37 := hz.same hshR37
       refine hl_q rfl rfl rfl (rq_call (by kernel_rfl) rfl (fun w hm => by have h9 := implTimingOf_ret yhR37 w (td_rds 0 rfl w hm); rw [arcR_same hshR37, nodR_same hshR37, pB_same hshR37] at h9; exact h9)) ?_
       intro v38 p39 hR40
       obtain ⟨uhR40, rfl, rfl, ouhR40⟩ := hR40
       refine hl_v rfl rfl rfl (rv_ev rfl) ?_
       refine hl_v rfl rfl rfl (rv_ev rfl) ?_
       refine hl_v rfl rfl rfl (rv_ev rfl) ?_
       refine hl_bool (fun h41 => ?_) (fun h41 => absurd ((h12).symm.trans h41) (by decide))
       refine hl_box rfl rfl rfl (rq_alloc (z := .agg #[.int .i64 0, .slice none 0 0]) rfl (by kernel_rfl)) ?_
       intro b42
       refine hl_storeBoxN (i := 0) (off := 0) (us := [.int .i64 (nodR x), uhR40])  (l' := [boxE b42 #[.int .i64 (nodR x), uhR40] 51, rowE 86 3 uhR40 ((arcR x).length) ((arcR x).flatMap arcC), tdE yhR37, tdE yhR25, boxE b22 #[.int .i64 (nodR x), uhR20] 51, rowE 86 3 uhR20 ((arcR x).length) ((glL (arM 1) (arcR x).length).flatMap arcC), boxE b17 #[.int .i64 yhR16.n.ins, yhR16.n.sv, yhR16.n.lv, yhR16.n.ov, yhR16.pv, yhR16.qv, yhR16.kv, yhR16.av, yhR16.bv, .int .i64 yhR16.oi, .int .i64 yhR16.ni] 40, p27, boxE b13 #[.int .i64 (nodR x), uhR11] 51, rowE 86 3 uhR11 ((arcR x).length) ((arcR x).flatMap arcC), tdE yhR8, boxE b1 #[.int .i64 x.n.ins, x.n.sv, x.n.lv, x.n.ov, x.pv, x.qv, x.kv, x.av, x.bv, .int .i64 x.oi, .int .i64 x.ni] 31]) rfl rfl rfl (by kernel_rfl) rfl rfl rfl (all_cons rfl (all_cons ouhR40 all_nil)) rfl rfl rfl ?_
       refine hl_v rfl rfl rfl (rv_ev rfl) ?_
       refine hl_less (sx 0 rfl (sx 1 rfl (sx 2 rfl (sx 3 rfl (sx 4 rfl (sx 5 rfl (sx 6 rfl (sx 7 rfl (sx 8 rfl (sx 9 rfl (sx 10 rfl (sx 11 rfl (sx 12 rfl (sx 13 rfl (sx 18 rfl (sx 40 rfl (sx 45 rfl (sx 61 rfl (sx 69 rfl (sx 72 rfl (sub_nil _))))))))))))))))))))) (.refl _) ?_
       refine hl_nil ?_
       refine hq_then ?_
       refine hc_seq ?_
       refine hc_seq ?_
       refine hc_region ?_
       refine hl_v rfl rfl rfl (rv_loadN (cs := [.int .i64 (nodR x), uhR40]) rfl (by kernel_rfl) (by kernel_rfl) rfl rfl (box_part 0 rfl 0 rfl)) ?_
       refine hl_v rfl rfl rfl (rv_loadN (cs := [.int .i64 (nodR x), uhR11]) rfl (by kernel_rfl) (by kernel_rfl) rfl rfl (box_part 8 rfl 0 rfl)) ?_
       refine hl_callV rfl rfl rfl (rq_call (by kernel_rfl) rfl (fun w hm => ret_ans (eqTimingGraph_yes (nodR x) (arcR x) _ _ w ((rd_row 1 rfl) w hm) ((rd_row 9 rfl) w hm)))) ?_
       refine hl_v rfl rfl rfl (rv_ev rfl) ?_
       refine hl_v rfl rfl rfl (rv_ev rfl) ?_
       refine hl_v rfl rfl rfl (rv_ev rfl) ?_
       refine hl_v rfl rfl rfl (rv_ev rfl) ?_
       refine hl_v rfl rfl rfl (rv_bneq (m := true) (n := true) rfl Try.underlying4 rfl rfl) ?_
       refine hl_v rfl rfl rfl (rv_ev rfl) ?_
       refine hl_less (sx 0 rfl (sx 1 rfl (sx 2 rfl (sx 3 rfl (sx 4 rfl (sx 5 rfl (sx 6 rfl (sx 7 rfl (sx 8 rfl (sx 9 rfl (sx 10 rfl (sx 11 rfl (sx 12 rfl (sx 13 rfl (sx 18 rfl (sx 40 rfl (sx 45 rfl (sx 61 rfl (sx 69 rfl (sx 72 rfl (sx 87 rfl (sub_nil _)))))))))))))))))))))) (.refl _) ?_
       refine hl_nil ?_
       refine hq_then ?_
       refine hc_false rfl ?_
       refine hc_skip ?_
       refine hq_then ?_
       refine hc_seq ?_
       refine hc_region ?_
       refine hl_v rfl rfl rfl (rv_ev rfl) ?_
       refine hl_less (sx 0 rfl (sx 1 rfl (sx 2 rfl (sx 3 rfl (sx 4 rfl (sx 5 rfl (sx 6 rfl (sx 7 rfl (sx 8 rfl (sx 9 rfl (sx 10 rfl (sx 11 rfl (sx 12 rfl (sx 13 rfl (sx 18 rfl (sx 40 rfl (sx 45 rfl (sx 61 rfl (sx 69 rfl (sx 72 rfl (sx 87 rfl (sub_nil _)))))))))))))))))))))) (.refl _) ?_
       refine hl_nil ?_
       refine hq_then ?_
       refine hc_seq ?_
       refine hc_region ?_
       refine hl_v rfl rfl rfl (rv_loadN (cs := [.int .i64 (nodR x), uhR20]) rfl (by kernel_rfl) (by kernel_rfl) rfl rfl (box_part 4 rfl 0 rfl)) ?_
       refine hl_v rfl rfl rfl (rv_ev rfl) ?_
       refine hl_callV rfl rfl rfl (rq_call (by kernel_rfl) rfl (fun w hm => ret_ans (heldTimingGraph_ans (nodR x) (arcR x).length 1 uhR20 w (rd_row 5 rfl w hm) (by omega) (by omega)))) ?_
       refine hl_v rfl rfl rfl (rv_ev rfl) ?_
       refine hl_less (sx 0 rfl (sx 1 rfl (sx 2 rfl (sx 3 rfl (sx 4 rfl (sx 5 rfl (sx 6 rfl (sx 7 rfl (sx 8 rfl (sx 9 rfl (sx 10 rfl (sx 11 rfl (sx 12 rfl (sx 13 rfl (sx 18 rfl (sx 40 rfl (sx 45 rfl (sx 61 rfl (sx 69 rfl (sx 72 rfl (sx 87 rfl (sub_nil _)))))))))))))))))))))) (.refl _) ?_
       refine hl_nil ?_
       refine hq_then ?_
       refine hc_seq ?_
       refine hc_seq ?_
       refine hc_region ?_
       refine hl_v rfl rfl rfl (rv_ev rfl) ?_
       refine hl_lss rfl rfl rfl rfl rfl rfl (fun h43 => ?_) (fun h43 => ?_)
       ·
        refine hl_less (sx 0 rfl (sx 1 rfl (sx 2 rfl (sx 3 rfl (sx 4 rfl (sx 5 rfl (sx 6 rfl (sx 7 rfl (sx 8 rfl (sx 9 rfl (sx 10 rfl (sx 11 rfl (sx 12 rfl (sx 13 rfl (sx 18 rfl (sx 40 rfl (sx 45 rfl (sx 61 rfl (sx 69 rfl (sx 72 rfl (sx 87 rfl (sx 92 rfl (sub_nil _))))))))))))))))))))))) (.refl _) ?_
        refine hl_nil ?_
        refine hq_then ?_
        refine hc_true rfl ?_
        refine hc_seq ?_
        refine hc_region ?_
        refine hl_v rfl rfl rfl (rv_ev rfl) ?_
        refine hl_less (sx 0 rfl (sx 1 rfl (sx 2 rfl (sx 3 rfl (sx 4 rfl (sx 5 rfl (sx 6 rfl (sx 7 rfl (sx 8 rfl (sx 9 rfl (sx 10 rfl (sx 11 rfl (sx 12 rfl (sx 13 rfl (sx 18 rfl (sx 40 rfl (sx 45 rfl (sx 61 rfl (sx 69 rfl (sx 72 rfl (sx 87 rfl (sx 92 rfl (sub_nil _))))))))))))))))))))))) (.refl _) ?_
        refine hl_nil ?_
        refine hq_then ?_
        refine hc_ret ?_
        refine hq_then_ret ?_
        exfalso
        omega
       ·
        refine hl_less (sx 0 rfl (sx 1 rfl (sx 2 rfl (sx 3 rfl (sx 4 rfl (sx 5 rfl (sx 6 rfl (sx 7 rfl (sx 8 rfl (sx 9 rfl (sx 10 rfl (sx 11 rfl (sx 12 rfl (sx 13 rfl (sx 18 rfl (sx 40 rfl (sx 45 rfl (sx 61 rfl (sx 69 rfl (sx 72 rfl (sx 87 rfl (sx 92 rfl (sub_nil _))))))))))))))))))))))) (.refl _) ?_
        refine hl_nil ?_
        refine hq_then ?_
        refine hc_false rfl ?_
        refine hc_skip ?_
        refine hq_then ?_
        refine hc_seq ?_
        refine hc_seq ?_
        refine hc_region ?_
        refine hl_v rfl rfl rfl (rv_ev rfl) ?_
        refine hl_v rfl rfl rfl (rv_ev rfl) ?_
        refine hl_neq rfl rfl rfl rfl rfl rfl (fun h44 => ?_) (fun h44 => ?_)
        ·
         refine hl_less (sx 0 rfl (sx 1 rfl (sx 2 rfl (sx 3 rfl (sx 4 rfl (sx 5 rfl (sx 6 rfl (sx 7 rfl (sx 8 rfl (sx 9 rfl (sx 10 rfl (sx 11 rfl (sx 12 rfl (sx 13 rfl (sx 18 rfl (sx 40 rfl (sx 45 rfl (sx 61 rfl (sx 69 rfl (sx 72 rfl (sx 87 rfl (sx 92 rfl (sx 95 rfl (sub_nil _)))))))))))))))))))))))) (.refl _) ?_
         refine hl_nil ?_
         refine hq_then ?_
         refine hc_true rfl ?_
         refine hc_seq ?_
         refine hc_region ?_
         refine hl_v rfl rfl rfl (rv_ev rfl) ?_
         refine hl_less (sx 0 rfl (sx 1 rfl (sx 2 rfl (sx 3 rfl (sx 4 rfl (sx 5 rfl (sx 6 rfl (sx 7 rfl (sx 8 rfl (sx 9 rfl (sx 10 rfl (sx 11 rfl (sx 12 rfl (sx 13 rfl (sx 18 rfl (sx 40 rfl (sx 45 rfl (sx 61 rfl (sx 69 rfl (sx 72 rfl (sx 87 rfl (sx 92 rfl (sx 95 rfl (sub_nil _)))))))))))))))))))))))) (.refl _) ?_
         refine hl_nil ?_
         refine hq_then ?_
         refine hc_ret ?_
         refine hq_then_ret ?_
         exfalso
         omega
        ·
         refine hl_less (sx 0 rfl (sx 1 rfl (sx 2 rfl (sx 3 rfl (sx 4 rfl (sx 5 rfl (sx 6 rfl (sx 7 rfl (sx 8 rfl (sx 9 rfl (sx 10 rfl (sx 11 rfl (sx 12 rfl (sx 13 rfl (sx 18 rfl (sx 40 rfl (sx 45 rfl (sx 61 rfl (sx 69 rfl (sx 72 rfl (sx 87 rfl (sx 92 rfl (sx 95 rfl (sub_nil _)))))))))))))))))))))))) (.refl _) ?_
         refine hl_nil ?_
         refine hq_then ?_
         refine hc_false rfl ?_
         refine hc_skip ?_
         refine hq_then ?_
         refine hc_seq ?_
         refine hc_region ?_
         refine hl_v rfl rfl rfl (rv_ev rfl) ?_
         refine hl_less (sx 0 rfl (sx 1 rfl (sx 2 rfl (sx 3 rfl (sx 4 rfl (sx 5 rfl (sx 6 rfl (sx 7 rfl (sx 8 rfl (sx 9 rfl (sx 10 rfl (sx 11 rfl (sx 12 rfl (sx 13 rfl (sx 18 rfl (sx 40 rfl (sx 45 rfl (sx 61 rfl (sx 69 rfl (sx 72 rfl (sx 87 rfl (sx 92 rfl (sx 95 rfl (sub_nil _)))))))))))))))))))))))) (.refl _) ?_
         refine hl_nil ?_
         refine hq_then ?_
         refine hc_ret ?_
         exact hq_ans rfl rfl rfl
  ·
   refine hl_box rfl rfl rfl (rq_alloc (z := .agg #[.int .i64 0, .slice none 0 0]) rfl (by kernel_rfl)) ?_
   intro b45
   refine hl_storeBoxN (i := 0) (off := 0) (us := [.int .i64 (nodR x), uhR11])  (l' := [boxE b45 #[.int .i64 (nodR x), uhR11] 51, rowE 86 3 uhR11 ((arcR x).length) ((arcR x).flatMap arcC), tdE yhR8, boxE b1 #[.int .i64 x.n.ins, x.n.sv, x.n.lv, x.n.ov, x.pv, x.qv, x.kv, x.av, x.bv, .int .i64 x.oi, .int .i64 x.ni] 31]) rfl rfl rfl (by kernel_rfl) rfl rfl rfl (all_cons rfl (all_cons ouhR11 all_nil)) rfl rfl rfl ?_
   refine hl_v rfl rfl rfl (rv_ev rfl) ?_
   refine hl_less (sx 0 rfl (sx 1 rfl (sx 2 rfl (sx 3 rfl (sx 4 rfl (sx 5 rfl (sx 18 rfl (sub_nil _)))))))) (.refl _) ?_
   refine hl_nil ?_
   refine hq_then ?_
   refine hc_seq ?_
   refine hc_region ?_
   refine hl_v rfl rfl rfl (rv_loadN (cs := [.int .i64 x.n.ins, x.n.sv, x.n.lv, x.n.ov, x.pv, x.qv, x.kv, x.av, x.bv, .int .i64 x.oi, .int .i64 x.ni]) rfl (by kernel_rfl) (by kernel_rfl) rfl rfl (box_part 3 rfl 0 rfl)) ?_
   refine hl_q rfl rfl rfl (rq_call (by kernel_rfl) rfl (fun w hm => toTimed_ret x w (hr.below hm.bel) hz)) ?_
   intro v46 p47 hR48
   obtain ⟨yhR48, rfl, rfl, hshR48, hohR48⟩ := hR48
   have hzhR48 := hz.same hshR48
   refine hl_box rfl rfl rfl (rq_alloc (z := .agg #[.int .i64 0, .slice none 0 0, .slice none 0 0, .slice none 0 0, .slice none 0 0, .slice none 0 0, .slice none 0 0, .slice none 0 0, .slice none 0 0, .int .i64 0, .int .i64 0]) rfl (by kernel_rfl)) ?_
   intro b49
   refine hl_storeBoxN (i := 0) (off := 0) (us := [.int .i64 yhR48.n.ins, yhR48.n.sv, yhR48.n.lv, yhR48.n.ov, yhR48.pv, yhR48.qv, yhR48.kv, yhR48.av, yhR48.bv, .int .i64 yhR48.oi, .int .i64 yhR48.ni]) (cs' := #[.int .i64 yhR48.n.ins, yhR48.n.sv, yhR48.n.lv, yhR48.n.ov, yhR48.pv, yhR48.qv, yhR48.kv, yhR48.av, yhR48.bv, .int .i64 yhR48.oi, .int .i64 yhR48.ni]) (l' := [boxE b49 #[.int .i64 yhR48.n.ins, yhR48.n.sv, yhR48.n.lv, yhR48.n.ov, yhR48.pv, yhR48.qv, yhR48.kv, yhR48.av, yhR48.bv, .int .i64 yhR48.oi, .int .i64 yhR48.ni] 40, tdE yhR48, boxE b45 #[.int .i64 (nodR x), uhR11] 51, rowE 86 3 uhR11 ((arcR x).length) ((arcR x).flatMap arcC), tdE yhR8, boxE b1 #[.int .i64 x.n.ins, x.n.sv, x.n.lv, x.n.ov, x.pv, x.qv, x.kv, x.av, x.bv, .int .i64 x.oi, .int .i64 x.ni] 31]) rfl rfl rfl (by kernel_rfl) rfl rfl rfl (all_cons rfl (all_cons hohR48.sv (all_cons hohR48.lv (all_cons hohR48.ov (all_cons hohR48.pv (all_cons hohR48.qv (all_cons hohR48.kv (all_cons hohR48.av (all_cons hohR48.bv (all_cons rfl (all_cons rfl all_nil))))))))))) rfl (by kernel_rfl) rfl ?_
   refine hl_less (sx 0 rfl (sx 1 rfl (sx 2 rfl (sx 3 rfl (sx 4 rfl (sx 5 rfl (sx 6 rfl (sx 18 rfl (sub_nil _))))))))) (.refl _) ?_
   refine hl_nil ?_
   refine hq_then ?_
   refine hc_seq ?_
   refine hc_region ?_
   refine hl_v rfl rfl rfl (rv_loadN (cs := [.int .i64 yhR48.n.ins, yhR48.n.sv, yhR48.n.lv, yhR48.n.ov, yhR48.pv, yhR48.qv, yhR48.kv, yhR48.av, yhR48.bv, .int .i64 yhR48.oi, .int .i64 yhR48.ni]) rfl (by kernel_rfl) (by kernel_rfl) rfl rfl (box_part 0 rfl 0 rfl)) ?_
   refine hl_q rfl rfl rfl (rq_call (by kernel_rfl) rfl (fun w hm => by have h9 := implTimingOf_ret yhR48 w (td_rds 1 rfl w hm); rw [arcR_same hshR48, nodR_same hshR48, pB_same hshR48] at h9; exact h9)) ?_
   intro v50 p51 hR52
   obtain ⟨uhR52, rfl, rfl, ouhR52⟩ := hR52
   refine hl_v rfl rfl rfl (rv_ev rfl) ?_
   refine hl_v rfl rfl rfl (rv_ev rfl) ?_
   refine hl_v rfl rfl rfl (rv_ev rfl) ?_
   refine hl_bool (fun h53 => absurd ((h12).symm.trans h53) (by decide)) (fun h53 => ?_)
   refine hl_box rfl rfl rfl (rq_alloc (z := .agg #[.int .i64 0, .slice none 0 0]) rfl (by kernel_rfl)) ?_
   intro b54
   refine hl_storeBoxN (i := 0) (off := 0) (us := [.int .i64 (nodR x), uhR52])  (l' := [boxE b54 #[.int .i64 (nodR x), uhR52] 51, rowE 86 3 uhR52 ((arcR x).length) ((arcR x).flatMap arcC), boxE b49 #[.int .i64 yhR48.n.ins, yhR48.n.sv, yhR48.n.lv, yhR48.n.ov, yhR48.pv, yhR48.qv, yhR48.kv, yhR48.av, yhR48.bv, .int .i64 yhR48.oi, .int .i64 yhR48.ni] 40, tdE yhR48, boxE b45 #[.int .i64 (nodR x), uhR11] 51, rowE 86 3 uhR11 ((arcR x).length) ((arcR x).flatMap arcC), tdE yhR8, boxE b1 #[.int .i64 x.n.ins, x.n.sv, x.n.lv, x.n.ov, x.pv, x.qv, x.kv, x.av, x.bv, .int .i64 x.oi, .int .i64 x.ni] 31]) rfl rfl rfl (by kernel_rfl) rfl rfl rfl (all_cons rfl (all_cons ouhR52 all_nil)) rfl rfl rfl ?_
   refine hl_v rfl rfl rfl (rv_ev rfl) ?_
   refine hl_less (sx 0 rfl (sx 1 rfl (sx 2 rfl (sx 3 rfl (sx 4 rfl (sx 5 rfl (sx 6 rfl (sx 7 rfl (sx 8 rfl (sx 18 rfl (sub_nil _))))))))))) (.refl _) ?_
   refine hl_nil ?_
   refine hq_then ?_
   refine hc_seq ?_
   refine hc_seq ?_
   refine hc_region ?_
   refine hl_v rfl rfl rfl (rv_loadN (cs := [.int .i64 (nodR x), uhR52]) rfl (by kernel_rfl) (by kernel_rfl) rfl rfl (box_part 0 rfl 0 rfl)) ?_
   refine hl_v rfl rfl rfl (rv_loadN (cs := [.int .i64 (nodR x), uhR11]) rfl (by kernel_rfl) (by kernel_rfl) rfl rfl (box_part 4 rfl 0 rfl)) ?_
   refine hl_callV rfl rfl rfl (rq_call (by kernel_rfl) rfl (fun w hm => ret_ans (eqTimingGraph_yes (nodR x) (arcR x) _ _ w ((rd_row 1 rfl) w hm) ((rd_row 5 rfl) w hm)))) ?_
   refine hl_v rfl rfl rfl (rv_ev rfl) ?_
   refine hl_v rfl rfl rfl (rv_ev rfl) ?_
   refine hl_v rfl rfl rfl (rv_ev rfl) ?_
   refine hl_v rfl rfl rfl (rv_ev rfl) ?_
   refine hl_v rfl rfl rfl (rv_bneq (m := false) (n := false) rfl Try.underlying4 rfl rfl) ?_
   refine hl_v rfl rfl rfl (rv_ev rfl) ?_
   refine hl_less (sx 0 rfl (sx 1 rfl (sx 2 rfl (sx 3 rfl (sx 4 rfl (sx 5 rfl (sx 6 rfl (sx 7 rfl (sx 8 rfl (sx 18 rfl (sx 40 rfl (sub_nil _)))))))))))) (.refl _) ?_
   refine hl_nil ?_
   refine hq_then ?_
   refine hc_false rfl ?_
   refine hc_skip ?_
   refine hq_then ?_
   refine hc_seq ?_
   refine hc_seq ?_
   refine hc_draw (by kernel_rfl) 5 [0, 1, 2, 3, 4] (List.take 5 _) (List.drop 5 _) [[], [], [1], [0, 2], [2, 3]] [41, 42, 43, 44, 45] (fun i_ vs_ v_ p_ => match i_ with | 0 => v_ = .agg #[.int .i64 yhR48.n.ins, yhR48.n.sv, yhR48.n.lv, yhR48.n.ov, yhR48.pv, yhR48.qv, yhR48.kv, yhR48.av, yhR48.bv, .int .i64 yhR48.oi, .int .i64 yhR48.ni] ∧ p_ = [] | 1 => v_ = .agg #[.int .i64 x.n.ins, x.n.sv, x.n.lv, x.n.ov, x.pv, x.qv, x.kv, x.av, x.bv, .int .i64 x.oi, .int .i64 x.ni] ∧ p_ = [] | 2 => (fun v_ p_ => ∃ y : Td, v_ = y.agg ∧ p_ = [tdE y] ∧ Same x y ∧ OneTd y) v_ p_ | 3 => v_ = .bool true ∧ p_ = [] | 4 => v_ = .bool false ∧ p_ = [] | _ => True) (List.take_append_drop 5 _).symm (by kernel_rfl) (by kernel_rfl) rfl rfl ?_ ?_
   ·
    refine ⟨?_, ?_, ?_, ?_, ?_, trivial⟩
    ·
     intro vf pf hR
     refine Or.inl ⟨rfl, ?_⟩
     refine rq_less (sx 6 rfl (sub_nil _)) (List.sublist_append_right _ _) ?_
     exact rq_v (rv_loadN (cs := [.int .i64 yhR48.n.ins, yhR48.n.sv, yhR48.n.lv, yhR48.n.ov, yhR48.pv, yhR48.qv, yhR48.kv, yhR48.av, yhR48.bv, .int .i64 yhR48.oi, .int .i64 yhR48.ni]) rfl (by kernel_rfl) (by kernel_rfl) rfl rfl (box_part 2 rfl 0 rfl))
    ·
     intro vf pf hR
     refine Or.inl ⟨rfl, ?_⟩
     refine rq_less (sx 1 rfl (sub_nil _)) (List.sublist_append_right _ _) ?_
     exact rq_v (rv_loadN (cs := [.int .i64 x.n.ins, x.n.sv, x.n.lv, x.n.ov, x.pv, x.qv, x.kv, x.av, x.bv, .int .i64 x.oi, .int .i64 x.ni]) rfl (by kernel_rfl) (by kernel_rfl) rfl rfl (box_part 7 rfl 0 rfl))
    ·
     intro vf pf hR
     have e1 : (vf 1) = .agg #[.int .i64 x.n.ins, x.n.sv, x.n.lv, x.n.ov, x.pv, x.qv, x.kv, x.av, x.bv, .int .i64 x.oi, .int .i64 x.ni] ∧ (pf 1) = [] := hR 1 (by decide)
     refine Or.inl ⟨rfl, ?_⟩
     refine rq_less (sx 42 (congrArg some e1.1) (sub_nil _)) (List.sublist_append_right _ _) ?_
     exact rq_call (by kernel_rfl) rfl (fun w hm => toTimed_ret x w (hr.below hm.bel) hz)
    ·
     intro vf pf hR
     have e0 : (vf 0) = .agg #[.int .i64 yhR48.n.ins, yhR48.n.sv, yhR48.n.lv, yhR48.n.ov, yhR48.pv, yhR48.qv, yhR48.kv, yhR48.av, yhR48.bv, .int .i64 yhR48.oi, .int .i64 yhR48.ni] ∧ (pf 0) = [] := hR 0 (by decide)
     have e2 : (fun v_ p_ => ∃ y : Td, v_ = y.agg ∧ p_ = [tdE y] ∧ Same x y ∧ OneTd y) (vf 2) (pf 2) := hR 2 (by decide)
     obtain ⟨v55, v2⟩ : ∃ x, vf 2 = x := ⟨_, rfl⟩
     obtain ⟨p56, p2⟩ : ∃ x, pf 2 = x := ⟨_, rfl⟩
     have hR57 := e2
     rw [v2, p2] at hR57
     obtain ⟨yhR57, rfl, rfl, hshR57, hohR57⟩ := hR57
     have hzhR57 := hz.same hshR57
     refine Or.inl ⟨rfl, ?_⟩
     refine rq_less (l' := [tdE yhR57, boxE b54 #[.int .i64 (nodR x), uhR52] 51, rowE 86 3 uhR52 ((arcR x).length) ((arcR x).flatMap arcC), boxE b49 #[.int .i64 yhR48.n.ins, yhR48.n.sv, yhR48.n.lv, yhR48.n.ov, yhR48.pv, yhR48.qv, yhR48.kv, yhR48.av, yhR48.bv, .int .i64 yhR48.oi, .int .i64 yhR48.ni] 40, tdE yhR48, boxE b45 #[.int .i64 (nodR x), uhR11] 51, rowE 86 3 uhR11 ((arcR x).length) ((arcR x).flatMap arcC), tdE yhR8, boxE b1 #[.int .i64 x.n.ins, x.n.sv, x.n.lv, x.n.ov, x.pv, x.qv, x.kv, x.av, x.bv, .int .i64 x.oi, .int .i64 x.ni] 31]) (sx 41 (congrArg some e0.1) (sx 43 (congrArg some v2) (sub_nil _))) (by first | (simp only [p2, v2, e0.2, List.flatMap_cons, List.flatMap_nil, List.append_nil, List.nil_append, List.cons_append]; exact List.Sublist.refl _) | simp [p2, v2, e0.2]) ?_
     exact (rq_call (by kernel_rfl) rfl (fun w hm => ret_ans (eqTimed_yes yhR48 yhR57 w (td_rds 4 rfl w hm) (td_rds 0 rfl w hm) (hshR57.symm.trans hshR48) hzhR48)))
    ·
     intro vf pf hR
     have e2 : (fun v_ p_ => ∃ y : Td, v_ = y.agg ∧ p_ = [tdE y] ∧ Same x y ∧ OneTd y) (vf 2) (pf 2) := hR 2 (by decide)
     obtain ⟨v55, v2⟩ : ∃ x, vf 2 = x := ⟨_, rfl⟩
     obtain ⟨p56, p2⟩ : ∃ x, pf 2 = x := ⟨_, rfl⟩
     have hR57 := e2
     rw [v2, p2] at hR57
     obtain ⟨yhR57, rfl, rfl, hshR57, hohR57⟩ := hR57
     have hzhR57 := hz.same hshR57
     have e3 : (vf 3) = .bool true ∧ (pf 3) = [] := hR 3 (by decide)
     refine Or.inl ⟨rfl, ?_⟩
     refine rq_less (l' := [tdE yhR57, boxE b54 #[.int .i64 (nodR x), uhR52] 51, rowE 86 3 uhR52 ((arcR x).length) ((arcR x).flatMap arcC), boxE b49 #[.int .i64 yhR48.n.ins, yhR48.n.sv, yhR48.n.lv, yhR48.n.ov, yhR48.pv, yhR48.qv, yhR48.kv, yhR48.av, yhR48.bv, .int .i64 yhR48.oi, .int .i64 yhR48.ni] 40, tdE yhR48, boxE b45 #[.int .i64 (nodR x), uhR11] 51, rowE 86 3 uhR11 ((arcR x).length) ((arcR x).flatMap arcC), tdE yhR8, boxE b1 #[.int .i64 x.n.ins, x.n.sv, x.n.lv, x.n.ov, x.pv, x.qv, x.kv, x.av, x.bv, .int .i64 x.oi, .int .i64 x.ni] 31]) (sx 44 (congrArg some e3.1) (sub_nil _)) (by first | (simp only [p2, v2, e3.2, List.flatMap_cons, List.flatMap_nil, List.append_nil, List.nil_append, List.cons_append]; exact List.Sublist.refl _) | simp [p2, v2, e3.2]) ?_
     exact rq_v (rv_ev rfl)
   ·
    intro vf pf hR
    have e2 : (fun v_ p_ => ∃ y : Td, v_ = y.agg ∧ p_ = [tdE y] ∧ Same x y ∧ OneTd y) (vf 2) (pf 2) := hR 2 (by decide)
    obtain ⟨v55, v2⟩ : ∃ x, vf 2 = x := ⟨_, rfl⟩
    obtain ⟨p56, p2⟩ : ∃ x, pf 2 = x := ⟨_, rfl⟩
    have hR57 := e2
    rw [v2, p2] at hR57
    obtain ⟨yhR57, rfl, rfl, hshR57, hohR57⟩ := hR57
    have hzhR57 := hz.same hshR57
    have e4 : (vf 4) = .bool false ∧ (pf 4) = [] := hR 4 (by decide)
    have q0 : (vf 0) = .agg #[.int .i64 yhR48.n.ins, yhR48.n.sv, yhR48.n.lv, yhR48.n.ov, yhR48.pv, yhR48.qv, yhR48.kv, yhR48.av, yhR48.bv, .int .i64 yhR48.oi, .int .i64 yhR48.ni] ∧ (pf 0) = [] := hR 0 (by decide)
    have q1 : (vf 1) = .agg #[.int .i64 x.n.ins, x.n.sv, x.n.lv, x.n.ov, x.pv, x.qv, x.kv, x.av, x.bv, .int .i64 x.oi, .int .i64 x.ni] ∧ (pf 1) = [] := hR 1 (by decide)
    have q3 : (vf 3) = .bool true ∧ (pf 3) = [] := hR 3 (by decide)
    have q4 : (vf 4) = .bool false ∧ (pf 4) = [] := hR 4 (by decide)
    refine hl_less (l' := [tdE yhR57, boxE b54 #[.int .i64 (nodR x), uhR52] 51, rowE 86 3 uhR52 ((arcR x).length) ((arcR x).flatMap arcC), boxE b49 #[.int .i64 yhR48.n.ins, yhR48.n.sv, yhR48.n.lv, yhR48.n.ov, yhR48.pv, yhR48.qv, yhR48.kv, yhR48.av, yhR48.bv, .int .i64 yhR48.oi, .int .i64 yhR48.ni] 40, tdE yhR48, boxE b45 #[.int .i64 (nodR x), uhR11] 51, rowE 86 3 uhR11 ((arcR x).length) ((arcR x).flatMap arcC), tdE yhR8, boxE b1 #[.int .i64 x.n.ins, x.n.sv, x.n.lv, x.n.ov, x.pv, x.qv, x.kv, x.av, x.bv, .int .i64 x.oi, .int .i64 x.ni] 31]) (sx 0 rfl (sx 1 rfl (sx 2 rfl (sx 3 rfl (sx 4 rfl (sx 5 rfl (sx 6 rfl (sx 7 rfl (sx 8 rfl (sx 18 rfl (sx 40 rfl (sx 45 (congrArg some e4.1) (sub_nil _))))))))))))) (by first | (simp only [p2, v2, q0.2, q1.2, q3.2, q4.2, List.flatMap_cons, List.flatMap_nil, List.append_nil, List.nil_append, List.cons_append]; exact List.Sublist.refl _) | simp [p2, v2, q0.2, q1.2, q3.2, q4.2]) ?_
    simp only [List.drop_succ_cons, List.drop_zero]
    refine hl_less (sx 0 rfl (sx 1 rfl (sx 2 rfl (sx 3 rfl (sx 4 rfl (sx 5 rfl (sx 6 rfl (sx 7 rfl (sx 8 rfl (sx 18 rfl (sx 40 rfl (sx 45 rfl (sub_nil _))))))))))))) (.refl _) ?_
    refine hl_nil ?_
    refine hq_then ?_
    refine hc_false rfl ?_
    refine hc_skip ?_
    refine hq_then ?_
    refine hc_seq ?_
    refine hc_region ?_
    refine hl_v rfl rfl rfl (rv_ev rfl) ?_
    refine hl_less (sx 0 rfl (sx 1 rfl (sx 2 rfl (sx 3 rfl (sx 4 rfl (sx 5 rfl (sx 6 rfl (sx 7 rfl (sx 8 rfl (sx 9 rfl (sx 18 rfl (sx 40 rfl (sx 45 rfl (sub_nil _)))))))))))))) (.refl _) ?_
    refine hl_nil ?_
    refine hq_then ?_
    refine hc_seq ?_
    refine hc_region ?_
    refine hl_v rfl rfl rfl (rv_loadN (cs := [.int .i64 yhR48.n.ins, yhR48.n.sv, yhR48.n.lv, yhR48.n.ov, yhR48.pv, yhR48.qv, yhR48.kv, yhR48.av, yhR48.bv, .int .i64 yhR48.oi, .int .i64 yhR48.ni]) rfl (by kernel_rfl) (by kernel_rfl) rfl rfl (box_part 3 rfl 0 rfl)) ?_
    refine hl_v rfl rfl rfl (rv_ev rfl) ?_
    refine hl_callM (R := (fun u_ p_ => ∃ q : Int, u_ = .int .i64 q ∧ 1 ≤ q ∧ q ≤ 1 + 30000000000000)) 4 rfl rfl (by kernel_rfl) rfl rfl (fun l' w hm => markTimed_mut yhR48 1 _ _ w hm (by omega) hzhR48 hohR48) ?_
    intro v58 p59 hR60
    obtain ⟨qhR60, rfl, ahR60, bhR60⟩ := hR60
    refine hl_eqL (l' := [tdE yhR57, boxE b54 #[.int .i64 (nodR x), uhR52] 51, rowE 86 3 uhR52 ((arcR x).length) ((arcR x).flatMap arcC), boxE b49 #[.int .i64 yhR48.n.ins, yhR48.n.sv, yhR48.n.lv, yhR48.n.ov, yhR48.pv, yhR48.qv, yhR48.kv, yhR48.av, yhR48.bv, .int .i64 yhR48.oi, .int .i64 yhR48.ni] 40, p59, boxE b45 #[.int .i64 (nodR x), uhR11] 51, rowE 86 3 uhR11 ((arcR x).length) ((arcR x).flatMap arcC), tdE yhR8, boxE b1 #[.int .i64 x.n.ins, x.n.sv, x.n.lv, x.n.ov, x.pv, x.qv, x.kv, x.av, x.bv, .int .i64 x.oi, .int .i64 x.ni] 31]) rfl ?_
    refine hl_v rfl rfl rfl (rv_ev rfl) ?_
    refine hl_less (sx 0 rfl (sx 1 rfl (sx 2 rfl (sx 3 rfl (sx 4 rfl (sx 5 rfl (sx 6 rfl (sx 7 rfl (sx 8 rfl (sx 9 rfl (sx 18 rfl (sx 40 rfl (sx 45 rfl (sub_nil _)))))))))))))) (.refl _) ?_
    refine hl_nil ?_
    refine hq_then ?_
    refine hc_seq ?_
    refine hc_seq ?_
    refine hc_region ?_
    refine hl_v rfl rfl rfl (rv_ev rfl) ?_
    refine hl_lss rfl rfl rfl rfl rfl rfl (fun h61 => ?_) (fun h61 => ?_)
    ·
     refine hl_v rfl rfl rfl (rv_ev rfl) ?_
     refine hl_skip rfl rfl rfl ?_
     refine hl_skip rfl rfl rfl ?_
     refine hl_skip rfl rfl rfl ?_
     refine hl_skip rfl rfl rfl ?_
     refine hl_v rfl rfl rfl (rv_ev rfl) ?_
     refine hl_v rfl rfl rfl (rv_ev rfl) ?_
     refine hl_skip rfl rfl rfl ?_
     refine hl_skip rfl rfl rfl ?_
     refine hl_skip rfl rfl rfl ?_
     refine hl_v rfl rfl rfl (rv_ev rfl) ?_
     refine hl_less (sx 0 rfl (sx 1 rfl (sx 2 rfl (sx 3 rfl (sx 4 rfl (sx 5 rfl (sx 6 rfl (sx 7 rfl (sx 8 rfl (sx 9 rfl (sx 18 rfl (sx 40 rfl (sx 45 rfl (sx 61 rfl (sub_nil _))))))))))))))) (.refl _) ?_
     refine hl_nil ?_
     refine hq_then ?_
     refine hc_true rfl ?_
     refine hc_seq ?_
     refine hc_region ?_
     refine hl_v rfl rfl rfl (rv_ev rfl) ?_
     refine hl_less (sx 0 rfl (sx 1 rfl (sx 2 rfl (sx 3 rfl (sx 4 rfl (sx 5 rfl (sx 6 rfl (sx 7 rfl (sx 8 rfl (sx 9 rfl (sx 18 rfl (sx 40 rfl (sx 45 rfl (sx 61 rfl (sub_nil _))))))))))))))) (.refl _) ?_
     refine hl_nil ?_
     refine hq_then ?_
     refine hc_ret ?_
     refine hq_then_ret ?_
     exfalso
     omega
    ·
     refine hl_v rfl rfl rfl (rv_ev rfl) ?_
     refine hl_v rfl rfl rfl (rv_loadN (cs := [.int .i64 (nodR x), uhR52]) rfl (by kernel_rfl) (by kernel_rfl) rfl rfl (box_part 1 rfl 0 rfl)) ?_
     refine hl_v rfl rfl rfl (rv_loadN (cs := [.int .i64 (nodR x), uhR11]) rfl (by kernel_rfl) (by kernel_rfl) rfl rfl (box_part 5 rfl 0 rfl)) ?_
     refine hl_callV rfl rfl rfl (rq_call (by kernel_rfl) rfl (fun w hm => ret_ans (eqTimingGraph_yes (nodR x) (arcR x) _ _ w ((rd_row 2 rfl) w hm) ((rd_row 6 rfl) w hm)))) ?_
     refine hl_v rfl rfl rfl (rv_ev rfl) ?_
     refine hl_v rfl rfl rfl (rv_ev rfl) ?_
     refine hl_v rfl rfl rfl (rv_ev rfl) ?_
     refine hl_v rfl rfl rfl (rv_ev rfl) ?_
     refine hl_v rfl rfl rfl (rv_ev rfl) ?_
     refine hl_v rfl rfl rfl (rv_bneq (m := false) (n := false) rfl Try.underlying4 rfl rfl) ?_
     refine hl_v rfl rfl rfl (rv_ev rfl) ?_
     refine hl_less (sx 0 rfl (sx 1 rfl (sx 2 rfl (sx 3 rfl (sx 4 rfl (sx 5 rfl (sx 6 rfl (sx 7 rfl (sx 8 rfl (sx 9 rfl (sx 18 rfl (sx 40 rfl (sx 45 rfl (sx 61 rfl (sub_nil _))))))))))))))) (.refl _) ?_
     refine hl_nil ?_
     refine hq_then ?_
     refine hc_false rfl ?_
     refine hc_skip ?_
     refine hq_then ?_
     refine hc_seq ?_
     refine hc_region ?_
     refine hl_v rfl rfl rfl (rv_ev rfl) ?_
     refine hl_less (sx 0 rfl (sx 1 rfl (sx 2 rfl (sx 3 rfl (sx 4 rfl (sx 5 rfl (sx 6 rfl (sx 7 rfl (sx 8 rfl (sx 9 rfl (sx 10 rfl (sx 18 rfl (sx 40 rfl (sx 45 rfl (sx 61 rfl (sub_nil _)))))))))))))))) (.refl _) ?_
     refine hl_nil ?_
     refine hq_then ?_
     refine hc_seq ?_
     refine hc_region ?_
     refine hl_v rfl rfl rfl (rv_loadN (cs := [.int .i64 (nodR x), uhR52]) rfl (by kernel_rfl) (by kernel_rfl) rfl rfl (box_part 1 rfl 0 rfl)) ?_
     refine hl_v rfl rfl rfl (rv_ev rfl) ?_
     refine hl_callM (R := (fun u_ p_ => u_ = .int .i64 (1 + 3 * (arcR x).length) ∧ p_ = rowE 86 3 uhR52 (arcR x).length ((glL (arM 1) (arcR x).length).flatMap arcC))) 2 rfl rfl (by kernel_rfl) rfl rfl (fun l' w hm => markTimingGraph_mut (nodR x) (arcR x) 1 uhR52 _ _ w hm (by omega) (by omega) ouhR52) ?_
     intro v62 p63 hR64
     obtain ⟨rfl, rfl⟩ := hR64
     refine hl_eqL (l' := [tdE yhR57, boxE b54 #[.int .i64 (nodR x), uhR52] 51, rowE 86 3 uhR52 ((arcR x).length) ((glL (arM 1) (arcR x).length).flatMap arcC), boxE b49 #[.int .i64 yhR48.n.ins, yhR48.n.sv, yhR48.n.lv, yhR48.n.ov, yhR48.pv, yhR48.qv, yhR48.kv, yhR48.av, yhR48.bv, .int .i64 yhR48.oi, .int .i64 yhR48.ni] 40, p59, boxE b45 #[.int .i64 (nodR x), uhR11] 51, rowE 86 3 uhR11 ((arcR x).length) ((arcR x).flatMap arcC), tdE yhR8, boxE b1 #[.int .i64 x.n.ins, x.n.sv, x.n.lv, x.n.ov, x.pv, x.qv, x.kv, x.av, x.bv, .int .i64 x.oi, .int .i64 x.ni] 31]) rfl ?_
     refine hl_v rfl rfl rfl (rv_ev rfl) ?_
     refine hl_less (sx 0 rfl (sx 1 rfl (sx 2 rfl (sx 3 rfl (sx 4 rfl (sx 5 rfl (sx 6 rfl (sx 7 rfl (sx 8 rfl (sx 9 rfl (sx 10 rfl (sx 18 rfl (sx 40 rfl (sx 45 rfl (sx 61 rfl (sub_nil _)))))))))))))))) (.refl _) ?_
     refine hl_nil ?_
     refine hq_then ?_
     refine hc_seq ?_
     refine hc_region ?_
     refine hl_v rfl rfl rfl (rv_ev rfl) ?_
     refine hl_less (sx 0 rfl (sx 1 rfl (sx 2 rfl (sx 3 rfl (sx 4 rfl (sx 5 rfl (sx 6 rfl (sx 7 rfl (sx 8 rfl (sx 9 rfl (sx 10 rfl (sx 11 rfl (sx 18 rfl (sx 40 rfl (sx 45 rfl (sx 61 rfl (sub_nil _))))))))))))))))) (.refl _) ?_
     refine hl_nil ?_
     refine hq_then ?_
     refine hc_seq ?_
     refine hc_region ?_
     refine hl_v rfl rfl rfl (rv_loadN (cs := [.int .i64 (nodR x), uhR52]) rfl (by kernel_rfl) (by kernel_rfl) rfl rfl (box_part 1 rfl 0 rfl)) ?_
     refine hl_v rfl rfl rfl (rv_ev rfl) ?_
     refine hl_callV rfl rfl rfl (rq_call (by kernel_rfl) rfl (fun w hm => ret_ans (heldTimingGraph_ans (nodR x) (arcR x).length 1 uhR52 w (rd_row 2 rfl w hm) (by omega) (by omega)))) ?_
     refine hl_v rfl rfl rfl (rv_ev rfl) ?_
     refine hl_less (sx 0 rfl (sx 1 rfl (sx 2 rfl (sx 3 rfl (sx 4 rfl (sx 5 rfl (sx 6 rfl (sx 7 rfl (sx 8 rfl (sx 9 rfl (sx 10 rfl (sx 11 rfl (sx 18 rfl (sx 40 rfl (sx 45 rfl (sx 61 rfl (sub_nil _))))))))))))))))) (.refl _) ?_
     refine hl_nil ?_
     refine hq_then ?_
     refine hc_seq ?_
     refine hc_seq ?_
     refine hc_region ?_
     refine hl_v rfl rfl rfl (rv_ev rfl) ?_
     refine hl_lss rfl rfl rfl rfl rfl rfl (fun h65 => ?_) (fun h65 => ?_)
     ·
      refine hl_less (sx 0 rfl (sx 1 rfl (sx 2 rfl (sx 3 rfl (sx 4 rfl (sx 5 rfl (sx 6 rfl (sx 7 rfl (sx 8 rfl (sx 9 rfl (sx 10 rfl (sx 11 rfl (sx 18 rfl (sx 40 rfl (sx 45 rfl (sx 61 rfl (sx 69 rfl (sub_nil _)))))))))))))))))) (.refl _) ?_
      refine hl_nil ?_
      refine hq_then ?_
      refine hc_true rfl ?_
      refine hc_seq ?_
      refine hc_region ?_
      refine hl_v rfl rfl rfl (rv_ev rfl) ?_
      refine hl_less (sx 0 rfl (sx 1 rfl (sx 2 rfl (sx 3 rfl (sx 4 rfl (sx 5 rfl (sx 6 rfl (sx 7 rfl (sx 8 rfl (sx 9 rfl (sx 10 rfl (sx 11 rfl (sx 18 rfl (sx 40 rfl (sx 45 rfl (sx 61 rfl (sx 69 rfl (sub_nil _)))))))))))))))))) (.refl _) ?_
      refine hl_nil ?_
      refine hq_then ?_
      refine hc_ret ?_
      refine hq_then_ret ?_
      exfalso
      omega
     ·
      refine hl_less (sx 0 rfl (sx 1 rfl (sx 2 rfl (sx 3 rfl (sx 4 rfl (sx 5 rfl (sx 6 rfl (sx 7 rfl (sx 8 rfl (sx 9 rfl (sx 10 rfl (sx 11 rfl (sx 18 rfl (sx 40 rfl (sx 45 rfl (sx 61 rfl (sx 69 rfl (sub_nil _)))))))))))))))))) (.refl _) ?_
      refine hl_nil ?_
      refine hq_then ?_
      refine hc_false rfl ?_
      refine hc_skip ?_
      refine hq_then ?_
      refine hc_seq ?_
      refine hc_seq ?_
      refine hc_region ?_
      refine hl_v rfl rfl rfl (rv_ev rfl) ?_
      refine hl_v rfl rfl rfl (rv_ev rfl) ?_
      refine hl_neq rfl rfl rfl rfl rfl rfl (fun h66 => ?_) (fun h66 => ?_)
      ·
       refine hl_less (sx 0 rfl (sx 1 rfl (sx 2 rfl (sx 3 rfl (sx 4 rfl (sx 5 rfl (sx 6 rfl (sx 7 rfl (sx 8 rfl (sx 9 rfl (sx 10 rfl (sx 11 rfl (sx 18 rfl (sx 40 rfl (sx 45 rfl (sx 61 rfl (sx 69 rfl (sx 72 rfl (sub_nil _))))))))))))))))))) (.refl _) ?_
       refine hl_nil ?_
       refine hq_then ?_
       refine hc_true rfl ?_
       refine hc_seq ?_
       refine hc_region ?_
       refine hl_v rfl rfl rfl (rv_ev rfl) ?_
       refine hl_less (sx 0 rfl (sx 1 rfl (sx 2 rfl (sx 3 rfl (sx 4 rfl (sx 5 rfl (sx 6 rfl (sx 7 rfl (sx 8 rfl (sx 9 rfl (sx 10 rfl (sx 11 rfl (sx 18 rfl (sx 40 rfl (sx 45 rfl (sx 61 rfl (sx 69 rfl (sx 72 rfl (sub_nil _))))))))))))))))))) (.refl _) ?_
       refine hl_nil ?_
       refine hq_then ?_
       refine hc_ret ?_
       refine hq_then_ret ?_
       exfalso
       omega
      ·
       refine hl_less (sx 0 rfl (sx 1 rfl (sx 2 rfl (sx 3 rfl (sx 4 rfl (sx 5 rfl (sx 6 rfl (sx 7 rfl (sx 8 rfl (sx 9 rfl (sx 10 rfl (sx 11 rfl (sx 18 rfl (sx 40 rfl (sx 45 rfl (sx 61 rfl (sx 69 rfl (sx 72 rfl (sub_nil _))))))))))))))))))) (.refl _) ?_
       refine hl_nil ?_
       refine hq_then ?_
       refine hc_false rfl ?_
       refine hc_skip ?_
       refine hq_then ?_
       refine hc_seq ?_
       refine hc_region ?_
       refine hl_v rfl rfl rfl (rv_loadN (cs := [.int .i64 x.n.ins, x.n.sv, x.n.lv, x.n.ov, x.pv, x.qv, x.kv, x.av, x.bv, .int .i64 x.oi, .int .i64 x.ni]) rfl (by kernel_rfl) (by kernel_rfl) rfl rfl (box_part 8 rfl 0 rfl)) ?_
       refine hl_q rfl rfl rfl (rq_call (by kernel_rfl) rfl (fun w hm => toTimed_ret x w (hr.below hm.bel) hz)) ?_
       intro v67 p68 hR69
       obtain ⟨yhR69, rfl, rfl, hshR69, hohR69⟩ := hR69
       have hzhR69 := hz.same hshR69
       refine hl_q rfl rfl rfl (rq_call (by kernel_rfl) rfl (fun w hm => by have h9 := implTimingOf_ret yhR69 w (td_rds 0 rfl w hm); rw [arcR_same hshR69, nodR_same hshR69, pB_same hshR69] at h9; exact h9)) ?_
       intro v70 p71 hR72
       obtain ⟨uhR72, rfl, rfl, ouhR72⟩ := hR72
       refine hl_v rfl rfl rfl (rv_ev rfl) ?_
       refine hl_v rfl rfl rfl (rv_ev rfl) ?_
       refine hl_v rfl rfl rfl (rv_ev rfl) ?_
       refine hl_bool (fun h73 => absurd ((h12).symm.trans h73) (by decide)) (fun h73 => ?_)
       refine hl_box rfl rfl rfl (rq_alloc (z := .agg #[.int .i64 0, .slice none 0 0]) rfl (by kernel_rfl)) ?_
       intro b74
       refine hl_storeBoxN (i := 0) (off := 0) (us := [.int .i64 (nodR x), uhR72])  (l' := [boxE b74 #[.int .i64 (nodR x), uhR72] 51, rowE 86 3 uhR72 ((arcR x).length) ((arcR x).flatMap arcC), tdE yhR69, tdE yhR57, boxE b54 #[.int .i64 (nodR x), uhR52] 51, rowE 86 3 uhR52 ((arcR x).length) ((glL (arM 1) (arcR x).length).flatMap arcC), boxE b49 #[.int .i64 yhR48.n.ins, yhR48.n.sv, yhR48.n.lv, yhR48.n.ov, yhR48.pv, yhR48.qv, yhR48.kv, yhR48.av, yhR48.bv, .int .i64 yhR48.oi, .int .i64 yhR48.ni] 40, p59, boxE b45 #[.int .i64 (nodR x), uhR11] 51, rowE 86 3 uhR11 ((arcR x).length) ((arcR x).flatMap arcC), tdE yhR8, boxE b1 #[.int .i64 x.n.ins, x.n.sv, x.n.lv, x.n.ov, x.pv, x.qv, x.kv, x.av, x.bv, .int .i64 x.oi, .int .i64 x.ni] 31]) rfl rfl rfl (by kernel_rfl) rfl rfl rfl (all_cons rfl (all_cons ouhR72 all_nil)) rfl rfl rfl ?_
       refine hl_v rfl rfl rfl (rv_ev rfl) ?_
       refine hl_less (sx 0 rfl (sx 1 rfl (sx 2 rfl (sx 3 rfl (sx 4 rfl (sx 5 rfl (sx 6 rfl (sx 7 rfl (sx 8 rfl (sx 9 rfl (sx 10 rfl (sx 11 rfl (sx 12 rfl (sx 13 rfl (sx 18 rfl (sx 40 rfl (sx 45 rfl (sx 61 rfl (sx 69 rfl (sx 72 rfl (sub_nil _))))))))))))))))))))) (.refl _) ?_
       refine hl_nil ?_
       refine hq_then ?_
       refine hc_seq ?_
       refine hc_seq ?_
       refine hc_region ?_
       refine hl_v rfl rfl rfl (rv_loadN (cs := [.int .i64 (nodR x), uhR72]) rfl (by kernel_rfl) (by kernel_rfl) rfl rfl (box_part 0 rfl 0 rfl)) ?_
       refine hl_v rfl rfl rfl (rv_loadN (cs := [.int .i64 (nodR x), uhR11]) rfl (by kernel_rfl) (by kernel_rfl) rfl rfl (box_part 8 rfl 0 rfl)) ?_
       refine hl_callV rfl rfl rfl (rq_call (by kernel_rfl) rfl (fun w hm => ret_ans (eqTimingGraph_yes (nodR x) (arcR x) _ _ w ((rd_row 1 rfl) w hm) ((rd_row 9 rfl) w hm)))) ?_
       refine hl_v rfl rfl rfl (rv_ev rfl) ?_
       refine hl_v rfl rfl rfl (rv_ev rfl) ?_
       refine hl_v rfl rfl rfl (rv_ev rfl) ?_
       refine hl_v rfl rfl rfl (rv_ev rfl) ?_
       refine hl_v rfl rfl rfl (rv_bneq (m := false) (n := false) rfl Try.underlying4 rfl rfl) ?_
       refine hl_v rfl rfl rfl (rv_ev rfl) ?_
       refine hl_less (sx 0 rfl (sx 1 rfl (sx 2 rfl (sx 3 rfl (sx 4 rfl (sx 5 rfl (sx 6 rfl (sx 7 rfl (sx 8 rfl (sx 9 rfl (sx 10 rfl (sx 11 rfl (sx 12 rfl (sx 13 rfl (sx 18 rfl (sx 40 rfl (sx 45 rfl (sx 61 rfl (sx 69 rfl (sx 72 rfl (sx 87 rfl (sub_nil _)))))))))))))))))))))) (.refl _) ?_
       refine hl_nil ?_
       refine hq_then ?_
       refine hc_false rfl ?_
       refine hc_skip ?_
       refine hq_then ?_
       refine hc_seq ?_
       refine hc_region ?_
       refine hl_v rfl rfl rfl (rv_ev rfl) ?_
       refine hl_less (sx 0 rfl (sx 1 rfl (sx 2 rfl (sx 3 rfl (sx 4 rfl (sx 5 rfl (sx 6 rfl (sx 7 rfl (sx 8 rfl (sx 9 rfl (sx 10 rfl (sx 11 rfl (sx 12 rfl (sx 13 rfl (sx 18 rfl (sx 40 rfl (sx 45 rfl (sx 61 rfl (sx 69 rfl (sx 72 rfl (sx 87 rfl (sub_nil _)))))))))))))))))))))) (.refl _) ?_
       refine hl_nil ?_
       refine hq_then ?_
       refine hc_seq ?_
       refine hc_region ?_
       refine hl_v rfl rfl rfl (rv_loadN (cs := [.int .i64 (nodR x), uhR52]) rfl (by kernel_rfl) (by kernel_rfl) rfl rfl (box_part 4 rfl 0 rfl)) ?_
       refine hl_v rfl rfl rfl (rv_ev rfl) ?_
       refine hl_callV rfl rfl rfl (rq_call (by kernel_rfl) rfl (fun w hm => ret_ans (heldTimingGraph_ans (nodR x) (arcR x).length 1 uhR52 w (rd_row 5 rfl w hm) (by omega) (by omega)))) ?_
       refine hl_v rfl rfl rfl (rv_ev rfl) ?_
       refine hl_less (sx 0 rfl (sx 1 rfl (sx 2 rfl (sx 3 rfl (sx 4 rfl (sx 5 rfl (sx 6 rfl (sx 7 rfl (sx 8 rfl (sx 9 rfl (sx 10 rfl (sx 11 rfl (sx 12 rfl (sx 13 rfl (sx 18 rfl (sx 40 rfl (sx 45 rfl (sx 61 rfl (sx 69 rfl (sx 72 rfl (sx 87 rfl (sub_nil _)))))))))))))))))))))) (.refl _) ?_
       refine hl_nil ?_
       refine hq_then ?_
       refine hc_seq ?_
       refine hc_seq ?_
       refine hc_region ?_
       refine hl_v rfl rfl rfl (rv_ev rfl) ?_
       refine hl_lss rfl rfl rfl rfl rfl rfl (fun h75 => ?_) (fun h75 => ?_)
       ·
        refine hl_less (sx 0 rfl (sx 1 rfl (sx 2 rfl (sx 3 rfl (sx 4 rfl (sx 5 rfl (sx 6 rfl (sx 7 rfl (sx 8 rfl (sx 9 rfl (sx 10 rfl (sx 11 rfl (sx 12 rfl (sx 13 rfl (sx 18 rfl (sx 40 rfl (sx 45 rfl (sx 61 rfl (sx 69 rfl (sx 72 rfl (sx 87 rfl (sx 92 rfl (sub_nil _))))))))))))))))))))))) (.refl _) ?_
        refine hl_nil ?_
        refine hq_then ?_
        refine hc_true rfl ?_
        refine hc_seq ?_
        refine hc_region ?_
        refine hl_v rfl rfl rfl (rv_ev rfl) ?_
        refine hl_less (sx 0 rfl (sx 1 rfl (sx 2 rfl (sx 3 rfl (sx 4 rfl (sx 5 rfl (sx 6 rfl (sx 7 rfl (sx 8 rfl (sx 9 rfl (sx 10 rfl (sx 11 rfl (sx 12 rfl (sx 13 rfl (sx 18 rfl (sx 40 rfl (sx 45 rfl (sx 61 rfl (sx 69 rfl (sx 72 rfl (sx 87 rfl (sx 92 rfl (sub_nil _))))))))))))))))))))))) (.refl _) ?_
        refine hl_nil ?_
        refine hq_then ?_
        refine hc_ret ?_
        refine hq_then_ret ?_
        exfalso
        omega
       ·
        refine hl_less (sx 0 rfl (sx 1 rfl (sx 2 rfl (sx 3 rfl (sx 4 rfl (sx 5 rfl (sx 6 rfl (sx 7 rfl (sx 8 rfl (sx 9 rfl (sx 10 rfl (sx 11 rfl (sx 12 rfl (sx 13 rfl (sx 18 rfl (sx 40 rfl (sx 45 rfl (sx 61 rfl (sx 69 rfl (sx 72 rfl (sx 87 rfl (sx 92 rfl (sub_nil _))))))))))))))))))))))) (.refl _) ?_
        refine hl_nil ?_
        refine hq_then ?_
        refine hc_false rfl ?_
        refine hc_skip ?_
        refine hq_then ?_
        refine hc_seq ?_
        refine hc_seq ?_
        refine hc_region ?_
        refine hl_v rfl rfl rfl (rv_ev rfl) ?_
        refine hl_v rfl rfl rfl (rv_ev rfl) ?_
        refine hl_neq rfl rfl rfl rfl rfl rfl (fun h76 => ?_) (fun h76 => ?_)
        ·
         refine hl_less (sx 0 rfl (sx 1 rfl (sx 2 rfl (sx 3 rfl (sx 4 rfl (sx 5 rfl (sx 6 rfl (sx 7 rfl (sx 8 rfl (sx 9 rfl (sx 10 rfl (sx 11 rfl (sx 12 rfl (sx 13 rfl (sx 18 rfl (sx 40 rfl (sx 45 rfl (sx 61 rfl (sx 69 rfl (sx 72 rfl (sx 87 rfl (sx 92 rfl (sx 95 rfl (sub_nil _)))))))))))))))))))))))) (.refl _) ?_
         refine hl_nil ?_
         refine hq_then ?_
         refine hc_true rfl ?_
         refine hc_seq ?_
         refine hc_region ?_
         refine hl_v rfl rfl rfl (rv_ev rfl) ?_
         refine hl_less (sx 0 rfl (sx 1 rfl (sx 2 rfl (sx 3 rfl (sx 4 rfl (sx 5 rfl (sx 6 rfl (sx 7 rfl (sx 8 rfl (sx 9 rfl (sx 10 rfl (sx 11 rfl (sx 12 rfl (sx 13 rfl (sx 18 rfl (sx 40 rfl (sx 45 rfl (sx 61 rfl (sx 69 rfl (sx 72 rfl (sx 87 rfl (sx 92 rfl (sx 95 rfl (sub_nil _)))))))))))))))))))))))) (.refl _) ?_
         refine hl_nil ?_
         refine hq_then ?_
         refine hc_ret ?_
         refine hq_then_ret ?_
         exfalso
         omega
        ·
         refine hl_less (sx 0 rfl (sx 1 rfl (sx 2 rfl (sx 3 rfl (sx 4 rfl (sx 5 rfl (sx 6 rfl (sx 7 rfl (sx 8 rfl (sx 9 rfl (sx 10 rfl (sx 11 rfl (sx 12 rfl (sx 13 rfl (sx 18 rfl (sx 40 rfl (sx 45 rfl (sx 61 rfl (sx 69 rfl (sx 72 rfl (sx 87 rfl (sx 92 rfl (sx 95 rfl (sub_nil _)))))))))))))))))))))))) (.refl _) ?_
         refine hl_nil ?_
         refine hq_then ?_
         refine hc_false rfl ?_
         refine hc_skip ?_
         refine hq_then ?_
         refine hc_seq ?_
         refine hc_region ?_
         refine hl_v rfl rfl rfl (rv_ev rfl) ?_
         refine hl_less (sx 0 rfl (sx 1 rfl (sx 2 rfl (sx 3 rfl (sx 4 rfl (sx 5 rfl (sx 6 rfl (sx 7 rfl (sx 8 rfl (sx 9 rfl (sx 10 rfl (sx 11 rfl (sx 12 rfl (sx 13 rfl (sx 18 rfl (sx 40 rfl (sx 45 rfl (sx 61 rfl (sx 69 rfl (sx 72 rfl (sx 87 rfl (sx 92 rfl (sx 95 rfl (sub_nil _)))))))))))))))))))))))) (.refl _) ?_
         refine hl_nil ?_
         refine hq_then ?_
         refine hc_ret ?_
         exact hq_ans rfl rfl rfl
end Go.Proofs.Ytceebbcoikgocaa
