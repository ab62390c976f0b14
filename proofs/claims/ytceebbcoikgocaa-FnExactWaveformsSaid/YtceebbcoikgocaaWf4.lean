/- Texts of the law FnExactWaveforms, part 4: what it uses. -/
import Derived.Test.YtceebbcoikgocaaWf3
set_option linter.unusedVariables false
set_option linter.unusedSimpArgs false
namespace Go.Proofs.Ytceebbcoikgocaa
open Go.RowKit Go.ChangeShapes
open Go.RowKit
set_option maxHeartbeats 4000000 in
set_option maxRecDepth 100000 in
theorem specTimedOk_ans (x : Td) (w : World) (hr : RdsTd w x) :
  Calls Try.prog 11 #[.agg #[.int .i64 x.n.ins, x.n.sv, x.n.lv, x.n.ov, x.pv, x.qv, x.kv, x.av, x.bv, .int .i64 x.oi, .int .i64 x.ni]] w (Ans w (.bool (pB (TdOk x)))) := by
 have t1 := sml hr.ks
 have t2 := sml hr.ao
 have t3 := sml hr.bs
 have t4 := hr.dl.small
 have t5 := hr.ds.small
 have t6 := hr.n.sq.small
 have t7 := hr.n.lt.small
 have t8 := sml hr.n.ou
 have hcnt : x.n.cnt = 1 + x.n.ins + x.n.ss.length + x.n.ls.length := rfl
 have hfst : x.n.fst = 1 + x.n.ins + x.n.ss.length := rfl
 refine calls_hc (N := 99) (args := [.agg #[.int .i64 x.n.ins, x.n.sv, x.n.lv, x.n.ov, x.pv, x.qv, x.kv, x.av, x.bv, .int .i64 x.oi, .int .i64 x.ni]]) Try.func11 rfl rfl ?_
 refine hc_less _ (sx 0 rfl (sub_nil _)) (.refl _) ?_
 refine hc_seq ?_
 refine hc_region ?_
 refine hl_box rfl rfl rfl (rq_box rfl rfl) ?_
 intro b1
 refine hl_v rfl rfl rfl (rv_ev rfl) ?_
 refine hl_less (sx 0 rfl (sx 1 rfl (sx 2 rfl (sub_nil _)))) (.refl _) ?_
 refine hl_nil ?_
 refine hq_then ?_
 refine hc_seq ?_
 refine hc_seq ?_
 refine hc_region ?_
 refine hl_v rfl rfl rfl (rv_field (k0 := 0) rfl (by kernel_rfl) rfl) ?_
 refine hl_v rfl rfl rfl (rv_loadN (cs := [.int .i64 x.n.ins, x.n.sv, x.n.lv, x.n.ov]) rfl (by kernel_rfl) (by kernel_rfl) rfl rfl (box_part 0 rfl 0 rfl)) ?_
 refine hl_v rfl rfl rfl (rv_field (k0 := 7) rfl (by kernel_rfl) rfl) ?_
 refine hl_v rfl rfl rfl (rv_load rfl (by kernel_rfl) rfl (box_cell 0 rfl rfl)) ?_
 refine hl_callV rfl rfl rfl (rq_call (by kernel_rfl) rfl (fun w hm => ret_ans (specLutStateOk_ans x.n x.ao _ w (hr.n.below hm.bel) (hr.ao.below hm.bel)))) ?_
 refine hl_bool (fun h2 => ?_) (fun h2 => ?_)
 ·
  have hSao := of_pB h2
  refine hl_v rfl rfl rfl (rv_ev rfl) ?_
  refine hl_v rfl rfl rfl (rv_ev rfl) ?_
  refine hl_v rfl rfl rfl (rv_field (k0 := 0) rfl (by kernel_rfl) rfl) ?_
  refine hl_v rfl rfl rfl (rv_loadN (cs := [.int .i64 x.n.ins, x.n.sv, x.n.lv, x.n.ov]) rfl (by kernel_rfl) (by kernel_rfl) rfl rfl (box_part 0 rfl 0 rfl)) ?_
  refine hl_v rfl rfl rfl (rv_field (k0 := 8) rfl (by kernel_rfl) rfl) ?_
  refine hl_v rfl rfl rfl (rv_load rfl (by kernel_rfl) rfl (box_cell 0 rfl rfl)) ?_
  refine hl_callV rfl rfl rfl (rq_call (by kernel_rfl) rfl (fun w hm => ret_ans (specLutStateOk_ans x.n x.bs _ w (hr.n.below hm.bel) (hr.bs.below hm.bel)))) ?_
  refine hl_bool (fun h3 => ?_) (fun h3 => ?_)
  ·
   have hSbs := of_pB h3
   refine hl_v rfl rfl rfl (rv_ev rfl) ?_
   refine hl_v rfl rfl rfl (rv_ev rfl) ?_
   refine hl_v rfl rfl rfl (rv_ev rfl) ?_
   refine hl_v rfl rfl rfl (rv_field (k0 := 4) rfl (by kernel_rfl) rfl) ?_
   refine hl_v rfl rfl rfl (rv_field (k0 := 0) rfl (by kernel_rfl) rfl) ?_
   refine hl_v rfl rfl rfl (rv_load rfl (by kernel_rfl) rfl (box_cell 0 rfl rfl)) ?_
   refine hl_v rfl rfl rfl (rv_len rfl Try.underlying27 rfl (rd_old ((hr).dl.row))) ?_
   refine hl_v rfl rfl rfl (rv_field (k0 := 0) rfl (by kernel_rfl) rfl) ?_
   refine hl_v rfl rfl rfl (rv_field (k0 := 2) rfl (by kernel_rfl) rfl) ?_
   refine hl_v rfl rfl rfl (rv_load rfl (by kernel_rfl) rfl (box_cell 0 rfl rfl)) ?_
   refine hl_v rfl rfl rfl (rv_len rfl Try.underlying35 rfl (rd_old ((hr).n.lt.row))) ?_
   refine hl_neq rfl rfl rfl rfl rfl rfl (fun h4 => ?_) (fun h4 => ?_)
   ·
    refine hl_v rfl rfl rfl (rv_ev rfl) ?_
    refine hl_v rfl rfl rfl (rv_ev rfl) ?_
    refine hl_skip rfl rfl rfl ?_
    refine hl_skip rfl rfl rfl ?_
    refine hl_skip rfl rfl rfl ?_
    refine hl_skip rfl rfl rfl ?_
    refine hl_skip rfl rfl rfl ?_
    refine hl_skip rfl rfl rfl ?_
    refine hl_skip rfl rfl rfl ?_
    refine hl_skip rfl rfl rfl ?_
    refine hl_skip rfl rfl rfl ?_
    refine hl_v rfl rfl rfl (rv_ev rfl) ?_
    refine hl_v rfl rfl rfl (rv_ev rfl) ?_
    refine hl_skip rfl rfl rfl ?_
    refine hl_skip rfl rfl rfl ?_
    refine hl_skip rfl rfl rfl ?_
    refine hl_skip rfl rfl rfl ?_
    refine hl_skip rfl rfl rfl ?_
    refine hl_skip rfl rfl rfl ?_
    refine hl_skip rfl rfl rfl ?_
    refine hl_skip rfl rfl rfl ?_
    refine hl_v rfl rfl rfl (rv_ev rfl) ?_
    refine hl_less (sx 0 rfl (sx 1 rfl (sx 2 rfl (sx 50 rfl (sub_nil _))))) (.refl _) ?_
    refine hl_nil ?_
    refine hq_then ?_
    refine hc_true rfl ?_
    refine hc_seq ?_
    refine hc_region ?_
    refine hl_v rfl rfl rfl (rv_ev rfl) ?_
    refine hl_less (sx 0 rfl (sx 1 rfl (sx 2 rfl (sx 50 rfl (sub_nil _))))) (.refl _) ?_
    refine hl_nil ?_
    refine hq_then ?_
    refine hc_ret ?_
    refine hq_then_ret ?_
    exact hq_ans rfl rfl (congrArg _ (pB_no (fun hp => by first | (exact hSao ⟨hp.n, hp.a⟩) | (exact hSbs ⟨hp.n, hp.b⟩) | (exact hK hp.k) | (have h9 := hp.dn; omega) | (have h9 := hp.sn; omega) | (exact absurd (hp.dl i (by omega)) (by assumption)) | (exact absurd (hp.ds k (by omega)) (by assumption)))).symm)
   ·
    refine hl_v rfl rfl rfl (rv_ev rfl) ?_
    refine hl_v rfl rfl rfl (rv_ev rfl) ?_
    refine hl_v rfl rfl rfl (rv_field (k0 := 4) rfl (by kernel_rfl) rfl) ?_
    refine hl_v rfl rfl rfl (rv_field (k0 := 1) rfl (by kernel_rfl) rfl) ?_
    refine hl_v rfl rfl rfl (rv_load rfl (by kernel_rfl) rfl (box_cell 0 rfl rfl)) ?_
    refine hl_v rfl rfl rfl (rv_len rfl Try.underlying27 rfl (rd_old ((hr).ds.row))) ?_
    refine hl_v rfl rfl rfl (rv_field (k0 := 0) rfl (by kernel_rfl) rfl) ?_
    refine hl_v rfl rfl rfl (rv_field (k0 := 1) rfl (by kernel_rfl) rfl) ?_
    refine hl_v rfl rfl rfl (rv_load rfl (by kernel_rfl) rfl (box_cell 0 rfl rfl)) ?_
    refine hl_v rfl rfl rfl (rv_len rfl Try.underlying34 rfl (rd_old ((hr).n.sq.row))) ?_
    refine hl_neq rfl rfl rfl rfl rfl rfl (fun h5 => ?_) (fun h5 => ?_)
    ·
     refine hl_v rfl rfl rfl (rv_ev rfl) ?_
     refine hl_v rfl rfl rfl (rv_ev rfl) ?_
     refine hl_skip rfl rfl rfl ?_
     refine hl_skip rfl rfl rfl ?_
     refine hl_skip rfl rfl rfl ?_
     refine hl_skip rfl rfl rfl ?_
     refine hl_skip rfl rfl rfl ?_
     refine hl_skip rfl rfl rfl ?_
     refine hl_skip rfl rfl rfl ?_
     refine hl_skip rfl rfl rfl ?_
     refine hl_v rfl rfl rfl (rv_ev rfl) ?_
     refine hl_less (sx 0 rfl (sx 1 rfl (sx 2 rfl (sx 50 rfl (sub_nil _))))) (.refl _) ?_
     refine hl_nil ?_
     refine hq_then ?_
     refine hc_true rfl ?_
     refine hc_seq ?_
     refine hc_region ?_
     refine hl_v rfl rfl rfl (rv_ev rfl) ?_
     refine hl_less (sx 0 rfl (sx 1 rfl (sx 2 rfl (sx 50 rfl (sub_nil _))))) (.refl _) ?_
     refine hl_nil ?_
     refine hq_then ?_
     refine hc_ret ?_
     refine hq_then_ret ?_
     exact hq_ans rfl rfl (congrArg _ (pB_no (fun hp => by first | (exact hSao ⟨hp.n, hp.a⟩) | (exact hSbs ⟨hp.n, hp.b⟩) | (exact hK hp.k) | (have h9 := hp.dn; omega) | (have h9 := hp.sn; omega) | (exact absurd (hp.dl i (by omega)) (by assumption)) | (exact absurd (hp.ds k (by omega)) (by assumption)))).symm)
    ·
     refine hl_v rfl rfl rfl (rv_ev rfl) ?_
     refine hl_v rfl rfl rfl (rv_ev rfl) ?_
     refine hl_v rfl rfl rfl (rv_field (k0 := 6) rfl (by kernel_rfl) rfl) ?_
     refine hl_v rfl rfl rfl (rv_load rfl (by kernel_rfl) rfl (box_cell 0 rfl rfl)) ?_
     refine hl_v rfl rfl rfl (rv_field (k0 := 0) rfl (by kernel_rfl) rfl) ?_
     refine hl_v rfl rfl rfl (rv_field (k0 := 1) rfl (by kernel_rfl) rfl) ?_
     refine hl_v rfl rfl rfl (rv_load rfl (by kernel_rfl) rfl (box_cell 0 rfl rfl)) ?_
     refine hl_v rfl rfl rfl (rv_len rfl Try.underlying34 rfl (rd_old ((hr).n.sq.row))) ?_
     refine hl_callV rfl rfl rfl (rq_call (by kernel_rfl) rfl (fun w hm => ret_ans (l37List_ans x.ks (x.n.ss.length : Int) 50 _ w ((rd_old ((hr).ks)) w hm)))) ?_
     refine hl_bool (fun h6 => ?_) (fun h6 => ?_)
     ·
      have hK := of_pB h6
      refine hl_v rfl rfl rfl (rv_ev rfl) ?_
      refine hl_v rfl rfl rfl (rv_ev rfl) ?_
      refine hl_less (sx 0 rfl (sx 1 rfl (sx 2 rfl (sx 50 rfl (sub_nil _))))) (.refl _) ?_
      refine hl_nil ?_
      refine hq_then ?_
      refine hc_false rfl ?_
      refine hc_skip ?_
      refine hq_then ?_
      refine hc_seq ?_
      refine hc_seq ?_
      refine hc_region ?_
      refine hl_v rfl rfl rfl (rv_ev rfl) ?_
      refine hl_less (sx 0 rfl (sx 1 rfl (sx 2 rfl (sx 3 rfl (sx 50 rfl (sub_nil _)))))) (.refl _) ?_
      refine hl_nil ?_
      refine hq_then ?_
      refine hc_block ?_
      refine hc_loop1 (α := Nat) (fun i => [boxE b1 #[.int .i64 x.n.ins, x.n.sv, x.n.lv, x.n.ov, x.pv, x.qv, x.kv, x.av, x.bv, .int .i64 x.oi, .int .i64 x.ni] 40]) (fun i => [(0, .agg #[.int .i64 x.n.ins, x.n.sv, x.n.lv, x.n.ov, x.pv, x.qv, x.kv, x.av, x.bv, .int .i64 x.oi, .int .i64 x.ni]), (1, .pointer (some ⟨b1, 0, none⟩)), (2, .bool false), (3, .int .i64 (i : Int)), (50, .bool false)]) (fun i => i ≤ x.n.ls.length ∧ ∀ q, q < i → LiP (x.dl.getD q ir0).xs (x.n.ls.getD q lt0).xs.length 100) (fun i => x.n.ls.length - i) 0 ⟨Nat.zero_le _, fun q hq => absurd hq (by omega)⟩ (sx 0 rfl (sx 1 rfl (sx 2 rfl (sx 3 rfl (sx 50 rfl (sub_nil _)))))) ((.cons_cons _ .slnil)) ?_
      intro i hi7
      obtain ⟨hi, hq1⟩ := hi7
      refine hc_seq ?_
      refine hc_seq ?_
      refine hc_region ?_
      refine hl_v rfl rfl rfl (rv_ev rfl) ?_
      refine hl_v rfl rfl rfl (rv_field (k0 := 0) rfl (by kernel_rfl) rfl) ?_
      refine hl_v rfl rfl rfl (rv_field (k0 := 2) rfl (by kernel_rfl) rfl) ?_
      refine hl_v rfl rfl rfl (rv_load rfl (by kernel_rfl) rfl (box_cell 0 rfl rfl)) ?_
      refine hl_v rfl rfl rfl (rv_len rfl Try.underlying35 rfl (rd_old ((hr).n.lt.row))) ?_
      refine hl_lss rfl rfl rfl rfl rfl rfl (fun h8 => ?_) (fun h8 => ?_)
      ·
       refine hl_less (sx 0 rfl (sx 1 rfl (sx 2 rfl (sx 3 rfl (sx 50 rfl (sx 56 rfl (sub_nil _))))))) (.refl _) ?_
       refine hl_nil ?_
       refine hq_then ?_
       refine hc_true rfl ?_
       refine hc_skip ?_
       refine hq_then ?_
       refine hc_seq ?_
       refine hc_block ?_
       refine hc_seq ?_
       rcases Bool.eq_false_or_eq_true (pB (LiP ((x.dl.getD i ir0).xs) (((x.n.ls.getD i lt0).xs).length : Int) 100)) with hb9 | hb9
       ·
        have hb9p := of_pB hb9
        refine hc_draw (by kernel_rfl) 16 [0, 1, 2, 3, 4, 5, 6, 7, 8, 9, 10, 11, 12, 13, 14, 15] (List.take 16 _) (List.drop 16 _) [[], [0], [1], [], [2, 3], [4], [], [6], [7], [], [8, 9], [10], [11], [12], [5, 13], [14]] [59, 60, 61, 62, 63, 64, 65, 66, 67, 68, 69, 70, 71, 72, 73, 74] (fun i_ vs_ v_ p_ => match i_ with | 0 => v_ = .pointer (some ⟨b1, 0 + 4, none⟩) ∧ p_ = [] | 1 => v_ = .pointer (some ⟨b1, 0 + 4 + 0, none⟩) ∧ p_ = [] | 2 => v_ = x.pv ∧ p_ = [] | 3 => v_ = .int .i64 (i : Int) ∧ p_ = [] | 4 => v_ = elP x.pv (((i : Int)).toNat * 1) ∧ p_ = [] | 5 => v_ = (x.dl.getD i ir0).v ∧ p_ = [] | 6 => v_ = .pointer (some ⟨b1, 0 + 0, none⟩) ∧ p_ = [] | 7 => v_ = .pointer (some ⟨b1, 0 + 0 + 2, none⟩) ∧ p_ = [] | 8 => v_ = x.n.lv ∧ p_ = [] | 9 => v_ = .int .i64 (i : Int) ∧ p_ = [] | 10 => v_ = elP x.n.lv (((i : Int)).toNat * 2) ∧ p_ = [] | 11 => v_ = elP x.n.lv (((i : Int)).toNat * 2 + 0) ∧ p_ = [] | 12 => v_ = (x.n.ls.getD i lt0).iv ∧ p_ = [] | 13 => v_ = .int .i64 (((x.n.ls.getD i lt0).xs).length : Int) ∧ p_ = [] | 14 => v_ = .bool true ∧ p_ = [] | 15 => v_ = .bool false ∧ p_ = [] | _ => True) (List.take_append_drop 16 _).symm (by kernel_rfl) (by kernel_rfl) rfl rfl ?_ ?_
        ·
         refine ⟨?_, ?_, ?_, ?_, ?_, ?_, ?_, ?_, ?_, ?_, ?_, ?_, ?_, ?_, ?_, ?_, trivial⟩
         ·
          intro vf pf hR
          refine Or.inl ⟨rfl, ?_⟩
          refine rq_less (sx 1 rfl (sub_nil _)) (List.sublist_append_right _ _) ?_
          exact rq_v (rv_field (k0 := 4) rfl (by kernel_rfl) rfl)
         ·
          intro vf pf hR
          have e0 : (vf 0) = .pointer (some ⟨b1, 0 + 4, none⟩) ∧ (pf 0) = [] := hR 0 (by decide)
          refine Or.inl ⟨rfl, ?_⟩
          refine rq_less (sx 59 (congrArg some e0.1) (sub_nil _)) (List.sublist_append_right _ _) ?_
          exact rq_v (rv_field (k0 := 0) rfl (by kernel_rfl) rfl)
         ·
          intro vf pf hR
          have e1 : (vf 1) = .pointer (some ⟨b1, 0 + 4 + 0, none⟩) ∧ (pf 1) = [] := hR 1 (by decide)
          refine Or.inl ⟨rfl, ?_⟩
          refine rq_less (sx 60 (congrArg some e1.1) (sub_nil _)) (List.sublist_append_right _ _) ?_
          exact rq_v (rv_load rfl (by kernel_rfl) rfl (box_cell 0 rfl rfl))
         ·
          intro vf pf hR
          refine Or.inl ⟨rfl, ?_⟩
          refine rq_less (sx 3 rfl (sub_nil _)) (List.sublist_append_right _ _) ?_
          exact rq_v (rv_ev rfl)
         ·
          intro vf pf hR
          have e2 : (vf 2) = x.pv ∧ (pf 2) = [] := hR 2 (by decide)
          have e3 : (vf 3) = .int .i64 (i : Int) ∧ (pf 3) = [] := hR 3 (by decide)
          refine Or.inl ⟨rfl, ?_⟩
          refine rq_less (sx 61 (congrArg some e2.1) (sx 62 (congrArg some e3.1) (sub_nil _))) (List.sublist_append_right _ _) ?_
          exact rq_v (rv_index (s := 1) rfl Try.underlying27 (by kernel_rfl) rfl rfl (rd_old ((hr).dl.row)) (by omega) (by first | omega | (simp only [List.length_set]; omega)))
         ·
          intro vf pf hR
          have e4 : (vf 4) = elP x.pv (((i : Int)).toNat * 1) ∧ (pf 4) = [] := hR 4 (by decide)
          refine Or.inl ⟨rfl, ?_⟩
          refine rq_less (sx 63 (congrArg some e4.1) (sub_nil _)) (List.sublist_append_right _ _) ?_
          exact rq_v (rv_loadEl (u := (x.dl.getD i ir0).v) rfl (by kernel_rfl) rfl (rd_old ((hr).dl.row)) (flat_one irC (fun r => r.v) (fun _ => rfl) x.dl ir0 (show i < _ by first | omega | (simp only [List.length_set]; omega))))
         ·
          intro vf pf hR
          refine Or.inl ⟨rfl, ?_⟩
          refine rq_less (sx 1 rfl (sub_nil _)) (List.sublist_append_right _ _) ?_
          exact rq_v (rv_field (k0 := 0) rfl (by kernel_rfl) rfl)
         ·
          intro vf pf hR
          have e6 : (vf 6) = .pointer (some ⟨b1, 0 + 0, none⟩) ∧ (pf 6) = [] := hR 6 (by decide)
          refine Or.inl ⟨rfl, ?_⟩
          refine rq_less (sx 65 (congrArg some e6.1) (sub_nil _)) (List.sublist_append_right _ _) ?_
          exact rq_v (rv_field (k0 := 2) rfl (by kernel_rfl) rfl)
         ·
          intro vf pf hR
          have e7 : (vf 7) = .pointer (some ⟨b1, 0 + 0 + 2, none⟩) ∧ (pf 7) = [] := hR 7 (by decide)
          refine Or.inl ⟨rfl, ?_⟩
          refine rq_less (sx 66 (congrArg some e7.1) (sub_nil _)) (List.sublist_append_right _ _) ?_
          exact rq_v (rv_load rfl (by kernel_rfl) rfl (box_cell 0 rfl rfl))
         ·
          intro vf pf hR
          refine Or.inl ⟨rfl, ?_⟩
          refine rq_less (sx 3 rfl (sub_nil _)) (List.sublist_append_right _ _) ?_
          exact rq_v (rv_ev rfl)
         ·
          intro vf pf hR
          have e8 : (vf 8) = x.n.lv ∧ (pf 8) = [] := hR 8 (by decide)
          have e9 : (vf 9) = .int .i64 (i : Int) ∧ (pf 9) = [] := hR 9 (by decide)
          refine Or.inl ⟨rfl, ?_⟩
          refine rq_less (sx 67 (congrArg some e8.1) (sx 68 (congrArg some e9.1) (sub_nil _))) (List.sublist_append_right _ _) ?_
          exact rq_v (rv_index (s := 2) rfl Try.underlying35 (by kernel_rfl) rfl rfl (rd_old ((hr).n.lt.row)) (by omega) (by first | omega | (simp only [List.length_set]; omega)))
         ·
          intro vf pf hR
          have e10 : (vf 10) = elP x.n.lv (((i : Int)).toNat * 2) ∧ (pf 10) = [] := hR 10 (by decide)
          refine Or.inl ⟨rfl, ?_⟩
          refine rq_less (sx 69 (congrArg some e10.1) (sub_nil _)) (List.sublist_append_right _ _) ?_
          exact rq_v (rv_fieldEl (k0 := 0) rfl (by kernel_rfl) rfl (rd_old ((hr).n.lt.row)) (by first | omega | (simp only [List.length_set]; omega)))
         ·
          intro vf pf hR
          have e11 : (vf 11) = elP x.n.lv (((i : Int)).toNat * 2 + 0) ∧ (pf 11) = [] := hR 11 (by decide)
          refine Or.inl ⟨rfl, ?_⟩
          refine rq_less (sx 70 (congrArg some e11.1) (sub_nil _)) (List.sublist_append_right _ _) ?_
          exact rq_v (rv_loadEl (u := (x.n.ls.getD i lt0).iv) rfl (by kernel_rfl) rfl (rd_old ((hr).n.lt.row)) ((flat_at ltC 2 (fun _ => rfl) x.n.ls lt0 (show i < _ by first | omega | (simp only [List.length_set]; omega)) (by decide)).trans rfl))
         ·
          intro vf pf hR
          have e12 : (vf 12) = (x.n.ls.getD i lt0).iv ∧ (pf 12) = [] := hR 12 (by decide)
          refine Or.inl ⟨rfl, ?_⟩
          refine rq_less (sx 71 (congrArg some e12.1) (sub_nil _)) (List.sublist_append_right _ _) ?_
          exact rq_v (rv_len rfl Try.underlying24 rfl (rd_old ((hr).n.lt.at (d := lt0) (k := i) (by omega))))
         ·
          intro vf pf hR
          have e5 : (vf 5) = (x.dl.getD i ir0).v ∧ (pf 5) = [] := hR 5 (by decide)
          have e13 : (vf 13) = .int .i64 (((x.n.ls.getD i lt0).xs).length : Int) ∧ (pf 13) = [] := hR 13 (by decide)
          refine Or.inl ⟨rfl, ?_⟩
          refine rq_less (sx 64 (congrArg some e5.1) (sx 72 (congrArg some e13.1) (sub_nil _))) (List.sublist_append_right _ _) ?_
          exact rq_mono (rq_call (by kernel_rfl) rfl (fun w hm => ret_ans (l37List_ans ((x.dl.getD i ir0).xs) (((x.n.ls.getD i lt0).xs).length : Int) 100 _ w ((rd_old ((hr).dl.at (d := ir0) (k := i) (by omega))) w hm)))) (fun _ _ h => ⟨h.1.trans (congrArg Value.bool hb9), h.2⟩)
         ·
          intro vf pf hR
          have e14 : (vf 14) = .bool true ∧ (pf 14) = [] := hR 14 (by decide)
          refine Or.inl ⟨rfl, ?_⟩
          refine rq_less (sx 73 (congrArg some e14.1) (sub_nil _)) (List.sublist_append_right _ _) ?_
          exact rq_v (rv_ev rfl)
        ·
         intro vf pf hR
         have e15 : (vf 15) = .bool false ∧ (pf 15) = [] := hR 15 (by decide)
         refine hl_less (l' := [boxE b1 #[.int .i64 x.n.ins, x.n.sv, x.n.lv, x.n.ov, x.pv, x.qv, x.kv, x.av, x.bv, .int .i64 x.oi, .int .i64 x.ni] 40]) (sx 0 rfl (sx 1 rfl (sx 2 rfl (sx 3 rfl (sx 50 rfl (sx 56 rfl (sx 74 (congrArg some e15.1) (sub_nil _)))))))) (List.sublist_append_right _ _) ?_
         simp only [List.drop_succ_cons, List.drop_zero]
         refine hl_less (sx 0 rfl (sx 1 rfl (sx 2 rfl (sx 3 rfl (sx 50 rfl (sx 56 rfl (sx 74 rfl (sub_nil _)))))))) (.refl _) ?_
         refine hl_nil ?_
         refine hq_then ?_
         refine hc_false rfl ?_
         refine hc_skip ?_
         refine hq_block_normal ?_
         refine hq_then ?_
         refine hc_region ?_
         refine hl_v rfl rfl rfl (rv_ev rfl) ?_
         refine hl_v rfl rfl rfl (rv_add rfl rfl rfl (by constructor <;> omega)) ?_
         refine hl_v rfl rfl rfl (rv_ev rfl) ?_
         refine hl_less (sx 0 rfl (sx 1 rfl (sx 2 rfl (sx 3 rfl (sx 50 rfl (sx 56 rfl (sx 74 rfl (sub_nil _)))))))) (.refl _) ?_
         refine hl_nil ?_
         exact hq_round1 (i + 1) ⟨by omega, fun q hq9 => by by_cases e : q = i; (subst e; assumption); exact hq1 q (by omega)⟩ (by omega) (sx 0 rfl (sx 1 rfl (sx 2 rfl (sx 3 rfl (sx 50 rfl (sub_nil _)))))) ((.cons_cons _ .slnil))
       ·
        have hb9p := of_pBn hb9
        refine hc_draw (by kernel_rfl) 16 [0, 1, 2, 3, 4, 5, 6, 7, 8, 9, 10, 11, 12, 13, 14, 15] (List.take 16 _) (List.drop 16 _) [[], [0], [1], [], [2, 3], [4], [], [6], [7], [], [8, 9], [10], [11], [12], [5, 13], [14]] [59, 60, 61, 62, 63, 64, 65, 66, 67, 68, 69, 70, 71, 72, 73, 74] (fun i_ vs_ v_ p_ => match i_ with | 0 => v_ = .pointer (some ⟨b1, 0 + 4, none⟩) ∧ p_ = [] | 1 => v_ = .pointer (some ⟨b1, 0 + 4 + 0, none⟩) ∧ p_ = [] | 2 => v_ = x.pv ∧ p_ = [] | 3 => v_ = .int .i64 (i : Int) ∧ p_ = [] | 4 => v_ = elP x.pv (((i : Int)).toNat * 1) ∧ p_ = [] | 5 => v_ = (x.dl.getD i ir0).v ∧ p_ = [] | 6 => v_ = .pointer (some ⟨b1, 0 + 0, none⟩) ∧ p_ = [] | 7 => v_ = .pointer (some ⟨b1, 0 + 0 + 2, none⟩) ∧ p_ = [] | 8 => v_ = x.n.lv ∧ p_ = [] | 9 => v_ = .int .i64 (i : Int) ∧ p_ = [] | 10 => v_ = elP x.n.lv (((i : Int)).toNat * 2) ∧ p_ = [] | 11 => v_ = elP x.n.lv (((i : Int)).toNat * 2 + 0) ∧ p_ = [] | 12 => v_ = (x.n.ls.getD i lt0).iv ∧ p_ = [] | 13 => v_ = .int .i64 (((x.n.ls.getD i lt0).xs).length : Int) ∧ p_ = [] | 14 => v_ = .bool false ∧ p_ = [] | 15 => v_ = .bool true ∧ p_ = [] | _ => True) (List.take_append_drop 16 _).symm (by kernel_rfl) (by kernel_rfl) rfl rfl ?_ ?_
        ·
         refine ⟨?_, ?_, ?_, ?_, ?_, ?_, ?_, ?_, ?_, ?_, ?_, ?_, ?_, ?_, ?_, ?_, trivial⟩
         ·
          intro vf pf hR
          refine Or.inl ⟨rfl, ?_⟩
          refine rq_less (sx 1 rfl (sub_nil _)) (List.sublist_append_right _ _) ?_
          exact rq_v (rv_field (k0 := 4) rfl (by kernel_rfl) rfl)
         ·
          intro vf pf hR
          have e0 : (vf 0) = .pointer (some ⟨b1, 0 + 4, none⟩) ∧ (pf 0) = [] := hR 0 (by decide)
          refine Or.inl ⟨rfl, ?_⟩
          refine rq_less (sx 59 (congrArg some e0.1) (sub_nil _)) (List.sublist_append_right _ _) ?_
          exact rq_v (rv_field (k0 := 0) rfl (by kernel_rfl) rfl)
         ·
          intro vf pf hR
          have e1 : (vf 1) = .pointer (some ⟨b1, 0 + 4 + 0, none⟩) ∧ (pf 1) = [] := hR 1 (by decide)
          refine Or.inl ⟨rfl, ?_⟩
          refine rq_less (sx 60 (congrArg some e1.1) (sub_nil _)) (List.sublist_append_right _ _) ?_
          exact rq_v (rv_load rfl (by kernel_rfl) rfl (box_cell 0 rfl rfl))
         ·
          intro vf pf hR
          refine Or.inl ⟨rfl, ?_⟩
          refine rq_less (sx 3 rfl (sub_nil _)) (List.sublist_append_right _ _) ?_
          exact rq_v (rv_ev rfl)
         ·
          intro vf pf hR
          have e2 : (vf 2) = x.pv ∧ (pf 2) = [] := hR 2 (by decide)
          have e3 : (vf 3) = .int .i64 (i : Int) ∧ (pf 3) = [] := hR 3 (by decide)
          refine Or.inl ⟨rfl, ?_⟩
          refine rq_less (sx 61 (congrArg some e2.1) (sx 62 (congrArg some e3.1) (sub_nil _))) (List.sublist_append_right _ _) ?_
          exact rq_v (rv_index (s := 1) rfl Try.underlying27 (by kernel_rfl) rfl rfl (rd_old ((hr).dl.row)) (by omega) (by first | omega | (simp only [List.length_set]; omega)))
         ·
          intro vf pf hR
          have e4 : (vf 4) = elP x.pv (((i : Int)).toNat * 1) ∧ (pf 4) = [] := hR 4 (by decide)
          refine Or.inl ⟨rfl, ?_⟩
          refine rq_less (sx 63 (congrArg some e4.1) (sub_nil _)) (List.sublist_append_right _ _) ?_
          exact rq_v (rv_loadEl (u := (x.dl.getD i ir0).v) rfl (by kernel_rfl) rfl (rd_old ((hr).dl.row)) (flat_one irC (fun r => r.v) (fun _ => rfl) x.dl ir0 (show i < _ by first | omega | (simp only [List.length_set]; omega))))
         ·
          intro vf pf hR
          refine Or.inl ⟨rfl, ?_⟩
          refine rq_less (sx 1 rfl (sub_nil _)) (List.sublist_append_right _ _) ?_
          exact rq_v (rv_field (k0 := 0) rfl (by kernel_rfl) rfl)
         ·
          intro vf pf hR
          have e6 : (vf 6) = .pointer (some ⟨b1, 0 + 0, none⟩) ∧ (pf 6) = [] := hR 6 (by decide)
          refine Or.inl ⟨rfl, ?_⟩
          refine rq_less (sx 65 (congrArg some e6.1) (sub_nil _)) (List.sublist_append_right _ _) ?_
          exact rq_v (rv_field (k0 := 2) rfl (by kernel_rfl) rfl)
         ·
          intro vf pf hR
          have e7 : (vf 7) = .pointer (some ⟨b1, 0 + 0 + 2, none⟩) ∧ (pf 7) = [] := hR 7 (by decide)
          refine Or.inl ⟨rfl, ?_⟩
          refine rq_less (sx 66 (congrArg some e7.1) (sub_nil _)) (List.sublist_append_right _ _) ?_
          exact rq_v (rv_load rfl (by kernel_rfl) rfl (box_cell 0 rfl rfl))
         ·
          intro vf pf hR
          refine Or.inl ⟨rfl, ?_⟩
          refine rq_less (sx 3 rfl (sub_nil _)) (List.sublist_append_right _ _) ?_
          exact rq_v (rv_ev rfl)
         ·
          intro vf pf hR
          have e8 : (vf 8) = x.n.lv ∧ (pf 8) = [] := hR 8 (by decide)
          have e9 : (vf 9) = .int .i64 (i : Int) ∧ (pf 9) = [] := hR 9 (by decide)
          refine Or.inl ⟨rfl, ?_⟩
          refine rq_less (sx 67 (congrArg some e8.1) (sx 68 (congrArg some e9.1) (sub_nil _))) (List.sublist_append_right _ _) ?_
          exact rq_v (rv_index (s := 2) rfl Try.underlying35 (by kernel_rfl) rfl rfl (rd_old ((hr).n.lt.row)) (by omega) (by first | omega | (simp only [List.length_set]; omega)))
         ·
          intro vf pf hR
          have e10 : (vf 10) = elP x.n.lv (((i : Int)).toNat * 2) ∧ (pf 10) = [] := hR 10 (by decide)
          refine Or.inl ⟨rfl, ?_⟩
          refine rq_less (sx 69 (congrArg some e10.1) (sub_nil _)) (List.sublist_append_right _ _) ?_
          exact rq_v (rv_fieldEl (k0 := 0) rfl (by kernel_rfl) rfl (rd_old ((hr).n.lt.row)) (by first | omega | (simp only [List.length_set]; omega)))
         ·
          intro vf pf hR
          have e11 : (vf 11) = elP x.n.lv (((i : Int)).toNat * 2 + 0) ∧ (pf 11) = [] := hR 11 (by decide)
          refine Or.inl ⟨rfl, ?_⟩
          refine rq_less (sx 70 (congrArg some e11.1) (sub_nil _)) (List.sublist_append_right _ _) ?_
          exact rq_v (rv_loadEl (u := (x.n.ls.getD i lt0).iv) rfl (by kernel_rfl) rfl (rd_old ((hr).n.lt.row)) ((flat_at ltC 2 (fun _ => rfl) x.n.ls lt0 (show i < _ by first | omega | (simp only [List.length_set]; omega)) (by decide)).trans rfl))
         ·
          intro vf pf hR
          have e12 : (vf 12) = (x.n.ls.getD i lt0).iv ∧ (pf 12) = [] := hR 12 (by decide)
          refine Or.inl ⟨rfl, ?_⟩
          refine rq_less (sx 71 (congrArg some e12.1) (sub_nil _)) (List.sublist_append_right _ _) ?_
          exact rq_v (rv_len rfl Try.underlying24 rfl (rd_old ((hr).n.lt.at (d := lt0) (k := i) (by omega))))
         ·
          intro vf pf hR
          have e5 : (vf 5) = (x.dl.getD i ir0).v ∧ (pf 5) = [] := hR 5 (by decide)
          have e13 : (vf 13) = .int .i64 (((x.n.ls.getD i lt0).xs).length : Int) ∧ (pf 13) = [] := hR 13 (by decide)
          refine Or.inl ⟨rfl, ?_⟩
          refine rq_less (sx 64 (congrArg some e5.1) (sx 72 (congrArg some e13.1) (sub_nil _))) (List.sublist_append_right _ _) ?_
          exact rq_mono (rq_call (by kernel_rfl) rfl (fun w hm => ret_ans (l37List_ans ((x.dl.getD i ir0).xs) (((x.n.ls.getD i lt0).xs).length : Int) 100 _ w ((rd_old ((hr).dl.at (d := ir0) (k := i) (by omega))) w hm)))) (fun _ _ h => ⟨h.1.trans (congrArg Value.bool hb9), h.2⟩)
         ·
          intro vf pf hR
          have e14 : (vf 14) = .bool false ∧ (pf 14) = [] := hR 14 (by decide)
          refine Or.inl ⟨rfl, ?_⟩
          refine rq_less (sx 73 (congrArg some e14.1) (sub_nil _)) (List.sublist_append_right _ _) ?_
          exact rq_v (rv_ev rfl)
        ·
         intro vf pf hR
         have e15 : (vf 15) = .bool true ∧ (pf 15) = [] := hR 15 (by decide)
         refine hl_less (l' := [boxE b1 #[.int .i64 x.n.ins, x.n.sv, x.n.lv, x.n.ov, x.pv, x.qv, x.kv, x.av, x.bv, .int .i64 x.oi, .int .i64 x.ni] 40]) (sx 0 rfl (sx 1 rfl (sx 2 rfl (sx 3 rfl (sx 50 rfl (sx 56 rfl (sx 74 (congrArg some e15.1) (sub_nil _)))))))) (List.sublist_append_right _ _) ?_
         simp only [List.drop_succ_cons, List.drop_zero]
         refine hl_less (sx 0 rfl (sx 1 rfl (sx 2 rfl (sx 3 rfl (sx 50 rfl (sx 56 rfl (sx 74 rfl (sub_nil _)))))))) (.refl _) ?_
         refine hl_nil ?_
         refine hq_then ?_
         refine hc_true rfl ?_
         refine hc_seq ?_
         refine hc_region ?_
         refine hl_v rfl rfl rfl (rv_ev rfl) ?_
         refine hl_less (sx 0 rfl (sx 1 rfl (sx 2 rfl (sx 3 rfl (sx 50 rfl (sx 56 rfl (sx 74 rfl (sub_nil _)))))))) (.refl _) ?_
         refine hl_nil ?_
         refine hq_then ?_
         refine hc_ret ?_
         refine hq_block_ret ?_
         refine hq_then_ret ?_
         refine hq_then_ret ?_
         refine hq_block_ret ?_
         refine hq_then_ret ?_
         exact hq_ans rfl rfl (congrArg _ (pB_no (fun hp => by first | (exact hSao ⟨hp.n, hp.a⟩) | (exact hSbs ⟨hp.n, hp.b⟩) | (exact hK hp.k) | (have h9 := hp.dn; omega) | (have h9 := hp.sn; omega) | (exact absurd (hp.dl i (by omega)) (by assumption)) | (exact absurd (hp.ds k (by omega)) (by assumption)))).symm)
      ·
       refine hl_less (sx 0 rfl (sx 1 rfl (sx 2 rfl (sx 3 rfl (sx 50 rfl (sx 56 rfl (sub_nil _))))))) (.refl _) ?_
       refine hl_nil ?_
       refine hq_then ?_
       refine hc_false rfl ?_
       refine hc_exit ?_
       refine hq_then_exit ?_
       refine hq_then_exit ?_
       refine hq_block_exit ?_
       refine hq_then ?_
       refine hc_seq ?_
       refine hc_seq ?_
       refine hc_region ?_
       refine hl_v rfl rfl rfl (rv_ev rfl) ?_
       refine hl_less (sx 0 rfl (sx 1 rfl (sx 2 rfl (sx 3 rfl (sx 4 rfl (sx 50 rfl (sx 56 rfl (sub_nil _)))))))) (.refl _) ?_
       refine hl_nil ?_
       refine hq_then ?_
       refine hc_block ?_
       refine hc_loop1 (α := Nat) (fun k => [boxE b1 #[.int .i64 x.n.ins, x.n.sv, x.n.lv, x.n.ov, x.pv, x.qv, x.kv, x.av, x.bv, .int .i64 x.oi, .int .i64 x.ni] 40]) (fun k => [(0, .agg #[.int .i64 x.n.ins, x.n.sv, x.n.lv, x.n.ov, x.pv, x.qv, x.kv, x.av, x.bv, .int .i64 x.oi, .int .i64 x.ni]), (1, .pointer (some ⟨b1, 0, none⟩)), (2, .bool false), (4, .int .i64 (k : Int)), (50, .bool false), (56, .bool false)]) (fun k => k ≤ x.n.ss.length ∧ ∀ q, q < k → LiP (x.ds.getD q ir0).xs (x.n.ss.getD q sq0).xs.length 100) (fun k => x.n.ss.length - k) 0 ⟨Nat.zero_le _, fun q hq => absurd hq (by omega)⟩ (sx 0 rfl (sx 1 rfl (sx 2 rfl (sx 4 rfl (sx 50 rfl (sx 56 rfl (sub_nil _))))))) ((.cons_cons _ .slnil)) ?_
       intro k hi10
       obtain ⟨hk, hq2⟩ := hi10
       refine hc_seq ?_
       refine hc_seq ?_
       refine hc_region ?_
       refine hl_v rfl rfl rfl (rv_ev rfl) ?_
       refine hl_v rfl rfl rfl (rv_field (k0 := 0) rfl (by kernel_rfl) rfl) ?_
       refine hl_v rfl rfl rfl (rv_field (k0 := 1) rfl (by kernel_rfl) rfl) ?_
       refine hl_v rfl rfl rfl (rv_load rfl (by kernel_rfl) rfl (box_cell 0 rfl rfl)) ?_
       refine hl_v rfl rfl rfl (rv_len rfl Try.underlying34 rfl (rd_old ((hr).n.sq.row))) ?_
       refine hl_lss rfl rfl rfl rfl rfl rfl (fun h11 => ?_) (fun h11 => ?_)
       ·
        refine hl_less (sx 0 rfl (sx 1 rfl (sx 2 rfl (sx 4 rfl (sx 50 rfl (sx 56 rfl (sx 80 rfl (sub_nil _)))))))) (.refl _) ?_
        refine hl_nil ?_
        refine hq_then ?_
        refine hc_true rfl ?_
        refine hc_skip ?_
        refine hq_then ?_
        refine hc_seq ?_
        refine hc_block ?_
        refine hc_seq ?_
        rcases Bool.eq_false_or_eq_true (pB (LiP ((x.ds.getD k ir0).xs) (((x.n.ss.getD k sq0).xs).length : Int) 100)) with hb12 | hb12
        ·
         have hb12p := of_pB hb12
         refine hc_draw (by kernel_rfl) 16 [0, 1, 2, 3, 4, 5, 6, 7, 8, 9, 10, 11, 12, 13, 14, 15] (List.take 16 _) (List.drop 16 _) [[], [0], [1], [], [2, 3], [4], [], [6], [7], [], [8, 9], [10], [11], [12], [5, 13], [14]] [83, 84, 85, 86, 87, 88, 89, 90, 91, 92, 93, 94, 95, 96, 97, 98] (fun i_ vs_ v_ p_ => match i_ with | 0 => v_ = .pointer (some ⟨b1, 0 + 4, none⟩) ∧ p_ = [] | 1 => v_ = .pointer (some ⟨b1, 0 + 4 + 1, none⟩) ∧ p_ = [] | 2 => v_ = x.qv ∧ p_ = [] | 3 => v_ = .int .i64 (k : Int) ∧ p_ = [] | 4 => v_ = elP x.qv (((k : Int)).toNat * 1) ∧ p_ = [] | 5 => v_ = (x.ds.getD k ir0).v ∧ p_ = [] | 6 => v_ = .pointer (some ⟨b1, 0 + 0, none⟩) ∧ p_ = [] | 7 => v_ = .pointer (some ⟨b1, 0 + 0 + 1, none⟩) ∧ p_ = [] | 8 => v_ = x.n.sv ∧ p_ = [] | 9 => v_ = .int .i64 (k : Int) ∧ p_ = [] | 10 => v_ = elP x.n.sv (((k : Int)).toNat * 3) ∧ p_ = [] | 11 => v_ = elP x.n.sv (((k : Int)).toNat * 3 + 2) ∧ p_ = [] | 12 => v_ = (x.n.ss.getD k sq0).iv ∧ p_ = [] | 13 => v_ = .int .i64 (((x.n.ss.getD k sq0).xs).length : Int) ∧ p_ = [] | 14 => v_ = .bool true ∧ p_ = [] | 15 => v_ = .bool false ∧ p_ = [] | _ => True) (List.take_append_drop 16 _).symm (by kernel_rfl) (by kernel_rfl) rfl rfl ?_ ?_
         ·
          refine ⟨?_, ?_, ?_, ?_, ?_, ?_, ?_, ?_, ?_, ?_, ?_, ?_, ?_, ?_, ?_, ?_, trivial⟩
          ·
           intro vf pf hR
           refine Or.inl ⟨rfl, ?_⟩
           refine rq_less (sx 1 rfl (sub_nil _)) (List.sublist_append_right _ _) ?_
           exact rq_v (rv_field (k0 := 4) rfl (by kernel_rfl) rfl)
          ·
           intro vf pf hR
           have e0 : (vf 0) = .pointer (some ⟨b1, 0 + 4, none⟩) ∧ (pf 0) = [] := hR 0 (by decide)
           refine Or.inl ⟨rfl, ?_⟩
           refine rq_less (sx 83 (congrArg some e0.1) (sub_nil _)) (List.sublist_append_right _ _) ?_
           exact rq_v (rv_field (k0 := 1) rfl (by kernel_rfl) rfl)
          ·
           intro vf pf hR
           have e1 : (vf 1) = .pointer (some ⟨b1, 0 + 4 + 1, none⟩) ∧ (pf 1) = [] := hR 1 (by decide)
           refine Or.inl ⟨rfl, ?_⟩
           refine rq_less (sx 84 (congrArg some e1.1) (sub_nil _)) (List.sublist_append_right _ _) ?_
           exact rq_v (rv_load rfl (by kernel_rfl) rfl (box_cell 0 rfl rfl))
          ·
           intro vf pf hR
           refine Or.inl ⟨rfl, ?_⟩
           refine rq_less (sx 4 rfl (sub_nil _)) (List.sublist_append_right _ _) ?_
           exact rq_v (rv_ev rfl)
          ·
           intro vf pf hR
           have e2 : (vf 2) = x.qv ∧ (pf 2) = [] := hR 2 (by decide)
           have e3 : (vf 3) = .int .i64 (k : Int) ∧ (pf 3) = [] := hR 3 (by decide)
           refine Or.inl ⟨rfl, ?_⟩
           refine rq_less (sx 85 (congrArg some e2.1) (sx 86 (congrArg some e3.1) (sub_nil _))) (List.sublist_append_right _ _) ?_
           exact rq_v (rv_index (s := 1) rfl Try.underlying27 (by kernel_rfl) rfl rfl (rd_old ((hr).ds.row)) (by omega) (by first | omega | (simp only [List.length_set]; omega)))
          ·
           intro vf pf hR
           have e4 : (vf 4) = elP x.qv (((k : Int)).toNat * 1) ∧ (pf 4) = [] := hR 4 (by decide)
           refine Or.inl ⟨rfl, ?_⟩
           refine rq_less (sx 87 (congrArg some e4.1) (sub_nil _)) (List.sublist_append_right _ _) ?_
           exact rq_v (rv_loadEl (u := (x.ds.getD k ir0).v) rfl (by kernel_rfl) rfl (rd_old ((hr).ds.row)) (flat_one irC (fun r => r.v) (fun _ => rfl) x.ds ir0 (show k < _ by first | omega | (simp only [List.length_set]; omega))))
          ·
           intro vf pf hR
           refine Or.inl ⟨rfl, ?_⟩
           refine rq_less (sx 1 rfl (sub_nil _)) (List.sublist_append_right _ _) ?_
           exact rq_v (rv_field (k0 := 0) rfl (by kernel_rfl) rfl)
          ·
           intro vf pf hR
           have e6 : (vf 6) = .pointer (some ⟨b1, 0 + 0, none⟩) ∧ (pf 6) = [] := hR 6 (by decide)
           refine Or.inl ⟨rfl, ?_⟩
           refine rq_less (sx 89 (congrArg some e6.1) (sub_nil _)) (List.sublist_append_right _ _) ?_
           exact rq_v (rv_field (k0 := 1) rfl (by kernel_rfl) rfl)
          ·
           intro vf pf hR
           have e7 : (vf 7) = .pointer (some ⟨b1, 0 + 0 + 1, none⟩) ∧ (pf 7) = [] := hR 7 (by decide)
           refine Or.inl ⟨rfl, ?_⟩
           refine rq_less (sx 90 (congrArg some e7.1) (sub_nil _)) (List.sublist_append_right _ _) ?_
           exact rq_v (rv_load rfl (by kernel_rfl) rfl (box_cell 0 rfl rfl))
          ·
           intro vf pf hR
           refine Or.inl ⟨rfl, ?_⟩
           refine rq_less (sx 4 rfl (sub_nil _)) (List.sublist_append_right _ _) ?_
           exact rq_v (rv_ev rfl)
          ·
           intro vf pf hR
           have e8 : (vf 8) = x.n.sv ∧ (pf 8) = [] := hR 8 (by decide)
           have e9 : (vf 9) = .int .i64 (k : Int) ∧ (pf 9) = [] := hR 9 (by decide)
           refine Or.inl ⟨rfl, ?_⟩
           refine rq_less (sx 91 (congrArg some e8.1) (sx 92 (congrArg some e9.1) (sub_nil _))) (List.sublist_append_right _ _) ?_
           exact rq_v (rv_index (s := 3) rfl Try.underlying34 (by kernel_rfl) rfl rfl (rd_old ((hr).n.sq.row)) (by omega) (by first | omega | (simp only [List.length_set]; omega)))
          ·
           intro vf pf hR
           have e10 : (vf 10) = elP x.n.sv (((k : Int)).toNat * 3) ∧ (pf 10) = [] := hR 10 (by decide)
           refine Or.inl ⟨rfl, ?_⟩
           refine rq_less (sx 93 (congrArg some e10.1) (sub_nil _)) (List.sublist_append_right _ _) ?_
           exact rq_v (rv_fieldEl (k0 := 2) rfl (by kernel_rfl) rfl (rd_old ((hr).n.sq.row)) (by first | omega | (simp only [List.length_set]; omega)))
          ·
           intro vf pf hR
           have e11 : (vf 11) = elP x.n.sv (((k : Int)).toNat * 3 + 2) ∧ (pf 11) = [] := hR 11 (by decide)
           refine Or.inl ⟨rfl, ?_⟩
           refine rq_less (sx 94 (congrArg some e11.1) (sub_nil _)) (List.sublist_append_right _ _) ?_
           exact rq_v (rv_loadEl (u := (x.n.ss.getD k sq0).iv) rfl (by kernel_rfl) rfl (rd_old ((hr).n.sq.row)) ((flat_at sqC 3 (fun _ => rfl) x.n.ss sq0 (show k < _ by first | omega | (simp only [List.length_set]; omega)) (by decide)).trans rfl))
          ·
           intro vf pf hR
           have e12 : (vf 12) = (x.n.ss.getD k sq0).iv ∧ (pf 12) = [] := hR 12 (by decide)
           refine Or.inl ⟨rfl, ?_⟩
           refine rq_less (sx 95 (congrArg some e12.1) (sub_nil _)) (List.sublist_append_right _ _) ?_
           exact rq_v (rv_len rfl Try.underlying24 rfl (rd_old ((hr).n.sq.at (d := sq0) (k := k) (by omega))))
          ·
           intro vf pf hR
           have e5 : (vf 5) = (x.ds.getD k ir0).v ∧ (pf 5) = [] := hR 5 (by decide)
           have e13 : (vf 13) = .int .i64 (((x.n.ss.getD k sq0).xs).length : Int) ∧ (pf 13) = [] := hR 13 (by decide)
           refine Or.inl ⟨rfl, ?_⟩
           refine rq_less (sx 88 (congrArg some e5.1) (sx 96 (congrArg some e13.1) (sub_nil _))) (List.sublist_append_right _ _) ?_
           exact rq_mono (rq_call (by kernel_rfl) rfl (fun w hm => ret_ans (l37List_ans ((x.ds.getD k ir0).xs) (((x.n.ss.getD k sq0).xs).length : Int) 100 _ w ((rd_old ((hr).ds.at (d := ir0) (k := k) (by omega))) w hm)))) (fun _ _ h => ⟨h.1.trans (congrArg Value.bool hb12), h.2⟩)
          ·
           intro vf pf hR
           have e14 : (vf 14) = .bool true ∧ (pf 14) = [] := hR 14 (by decide)
           refine Or.inl ⟨rfl, ?_⟩
           refine rq_less (sx 97 (congrArg some e14.1) (sub_nil _)) (List.sublist_append_right _ _) ?_
           exact rq_v (rv_ev rfl)
         ·
          intro vf pf hR
          have e15 : (vf 15) = .bool false ∧ (pf 15) = [] := hR 15 (by decide)
          refine hl_less (l' := [boxE b1 #[.int .i64 x.n.ins, x.n.sv, x.n.lv, x.n.ov, x.pv, x.qv, x.kv, x.av, x.bv, .int .i64 x.oi, .int .i64 x.ni] 40]) (sx 0 rfl (sx 1 rfl (sx 2 rfl (sx 4 rfl (sx 50 rfl (sx 56 rfl (sx 80 rfl (sx 98 (congrArg some e15.1) (sub_nil _))))))))) (List.sublist_append_right _ _) ?_
          simp only [List.drop_succ_cons, List.drop_zero]
          refine hl_less (sx 0 rfl (sx 1 rfl (sx 2 rfl (sx 4 rfl (sx 50 rfl (sx 56 rfl (sx 80 rfl (sx 98 rfl (sub_nil _))))))))) (.refl _) ?_
          refine hl_nil ?_
          refine hq_then ?_
          refine hc_false rfl ?_
          refine hc_skip ?_
          refine hq_block_normal ?_
          refine hq_then ?_
          refine hc_region ?_
          refine hl_v rfl rfl rfl (rv_ev rfl) ?_
          refine hl_v rfl rfl rfl (rv_add rfl rfl rfl (by constructor <;> omega)) ?_
          refine hl_v rfl rfl rfl (rv_ev rfl) ?_
          refine hl_less (sx 0 rfl (sx 1 rfl (sx 2 rfl (sx 4 rfl (sx 50 rfl (sx 56 rfl (sx 80 rfl (sx 98 rfl (sub_nil _))))))))) (.refl _) ?_
          refine hl_nil ?_
          exact hq_round1 (k + 1) ⟨by omega, fun q hq9 => by by_cases e : q = k; (subst e; assumption); exact hq2 q (by omega)⟩ (by omega) (sx 0 rfl (sx 1 rfl (sx 2 rfl (sx 4 rfl (sx 50 rfl (sx 56 rfl (sub_nil _))))))) ((.cons_cons _ .slnil))
        ·
         have hb12p := of_pBn hb12
         refine hc_draw (by kernel_rfl) 16 [0, 1, 2, 3, 4, 5, 6, 7, 8, 9, 10, 11, 12, 13, 14, 15] (List.take 16 _) (List.drop 16 _) [[], [0], [1], [], [2, 3], [4], [], [6], [7], [], [8, 9], [10], [11], [12], [5, 13], [14]] [83, 84, 85, 86, 87, 88, 89, 90, 91, 92, 93, 94, 95, 96, 97, 98] (fun i_ vs_ v_ p_ => match i_ with | 0 => v_ = .pointer (some ⟨b1, 0 + 4, none⟩) ∧ p_ = [] | 1 => v_ = .pointer (some ⟨b1, 0 + 4 + 1, none⟩) ∧ p_ = [] | 2 => v_ = x.qv ∧ p_ = [] | 3 => v_ = .int .i64 (k : Int) ∧ p_ = [] | 4 => v_ = elP x.qv (((k : Int)).toNat * 1) ∧ p_ = [] | 5 => v_ = (x.ds.getD k ir0).v ∧ p_ = [] | 6 => v_ = .pointer (some ⟨b1, 0 + 0, none⟩) ∧ p_ = [] | 7 => v_ = .pointer (some ⟨b1, 0 + 0 + 1, none⟩) ∧ p_ = [] | 8 => v_ = x.n.sv ∧ p_ = [] | 9 => v_ = .int .i64 (k : Int) ∧ p_ = [] | 10 => v_ = elP x.n.sv (((k : Int)).toNat * 3) ∧ p_ = [] | 11 => v_ = elP x.n.sv (((k : Int)).toNat * 3 + 2) ∧ p_ = [] | 12 => v_ = (x.n.ss.getD k sq0).iv ∧ p_ = [] | 13 => v_ = .int .i64 (((x.n.ss.getD k sq0).xs).length : Int) ∧ p_ = [] | 14 => v_ = .bool false ∧ p_ = [] | 15 => v_ = .bool true ∧ p_ = [] | _ => True) (List.take_append_drop 16 _).symm (by kernel_rfl) (by kernel_rfl) rfl rfl ?_ ?_
         ·
          refine ⟨?_, ?_, ?_, ?_, ?_, ?_, ?_, ?_, ?_, ?_, ?_, ?_, ?_, ?_, ?_, ?_, trivial⟩
          ·
           intro vf pf hR
           refine Or.inl ⟨rfl, ?_⟩
           refine rq_less (sx 1 rfl (sub_nil _)) (List.sublist_append_right _ _) ?_
           exact rq_v (rv_field (k0 := 4) rfl (by kernel_rfl) rfl)
          ·
           intro vf pf hR
           have e0 : (vf 0) = .pointer (some ⟨b1, 0 + 4, none⟩) ∧ (pf 0) = [] := hR 0 (by decide)
           refine Or.inl ⟨rfl, ?_⟩
           refine rq_less (sx 83 (congrArg some e0.1) (sub_nil _)) (List.sublist_append_right _ _) ?_
           exact rq_v (rv_field (k0 := 1) rfl (by kernel_rfl) rfl)
          ·
           intro vf pf hR
           have e1 : (vf 1) = .pointer (some ⟨b1, 0 + 4 + 1, none⟩) ∧ (pf 1) = [] := hR 1 (by decide)
           refine Or.inl ⟨rfl, ?_⟩
           refine rq_less (sx 84 (congrArg some e1.1) (sub_nil _)) (List.sublist_append_right _ _) ?_
           exact rq_v (rv_load rfl (by kernel_rfl) rfl (box_cell 0 rfl rfl))
          ·
           intro vf pf hR
           refine Or.inl ⟨rfl, ?_⟩
           refine rq_less (sx 4 rfl (sub_nil _)) (List.sublist_append_right _ _) ?_
           exact rq_v (rv_ev rfl)
          ·
           intro vf pf hR
           have e2 : (vf 2) = x.qv ∧ (pf 2) = [] := hR 2 (by decide)
           have e3 : (vf 3) = .int .i64 (k : Int) ∧ (pf 3) = [] := hR 3 (by decide)
           refine Or.inl ⟨rfl, ?_⟩
           refine rq_less (sx 85 (congrArg some e2.1) (sx 86 (congrArg some e3.1) (sub_nil _))) (List.sublist_append_right _ _) ?_
           exact rq_v (rv_index (s := 1) rfl Try.underlying27 (by kernel_rfl) rfl rfl (rd_old ((hr).ds.row)) (by omega) (by first | omega | (simp only [List.length_set]; omega)))
          ·
           intro vf pf hR
           have e4 : (vf 4) = elP x.qv (((k : Int)).toNat * 1) ∧ (pf 4) = [] := hR 4 (by decide)
           refine Or.inl ⟨rfl, ?_⟩
           refine rq_less (sx 87 (congrArg some e4.1) (sub_nil _)) (List.sublist_append_right _ _) ?_
           exact rq_v (rv_loadEl (u := (x.ds.getD k ir0).v) rfl (by kernel_rfl) rfl (rd_old ((hr).ds.row)) (flat_one irC (fun r => r.v) (fun _ => rfl) x.ds ir0 (show k < _ by first | omega | (simp only [List.length_set]; omega))))
          ·
           intro vf pf hR
           refine Or.inl ⟨rfl, ?_⟩
           refine rq_less (sx 1 rfl (sub_nil _)) (List.sublist_append_right _ _) ?_
           exact rq_v (rv_field (k0 := 0) rfl (by kernel_rfl) rfl)
          ·
           intro vf pf hR
           have e6 : (vf 6) = .pointer (some ⟨b1, 0 + 0, none⟩) ∧ (pf 6) = [] := hR 6 (by decide)
           refine Or.inl ⟨rfl, ?_⟩
           refine rq_less (sx 89 (congrArg some e6.1) (sub_nil _)) (List.sublist_append_right _ _) ?_
           exact rq_v (rv_field (k0 := 1) rfl (by kernel_rfl) rfl)
          ·
           intro vf pf hR
           have e7 : (vf 7) = .pointer (some ⟨b1, 0 + 0 + 1, none⟩) ∧ (pf 7) = [] := hR 7 (by decide)
           refine Or.inl ⟨rfl, ?_⟩
           refine rq_less (sx 90 (congrArg some e7.1) (sub_nil _)) (List.sublist_append_right _ _) ?_
           exact rq_v (rv_load rfl (by kernel_rfl) rfl (box_cell 0 rfl rfl))
          ·
           intro vf pf hR
           refine Or.inl ⟨rfl, ?_⟩
           refine rq_less (sx 4 rfl (sub_nil _)) (List.sublist_append_right _ _) ?_
           exact rq_v (rv_ev rfl)
          ·
           intro vf pf hR
           have e8 : (vf 8) = x.n.sv ∧ (pf 8) = [] := hR 8 (by decide)
           have e9 : (vf 9) = .int .i64 (k : Int) ∧ (pf 9) = [] := hR 9 (by decide)
           refine Or.inl ⟨rfl, ?_⟩
           refine rq_less (sx 91 (congrArg some e8.1) (sx 92 (congrArg some e9.1) (sub_nil _))) (List.sublist_append_right _ _) ?_
           exact rq_v (rv_index (s := 3) rfl Try.underlying34 (by kernel_rfl) rfl rfl (rd_old ((hr).n.sq.row)) (by omega) (by first | omega | (simp only [List.length_set]; omega)))
          ·
           intro vf pf hR
           have e10 : (vf 10) = elP x.n.sv (((k : Int)).toNat * 3) ∧ (pf 10) = [] := hR 10 (by decide)
           refine Or.inl ⟨rfl, ?_⟩
           refine rq_less (sx 93 (congrArg some e10.1) (sub_nil _)) (List.sublist_append_right _ _) ?_
           exact rq_v (rv_fieldEl (k0 := 2) rfl (by kernel_rfl) rfl (rd_old ((hr).n.sq.row)) (by first | omega | (simp only [List.length_set]; omega)))
          ·
           intro vf pf hR
           have e11 : (vf 11) = elP x.n.sv (((k : Int)).toNat * 3 + 2) ∧ (pf 11) = [] := hR 11 (by decide)
           refine Or.inl ⟨rfl, ?_⟩
           refine rq_less (sx 94 (congrArg some e11.1) (sub_nil _)) (List.sublist_append_right _ _) ?_
           exact rq_v (rv_loadEl (u := (x.n.ss.getD k sq0).iv) rfl (by kernel_rfl) rfl (rd_old ((hr).n.sq.row)) ((flat_at sqC 3 (fun _ => rfl) x.n.ss sq0 (show k < _ by first | omega | (simp only [List.length_set]; omega)) (by decide)).trans rfl))
          ·
           intro vf pf hR
           have e12 : (vf 12) = (x.n.ss.getD k sq0).iv ∧ (pf 12) = [] := hR 12 (by decide)
           refine Or.inl ⟨rfl, ?_⟩
           refine rq_less (sx 95 (congrArg some e12.1) (sub_nil _)) (List.sublist_append_right _ _) ?_
           exact rq_v (rv_len rfl Try.underlying24 rfl (rd_old ((hr).n.sq.at (d := sq0) (k := k) (by omega))))
          ·
           intro vf pf hR
           have e5 : (vf 5) = (x.ds.getD k ir0).v ∧ (pf 5) = [] := hR 5 (by decide)
           have e13 : (vf 13) = .int .i64 (((x.n.ss.getD k sq0).xs).length : Int) ∧ (pf 13) = [] := hR 13 (by decide)
           refine Or.inl ⟨rfl, ?_⟩
           refine rq_less (sx 88 (congrArg some e5.1) (sx 96 (congrArg some e13.1) (sub_nil _))) (List.sublist_append_right _ _) ?_
           exact rq_mono (rq_call (by kernel_rfl) rfl (fun w hm => ret_ans (l37List_ans ((x.ds.getD k ir0).xs) (((x.n.ss.getD k sq0).xs).length : Int) 100 _ w ((rd_old ((hr).ds.at (d := ir0) (k := k) (by omega))) w hm)))) (fun _ _ h => ⟨h.1.trans (congrArg Value.bool hb12), h.2⟩)
          ·
           intro vf pf hR
           have e14 : (vf 14) = .bool false ∧ (pf 14) = [] := hR 14 (by decide)
           refine Or.inl ⟨rfl, ?_⟩
           refine rq_less (sx 97 (congrArg some e14.1) (sub_nil _)) (List.sublist_append_right _ _) ?_
           exact rq_v (rv_ev rfl)
         ·
          intro vf pf hR
          have e15 : (vf 15) = .bool true ∧ (pf 15) = [] := hR 15 (by decide)
          refine hl_less (l' := [boxE b1 #[.int .i64 x.n.ins, x.n.sv, x.n.lv, x.n.ov, x.pv, x.qv, x.kv, x.av, x.bv, .int .i64 x.oi, .int .i64 x.ni] 40]) (sx 0 rfl (sx 1 rfl (sx 2 rfl (sx 4 rfl (sx 50 rfl (sx 56 rfl (sx 80 rfl (sx 98 (congrArg some e15.1) (sub_nil _))))))))) (List.sublist_append_right _ _) ?_
          simp only [List.drop_succ_cons, List.drop_zero]
          refine hl_less (sx 0 rfl (sx 1 rfl (sx 2 rfl (sx 4 rfl (sx 50 rfl (sx 56 rfl (sx 80 rfl (sx 98 rfl (sub_nil _))))))))) (.refl _) ?_
          refine hl_nil ?_
          refine hq_then ?_
          refine hc_true rfl ?_
          refine hc_seq ?_
          refine hc_region ?_
          refine hl_v rfl rfl rfl (rv_ev rfl) ?_
          refine hl_less (sx 0 rfl (sx 1 rfl (sx 2 rfl (sx 4 rfl (sx 50 rfl (sx 56 rfl (sx 80 rfl (sx 98 rfl (sub_nil _))))))))) (.refl _) ?_
          refine hl_nil ?_
          refine hq_then ?_
          refine hc_ret ?_
          refine hq_block_ret ?_
          refine hq_then_ret ?_
          refine hq_then_ret ?_
          refine hq_block_ret ?_
          refine hq_then_ret ?_
          exact hq_ans rfl rfl (congrArg _ (pB_no (fun hp => by first | (exact hSao ⟨hp.n, hp.a⟩) | (exact hSbs ⟨hp.n, hp.b⟩) | (exact hK hp.k) | (have h9 := hp.dn; omega) | (have h9 := hp.sn; omega) | (exact absurd (hp.dl i (by omega)) (by assumption)) | (exact absurd (hp.ds k (by omega)) (by assumption)))).symm)
       ·
        refine hl_less (sx 0 rfl (sx 1 rfl (sx 2 rfl (sx 4 rfl (sx 50 rfl (sx 56 rfl (sx 80 rfl (sub_nil _)))))))) (.refl _) ?_
        refine hl_nil ?_
        refine hq_then ?_
        refine hc_false rfl ?_
        refine hc_exit ?_
        refine hq_then_exit ?_
        refine hq_then_exit ?_
        refine hq_block_exit ?_
        refine hq_then ?_
        refine hc_seq ?_
        refine hc_region ?_
        refine hl_v rfl rfl rfl (rv_ev rfl) ?_
        refine hl_less (sx 0 rfl (sx 1 rfl (sx 2 rfl (sx 4 rfl (sx 50 rfl (sx 56 rfl (sx 80 rfl (sub_nil _)))))))) (.refl _) ?_
        refine hl_nil ?_
        refine hq_then ?_
        refine hc_ret ?_
        exact hq_ans rfl rfl (congrArg _ (pB_yes ⟨hSao.ok, hSao.sp, hSbs.sp, hK, by omega, fun q hq => hq1 q (by omega), by omega, fun q hq => hq2 q (by omega)⟩).symm)
     ·
      have hK := of_pBn h6
      refine hl_v rfl rfl rfl (rv_ev rfl) ?_
      refine hl_v rfl rfl rfl (rv_ev rfl) ?_
      refine hl_less (sx 0 rfl (sx 1 rfl (sx 2 rfl (sx 50 rfl (sub_nil _))))) (.refl _) ?_
      refine hl_nil ?_
      refine hq_then ?_
      refine hc_true rfl ?_
      refine hc_seq ?_
      refine hc_region ?_
      refine hl_v rfl rfl rfl (rv_ev rfl) ?_
      refine hl_less (sx 0 rfl (sx 1 rfl (sx 2 rfl (sx 50 rfl (sub_nil _))))) (.refl _) ?_
      refine hl_nil ?_
      refine hq_then ?_
      refine hc_ret ?_
      refine hq_then_ret ?_
      exact hq_ans rfl rfl (congrArg _ (pB_no (fun hp => by first | (exact hSao ⟨hp.n, hp.a⟩) | (exact hSbs ⟨hp.n, hp.b⟩) | (exact hK hp.k) | (have h9 := hp.dn; omega) | (have h9 := hp.sn; omega) | (exact absurd (hp.dl i (by omega)) (by assumption)) | (exact absurd (hp.ds k (by omega)) (by assumption)))).symm)
  ·
   have hSbs := of_pBn h3
   refine hl_v rfl rfl rfl (rv_ev rfl) ?_
   refine hl_v rfl rfl rfl (rv_ev rfl) ?_
   refine hl_v rfl rfl rfl (rv_ev rfl) ?_
   refine hl_skip rfl rfl rfl ?_
   refine hl_skip rfl rfl rfl ?_
   refine hl_skip rfl rfl rfl ?_
   refine hl_skip rfl rfl rfl ?_
   refine hl_skip rfl rfl rfl ?_
   refine hl_skip rfl rfl rfl ?_
   refine hl_skip rfl rfl rfl ?_
   refine hl_skip rfl rfl rfl ?_
   refine hl_skip rfl rfl rfl ?_
   refine hl_v rfl rfl rfl (rv_ev rfl) ?_
   refine hl_v rfl rfl rfl (rv_ev rfl) ?_
   refine hl_skip rfl rfl rfl ?_
   refine hl_skip rfl rfl rfl ?_
   refine hl_skip rfl rfl rfl ?_
   refine hl_skip rfl rfl rfl ?_
   refine hl_skip rfl rfl rfl ?_
   refine hl_skip rfl rfl rfl ?_
   refine hl_skip rfl rfl rfl ?_
   refine hl_skip rfl rfl rfl ?_
   refine hl_skip rfl rfl rfl ?_
   refine hl_v rfl rfl rfl (rv_ev rfl) ?_
   refine hl_v rfl rfl rfl (rv_ev rfl) ?_
   refine hl_skip rfl rfl rfl ?_
   refine hl_skip rfl rfl rfl ?_
   refine hl_skip rfl rfl rfl ?_
   refine hl_skip rfl rfl rfl ?_
   refine hl_skip rfl rfl rfl ?_
   refine hl_skip rfl rfl rfl ?_
   refine hl_skip rfl rfl rfl ?_
   refine hl_skip rfl rfl rfl ?_
   refine hl_v rfl rfl rfl (rv_ev rfl) ?_
   refine hl_less (sx 0 rfl (sx 1 rfl (sx 2 rfl (sx 50 rfl (sub_nil _))))) (.refl _) ?_
   refine hl_nil ?_
   refine hq_then ?_
   refine hc_true rfl ?_
   refine hc_seq ?_
   refine hc_region ?_
   refine hl_v rfl rfl rfl (rv_ev rfl) ?_
   refine hl_less (sx 0 rfl (sx 1 rfl (sx 2 rfl (sx 50 rfl (sub_nil _))))) (.refl _) ?_
   refine hl_nil ?_
   refine hq_then ?_
   refine hc_ret ?_
   refine hq_then_ret ?_
   exact hq_ans rfl rfl (congrArg _ (pB_no (fun hp => by first | (exact hSao ⟨hp.n, hp.a⟩) | (exact hSbs ⟨hp.n, hp.b⟩) | (exact hK hp.k) | (have h9 := hp.dn; omega) | (have h9 := hp.sn; omega) | (exact absurd (hp.dl i (by omega)) (by assumption)) | (exact absurd (hp.ds k (by omega)) (by assumption)))).symm)
 ·
  have hSao := of_pBn h2
  refine hl_v rfl rfl rfl (rv_ev rfl) ?_
  refine hl_v rfl rfl rfl (rv_ev rfl) ?_
  refine hl_skip rfl rfl rfl ?_
  refine hl_skip rfl rfl rfl ?_
  refine hl_skip rfl rfl rfl ?_
  refine hl_skip rfl rfl rfl ?_
  refine hl_skip rfl rfl rfl ?_
  refine hl_skip rfl rfl rfl ?_
  refine hl_v rfl rfl rfl (rv_ev rfl) ?_
  refine hl_v rfl rfl rfl (rv_ev rfl) ?_
  refine hl_skip rfl rfl rfl ?_
  refine hl_skip rfl rfl rfl ?_
  refine hl_skip rfl rfl rfl ?_
  refine hl_skip rfl rfl rfl ?_
  refine hl_skip rfl rfl rfl ?_
  refine hl_skip rfl rfl rfl ?_
  refine hl_skip rfl rfl rfl ?_
  refine hl_skip rfl rfl rfl ?_
  refine hl_skip rfl rfl rfl ?_
  refine hl_v rfl rfl rfl (rv_ev rfl) ?_
  refine hl_v rfl rfl rfl (rv_ev rfl) ?_
  refine hl_skip rfl rfl rfl ?_
  refine hl_skip rfl rfl rfl ?_
  refine hl_skip rfl rfl rfl ?_
  refine hl_skip rfl rfl rfl ?_
  refine hl_skip rfl rfl rfl ?_
  refine hl_skip rfl rfl rfl ?_
  refine hl_skip rfl rfl rfl ?_
  refine hl_skip rfl rfl rfl ?_
  refine hl_skip rfl rfl rfl ?_
  refine hl_v rfl rfl rfl (rv_ev rfl) ?_
  refine hl_v rfl rfl rfl (rv_ev rfl) ?_
  refine hl_skip rfl rfl rfl ?_
  refine hl_skip rfl rfl rfl ?_
  refine hl_skip rfl rfl rfl ?_
  refine hl_skip rfl rfl rfl ?_
  refine hl_skip rfl rfl rfl ?_
  refine hl_skip rfl rfl rfl ?_
  refine hl_skip rfl rfl rfl ?_
  refine hl_skip rfl rfl rfl ?_
  refine hl_v rfl rfl rfl (rv_ev rfl) ?_
  refine hl_less (sx 0 rfl (sx 1 rfl (sx 2 rfl (sx 50 rfl (sub_nil _))))) (.refl _) ?_
  refine hl_nil ?_
  refine hq_then ?_
  refine hc_true rfl ?_
  refine hc_seq ?_
  refine hc_region ?_
  refine hl_v rfl rfl rfl (rv_ev rfl) ?_
  refine hl_less (sx 0 rfl (sx 1 rfl (sx 2 rfl (sx 50 rfl (sub_nil _))))) (.refl _) ?_
  refine hl_nil ?_
  refine hq_then ?_
  refine hc_ret ?_
  refine hq_then_ret ?_
  exact hq_ans rfl rfl (congrArg _ (pB_no (fun hp => by first | (exact hSao ⟨hp.n, hp.a⟩) | (exact hSbs ⟨hp.n, hp.b⟩) | (exact hK hp.k) | (have h9 := hp.dn; omega) | (have h9 := hp.sn; omega) | (exact absurd (hp.dl i (by omega)) (by assumption)) | (exact absurd (hp.ds k (by omega)) (by assumption)))).symm)
/-- what a valid timed net keeps -/
structure Bnd (x : Td) : Prop where
  i : 0 ≤ x.n.ins ∧ x.n.ins ≤ 20
  s : x.n.ss.length ≤ 12
  l : x.n.ls.length ≤ 400
  k : x.ks.length = x.n.ss.length
  a : x.ao.length = x.n.ss.length
  b : x.bs.length = x.n.ss.length
  d : x.dl.length = x.n.ls.length
  e : x.ds.length = x.n.ss.length
theorem TdOk.bnd {x : Td} (h : TdOk x) : Bnd x := ⟨h.n.sz.i, h.n.sz.s, h.n.sz.l, by have := h.k.1; omega, h.a.len, h.b.len, h.dn, h.sn⟩
open Go.RowKit
open Go.RowKit
theorem andOne (x : Int) : bits .and .i64 x 1 = x % 2 := by
  show IntKind.i64.wrap ((BitVec.ofInt 64 x &&& BitVec.ofInt 64 1).toNat : Int) = _
  have h1 : (BitVec.ofInt 64 (1 : Int)).toNat = 1 := by decide
  rw [BitVec.toNat_and, h1, Nat.and_one_is_mod, BitVec.toNat_ofInt]
  have h2 : (x % ((2 ^ 64 : Nat) : Int)).toNat % 2 < 2 := Nat.mod_lt _ (by decide)
  rw [Bit.i64_small _ (by omega)]
  have h3 : ((2 ^ 64 : Nat) : Int) = 18446744073709551616 := by decide
  rw [h3]; omega
/-- a number of bits -/
def pk (b : Nat → Int) : Nat → Int
  | 0 => 0
  | k + 1 => pk b k + b k * 2 ^ k
theorem pk_ext {b c : Nat → Int} : ∀ k, (∀ q, q < k → b q = c q) → pk b k = pk c k
  | 0, _ => rfl
  | k + 1, h => by unfold pk; rw [pk_ext k (fun q hq => h q (by omega)), h k (by omega)]
theorem two_pow (k : Nat) : (2 : Int) ^ k = ((2 ^ k : Nat) : Int) := by simp
theorem pk_rng {b : Nat → Int} : ∀ k, (∀ q, q < k → b q = 0 ∨ b q = 1) → 0 ≤ pk b k ∧ pk b k < 2 ^ k
  | 0, _ => ⟨Int.le_refl _, by show (0 : Int) < 2 ^ 0; decide⟩
  | k + 1, h => by
    have ih := pk_rng k (fun q hq => h q (by omega))
    have hk := h k (by omega)
    have hp : (0 : Int) < 2 ^ k := Int.pow_pos (by decide)
    unfold pk
    rw [Int.pow_succ]
    rcases hk with e | e <;> rw [e] <;> omega
theorem pow4 {k : Nat} (h : k ≤ 4) : (2 : Int) ^ k ≤ 16 := by
  have h1 : (2 : Nat) ^ k ≤ 2 ^ 4 := Nat.pow_le_pow_right (by decide) h
  have h2 : (2 : Nat) ^ 4 = 16 := by decide
  rw [two_pow]; omega
theorem pk16 {b : Nat → Int} {k : Nat} (h : ∀ q, q < k → b q = 0 ∨ b q = 1) (hk : k ≤ 4) : 0 ≤ pk b k ∧ pk b k < 16 := by
  have := pk_rng k h
  have := pow4 hk
  omega
theorem shl_pk {b : Int} {k : Nat} (hb : b = 0 ∨ b = 1) (hk : k ≤ 4) : IntKind.i64.wrap (b * 2 ^ ((k : Int)).toNat) = b * 2 ^ k := by
  have hp := pow4 hk
  have hp0 : (0 : Int) < 2 ^ k := Int.pow_pos (by decide)
  rw [Int.toNat_natCast]
  exact IntWalk.i64_in _ (by rcases hb with e | e <;> rw [e] <;> omega)
theorem or_pk {b : Nat → Int} {k : Nat} (h : ∀ q, q < k → b q = 0 ∨ b q = 1) (hb : b k = 0 ∨ b k = 1) (hk : k ≤ 4) : bits .or .i64 (pk b k) (b k * 2 ^ k) = pk b (k + 1) := by
  obtain ⟨h0, h1⟩ := pk_rng k h
  have hp := pow4 hk
  have hp0 : (0 : Int) < 2 ^ k := Int.pow_pos (by decide)
  rw [Bit.or_int _ _ h0 (by omega) (by rcases hb with e | e <;> rw [e] <;> omega) (by rcases hb with e | e <;> rw [e] <;> omega)]
  have e2 : (b k * 2 ^ k).toNat = (b k).toNat * 2 ^ k := by
    rcases hb with e | e <;> rw [e]
    · simp
    · rw [Int.one_mul, two_pow, Int.toNat_natCast]; simp
  have hlt : (pk b k).toNat < 2 ^ k := by rw [two_pow] at h1; omega
  rw [e2, Bit.or_join _ _ _ hlt]
  show _ = pk b k + b k * 2 ^ k
  rw [← e2]
  have : 0 ≤ b k * 2 ^ k := by rcases hb with e | e <;> rw [e] <;> omega
  omega
/-- a list and zeros behind it -/
def fzT (C : Nat) (vs : List Int) : List Int := vs ++ List.replicate (C - vs.length) 0
theorem fz_len {C : Nat} {vs : List Int} (h : vs.length ≤ C) : (fzT C vs).length = C := by simp [fzT]; omega
theorem fz_get {C : Nat} {vs : List Int} {k : Nat} (h : k < vs.length) : (fzT C vs).getD k 0 = vs.getD k 0 := getD_left h
theorem fz_all {C : Nat} {vs : List Int} (h : vs.length = C) : fzT C vs = vs := by unfold fzT; rw [h, Nat.sub_self]; simp
theorem fz_set {C : Nat} {vs : List Int} {x : Int} {j : Nat} (hj : j = vs.length) (h : vs.length < C) : (fzT C vs).set j x = fzT C (vs ++ [x]) := by
  subst hj
  unfold fzT
  rw [List.set_append_right _ _ (Nat.le_refl _), Nat.sub_self, List.length_append, List.length_singleton, show C - vs.length = (C - (vs.length + 1)) + 1 by omega, List.replicate_succ, List.set_cons_zero]
  simp
theorem fz_one {C : Nat} (h : 1 ≤ C) : List.replicate C (0 : Int) = fzT C [0] := by
  unfold fzT
  obtain ⟨c, rfl⟩ : ∃ c, C = c + 1 := ⟨C - 1, by omega⟩
  simp [List.replicate_succ]
theorem fz_nil (C : Nat) : List.replicate C (0 : Int) = fzT C [] := by simp [fzT]
/-- values of a net's nodes -/
def pa (inp : Int) (k : Nat) : List Int := [0] ++ (List.range k).map (fun k => inp / 2 ^ k % 2)
def pb (n : Ln) (st : List Int) (inp : Int) (k : Nat) : List Int := pa inp n.ins.toNat ++ (st.take k).map (· % 2)
def lutV (l : Lt) (b : Nat → Int) : Int := l.ma / 2 ^ (pk b l.xs.length).toNat % 2
abbrev atV (v : List Int) (ns : List Int) : Nat → Int := fun j => v.getD (ns.getD j 0).toNat 0
def vlL (n : Ln) (st : List Int) (inp : Int) : Nat → List Int
  | 0 => pb n st inp st.length
  | i + 1 => vlL n st inp i ++ [lutV (n.ls.getD i lt0) (atV (vlL n st inp i) (n.ls.getD i lt0).xs)]
abbrev valT (n : Ln) (st : List Int) (inp : Int) : List Int := vlL n st inp n.ls.length
theorem pa_len (inp : Int) (k : Nat) : (pa inp k).length = 1 + k := by simp [pa]; omega
theorem pa_step (inp : Int) (k : Nat) : pa inp k ++ [inp / 2 ^ k % 2] = pa inp (k + 1) := by unfold pa; rw [List.range_succ, List.map_append, List.append_assoc]; rfl
theorem pb_len (n : Ln) (st : List Int) (inp : Int) {k : Nat} (h : k ≤ st.length) : (pb n st inp k).length = 1 + n.ins.toNat + k := by simp [pb, pa_len]; omega
theorem pb_zero (n : Ln) (st : List Int) (inp : Int) : pa inp n.ins.toNat = pb n st inp 0 := by simp [pb]
theorem pb_step (n : Ln) (st : List Int) (inp : Int) {k : Nat} (h : k < st.length) : pb n st inp k ++ [st.getD k 0 % 2] = pb n st inp (k + 1) := by unfold pb; rw [take_snocG 0 h, List.map_append, List.append_assoc]; rfl
theorem vl_len (n : Ln) (st : List Int) (inp : Int) : ∀ i, (vlL n st inp i).length = 1 + n.ins.toNat + st.length + i
  | 0 => pb_len n st inp (Nat.le_refl _)
  | i + 1 => by unfold vlL; rw [List.length_append, vl_len n st inp i]; simp; omega
theorem mod01 (x : Int) : x % 2 = 0 ∨ x % 2 = 1 := by omega
theorem lut01 (l : Lt) (b : Nat → Int) : lutV l b = 0 ∨ lutV l b = 1 := mod01 _
theorem b01_mod (xs : List Int) : B01 (xs.map (· % 2)) := fun k hk => by
  rw [List.length_map] at hk
  have : (xs.map (· % 2)).getD k 0 = xs.getD k 0 % 2 := getD_mapv (· % 2) xs k 0
  rw [this]; exact mod01 _
theorem b01_cat {u v : List Int} (h : B01 u) (k : B01 v) : B01 (u ++ v) := fun i hi => by
  by_cases h1 : i < u.length
  · rw [getD_left h1]; exact h i h1
  · rw [getD_right (by omega)]; exact k _ (by rw [List.length_append] at hi; omega)
theorem pa01 (inp : Int) (k : Nat) : B01 (pa inp k) := by
  refine b01_cat (fun i hi => .inl (by simp at hi; subst hi; rfl)) (fun i hi => ?_)
  simp at hi
  have : ((List.range k).map (fun k => inp / 2 ^ k % 2)).getD i 0 = inp / 2 ^ i % 2 := by simp [hi]
  rw [this]; exact mod01 _
theorem pb01 (n : Ln) (st : List Int) (inp : Int) (k : Nat) : B01 (pb n st inp k) := b01_cat (pa01 _ _) (b01_mod _)
theorem vl01 (n : Ln) (st : List Int) (inp : Int) : ∀ i, B01 (vlL n st inp i)
  | 0 => pb01 n st inp _
  | i + 1 => by unfold vlL; exact b01_cat (vl01 n st inp i) (fun k hk => by simp at hk; subst hk; exact lut01 _ _)
set_option maxHeartbeats 4000000 in
set_option maxRecDepth 100000 in
theorem packNodes_ans (xs ns : List Int) (v u : Value) (w : World) (hv : RdsW w v 1 xs.length (xs.map (Value.int .i64))) (hu : RdsW w u 1 ns.length (ns.map (Value.int .i64))) (hl : ns.length ≤ 4) (hns : ∀ q, q < ns.length → 0 ≤ ns.getD q 0 ∧ ns.getD q 0 < xs.length) (h01 : ∀ q, q < ns.length → atV xs ns q = 0 ∨ atV xs ns q = 1) :
  Calls Try.prog 99 #[v, u] w (Ans w (.int .i64 (pk (atV xs ns) ns.length))) := by
 refine calls_hc (N := 26) (args := [v, u]) Try.func99 rfl rfl ?_
 refine hc_less _ (sx 0 rfl (sx 1 rfl (sub_nil _))) (.refl _) ?_
 refine hc_seq ?_
 refine hc_region ?_
 refine hl_v rfl rfl rfl (rv_ev rfl) ?_
 refine hl_less (sx 0 rfl (sx 1 rfl (sx 4 rfl (sub_nil _)))) (.refl _) ?_
 refine hl_nil ?_
 refine hq_then ?_
 refine hc_seq ?_
 refine hc_region ?_
 refine hl_v rfl rfl rfl (rv_ev rfl) ?_
 refine hl_less (sx 0 rfl (sx 1 rfl (sx 4 rfl (sx 5 rfl (sub_nil _))))) (.refl _) ?_
 refine hl_nil ?_
 refine hq_then ?_
 refine hc_seq ?_
 refine hc_seq ?_
 refine hc_region ?_
 refine hl_v rfl rfl rfl (rv_ev rfl) ?_
 refine hl_v rfl rfl rfl (rv_len rfl Try.underlying24 rfl (rd_old hu)) ?_
 refine hl_v rfl rfl rfl (rv_ev rfl) ?_
 refine hl_less (sx 0 rfl (sx 1 rfl (sx 4 rfl (sx 5 rfl (sx 8 rfl (sx 9 rfl (sx 10 rfl (sub_nil _)))))))) (.refl _) ?_
 refine hl_nil ?_
 refine hq_then ?_
 refine hc_block ?_
 refine hc_loop2 (α := Nat) (β := Int) (fun k q => []) (fun k q => [(0, v), (1, u), (4, .int .i64 0), (5, .int .i64 q), (8, u), (9, .int .i64 (ns.length : Int)), (10, .int .i64 (k : Int))]) (fun k q => k ≤ ns.length ∧ q = pk (atV xs ns) k) (fun k q => ns.length - k) 0 0 ⟨Nat.zero_le _, rfl⟩ (sx 0 rfl (sx 1 rfl (sx 4 rfl (sx 5 rfl (sx 8 rfl (sx 9 rfl (sx 10 rfl (sub_nil _)))))))) (.slnil) ?_
 intro k q hi1
 obtain ⟨hk, hq⟩ := hi1
 refine hc_seq ?_
 refine hc_region ?_
 refine hl_lss rfl rfl rfl rfl rfl rfl (fun h2 => ?_) (fun h2 => ?_)
 ·
  refine hl_less (sx 0 rfl (sx 1 rfl (sx 4 rfl (sx 5 rfl (sx 8 rfl (sx 9 rfl (sx 10 rfl (sx 11 rfl (sub_nil _))))))))) (.refl _) ?_
  refine hl_nil ?_
  refine hq_then ?_
  refine hc_seq ?_
  refine hc_true rfl ?_
  refine hc_skip ?_
  refine hq_then ?_
  refine hc_seq ?_
  refine hc_block ?_
  refine hc_seq ?_
  refine hc_region ?_
  refine hl_v rfl rfl rfl (rv_ev rfl) ?_
  refine hl_v rfl rfl rfl (rv_index (s := 1) rfl Try.underlying24 (by kernel_rfl) rfl rfl (rd_old hu) (by omega) (by first | omega | (simp only [List.length_set]; omega))) ?_
  refine hl_v rfl rfl rfl (rv_loadEl (u := .int .i64 (ns.getD k 0)) rfl (by kernel_rfl) rfl (rd_old hu) (ints_at1 (show _ < ns.length by first | omega | (simp only [List.length_set]; omega)))) ?_
  refine hl_v rfl rfl rfl (rv_ev rfl) ?_
  refine hl_v rfl rfl rfl (rv_ev rfl) ?_
  refine hl_less (sx 0 rfl (sx 1 rfl (sx 4 rfl (sx 5 rfl (sx 6 rfl (sx 7 rfl (sx 8 rfl (sx 9 rfl (sx 10 rfl (sx 11 rfl (sub_nil _))))))))))) (.refl _) ?_
  refine hl_nil ?_
  refine hq_then ?_
  refine hc_region ?_
  have hnk := hns k (by omega)
  have hbk := h01 k (by omega)
  have hpr := pk16 (b := atV xs ns) (k := k) (fun z hz => h01 z (by omega)) (by omega)
  have hbk2 : xs.getD (ns.getD k 0).toNat 0 = 0 ∨ xs.getD (ns.getD k 0).toNat 0 = 1 := hbk
  have hpw := pow4 (k := k) (by omega)
  have hpw0 : (0 : Int) < 2 ^ k := Int.pow_pos (by decide)
  refine hl_v rfl rfl rfl (rv_ev rfl) ?_
  refine hl_v rfl rfl rfl (rv_ev rfl) ?_
  refine hl_v rfl rfl rfl (rv_ev rfl) ?_
  refine hl_v rfl rfl rfl (rv_index (s := 1) rfl Try.underlying24 (by kernel_rfl) rfl rfl (rd_old hv) (by omega) (by first | omega | (simp only [List.length_set]; omega))) ?_
  refine hl_v rfl rfl rfl (rv_loadEl (u := .int .i64 (xs.getD ((ns.getD k 0).toNat) 0)) rfl (by kernel_rfl) rfl (rd_old hv) (ints_at1 (show _ < xs.length by first | omega | (simp only [List.length_set]; omega)))) ?_
  refine hl_v rfl rfl rfl (rv_ev rfl) ?_
  refine hl_v rfl rfl rfl (rv_conv rfl Try.underlying3 Try.underlying112 rfl (IntWalk.u64_in _ (by omega))) ?_
  refine hl_v rfl rfl rfl (rv_shlG (k := .i64) (kk := .u64) (r := xs.getD (ns.getD k 0).toNat 0 * 2 ^ k) rfl rfl rfl rfl (by omega) (shl_pk hbk2 (by omega))) ?_
  refine hl_v rfl rfl rfl (rv_bits rfl (by decide) rfl rfl (r := pk (atV xs ns) (k + 1)) (by rw [hq]; exact or_pk (fun z hz => h01 z (by omega)) hbk (by omega))) ?_
  refine hl_v rfl rfl rfl (rv_ev rfl) ?_
  refine hl_less (sx 0 rfl (sx 1 rfl (sx 4 rfl (sx 5 rfl (sx 6 rfl (sx 7 rfl (sx 8 rfl (sx 9 rfl (sx 10 rfl (sx 11 rfl (sub_nil _))))))))))) (.refl _) ?_
  refine hl_nil ?_
  refine hq_block_normal ?_
  refine hq_then ?_
  refine hc_region ?_
  refine hl_v rfl rfl rfl (rv_add rfl rfl rfl (by constructor <;> omega)) ?_
  refine hl_v rfl rfl rfl (rv_ev rfl) ?_
  refine hl_less (sx 0 rfl (sx 1 rfl (sx 4 rfl (sx 5 rfl (sx 6 rfl (sx 7 rfl (sx 8 rfl (sx 9 rfl (sx 10 rfl (sx 11 rfl (sub_nil _))))))))))) (.refl _) ?_
  refine hl_nil ?_
  exact hq_round2 (k + 1) _ ⟨by omega, by first | rfl | (rw [hq]; rfl)⟩ (by omega) (sx 0 rfl (sx 1 rfl (sx 4 rfl (sx 5 rfl (sx 8 rfl (sx 9 rfl (sx 10 rfl (sub_nil _)))))))) (.slnil)
 ·
  refine hl_less (sx 0 rfl (sx 1 rfl (sx 4 rfl (sx 5 rfl (sx 8 rfl (sx 9 rfl (sx 10 rfl (sx 11 rfl (sub_nil _))))))))) (.refl _) ?_
  refine hl_nil ?_
  refine hq_then ?_
  refine hc_seq ?_
  refine hc_false rfl ?_
  refine hc_exit ?_
  refine hq_then_exit ?_
  refine hq_then_exit ?_
  refine hq_block_exit ?_
  refine hq_then ?_
  refine hc_seq ?_
  refine hc_region ?_
  refine hl_v rfl rfl rfl (rv_ev rfl) ?_
  refine hl_v rfl rfl rfl (rv_ev rfl) ?_
  refine hl_less (sx 0 rfl (sx 1 rfl (sx 4 rfl (sx 5 rfl (sx 8 rfl (sx 9 rfl (sx 10 rfl (sx 11 rfl (sub_nil _))))))))) (.refl _) ?_
  refine hl_nil ?_
  refine hq_then ?_
  refine hc_ret ?_
  exact hq_ans rfl rfl (by rw [hq, show k = ns.length by omega])
set_option maxHeartbeats 4000000 in
set_option maxRecDepth 100000 in
theorem l20Pack_ans (xs ns : List Int) (v u : Value) (w : World) (hv : RdsW w v 1 xs.length (xs.map (Value.int .i64))) (hu : RdsW w u 1 ns.length (ns.map (Value.int .i64))) (hl : ns.length ≤ 4) (hns : ∀ q, q < ns.length → 0 ≤ ns.getD q 0 ∧ ns.getD q 0 < xs.length) (h01 : ∀ q, q < ns.length → atV xs ns q = 0 ∨ atV xs ns q = 1) :
  Calls Try.prog 86 #[v, u] w (Ans w (.int .i64 (pk (atV xs ns) ns.length))) := by
 refine calls_hc (N := 25) (args := [v, u]) Try.func86 rfl rfl ?_
 refine hc_less _ (sx 0 rfl (sx 1 rfl (sub_nil _))) (.refl _) ?_
 refine hc_seq ?_
 refine hc_region ?_
 refine hl_v rfl rfl rfl (rv_ev rfl) ?_
 refine hl_less (sx 0 rfl (sx 1 rfl (sx 4 rfl (sub_nil _)))) (.refl _) ?_
 refine hl_nil ?_
 refine hq_then ?_
 refine hc_seq ?_
 refine hc_region ?_
 refine hl_v rfl rfl rfl (rv_ev rfl) ?_
 refine hl_less (sx 0 rfl (sx 1 rfl (sx 4 rfl (sx 5 rfl (sub_nil _))))) (.refl _) ?_
 refine hl_nil ?_
 refine hq_then ?_
 refine hc_seq ?_
 refine hc_seq ?_
 refine hc_region ?_
 refine hl_v rfl rfl rfl (rv_ev rfl) ?_
 refine hl_less (sx 0 rfl (sx 1 rfl (sx 4 rfl (sx 5 rfl (sx 6 rfl (sub_nil _)))))) (.refl _) ?_
 refine hl_nil ?_
 refine hq_then ?_
 refine hc_block ?_
 refine hc_loop2 (α := Nat) (β := Int) (fun k q => []) (fun k q => [(0, v), (1, u), (4, .int .i64 0), (5, .int .i64 q), (6, .int .i64 (k : Int))]) (fun k q => k ≤ ns.length ∧ q = pk (atV xs ns) k) (fun k q => ns.length - k) 0 0 ⟨Nat.zero_le _, rfl⟩ (sx 0 rfl (sx 1 rfl (sx 4 rfl (sx 5 rfl (sx 6 rfl (sub_nil _)))))) (.slnil) ?_
 intro k q hi1
 obtain ⟨hk, hq⟩ := hi1
 refine hc_seq ?_
 refine hc_seq ?_
 refine hc_region ?_
 refine hl_v rfl rfl rfl (rv_ev rfl) ?_
 refine hl_v rfl rfl rfl (rv_ev rfl) ?_
 refine hl_v rfl rfl rfl (rv_len rfl Try.underlying24 rfl (rd_old hu)) ?_
 refine hl_lss rfl rfl rfl rfl rfl rfl (fun h2 => ?_) (fun h2 => ?_)
 ·
  refine hl_less (sx 0 rfl (sx 1 rfl (sx 4 rfl (sx 5 rfl (sx 6 rfl (sx 10 rfl (sub_nil _))))))) (.refl _) ?_
  refine hl_nil ?_
  refine hq_then ?_
  refine hc_true rfl ?_
  refine hc_skip ?_
  refine hq_then ?_
  refine hc_seq ?_
  refine hc_block ?_
  refine hc_region ?_
  have hnk := hns k (by omega)
  have hbk := h01 k (by omega)
  have hpr := pk16 (b := atV xs ns) (k := k) (fun z hz => h01 z (by omega)) (by omega)
  have hbk2 : xs.getD (ns.getD k 0).toNat 0 = 0 ∨ xs.getD (ns.getD k 0).toNat 0 = 1 := hbk
  have hpw := pow4 (k := k) (by omega)
  have hpw0 : (0 : Int) < 2 ^ k := Int.pow_pos (by decide)
  refine hl_v rfl rfl rfl (rv_ev rfl) ?_
  refine hl_v rfl rfl rfl (rv_ev rfl) ?_
  refine hl_v rfl rfl rfl (rv_ev rfl) ?_
  refine hl_v rfl rfl rfl (rv_ev rfl) ?_
  refine hl_v rfl rfl rfl (rv_index (s := 1) rfl Try.underlying24 (by kernel_rfl) rfl rfl (rd_old hu) (by omega) (by first | omega | (simp only [List.length_set]; omega))) ?_
  refine hl_v rfl rfl rfl (rv_loadEl (u := .int .i64 (ns.getD k 0)) rfl (by kernel_rfl) rfl (rd_old hu) (ints_at1 (show _ < ns.length by first | omega | (simp only [List.length_set]; omega)))) ?_
  refine hl_v rfl rfl rfl (rv_index (s := 1) rfl Try.underlying24 (by kernel_rfl) rfl rfl (rd_old hv) (by omega) (by first | omega | (simp only [List.length_set]; omega))) ?_
  refine hl_v rfl rfl rfl (rv_loadEl (u := .int .i64 (xs.getD ((ns.getD k 0).toNat) 0)) rfl (by kernel_rfl) rfl (rd_old hv) (ints_at1 (show _ < xs.length by first | omega | (simp only [List.length_set]; omega)))) ?_
  refine hl_v rfl rfl rfl (rv_ev rfl) ?_
  refine hl_v rfl rfl rfl (rv_shlG (k := .i64) (kk := .i64) (r := xs.getD (ns.getD k 0).toNat 0 * 2 ^ k) rfl rfl rfl rfl (by omega) (shl_pk hbk2 (by omega))) ?_
  refine hl_v rfl rfl rfl (rv_add rfl rfl rfl (by rw [hq]; constructor <;> (rcases hbk2 with e | e <;> rw [e] <;> omega))) ?_
  refine hl_v rfl rfl rfl (rv_ev rfl) ?_
  refine hl_less (sx 0 rfl (sx 1 rfl (sx 4 rfl (sx 5 rfl (sx 6 rfl (sx 10 rfl (sub_nil _))))))) (.refl _) ?_
  refine hl_nil ?_
  refine hq_block_normal ?_
  refine hq_then ?_
  refine hc_region ?_
  refine hl_v rfl rfl rfl (rv_ev rfl) ?_
  refine hl_v rfl rfl rfl (rv_add rfl rfl rfl (by constructor <;> omega)) ?_
  refine hl_v rfl rfl rfl (rv_ev rfl) ?_
  refine hl_less (sx 0 rfl (sx 1 rfl (sx 4 rfl (sx 5 rfl (sx 6 rfl (sx 10 rfl (sub_nil _))))))) (.refl _) ?_
  refine hl_nil ?_
  exact hq_round2 (k + 1) _ ⟨by omega, by first | rfl | (rw [hq]; rfl)⟩ (by omega) (sx 0 rfl (sx 1 rfl (sx 4 rfl (sx 5 rfl (sx 6 rfl (sub_nil _)))))) (.slnil)
 ·
  refine hl_less (sx 0 rfl (sx 1 rfl (sx 4 rfl (sx 5 rfl (sx 6 rfl (sx 10 rfl (sub_nil _))))))) (.refl _) ?_
  refine hl_nil ?_
  refine hq_then ?_
  refine hc_false rfl ?_
  refine hc_exit ?_
  refine hq_then_exit ?_
  refine hq_then_exit ?_
  refine hq_block_exit ?_
  refine hq_then ?_
  refine hc_seq ?_
  refine hc_region ?_
  refine hl_v rfl rfl rfl (rv_ev rfl) ?_
  refine hl_v rfl rfl rfl (rv_ev rfl) ?_
  refine hl_less (sx 0 rfl (sx 1 rfl (sx 4 rfl (sx 5 rfl (sx 6 rfl (sx 10 rfl (sub_nil _))))))) (.refl _) ?_
  refine hl_nil ?_
  refine hq_then ?_
  refine hc_ret ?_
  exact hq_ans rfl rfl (by rw [hq, show k = ns.length by omega])
set_option maxHeartbeats 4000000 in
set_option maxRecDepth 100000 in
theorem lutValues_ret (n : Ln) (st : List Int) (v : Value) (inp : Int) (w : World) (hr : RdsLn w n) (hst : RdsW w v 1 st.length (st.map (Value.int .i64))) (hok : LnOk n) (hsp : StP n st) :
  Calls Try.prog 85 #[.agg #[.int .i64 n.ins, n.sv, n.lv, n.ov], v, .int .i64 inp] w (Ret w (fun v' post => post = [rowE 3 1 v' (valT n st inp).length ((valT n st inp).map (Value.int .i64))])) := by
 have hso := sml hr.ou
 have hss := hr.sq.small
 have hsl := hr.lt.small
 have hcnt : n.cnt = 1 + n.ins + n.ss.length + n.ls.length := rfl
 have hfst : n.fst = 1 + n.ins + n.ss.length := rfl
 obtain ⟨⟨si0, si1⟩, s2, s3, s4⟩ := hok.sz
 have hsl9 := hsp.len
 refine calls_hc (N := 73) (args := [.agg #[.int .i64 n.ins, n.sv, n.lv, n.ov], v, .int .i64 inp]) Try.func85 rfl rfl ?_
 refine hc_less _ (sx 0 rfl (sx 1 rfl (sx 2 rfl (sub_nil _)))) (.refl _) ?_
 refine hc_seq ?_
 refine hc_region ?_
 refine hl_box rfl rfl rfl (rq_box rfl rfl) ?_
 intro b1
 refine hl_v rfl rfl rfl (rv_ev rfl) ?_
 refine hl_less (sx 0 rfl (sx 1 rfl (sx 2 rfl (sx 3 rfl (sx 6 rfl (sub_nil _)))))) (.refl _) ?_
 refine hl_nil ?_
 refine hq_then ?_
 refine hc_seq ?_
 refine hc_region ?_
 refine hl_v rfl rfl rfl (rv_loadN (cs := [.int .i64 n.ins, n.sv, n.lv, n.ov]) rfl (by kernel_rfl) (by kernel_rfl) rfl rfl (box_part 0 rfl 0 rfl)) ?_
 refine hl_callV rfl rfl rfl (rq_call (by kernel_rfl) rfl (fun w hm => ret_ans (lutNodes_ans n w (hr.below hm.bel) hok.sz))) ?_
 refine hl_row rfl rfl rfl (rq_make (z := .int .i64 0) (s := 1) (bytes := 8) (n := (List.replicate (n.cnt).toNat (0 : Int)).length) (cs := ((List.replicate (n.cnt).toNat (0 : Int)).map (Value.int .i64))) rfl Try.underlying24 (by kernel_rfl) (by decide) rfl rfl (by first | (rw [List.length_replicate]; done) | (rw [List.length_replicate]; omega)) (by first | (rw [List.length_replicate]; done) | (rw [List.length_replicate]; omega)) (by rw [List.length_replicate]; omega) (ints_make _)) ?_
 intro g2
 refine hl_v rfl rfl rfl (rv_ev rfl) ?_
 refine hl_less (sx 0 rfl (sx 1 rfl (sx 2 rfl (sx 3 rfl (sx 6 rfl (sx 7 rfl (sub_nil _))))))) (.refl _) ?_
 refine hl_nil ?_
 refine hq_then ?_
 refine hc_seq ?_
 refine hc_seq ?_
 refine hc_region ?_
 refine hl_v rfl rfl rfl (rv_ev rfl) ?_
 refine hl_less (sx 0 rfl (sx 1 rfl (sx 2 rfl (sx 3 rfl (sx 6 rfl (sx 7 rfl (sx 8 rfl (sub_nil _)))))))) (.refl _) ?_
 refine hl_nil ?_
 refine hq_then ?_
 refine hc_block ?_
 refine hc_loop2 (α := Nat) (β := List Int) (fun k zs => [rowE 3 1 (.slice (some ⟨g2, 0, none⟩) ((List.replicate (n.cnt).toNat (0 : Int)).length) ((List.replicate (n.cnt).toNat (0 : Int)).length)) zs.length (zs.map (Value.int .i64)), boxE b1 #[.int .i64 n.ins, n.sv, n.lv, n.ov] 37]) (fun k zs => [(0, .agg #[.int .i64 n.ins, n.sv, n.lv, n.ov]), (1, v), (2, .int .i64 inp), (3, .pointer (some ⟨b1, 0, none⟩)), (6, .slice none 0 0), (7, .slice (some ⟨g2, 0, none⟩) ((List.replicate (n.cnt).toNat (0 : Int)).length) ((List.replicate (n.cnt).toNat (0 : Int)).length)), (8, .int .i64 (k : Int))]) (fun k zs => (k : Int) ≤ n.ins ∧ zs = fzT n.cnt.toNat (pa inp k)) (fun k zs => (n.ins).toNat - k) 0 (List.replicate n.cnt.toNat (0 : Int)) ⟨by omega, fz_one (by omega)⟩ (sx 0 rfl (sx 1 rfl (sx 2 rfl (sx 3 rfl (sx 6 rfl (sx 7 rfl (sx 8 rfl (sub_nil _)))))))) ((.cons_cons _ (.cons_cons _ .slnil))) ?_
 intro k zs hi3
 obtain ⟨hk, hz⟩ := hi3
 have hzl : zs.length = n.cnt.toNat := by rw [hz]; exact fz_len (by rw [pa_len]; omega)
 refine hc_seq ?_
 refine hc_seq ?_
 refine hc_region ?_
 refine hl_v rfl rfl rfl (rv_ev rfl) ?_
 refine hl_v rfl rfl rfl (rv_field (k0 := 0) rfl (by kernel_rfl) rfl) ?_
 refine hl_v rfl rfl rfl (rv_load rfl (by kernel_rfl) rfl (box_cell 1 rfl rfl)) ?_
 refine hl_lss rfl rfl rfl rfl rfl rfl (fun h4 => ?_) (fun h4 => ?_)
 ·
  refine hl_less (sx 0 rfl (sx 1 rfl (sx 2 rfl (sx 3 rfl (sx 6 rfl (sx 7 rfl (sx 8 rfl (sx 19 rfl (sub_nil _))))))))) (.refl _) ?_
  refine hl_nil ?_
  refine hq_then ?_
  refine hc_true rfl ?_
  refine hc_skip ?_
  refine hq_then ?_
  refine hc_seq ?_
  refine hc_block ?_
  refine hc_region ?_
  refine hl_v rfl rfl rfl (rv_ev rfl) ?_
  refine hl_v rfl rfl rfl (rv_ev rfl) ?_
  refine hl_v rfl rfl rfl (rv_add rfl rfl rfl (by constructor <;> omega)) ?_
  refine hl_v rfl rfl rfl (rv_ev rfl) ?_
  refine hl_v rfl rfl rfl (rv_ev rfl) ?_
  refine hl_v rfl rfl rfl (rv_conv rfl Try.underlying3 Try.underlying112 rfl (IntWalk.u64_in _ (by omega))) ?_
  refine hl_v rfl rfl rfl (rv_shr rfl rfl rfl (by omega)) ?_
  refine hl_v rfl rfl rfl (rv_bits rfl (by decide) rfl rfl (r := inp / 2 ^ k % 2) (by rw [show (inp / 2 ^ ((k : Int)).toNat : Int) = inp / 2 ^ k by rw [Int.toNat_natCast]]; exact andOne _)) ?_
  refine hl_v rfl rfl rfl (rv_index (s := 1) rfl Try.underlying24 (by kernel_rfl) rfl rfl (rd_row 0 rfl) (by omega) (by first | omega | (simp only [List.length_set]; omega))) ?_
  refine hl_storeEl (i := 0) (n' := (zs.set ((1 + (k : Int)).toNat) (inp / 2 ^ k % 2)).length) (xs' := ((zs.set ((1 + (k : Int)).toNat) (inp / 2 ^ k % 2)).map (Value.int .i64))) (l' := [rowE 3 1 (.slice (some ⟨g2, 0, none⟩) ((List.replicate (n.cnt).toNat (0 : Int)).length) ((List.replicate (n.cnt).toNat (0 : Int)).length)) ((zs.set ((1 + (k : Int)).toNat) (inp / 2 ^ k % 2)).length) ((zs.set ((1 + (k : Int)).toNat) (inp / 2 ^ k % 2)).map (Value.int .i64)), boxE b1 #[.int .i64 n.ins, n.sv, n.lv, n.ov] 37]) rfl rfl rfl (by kernel_rfl) rfl rfl rfl rfl (by first | omega | (simp only [List.length_set]; omega)) List.length_set.symm (ints_set _ _ _) rfl ?_
  refine hl_less (sx 0 rfl (sx 1 rfl (sx 2 rfl (sx 3 rfl (sx 6 rfl (sx 7 rfl (sx 8 rfl (sx 19 rfl (sub_nil _))))))))) (.refl _) ?_
  refine hl_nil ?_
  refine hq_block_normal ?_
  refine hq_then ?_
  refine hc_region ?_
  refine hl_v rfl rfl rfl (rv_ev rfl) ?_
  refine hl_v rfl rfl rfl (rv_add rfl rfl rfl (by constructor <;> omega)) ?_
  refine hl_v rfl rfl rfl (rv_ev rfl) ?_
  refine hl_less (sx 0 rfl (sx 1 rfl (sx 2 rfl (sx 3 rfl (sx 6 rfl (sx 7 rfl (sx 8 rfl (sx 19 rfl (sub_nil _))))))))) (.refl _) ?_
  refine hl_nil ?_
  exact hq_round2 (k + 1) (zs.set ((1 + (k : Int)).toNat) (inp / 2 ^ k % 2)) ⟨by omega, by rw [hz]; exact (fz_set (by rw [pa_len]; omega) (by rw [pa_len]; omega)).trans (by rw [pa_step])⟩ (by omega) (sx 0 rfl (sx 1 rfl (sx 2 rfl (sx 3 rfl (sx 6 rfl (sx 7 rfl (sx 8 rfl (sub_nil _)))))))) ((.cons_cons _ (.cons_cons _ .slnil)))
 ·
  refine hl_less (sx 0 rfl (sx 1 rfl (sx 2 rfl (sx 3 rfl (sx 6 rfl (sx 7 rfl (sx 8 rfl (sx 19 rfl (sub_nil _))))))))) (.refl _) ?_
  refine hl_nil ?_
  refine hq_then ?_
  refine hc_false rfl ?_
  refine hc_exit ?_
  refine hq_then_exit ?_
  refine hq_then_exit ?_
  refine hq_block_exit ?_
  refine hq_then ?_
  refine hc_seq ?_
  refine hc_seq ?_
  refine hc_region ?_
  refine hl_v rfl rfl rfl (rv_ev rfl) ?_
  refine hl_v rfl rfl rfl (rv_len rfl Try.underlying24 rfl (rd_old hst)) ?_
  refine hl_v rfl rfl rfl (rv_ev rfl) ?_
  refine hl_less (sx 0 rfl (sx 1 rfl (sx 2 rfl (sx 3 rfl (sx 6 rfl (sx 7 rfl (sx 8 rfl (sx 19 rfl (sx 31 rfl (sx 32 rfl (sx 33 rfl (sub_nil _)))))))))))) (.refl _) ?_
  refine hl_nil ?_
  refine hq_then ?_
  refine hc_block ?_
  refine hc_loop2 (α := Nat) (β := List Int) (fun k zs => [rowE 3 1 (.slice (some ⟨g2, 0, none⟩) ((List.replicate (n.cnt).toNat (0 : Int)).length) ((List.replicate (n.cnt).toNat (0 : Int)).length)) zs.length (zs.map (Value.int .i64)), boxE b1 #[.int .i64 n.ins, n.sv, n.lv, n.ov] 37]) (fun k zs => [(0, .agg #[.int .i64 n.ins, n.sv, n.lv, n.ov]), (1, v), (2, .int .i64 inp), (3, .pointer (some ⟨b1, 0, none⟩)), (6, .slice none 0 0), (7, .slice (some ⟨g2, 0, none⟩) ((List.replicate (n.cnt).toNat (0 : Int)).length) ((List.replicate (n.cnt).toNat (0 : Int)).length)), (19, .bool false), (31, v), (32, .int .i64 (st.length : Int)), (33, .int .i64 (k : Int))]) (fun k zs => (k : Int) ≤ (st.length : Int) ∧ zs = fzT n.cnt.toNat (pb n st inp k)) (fun k zs => ((st.length : Int)).toNat - k) 0 zs ⟨by omega, by rw [hz, show k = n.ins.toNat by omega, pb_zero n st inp]⟩ (sx 0 rfl (sx 1 rfl (sx 2 rfl (sx 3 rfl (sx 6 rfl (sx 7 rfl (sx 19 rfl (sx 31 rfl (sx 32 rfl (sx 33 rfl (sub_nil _))))))))))) ((.cons_cons _ (.cons_cons _ .slnil))) ?_
  intro k zs hi5
  obtain ⟨hk, hz⟩ := hi5
  have hzl : zs.length = n.cnt.toNat := by rw [hz]; exact fz_len (by rw [pb_len n st inp (by omega)]; omega)
  refine hc_seq ?_
  refine hc_region ?_
  refine hl_lss rfl rfl rfl rfl rfl rfl (fun h6 => ?_) (fun h6 => ?_)
  ·
   refine hl_less (sx 0 rfl (sx 1 rfl (sx 2 rfl (sx 3 rfl (sx 6 rfl (sx 7 rfl (sx 19 rfl (sx 31 rfl (sx 32 rfl (sx 33 rfl (sx 34 rfl (sub_nil _)))))))))))) (.refl _) ?_
   refine hl_nil ?_
   refine hq_then ?_
   refine hc_seq ?_
   refine hc_true rfl ?_
   refine hc_skip ?_
   refine hq_then ?_
   refine hc_seq ?_
   refine hc_block ?_
   refine hc_seq ?_
   refine hc_region ?_
   refine hl_v rfl rfl rfl (rv_ev rfl) ?_
   refine hl_v rfl rfl rfl (rv_index (s := 1) rfl Try.underlying24 (by kernel_rfl) rfl rfl (rd_old hst) (by omega) (by first | omega | (simp only [List.length_set]; omega))) ?_
   refine hl_v rfl rfl rfl (rv_loadEl (u := .int .i64 (st.getD k 0)) rfl (by kernel_rfl) rfl (rd_old hst) (ints_at1 (show _ < st.length by first | omega | (simp only [List.length_set]; omega)))) ?_
   refine hl_v rfl rfl rfl (rv_ev rfl) ?_
   refine hl_v rfl rfl rfl (rv_ev rfl) ?_
   refine hl_less (sx 0 rfl (sx 1 rfl (sx 2 rfl (sx 3 rfl (sx 6 rfl (sx 7 rfl (sx 9 rfl (sx 10 rfl (sx 19 rfl (sx 31 rfl (sx 32 rfl (sx 33 rfl (sx 34 rfl (sub_nil _)))))))))))))) (.refl _) ?_
   refine hl_nil ?_
   refine hq_then ?_
   refine hc_region ?_
   refine hl_v rfl rfl rfl (rv_ev rfl) ?_
   refine hl_v rfl rfl rfl (rv_field (k0 := 0) rfl (by kernel_rfl) rfl) ?_
   refine hl_v rfl rfl rfl (rv_load rfl (by kernel_rfl) rfl (box_cell 1 rfl rfl)) ?_
   refine hl_v rfl rfl rfl (rv_add rfl rfl rfl (by constructor <;> omega)) ?_
   refine hl_v rfl rfl rfl (rv_ev rfl) ?_
   refine hl_v rfl rfl rfl (rv_add rfl rfl rfl (by constructor <;> omega)) ?_
   refine hl_v rfl rfl rfl (rv_ev rfl) ?_
   refine hl_v rfl rfl rfl (rv_bits rfl (by decide) rfl rfl (r := (st.getD k 0) % 2) (andOne _)) ?_
   refine hl_v rfl rfl rfl (rv_index (s := 1) rfl Try.underlying24 (by kernel_rfl) rfl rfl (rd_row 0 rfl) (by omega) (by first | omega | (simp only [List.length_set]; omega))) ?_
   refine hl_storeEl (i := 0) (n' := (zs.set (((1 + n.ins) + (k : Int)).toNat) ((st.getD k 0) % 2)).length) (xs' := ((zs.set (((1 + n.ins) + (k : Int)).toNat) ((st.getD k 0) % 2)).map (Value.int .i64))) (l' := [rowE 3 1 (.slice (some ⟨g2, 0, none⟩) ((List.replicate (n.cnt).toNat (0 : Int)).length) ((List.replicate (n.cnt).toNat (0 : Int)).length)) ((zs.set (((1 + n.ins) + (k : Int)).toNat) ((st.getD k 0) % 2)).length) ((zs.set (((1 + n.ins) + (k : Int)).toNat) ((st.getD k 0) % 2)).map (Value.int .i64)), boxE b1 #[.int .i64 n.ins, n.sv, n.lv, n.ov] 37]) rfl rfl rfl (by kernel_rfl) rfl rfl rfl rfl (by first | omega | (simp only [List.length_set]; omega)) List.length_set.symm (ints_set _ _ _) rfl ?_
   refine hl_less (sx 0 rfl (sx 1 rfl (sx 2 rfl (sx 3 rfl (sx 6 rfl (sx 7 rfl (sx 9 rfl (sx 10 rfl (sx 19 rfl (sx 31 rfl (sx 32 rfl (sx 33 rfl (sx 34 rfl (sub_nil _)))))))))))))) (.refl _) ?_
   refine hl_nil ?_
   refine hq_block_normal ?_
   refine hq_then ?_
   refine hc_region ?_
   refine hl_v rfl rfl rfl (rv_add rfl rfl rfl (by constructor <;> omega)) ?_
   refine hl_v rfl rfl rfl (rv_ev rfl) ?_
   refine hl_less (sx 0 rfl (sx 1 rfl (sx 2 rfl (sx 3 rfl (sx 6 rfl (sx 7 rfl (sx 9 rfl (sx 10 rfl (sx 19 rfl (sx 31 rfl (sx 32 rfl (sx 33 rfl (sx 34 rfl (sub_nil _)))))))))))))) (.refl _) ?_
   refine hl_nil ?_
   exact hq_round2 (k + 1) (zs.set (((1 + n.ins) + (k : Int)).toNat) ((st.getD k 0) % 2)) ⟨by omega, by rw [hz]; exact (fz_set (by rw [pb_len n st inp (by omega)]; omega) (by rw [pb_len n st inp (by omega)]; omega)).trans (by rw [pb_step n st inp (by omega)])⟩ (by omega) (sx 0 rfl (sx 1 rfl (sx 2 rfl (sx 3 rfl (sx 6 rfl (sx 7 rfl (sx 19 rfl (sx 31 rfl (sx 32 rfl (sx 33 rfl (sub_nil _))))))))))) ((.cons_cons _ (.cons_cons _ .slnil)))
  ·
   refine hl_less (sx 0 rfl (sx 1 rfl (sx 2 rfl (sx 3 rfl (sx 6 rfl (sx 7 rfl (sx 19 rfl (sx 31 rfl (sx 32 rfl (sx 33 rfl (sx 34 rfl (sub_nil _)))))))))))) (.refl _) ?_
   refine hl_nil ?_
   refine hq_then ?_
   refine hc_seq ?_
   refine hc_false rfl ?_
   refine hc_exit ?_
   refine hq_then_exit ?_
   refine hq_then_exit ?_
   refine hq_block_exit ?_
   refine hq_then ?_
   refine hc_seq ?_
   refine hc_seq ?_
   refine hc_region ?_
   refine hl_v rfl rfl rfl (rv_field (k0 := 2) rfl (by kernel_rfl) rfl) ?_
   refine hl_v rfl rfl rfl (rv_load rfl (by kernel_rfl) rfl (box_cell 1 rfl rfl)) ?_
   refine hl_v rfl rfl rfl (rv_len rfl Try.underlying35 rfl (rd_old ((hr).lt.row))) ?_
   refine hl_v rfl rfl rfl (rv_ev rfl) ?_
   refine hl_less (sx 0 rfl (sx 1 rfl (sx 2 rfl (sx 3 rfl (sx 6 rfl (sx 7 rfl (sx 19 rfl (sx 31 rfl (sx 32 rfl (sx 33 rfl (sx 34 rfl (sx 49 rfl (sx 50 rfl (sx 51 rfl (sub_nil _))))))))))))))) (.refl _) ?_
   refine hl_nil ?_
   refine hq_then ?_
   refine hc_block ?_
   refine hc_loop2 (α := Nat) (β := List Int) (fun k zs => [rowE 3 1 (.slice (some ⟨g2, 0, none⟩) ((List.replicate (n.cnt).toNat (0 : Int)).length) ((List.replicate (n.cnt).toNat (0 : Int)).length)) zs.length (zs.map (Value.int .i64)), boxE b1 #[.int .i64 n.ins, n.sv, n.lv, n.ov] 37]) (fun k zs => [(0, .agg #[.int .i64 n.ins, n.sv, n.lv, n.ov]), (1, v), (2, .int .i64 inp), (3, .pointer (some ⟨b1, 0, none⟩)), (6, .slice none 0 0), (7, .slice (some ⟨g2, 0, none⟩) ((List.replicate (n.cnt).toNat (0 : Int)).length) ((List.replicate (n.cnt).toNat (0 : Int)).length)), (19, .bool false), (31, v), (32, .int .i64 (st.length : Int)), (34, .bool false), (49, n.lv), (50, .int .i64 (n.ls.length : Int)), (51, .int .i64 (k : Int))]) (fun k zs => (k : Int) ≤ (n.ls.length : Int) ∧ zs = fzT n.cnt.toNat (vlL n st inp k)) (fun k zs => ((n.ls.length : Int)).toNat - k) 0 zs ⟨by omega, by rw [hz, show k = st.length by omega]; rfl⟩ (sx 0 rfl (sx 1 rfl (sx 2 rfl (sx 3 rfl (sx 6 rfl (sx 7 rfl (sx 19 rfl (sx 31 rfl (sx 32 rfl (sx 34 rfl (sx 49 rfl (sx 50 rfl (sx 51 rfl (sub_nil _)))))))))))))) ((.cons_cons _ (.cons_cons _ .slnil))) ?_
   intro k zs hi7
   obtain ⟨hk, hz⟩ := hi7
   have hzl : zs.length = n.cnt.toNat := by rw [hz]; exact fz_len (by rw [vl_len n st inp k]; omega)
   refine hc_seq ?_
   refine hc_region ?_
   refine hl_lss rfl rfl rfl rfl rfl rfl (fun h8 => ?_) (fun h8 => ?_)
   ·
    refine hl_less (sx 0 rfl (sx 1 rfl (sx 2 rfl (sx 3 rfl (sx 6 rfl (sx 7 rfl (sx 19 rfl (sx 31 rfl (sx 32 rfl (sx 34 rfl (sx 49 rfl (sx 50 rfl (sx 51 rfl (sx 52 rfl (sub_nil _))))))))))))))) (.refl _) ?_
    refine hl_nil ?_
    refine hq_then ?_
    refine hc_seq ?_
    refine hc_true rfl ?_
    refine hc_skip ?_
    refine hq_then ?_
    refine hc_seq ?_
    refine hc_block ?_
    refine hc_seq ?_
    refine hc_region ?_
    refine hl_v rfl rfl rfl (rv_ev rfl) ?_
    refine hl_v rfl rfl rfl (rv_index (s := 2) rfl Try.underlying35 (by kernel_rfl) rfl rfl (rd_old ((hr).lt.row)) (by omega) (by first | omega | (simp only [List.length_set]; omega))) ?_
    refine hl_v rfl rfl rfl (rv_loadElN (us := [(n.ls.getD k lt0).iv, .int .i64 ((n.ls.getD k lt0).ma)]) rfl (by kernel_rfl) (by kernel_rfl) rfl (rd_old ((hr).lt.row)) (by omega) rfl (flat_atN ltC 2 (fun _ => rfl) n.ls lt0 (show k < _ by first | omega | (simp only [List.length_set]; omega)) rfl)) ?_
    refine hl_box rfl rfl rfl (rq_alloc (z := .agg #[.slice none 0 0, .int .i64 0]) rfl (by kernel_rfl)) ?_
    intro b9
    refine hl_v rfl rfl rfl (rv_ev rfl) ?_
    refine hl_storeBoxN (i := 0) (off := 0) (us := [(n.ls.getD k lt0).iv, .int .i64 ((n.ls.getD k lt0).ma)])  (l' := [boxE b9 #[(n.ls.getD k lt0).iv, .int .i64 ((n.ls.getD k lt0).ma)] 69, rowE 3 1 (.slice (some ⟨g2, 0, none⟩) ((List.replicate (n.cnt).toNat (0 : Int)).length) ((List.replicate (n.cnt).toNat (0 : Int)).length)) zs.length (zs.map (Value.int .i64)), boxE b1 #[.int .i64 n.ins, n.sv, n.lv, n.ov] 37]) rfl rfl rfl (by kernel_rfl) rfl rfl rfl (all_cons (hr.lt.at (d := lt0) (k := k) (by omega)).one (all_cons rfl all_nil)) rfl rfl rfl ?_
    refine hl_less (sx 0 rfl (sx 1 rfl (sx 2 rfl (sx 3 rfl (sx 6 rfl (sx 7 rfl (sx 11 rfl (sx 12 rfl (sx 19 rfl (sx 31 rfl (sx 32 rfl (sx 34 rfl (sx 49 rfl (sx 50 rfl (sx 51 rfl (sx 52 rfl (sub_nil _))))))))))))))))) (.refl _) ?_
    refine hl_nil ?_
    refine hq_then ?_
    have hvl := vl_len n st inp k
    have hltk := hok.lt k (by omega)
    have hx4 : (n.ls.getD k lt0).xs.length ≤ 4 := hltk.1.1
    have hxr : ∀ q, q < (n.ls.getD k lt0).xs.length → 0 ≤ (n.ls.getD k lt0).xs.getD q 0 ∧ (n.ls.getD k lt0).xs.getD q 0 < zs.length := fun q hq => by have := hltk.1.2 q hq; omega
    have hat : ∀ q, q < (n.ls.getD k lt0).xs.length → atV zs (n.ls.getD k lt0).xs q = atV (vlL n st inp k) (n.ls.getD k lt0).xs q := fun q hq => by have := hltk.1.2 q hq; show zs.getD _ 0 = _; rw [hz]; exact fz_get (by omega)
    have hx01 : ∀ q, q < (n.ls.getD k lt0).xs.length → atV zs (n.ls.getD k lt0).xs q = 0 ∨ atV zs (n.ls.getD k lt0).xs q = 1 := fun q hq => by rw [hat q hq]; have := hltk.1.2 q hq; exact vl01 n st inp k _ (by omega)
    have hpk := pk16 (b := atV zs (n.ls.getD k lt0).xs) (k := (n.ls.getD k lt0).xs.length) hx01 hx4
    have hpe : pk (atV zs (n.ls.getD k lt0).xs) (n.ls.getD k lt0).xs.length = pk (atV (vlL n st inp k) (n.ls.getD k lt0).xs) (n.ls.getD k lt0).xs.length := pk_ext _ hat
    refine hc_draw (by kernel_rfl) 15 [0, 1, 2, 3, 4, 5, 6, 7, 8, 9, 10, 11, 12, 13, 14] (List.take 15 _) (List.drop 15 _) [[], [], [1], [], [2, 3], [], [5], [], [], [8], [7, 9], [10], [6, 11], [12], [0, 4]] [56, 57, 58, 59, 60, 61, 62, 63, 64, 65, 66, 67, 68, 69, 70] (fun i_ vs_ v_ p_ => match i_ with | 0 => v_ = .slice (some ⟨g2, 0, none⟩) ((List.replicate (n.cnt).toNat (0 : Int)).length) ((List.replicate (n.cnt).toNat (0 : Int)).length) ∧ p_ = [] | 1 => v_ = .agg #[.int .i64 n.ins, n.sv, n.lv, n.ov] ∧ p_ = [] | 2 => v_ = .int .i64 n.fst ∧ p_ = [] | 3 => v_ = .int .i64 (k : Int) ∧ p_ = [] | 4 => v_ = .int .i64 (n.fst + (k : Int)) ∧ p_ = [] | 5 => v_ = .pointer (some ⟨b9, 0 + 1, none⟩) ∧ p_ = [] | 6 => v_ = .int .i64 ((n.ls.getD k lt0).ma) ∧ p_ = [] | 7 => v_ = .slice (some ⟨g2, 0, none⟩) ((List.replicate (n.cnt).toNat (0 : Int)).length) ((List.replicate (n.cnt).toNat (0 : Int)).length) ∧ p_ = [] | 8 => v_ = .pointer (some ⟨b9, 0 + 0, none⟩) ∧ p_ = [] | 9 => v_ = (n.ls.getD k lt0).iv ∧ p_ = [] | 10 => v_ = .int .i64 (pk (atV zs ((n.ls.getD k lt0).xs)) ((n.ls.getD k lt0).xs).length) ∧ p_ = [] | 11 => v_ = .int .u64 (pk (atV zs ((n.ls.getD k lt0).xs)) ((n.ls.getD k lt0).xs).length) ∧ p_ = [] | 12 => v_ = .int .i64 (((n.ls.getD k lt0).ma) / 2 ^ (pk (atV zs ((n.ls.getD k lt0).xs)) ((n.ls.getD k lt0).xs).length : Int).toNat) ∧ p_ = [] | 13 => v_ = .int .i64 ((((n.ls.getD k lt0).ma) / 2 ^ (pk (atV zs ((n.ls.getD k lt0).xs)) ((n.ls.getD k lt0).xs).length : Int).toNat) % 2) ∧ p_ = [] | 14 => v_ = elP (.slice (some ⟨g2, 0, none⟩) ((List.replicate (n.cnt).toNat (0 : Int)).length) ((List.replicate (n.cnt).toNat (0 : Int)).length)) ((n.fst + (k : Int)).toNat * 1) ∧ p_ = [] | _ => True) (List.take_append_drop 15 _).symm (by kernel_rfl) (by kernel_rfl) rfl rfl ?_ ?_
    ·
     refine ⟨?_, ?_, ?_, ?_, ?_, ?_, ?_, ?_, ?_, ?_, ?_, ?_, ?_, ?_, ?_, trivial⟩
     ·
      intro vf pf hR
      refine Or.inl ⟨rfl, ?_⟩
      refine rq_less (sx 7 rfl (sub_nil _)) (List.sublist_append_right _ _) ?_
      exact rq_v (rv_ev rfl)
     ·
      intro vf pf hR
      refine Or.inl ⟨rfl, ?_⟩
      refine rq_less (sx 3 rfl (sub_nil _)) (List.sublist_append_right _ _) ?_
      exact rq_v (rv_loadN (cs := [.int .i64 n.ins, n.sv, n.lv, n.ov]) rfl (by kernel_rfl) (by kernel_rfl) rfl rfl (box_part 2 rfl 0 rfl))
     ·
      intro vf pf hR
      have e1 : (vf 1) = .agg #[.int .i64 n.ins, n.sv, n.lv, n.ov] ∧ (pf 1) = [] := hR 1 (by decide)
      refine Or.inl ⟨rfl, ?_⟩
      refine rq_less (sx 57 (congrArg some e1.1) (sub_nil _)) (List.sublist_append_right _ _) ?_
      exact (rq_call (by kernel_rfl) rfl (fun w hm => ret_ans (firstLut_ans n w (hr.below hm.bel) hok.sz)))
     ·
      intro vf pf hR
      refine Or.inl ⟨rfl, ?_⟩
      refine rq_less (sx 11 rfl (sub_nil _)) (List.sublist_append_right _ _) ?_
      exact rq_v (rv_ev rfl)
     ·
      intro vf pf hR
      have e2 : (vf 2) = .int .i64 n.fst ∧ (pf 2) = [] := hR 2 (by decide)
      have e3 : (vf 3) = .int .i64 (k : Int) ∧ (pf 3) = [] := hR 3 (by decide)
      refine Or.inl ⟨rfl, ?_⟩
      refine rq_less (sx 58 (congrArg some e2.1) (sx 59 (congrArg some e3.1) (sub_nil _))) (List.sublist_append_right _ _) ?_
      exact rq_v (rv_add rfl rfl rfl (by constructor <;> omega))
     ·
      intro vf pf hR
      refine Or.inl ⟨rfl, ?_⟩
      refine rq_less (sx 12 rfl (sub_nil _)) (List.sublist_append_right _ _) ?_
      exact rq_v (rv_field (k0 := 1) rfl (by kernel_rfl) rfl)
     ·
      intro vf pf hR
      have e5 : (vf 5) = .pointer (some ⟨b9, 0 + 1, none⟩) ∧ (pf 5) = [] := hR 5 (by decide)
      refine Or.inl ⟨rfl, ?_⟩
      refine rq_less (sx 61 (congrArg some e5.1) (sub_nil _)) (List.sublist_append_right _ _) ?_
      exact rq_v (rv_load rfl (by kernel_rfl) rfl (box_cell 0 rfl rfl))
     ·
      intro vf pf hR
      refine Or.inl ⟨rfl, ?_⟩
      refine rq_less (sx 7 rfl (sub_nil _)) (List.sublist_append_right _ _) ?_
      exact rq_v (rv_ev rfl)
     ·
      intro vf pf hR
      refine Or.inl ⟨rfl, ?_⟩
      refine rq_less (sx 12 rfl (sub_nil _)) (List.sublist_append_right _ _) ?_
      exact rq_v (rv_field (k0 := 0) rfl (by kernel_rfl) rfl)
     ·
      intro vf pf hR
      have e8 : (vf 8) = .pointer (some ⟨b9, 0 + 0, none⟩) ∧ (pf 8) = [] := hR 8 (by decide)
      refine Or.inl ⟨rfl, ?_⟩
      refine rq_less (sx 64 (congrArg some e8.1) (sub_nil _)) (List.sublist_append_right _ _) ?_
      exact rq_v (rv_load rfl (by kernel_rfl) rfl (box_cell 0 rfl rfl))
     ·
      intro vf pf hR
      have e7 : (vf 7) = .slice (some ⟨g2, 0, none⟩) ((List.replicate (n.cnt).toNat (0 : Int)).length) ((List.replicate (n.cnt).toNat (0 : Int)).length) ∧ (pf 7) = [] := hR 7 (by decide)
      have e9 : (vf 9) = (n.ls.getD k lt0).iv ∧ (pf 9) = [] := hR 9 (by decide)
      refine Or.inl ⟨rfl, ?_⟩
      refine rq_less (sx 63 (congrArg some e7.1) (sx 65 (congrArg some e9.1) (sub_nil _))) (List.sublist_append_right _ _) ?_
      exact (rq_call (by kernel_rfl) rfl (fun w hm => ret_ans (packNodes_ans zs ((n.ls.getD k lt0).xs) _ _ w ((rd_row 1 rfl) w hm) ((rd_old ((hr).lt.at (d := lt0) (k := k) (by omega))) w hm) hx4 hxr hx01)))
     ·
      intro vf pf hR
      have e10 : (vf 10) = .int .i64 (pk (atV zs ((n.ls.getD k lt0).xs)) ((n.ls.getD k lt0).xs).length) ∧ (pf 10) = [] := hR 10 (by decide)
      refine Or.inl ⟨rfl, ?_⟩
      refine rq_less (sx 66 (congrArg some e10.1) (sub_nil _)) (List.sublist_append_right _ _) ?_
      exact rq_v (rv_conv rfl Try.underlying3 Try.underlying112 rfl (IntWalk.u64_in _ (by omega)))
     ·
      intro vf pf hR
      have e6 : (vf 6) = .int .i64 ((n.ls.getD k lt0).ma) ∧ (pf 6) = [] := hR 6 (by decide)
      have e11 : (vf 11) = .int .u64 (pk (atV zs ((n.ls.getD k lt0).xs)) ((n.ls.getD k lt0).xs).length) ∧ (pf 11) = [] := hR 11 (by decide)
      refine Or.inl ⟨rfl, ?_⟩
      refine rq_less (sx 62 (congrArg some e6.1) (sx 67 (congrArg some e11.1) (sub_nil _))) (List.sublist_append_right _ _) ?_
      exact rq_v (rv_shr rfl rfl rfl (by omega))
     ·
      intro vf pf hR
      have e12 : (vf 12) = .int .i64 (((n.ls.getD k lt0).ma) / 2 ^ (pk (atV zs ((n.ls.getD k lt0).xs)) ((n.ls.getD k lt0).xs).length : Int).toNat) ∧ (pf 12) = [] := hR 12 (by decide)
      refine Or.inl ⟨rfl, ?_⟩
      refine rq_less (sx 68 (congrArg some e12.1) (sub_nil _)) (List.sublist_append_right _ _) ?_
      exact rq_v (rv_bits rfl (by decide) rfl rfl (r := (((n.ls.getD k lt0).ma) / 2 ^ (pk (atV zs ((n.ls.getD k lt0).xs)) ((n.ls.getD k lt0).xs).length : Int).toNat) % 2) (andOne _))
     ·
      intro vf pf hR
      have e0 : (vf 0) = .slice (some ⟨g2, 0, none⟩) ((List.replicate (n.cnt).toNat (0 : Int)).length) ((List.replicate (n.cnt).toNat (0 : Int)).length) ∧ (pf 0) = [] := hR 0 (by decide)
      have e4 : (vf 4) = .int .i64 (n.fst + (k : Int)) ∧ (pf 4) = [] := hR 4 (by decide)
      refine Or.inl ⟨rfl, ?_⟩
      refine rq_less (sx 56 (congrArg some e0.1) (sx 60 (congrArg some e4.1) (sub_nil _))) (List.sublist_append_right _ _) ?_
      exact rq_v (rv_index (s := 1) rfl Try.underlying24 (by kernel_rfl) rfl rfl (rd_row 1 rfl) (by omega) (by first | omega | (simp only [List.length_set]; omega)))
    ·
     intro vf pf hR
     have e13 : (vf 13) = .int .i64 ((((n.ls.getD k lt0).ma) / 2 ^ (pk (atV zs ((n.ls.getD k lt0).xs)) ((n.ls.getD k lt0).xs).length : Int).toNat) % 2) ∧ (pf 13) = [] := hR 13 (by decide)
     have e14 : (vf 14) = elP (.slice (some ⟨g2, 0, none⟩) ((List.replicate (n.cnt).toNat (0 : Int)).length) ((List.replicate (n.cnt).toNat (0 : Int)).length)) ((n.fst + (k : Int)).toNat * 1) ∧ (pf 14) = [] := hR 14 (by decide)
     refine hl_less (l' := [boxE b9 #[(n.ls.getD k lt0).iv, .int .i64 ((n.ls.getD k lt0).ma)] 69, rowE 3 1 (.slice (some ⟨g2, 0, none⟩) ((List.replicate (n.cnt).toNat (0 : Int)).length) ((List.replicate (n.cnt).toNat (0 : Int)).length)) zs.length (zs.map (Value.int .i64)), boxE b1 #[.int .i64 n.ins, n.sv, n.lv, n.ov] 37]) (sx 0 rfl (sx 1 rfl (sx 2 rfl (sx 3 rfl (sx 6 rfl (sx 7 rfl (sx 11 rfl (sx 12 rfl (sx 19 rfl (sx 31 rfl (sx 32 rfl (sx 34 rfl (sx 49 rfl (sx 50 rfl (sx 51 rfl (sx 52 rfl (sx 69 (congrArg some e13.1) (sx 70 (congrArg some e14.1) (sub_nil _))))))))))))))))))) (List.sublist_append_right _ _) ?_
     simp only [List.drop_succ_cons, List.drop_zero]
     refine hl_storeEl (i := 1) (n' := (zs.set ((n.fst + (k : Int)).toNat) ((((n.ls.getD k lt0).ma) / 2 ^ (pk (atV zs ((n.ls.getD k lt0).xs)) ((n.ls.getD k lt0).xs).length : Int).toNat) % 2)).length) (xs' := ((zs.set ((n.fst + (k : Int)).toNat) ((((n.ls.getD k lt0).ma) / 2 ^ (pk (atV zs ((n.ls.getD k lt0).xs)) ((n.ls.getD k lt0).xs).length : Int).toNat) % 2)).map (Value.int .i64))) (l' := [boxE b9 #[(n.ls.getD k lt0).iv, .int .i64 ((n.ls.getD k lt0).ma)] 69, rowE 3 1 (.slice (some ⟨g2, 0, none⟩) ((List.replicate (n.cnt).toNat (0 : Int)).length) ((List.replicate (n.cnt).toNat (0 : Int)).length)) ((zs.set ((n.fst + (k : Int)).toNat) ((((n.ls.getD k lt0).ma) / 2 ^ (pk (atV zs ((n.ls.getD k lt0).xs)) ((n.ls.getD k lt0).xs).length : Int).toNat) % 2)).length) ((zs.set ((n.fst + (k : Int)).toNat) ((((n.ls.getD k lt0).ma) / 2 ^ (pk (atV zs ((n.ls.getD k lt0).xs)) ((n.ls.getD k lt0).xs).length : Int).toNat) % 2)).map (Value.int .i64)), boxE b1 #[.int .i64 n.ins, n.sv, n.lv, n.ov] 37]) rfl rfl rfl (by kernel_rfl) rfl rfl rfl rfl (by first | omega | (simp only [List.length_set]; omega)) List.length_set.symm (ints_set _ _ _) rfl ?_
     refine hl_less (sx 0 rfl (sx 1 rfl (sx 2 rfl (sx 3 rfl (sx 6 rfl (sx 7 rfl (sx 11 rfl (sx 12 rfl (sx 19 rfl (sx 31 rfl (sx 32 rfl (sx 34 rfl (sx 49 rfl (sx 50 rfl (sx 51 rfl (sx 52 rfl (sub_nil _))))))))))))))))) (.refl _) ?_
     refine hl_nil ?_
     refine hq_block_normal ?_
     refine hq_then ?_
     refine hc_region ?_
     refine hl_v rfl rfl rfl (rv_add rfl rfl rfl (by constructor <;> omega)) ?_
     refine hl_v rfl rfl rfl (rv_ev rfl) ?_
     refine hl_less (sx 0 rfl (sx 1 rfl (sx 2 rfl (sx 3 rfl (sx 6 rfl (sx 7 rfl (sx 11 rfl (sx 12 rfl (sx 19 rfl (sx 31 rfl (sx 32 rfl (sx 34 rfl (sx 49 rfl (sx 50 rfl (sx 51 rfl (sx 52 rfl (sub_nil _))))))))))))))))) (.refl _) ?_
     refine hl_nil ?_
     exact hq_round2 (k + 1) (zs.set ((n.fst + (k : Int)).toNat) ((((n.ls.getD k lt0).ma) / 2 ^ (pk (atV zs ((n.ls.getD k lt0).xs)) ((n.ls.getD k lt0).xs).length : Int).toNat) % 2)) ⟨by omega, by rw [hz]; exact (fz_set (by rw [vl_len n st inp k]; omega) (by rw [vl_len n st inp k]; omega)).trans (congrArg (fun q => fzT n.cnt.toNat (vlL n st inp k ++ [q])) (show _ / 2 ^ (pk (atV (fzT n.cnt.toNat (vlL n st inp k)) (n.ls.getD k lt0).xs) _).toNat % 2 = lutV _ _ by rw [← hz, hpe]; rfl))⟩ (by omega) (sx 0 rfl (sx 1 rfl (sx 2 rfl (sx 3 rfl (sx 6 rfl (sx 7 rfl (sx 19 rfl (sx 31 rfl (sx 32 rfl (sx 34 rfl (sx 49 rfl (sx 50 rfl (sx 51 rfl (sub_nil _)))))))))))))) ((.cons _ (.cons_cons _ (.cons_cons _ .slnil))))
   ·
    refine hl_less (sx 0 rfl (sx 1 rfl (sx 2 rfl (sx 3 rfl (sx 6 rfl (sx 7 rfl (sx 19 rfl (sx 31 rfl (sx 32 rfl (sx 34 rfl (sx 49 rfl (sx 50 rfl (sx 51 rfl (sx 52 rfl (sub_nil _))))))))))))))) (.refl _) ?_
    refine hl_nil ?_
    refine hq_then ?_
    refine hc_seq ?_
    refine hc_false rfl ?_
    refine hc_exit ?_
    refine hq_then_exit ?_
    refine hq_then_exit ?_
    refine hq_block_exit ?_
    refine hq_then ?_
    refine hc_seq ?_
    refine hc_region ?_
    refine hl_v rfl rfl rfl (rv_ev rfl) ?_
    refine hl_v rfl rfl rfl (rv_ev rfl) ?_
    refine hl_less (sx 0 rfl (sx 1 rfl (sx 2 rfl (sx 3 rfl (sx 6 rfl (sx 7 rfl (sx 19 rfl (sx 31 rfl (sx 32 rfl (sx 34 rfl (sx 49 rfl (sx 50 rfl (sx 51 rfl (sx 52 rfl (sub_nil _))))))))))))))) (.refl _) ?_
    refine hl_nil ?_
    refine hq_then ?_
    refine hc_ret ?_
    exact hq_retR (post := [rowE 3 1 (.slice (some ⟨g2, 0, none⟩) ((List.replicate (n.cnt).toNat (0 : Int)).length) ((List.replicate (n.cnt).toNat (0 : Int)).length)) zs.length (zs.map (Value.int .i64))]) rfl rfl ((.cons_cons _ (.cons _ .slnil))) (by rw [hz, show k = n.ls.length by omega, fz_all (by rw [vl_len n st inp]; omega)])
set_option maxHeartbeats 4000000 in
set_option maxRecDepth 100000 in
theorem specLutValues_ret (n : Ln) (st : List Int) (v : Value) (inp : Int) (w : World) (hr : RdsLn w n) (hst : RdsW w v 1 st.length (st.map (Value.int .i64))) (hok : LnOk n) (hsp : StP n st) :
  Calls Try.prog 67 #[.agg #[.int .i64 n.ins, n.sv, n.lv, n.ov], v, .int .i64 inp] w (Ret w (fun v' post => post = [rowE 3 1 v' (valT n st inp).length ((valT n st inp).map (Value.int .i64))])) := by
 have hso := sml hr.ou
 have hss := hr.sq.small
 have hsl := hr.lt.small
 have hcnt : n.cnt = 1 + n.ins + n.ss.length + n.ls.length := rfl
 have hfst : n.fst = 1 + n.ins + n.ss.length := rfl
 obtain ⟨⟨si0, si1⟩, s2, s3, s4⟩ := hok.sz
 have hsl9 := hsp.len
 refine calls_hc (N := 81) (args := [.agg #[.int .i64 n.ins, n.sv, n.lv, n.ov], v, .int .i64 inp]) Try.func67 rfl rfl ?_
 refine hc_less _ (sx 0 rfl (sx 1 rfl (sx 2 rfl (sub_nil _)))) (.refl _) ?_
 refine hc_seq ?_
 refine hc_region ?_
 refine hl_box rfl rfl rfl (rq_box rfl rfl) ?_
 intro b1
 refine hl_v rfl rfl rfl (rv_ev rfl) ?_
 refine hl_less (sx 0 rfl (sx 1 rfl (sx 2 rfl (sx 3 rfl (sx 6 rfl (sub_nil _)))))) (.refl _) ?_
 refine hl_nil ?_
 refine hq_then ?_
 refine hc_seq ?_
 refine hc_seq ?_
 refine hc_region ?_
 refine hl_v rfl rfl rfl (rv_loadN (cs := [.int .i64 n.ins, n.sv, n.lv, n.ov]) rfl (by kernel_rfl) (by kernel_rfl) rfl rfl (box_part 0 rfl 0 rfl)) ?_
 refine hl_v rfl rfl rfl (rv_ev rfl) ?_
 refine hl_callV rfl rfl rfl (rq_call (by kernel_rfl) rfl (fun w hm => ret_ans (by have h9 := specLutStateOk_ans n st _ w (hr.below hm.bel) (hst.below hm.bel); rw [pB_yes ⟨hok, hsp⟩] at h9; exact h9))) ?_
 refine hl_v rfl rfl rfl (rv_ev rfl) ?_
 refine hl_less (sx 0 rfl (sx 1 rfl (sx 2 rfl (sx 3 rfl (sx 6 rfl (sx 14 rfl (sub_nil _))))))) (.refl _) ?_
 refine hl_nil ?_
 refine hq_then ?_
 refine hc_false rfl ?_
 refine hc_skip ?_
 refine hq_then ?_
 refine hc_seq ?_
 refine hc_region ?_
 refine hl_v rfl rfl rfl (rv_loadN (cs := [.int .i64 n.ins, n.sv, n.lv, n.ov]) rfl (by kernel_rfl) (by kernel_rfl) rfl rfl (box_part 0 rfl 0 rfl)) ?_
 refine hl_callV rfl rfl rfl (rq_call (by kernel_rfl) rfl (fun w hm => ret_ans (by have h9 := specLutNodes_ans n w (hr.below hm.bel); rw [lnN_yes hok.sz] at h9; exact h9))) ?_
 refine hl_row rfl rfl rfl (rq_make (z := .int .i64 0) (s := 1) (bytes := 8) (n := (List.replicate (n.cnt).toNat (0 : Int)).length) (cs := ((List.replicate (n.cnt).toNat (0 : Int)).map (Value.int .i64))) rfl Try.underlying24 (by kernel_rfl) (by decide) rfl rfl (by first | (rw [List.length_replicate]; done) | (rw [List.length_replicate]; omega)) (by first | (rw [List.length_replicate]; done) | (rw [List.length_replicate]; omega)) (by rw [List.length_replicate]; omega) (ints_make _)) ?_
 intro g2
 refine hl_v rfl rfl rfl (rv_ev rfl) ?_
 refine hl_less (sx 0 rfl (sx 1 rfl (sx 2 rfl (sx 3 rfl (sx 6 rfl (sx 7 rfl (sx 14 rfl (sub_nil _)))))))) (.refl _) ?_
 refine hl_nil ?_
 refine hq_then ?_
 refine hc_seq ?_
 refine hc_seq ?_
 refine hc_region ?_
 refine hl_v rfl rfl rfl (rv_ev rfl) ?_
 refine hl_less (sx 0 rfl (sx 1 rfl (sx 2 rfl (sx 3 rfl (sx 6 rfl (sx 7 rfl (sx 8 rfl (sx 14 rfl (sub_nil _))))))))) (.refl _) ?_
 refine hl_nil ?_
 refine hq_then ?_
 refine hc_block ?_
 refine hc_loop2 (α := Nat) (β := List Int) (fun k zs => [rowE 3 1 (.slice (some ⟨g2, 0, none⟩) ((List.replicate (n.cnt).toNat (0 : Int)).length) ((List.replicate (n.cnt).toNat (0 : Int)).length)) zs.length (zs.map (Value.int .i64)), boxE b1 #[.int .i64 n.ins, n.sv, n.lv, n.ov] 37]) (fun k zs => [(0, .agg #[.int .i64 n.ins, n.sv, n.lv, n.ov]), (1, v), (2, .int .i64 inp), (3, .pointer (some ⟨b1, 0, none⟩)), (6, .slice none 0 0), (7, .slice (some ⟨g2, 0, none⟩) ((List.replicate (n.cnt).toNat (0 : Int)).length) ((List.replicate (n.cnt).toNat (0 : Int)).length)), (8, .int .i64 (k : Int)), (14, .bool false)]) (fun k zs => (k : Int) ≤ n.ins ∧ zs = fzT n.cnt.toNat (pa inp k)) (fun k zs => (n.ins).toNat - k) 0 (List.replicate n.cnt.toNat (0 : Int)) ⟨by omega, fz_one (by omega)⟩ (sx 0 rfl (sx 1 rfl (sx 2 rfl (sx 3 rfl (sx 6 rfl (sx 7 rfl (sx 8 rfl (sx 14 rfl (sub_nil _))))))))) ((.cons_cons _ (.cons_cons _ .slnil))) ?_
 intro k zs hi3
 obtain ⟨hk, hz⟩ := hi3
 have hzl : zs.length = n.cnt.toNat := by rw [hz]; exact fz_len (by rw [pa_len]; omega)
 refine hc_seq ?_
 refine hc_seq ?_
 refine hc_region ?_
 refine hl_v rfl rfl rfl (rv_ev rfl) ?_
 refine hl_v rfl rfl rfl (rv_field (k0 := 0) rfl (by kernel_rfl) rfl) ?_
 refine hl_v rfl rfl rfl (rv_load rfl (by kernel_rfl) rfl (box_cell 1 rfl rfl)) ?_
 refine hl_lss rfl rfl rfl rfl rfl rfl (fun h4 => ?_) (fun h4 => ?_)
 ·
  refine hl_less (sx 0 rfl (sx 1 rfl (sx 2 rfl (sx 3 rfl (sx 6 rfl (sx 7 rfl (sx 8 rfl (sx 14 rfl (sx 22 rfl (sub_nil _)))))))))) (.refl _) ?_
  refine hl_nil ?_
  refine hq_then ?_
  refine hc_true rfl ?_
  refine hc_skip ?_
  refine hq_then ?_
  refine hc_seq ?_
  refine hc_block ?_
  refine hc_region ?_
  refine hl_v rfl rfl rfl (rv_ev rfl) ?_
  refine hl_v rfl rfl rfl (rv_ev rfl) ?_
  refine hl_v rfl rfl rfl (rv_add rfl rfl rfl (by constructor <;> omega)) ?_
  refine hl_v rfl rfl rfl (rv_ev rfl) ?_
  refine hl_v rfl rfl rfl (rv_ev rfl) ?_
  refine hl_v rfl rfl rfl (rv_shr rfl rfl rfl (by omega)) ?_
  refine hl_v rfl rfl rfl (rv_bits rfl (by decide) rfl rfl (r := inp / 2 ^ k % 2) (by rw [show (inp / 2 ^ ((k : Int)).toNat : Int) = inp / 2 ^ k by rw [Int.toNat_natCast]]; exact andOne _)) ?_
  refine hl_v rfl rfl rfl (rv_index (s := 1) rfl Try.underlying24 (by kernel_rfl) rfl rfl (rd_row 0 rfl) (by omega) (by first | omega | (simp only [List.length_set]; omega))) ?_
  refine hl_storeEl (i := 0) (n' := (zs.set ((1 + (k : Int)).toNat) (inp / 2 ^ k % 2)).length) (xs' := ((zs.set ((1 + (k : Int)).toNat) (inp / 2 ^ k % 2)).map (Value.int .i64))) (l' := [rowE 3 1 (.slice (some ⟨g2, 0, none⟩) ((List.replicate (n.cnt).toNat (0 : Int)).length) ((List.replicate (n.cnt).toNat (0 : Int)).length)) ((zs.set ((1 + (k : Int)).toNat) (inp / 2 ^ k % 2)).length) ((zs.set ((1 + (k : Int)).toNat) (inp / 2 ^ k % 2)).map (Value.int .i64)), boxE b1 #[.int .i64 n.ins, n.sv, n.lv, n.ov] 37]) rfl rfl rfl (by kernel_rfl) rfl rfl rfl rfl (by first | omega | (simp only [List.length_set]; omega)) List.length_set.symm (ints_set _ _ _) rfl ?_
  refine hl_less (sx 0 rfl (sx 1 rfl (sx 2 rfl (sx 3 rfl (sx 6 rfl (sx 7 rfl (sx 8 rfl (sx 14 rfl (sx 22 rfl (sub_nil _)))))))))) (.refl _) ?_
  refine hl_nil ?_
  refine hq_block_normal ?_
  refine hq_then ?_
  refine hc_region ?_
  refine hl_v rfl rfl rfl (rv_ev rfl) ?_
  refine hl_v rfl rfl rfl (rv_add rfl rfl rfl (by constructor <;> omega)) ?_
  refine hl_v rfl rfl rfl (rv_ev rfl) ?_
  refine hl_less (sx 0 rfl (sx 1 rfl (sx 2 rfl (sx 3 rfl (sx 6 rfl (sx 7 rfl (sx 8 rfl (sx 14 rfl (sx 22 rfl (sub_nil _)))))))))) (.refl _) ?_
  refine hl_nil ?_
  exact hq_round2 (k + 1) (zs.set ((1 + (k : Int)).toNat) (inp / 2 ^ k % 2)) ⟨by omega, by rw [hz]; exact (fz_set (by rw [pa_len]; omega) (by rw [pa_len]; omega)).trans (by rw [pa_step])⟩ (by omega) (sx 0 rfl (sx 1 rfl (sx 2 rfl (sx 3 rfl (sx 6 rfl (sx 7 rfl (sx 8 rfl (sx 14 rfl (sub_nil _))))))))) ((.cons_cons _ (.cons_cons _ .slnil)))
 ·
  refine hl_less (sx 0 rfl (sx 1 rfl (sx 2 rfl (sx 3 rfl (sx 6 rfl (sx 7 rfl (sx 8 rfl (sx 14 rfl (sx 22 rfl (sub_nil _)))))))))) (.refl _) ?_
  refine hl_nil ?_
  refine hq_then ?_
  refine hc_false rfl ?_
  refine hc_exit ?_
  refine hq_then_exit ?_
  refine hq_then_exit ?_
  refine hq_block_exit ?_
  refine hq_then ?_
  refine hc_seq ?_
  refine hc_seq ?_
  refine hc_region ?_
  refine hl_v rfl rfl rfl (rv_ev rfl) ?_
  refine hl_less (sx 0 rfl (sx 1 rfl (sx 2 rfl (sx 3 rfl (sx 6 rfl (sx 7 rfl (sx 8 rfl (sx 9 rfl (sx 14 rfl (sx 22 rfl (sub_nil _))))))))))) (.refl _) ?_
  refine hl_nil ?_
  refine hq_then ?_
  refine hc_block ?_
  refine hc_loop2 (α := Nat) (β := List Int) (fun k zs => [rowE 3 1 (.slice (some ⟨g2, 0, none⟩) ((List.replicate (n.cnt).toNat (0 : Int)).length) ((List.replicate (n.cnt).toNat (0 : Int)).length)) zs.length (zs.map (Value.int .i64)), boxE b1 #[.int .i64 n.ins, n.sv, n.lv, n.ov] 37]) (fun k zs => [(0, .agg #[.int .i64 n.ins, n.sv, n.lv, n.ov]), (1, v), (2, .int .i64 inp), (3, .pointer (some ⟨b1, 0, none⟩)), (6, .slice none 0 0), (7, .slice (some ⟨g2, 0, none⟩) ((List.replicate (n.cnt).toNat (0 : Int)).length) ((List.replicate (n.cnt).toNat (0 : Int)).length)), (9, .int .i64 (k : Int)), (14, .bool false), (22, .bool false)]) (fun k zs => (k : Int) ≤ (st.length : Int) ∧ zs = fzT n.cnt.toNat (pb n st inp k)) (fun k zs => ((st.length : Int)).toNat - k) 0 zs ⟨by omega, by rw [hz, show k = n.ins.toNat by omega, pb_zero n st inp]⟩ (sx 0 rfl (sx 1 rfl (sx 2 rfl (sx 3 rfl (sx 6 rfl (sx 7 rfl (sx 9 rfl (sx 14 rfl (sx 22 rfl (sub_nil _)))))))))) ((.cons_cons _ (.cons_cons _ .slnil))) ?_
  intro k zs hi5
  obtain ⟨hk, hz⟩ := hi5
  have hzl : zs.length = n.cnt.toNat := by rw [hz]; exact fz_len (by rw [pb_len n st inp (by omega)]; omega)
  refine hc_seq ?_
  refine hc_seq ?_
  refine hc_region ?_
  refine hl_v rfl rfl rfl (rv_ev rfl) ?_
  refine hl_v rfl rfl rfl (rv_ev rfl) ?_
  refine hl_v rfl rfl rfl (rv_len rfl Try.underlying24 rfl (rd_old hst)) ?_
  refine hl_lss rfl rfl rfl rfl rfl rfl (fun h6 => ?_) (fun h6 => ?_)
  ·
   refine hl_less (sx 0 rfl (sx 1 rfl (sx 2 rfl (sx 3 rfl (sx 6 rfl (sx 7 rfl (sx 9 rfl (sx 14 rfl (sx 22 rfl (sx 36 rfl (sub_nil _))))))))))) (.refl _) ?_
   refine hl_nil ?_
   refine hq_then ?_
   refine hc_true rfl ?_
   refine hc_skip ?_
   refine hq_then ?_
   refine hc_seq ?_
   refine hc_block ?_
   refine hc_draw (by kernel_rfl) 12 [0, 1, 2, 3, 4, 5, 6, 7, 8, 9, 10, 11] (List.take 12 _) (List.drop 12 _) [[], [], [1], [2], [], [3, 4], [], [], [6, 7], [8], [9], [0, 5]] [39, 40, 41, 42, 43, 44, 45, 46, 47, 48, 49, 50] (fun i_ vs_ v_ p_ => match i_ with | 0 => v_ = .slice (some ⟨g2, 0, none⟩) ((List.replicate (n.cnt).toNat (0 : Int)).length) ((List.replicate (n.cnt).toNat (0 : Int)).length) ∧ p_ = [] | 1 => v_ = .pointer (some ⟨b1, 0 + 0, none⟩) ∧ p_ = [] | 2 => v_ = .int .i64 n.ins ∧ p_ = [] | 3 => v_ = .int .i64 (1 + n.ins) ∧ p_ = [] | 4 => v_ = .int .i64 (k : Int) ∧ p_ = [] | 5 => v_ = .int .i64 ((1 + n.ins) + (k : Int)) ∧ p_ = [] | 6 => v_ = v ∧ p_ = [] | 7 => v_ = .int .i64 (k : Int) ∧ p_ = [] | 8 => v_ = elP v (((k : Int)).toNat * 1) ∧ p_ = [] | 9 => v_ = .int .i64 (st.getD k 0) ∧ p_ = [] | 10 => v_ = .int .i64 ((st.getD k 0) % 2) ∧ p_ = [] | 11 => v_ = elP (.slice (some ⟨g2, 0, none⟩) ((List.replicate (n.cnt).toNat (0 : Int)).length) ((List.replicate (n.cnt).toNat (0 : Int)).length)) (((1 + n.ins) + (k : Int)).toNat * 1) ∧ p_ = [] | _ => True) (List.take_append_drop 12 _).symm (by kernel_rfl) (by kernel_rfl) rfl rfl ?_ ?_
   ·
    refine ⟨?_, ?_, ?_, ?_, ?_, ?_, ?_, ?_, ?_, ?_, ?_, ?_, trivial⟩
    ·
     intro vf pf hR
     refine Or.inl ⟨rfl, ?_⟩
     refine rq_less (sx 7 rfl (sub_nil _)) (List.sublist_append_right _ _) ?_
     exact rq_v (rv_ev rfl)
    ·
     intro vf pf hR
     refine Or.inl ⟨rfl, ?_⟩
     refine rq_less (sx 3 rfl (sub_nil _)) (List.sublist_append_right _ _) ?_
     exact rq_v (rv_field (k0 := 0) rfl (by kernel_rfl) rfl)
    ·
     intro vf pf hR
     have e1 : (vf 1) = .pointer (some ⟨b1, 0 + 0, none⟩) ∧ (pf 1) = [] := hR 1 (by decide)
     refine Or.inl ⟨rfl, ?_⟩
     refine rq_less (sx 40 (congrArg some e1.1) (sub_nil _)) (List.sublist_append_right _ _) ?_
     exact rq_v (rv_load rfl (by kernel_rfl) rfl (box_cell 1 rfl rfl))
    ·
     intro vf pf hR
     have e2 : (vf 2) = .int .i64 n.ins ∧ (pf 2) = [] := hR 2 (by decide)
     refine Or.inl ⟨rfl, ?_⟩
     refine rq_less (sx 41 (congrArg some e2.1) (sub_nil _)) (List.sublist_append_right _ _) ?_
     exact rq_v (rv_add rfl rfl rfl (by constructor <;> omega))
    ·
     intro vf pf hR
     refine Or.inl ⟨rfl, ?_⟩
     refine rq_less (sx 9 rfl (sub_nil _)) (List.sublist_append_right _ _) ?_
     exact rq_v (rv_ev rfl)
    ·
     intro vf pf hR
     have e3 : (vf 3) = .int .i64 (1 + n.ins) ∧ (pf 3) = [] := hR 3 (by decide)
     have e4 : (vf 4) = .int .i64 (k : Int) ∧ (pf 4) = [] := hR 4 (by decide)
     refine Or.inl ⟨rfl, ?_⟩
     refine rq_less (sx 42 (congrArg some e3.1) (sx 43 (congrArg some e4.1) (sub_nil _))) (List.sublist_append_right _ _) ?_
     exact rq_v (rv_add rfl rfl rfl (by constructor <;> omega))
    ·
     intro vf pf hR
     refine Or.inl ⟨rfl, ?_⟩
     refine rq_less (sx 1 rfl (sub_nil _)) (List.sublist_append_right _ _) ?_
     exact rq_v (rv_ev rfl)
    ·
     intro vf pf hR
     refine Or.inl ⟨rfl, ?_⟩
     refine rq_less (sx 9 rfl (sub_nil _)) (List.sublist_append_right _ _) ?_
     exact rq_v (rv_ev rfl)
    ·
     intro vf pf hR
     have e6 : (vf 6) = v ∧ (pf 6) = [] := hR 6 (by decide)
     have e7 : (vf 7) = .int .i64 (k : Int) ∧ (pf 7) = [] := hR 7 (by decide)
     refine Or.inl ⟨rfl, ?_⟩
     refine rq_less (sx 45 (congrArg some e6.1) (sx 46 (congrArg some e7.1) (sub_nil _))) (List.sublist_append_right _ _) ?_
     exact rq_v (rv_index (s := 1) rfl Try.underlying24 (by kernel_rfl) rfl rfl (rd_old hst) (by omega) (by first | omega | (simp only [List.length_set]; omega)))
    ·
     intro vf pf hR
     have e8 : (vf 8) = elP v (((k : Int)).toNat * 1) ∧ (pf 8) = [] := hR 8 (by decide)
     refine Or.inl ⟨rfl, ?_⟩
     refine rq_less (sx 47 (congrArg some e8.1) (sub_nil _)) (List.sublist_append_right _ _) ?_
     exact rq_v (rv_loadEl (u := .int .i64 (st.getD k 0)) rfl (by kernel_rfl) rfl (rd_old hst) (ints_at1 (show _ < st.length by first | omega | (simp only [List.length_set]; omega))))
    ·
     intro vf pf hR
     have e9 : (vf 9) = .int .i64 (st.getD k 0) ∧ (pf 9) = [] := hR 9 (by decide)
     refine Or.inl ⟨rfl, ?_⟩
     refine rq_less (sx 48 (congrArg some e9.1) (sub_nil _)) (List.sublist_append_right _ _) ?_
     exact rq_v (rv_bits rfl (by decide) rfl rfl (r := (st.getD k 0) % 2) (andOne _))
    ·
     intro vf pf hR
     have e0 : (vf 0) = .slice (some ⟨g2, 0, none⟩) ((List.replicate (n.cnt).toNat (0 : Int)).length) ((List.replicate (n.cnt).toNat (0 : Int)).length) ∧ (pf 0) = [] := hR 0 (by decide)
     have e5 : (vf 5) = .int .i64 ((1 + n.ins) + (k : Int)) ∧ (pf 5) = [] := hR 5 (by decide)
     refine Or.inl ⟨rfl, ?_⟩
     refine rq_less (sx 39 (congrArg some e0.1) (sx 44 (congrArg some e5.1) (sub_nil _))) (List.sublist_append_right _ _) ?_
     exact rq_v (rv_index (s := 1) rfl Try.underlying24 (by kernel_rfl) rfl rfl (rd_row 0 rfl) (by omega) (by first | omega | (simp only [List.length_set]; omega)))
   ·
    intro vf pf hR
    have e10 : (vf 10) = .int .i64 ((st.getD k 0) % 2) ∧ (pf 10) = [] := hR 10 (by decide)
    have e11 : (vf 11) = elP (.slice (some ⟨g2, 0, none⟩) ((List.replicate (n.cnt).toNat (0 : Int)).length) ((List.replicate (n.cnt).toNat (0 : Int)).length)) (((1 + n.ins) + (k : Int)).toNat * 1) ∧ (pf 11) = [] := hR 11 (by decide)
    refine hl_less (l' := [rowE 3 1 (.slice (some ⟨g2, 0, none⟩) ((List.replicate (n.cnt).toNat (0 : Int)).length) ((List.replicate (n.cnt).toNat (0 : Int)).length)) zs.length (zs.map (Value.int .i64)), boxE b1 #[.int .i64 n.ins, n.sv, n.lv, n.ov] 37]) (sx 0 rfl (sx 1 rfl (sx 2 rfl (sx 3 rfl (sx 6 rfl (sx 7 rfl (sx 9 rfl (sx 14 rfl (sx 22 rfl (sx 36 rfl (sx 49 (congrArg some e10.1) (sx 50 (congrArg some e11.1) (sub_nil _))))))))))))) (List.sublist_append_right _ _) ?_
    simp only [List.drop_succ_cons, List.drop_zero]
    refine hl_storeEl (i := 0) (n' := (zs.set (((1 + n.ins) + (k : Int)).toNat) ((st.getD k 0) % 2)).length) (xs' := ((zs.set (((1 + n.ins) + (k : Int)).toNat) ((st.getD k 0) % 2)).map (Value.int .i64))) (l' := [rowE 3 1 (.slice (some ⟨g2, 0, none⟩) ((List.replicate (n.cnt).toNat (0 : Int)).length) ((List.replicate (n.cnt).toNat (0 : Int)).length)) ((zs.set (((1 + n.ins) + (k : Int)).toNat) ((st.getD k 0) % 2)).length) ((zs.set (((1 + n.ins) + (k : Int)).toNat) ((st.getD k 0) % 2)).map (Value.int .i64)), boxE b1 #[.int .i64 n.ins, n.sv, n.lv, n.ov] 37]) rfl rfl rfl (by kernel_rfl) rfl rfl rfl rfl (by first | omega | (simp only [List.length_set]; omega)) List.length_set.symm (ints_set _ _ _) rfl ?_
    refine hl_less (sx 0 rfl (sx 1 rfl (sx 2 rfl (sx 3 rfl (sx 6 rfl (sx 7 rfl (sx 9 rfl (sx 14 rfl (sx 22 rfl (sx 36 rfl (sub_nil _))))))))))) (.refl _) ?_
    refine hl_nil ?_
    refine hq_block_normal ?_
    refine hq_then ?_
    refine hc_region ?_
    refine hl_v rfl rfl rfl (rv_ev rfl) ?_
    refine hl_v rfl rfl rfl (rv_add rfl rfl rfl (by constructor <;> omega)) ?_
    refine hl_v rfl rfl rfl (rv_ev rfl) ?_
    refine hl_less (sx 0 rfl (sx 1 rfl (sx 2 rfl (sx 3 rfl (sx 6 rfl (sx 7 rfl (sx 9 rfl (sx 14 rfl (sx 22 rfl (sx 36 rfl (sub_nil _))))))))))) (.refl _) ?_
    refine hl_nil ?_
    exact hq_round2 (k + 1) (zs.set (((1 + n.ins) + (k : Int)).toNat) ((st.getD k 0) % 2)) ⟨by omega, by rw [hz]; exact (fz_set (by rw [pb_len n st inp (by omega)]; omega) (by rw [pb_len n st inp (by omega)]; omega)).trans (by rw [pb_step n st inp (by omega)])⟩ (by omega) (sx 0 rfl (sx 1 rfl (sx 2 rfl (sx 3 rfl (sx 6 rfl (sx 7 rfl (sx 9 rfl (sx 14 rfl (sx 22 rfl (sub_nil _)))))))))) ((.cons_cons _ (.cons_cons _ .slnil)))
  ·
   refine hl_less (sx 0 rfl (sx 1 rfl (sx 2 rfl (sx 3 rfl (sx 6 rfl (sx 7 rfl (sx 9 rfl (sx 14 rfl (sx 22 rfl (sx 36 rfl (sub_nil _))))))))))) (.refl _) ?_
   refine hl_nil ?_
   refine hq_then ?_
   refine hc_false rfl ?_
   refine hc_exit ?_
   refine hq_then_exit ?_
   refine hq_then_exit ?_
   refine hq_block_exit ?_
   refine hq_then ?_
   refine hc_seq ?_
   refine hc_seq ?_
   refine hc_region ?_
   refine hl_v rfl rfl rfl (rv_ev rfl) ?_
   refine hl_less (sx 0 rfl (sx 1 rfl (sx 2 rfl (sx 3 rfl (sx 6 rfl (sx 7 rfl (sx 9 rfl (sx 10 rfl (sx 14 rfl (sx 22 rfl (sx 36 rfl (sub_nil _)))))))))))) (.refl _) ?_
   refine hl_nil ?_
   refine hq_then ?_
   refine hc_block ?_
   refine hc_loop2 (α := Nat) (β := List Int) (fun k zs => [rowE 3 1 (.slice (some ⟨g2, 0, none⟩) ((List.replicate (n.cnt).toNat (0 : Int)).length) ((List.replicate (n.cnt).toNat (0 : Int)).length)) zs.length (zs.map (Value.int .i64)), boxE b1 #[.int .i64 n.ins, n.sv, n.lv, n.ov] 37]) (fun k zs => [(0, .agg #[.int .i64 n.ins, n.sv, n.lv, n.ov]), (1, v), (2, .int .i64 inp), (3, .pointer (some ⟨b1, 0, none⟩)), (6, .slice none 0 0), (7, .slice (some ⟨g2, 0, none⟩) ((List.replicate (n.cnt).toNat (0 : Int)).length) ((List.replicate (n.cnt).toNat (0 : Int)).length)), (10, .int .i64 (k : Int)), (14, .bool false), (22, .bool false), (36, .bool false)]) (fun k zs => (k : Int) ≤ (n.ls.length : Int) ∧ zs = fzT n.cnt.toNat (vlL n st inp k)) (fun k zs => ((n.ls.length : Int)).toNat - k) 0 zs ⟨by omega, by rw [hz, show k = st.length by omega]; rfl⟩ (sx 0 rfl (sx 1 rfl (sx 2 rfl (sx 3 rfl (sx 6 rfl (sx 7 rfl (sx 10 rfl (sx 14 rfl (sx 22 rfl (sx 36 rfl (sub_nil _))))))))))) ((.cons_cons _ (.cons_cons _ .slnil))) ?_
   intro k zs hi7
   obtain ⟨hk, hz⟩ := hi7
   have hzl : zs.length = n.cnt.toNat := by rw [hz]; exact fz_len (by rw [vl_len n st inp k]; omega)
   refine hc_seq ?_
   refine hc_seq ?_
   refine hc_region ?_
   refine hl_v rfl rfl rfl (rv_ev rfl) ?_
   refine hl_v rfl rfl rfl (rv_field (k0 := 2) rfl (by kernel_rfl) rfl) ?_
   refine hl_v rfl rfl rfl (rv_load rfl (by kernel_rfl) rfl (box_cell 1 rfl rfl)) ?_
   refine hl_v rfl rfl rfl (rv_len rfl Try.underlying35 rfl (rd_old ((hr).lt.row))) ?_
   refine hl_lss rfl rfl rfl rfl rfl rfl (fun h8 => ?_) (fun h8 => ?_)
   ·
    refine hl_less (sx 0 rfl (sx 1 rfl (sx 2 rfl (sx 3 rfl (sx 6 rfl (sx 7 rfl (sx 10 rfl (sx 14 rfl (sx 22 rfl (sx 36 rfl (sx 55 rfl (sub_nil _)))))))))))) (.refl _) ?_
    refine hl_nil ?_
    refine hq_then ?_
    refine hc_true rfl ?_
    refine hc_skip ?_
    refine hq_then ?_
    refine hc_seq ?_
    refine hc_block ?_
    have hvl := vl_len n st inp k
    have hltk := hok.lt k (by omega)
    have hx4 : (n.ls.getD k lt0).xs.length ≤ 4 := hltk.1.1
    have hxr : ∀ q, q < (n.ls.getD k lt0).xs.length → 0 ≤ (n.ls.getD k lt0).xs.getD q 0 ∧ (n.ls.getD k lt0).xs.getD q 0 < zs.length := fun q hq => by have := hltk.1.2 q hq; omega
    have hat : ∀ q, q < (n.ls.getD k lt0).xs.length → atV zs (n.ls.getD k lt0).xs q = atV (vlL n st inp k) (n.ls.getD k lt0).xs q := fun q hq => by have := hltk.1.2 q hq; show zs.getD _ 0 = _; rw [hz]; exact fz_get (by omega)
    have hx01 : ∀ q, q < (n.ls.getD k lt0).xs.length → atV zs (n.ls.getD k lt0).xs q = 0 ∨ atV zs (n.ls.getD k lt0).xs q = 1 := fun q hq => by rw [hat q hq]; have := hltk.1.2 q hq; exact vl01 n st inp k _ (by omega)
    have hpk := pk16 (b := atV zs (n.ls.getD k lt0).xs) (k := (n.ls.getD k lt0).xs.length) hx01 hx4
    have hpe : pk (atV zs (n.ls.getD k lt0).xs) (n.ls.getD k lt0).xs.length = pk (atV (vlL n st inp k) (n.ls.getD k lt0).xs) (n.ls.getD k lt0).xs.length := pk_ext _ hat
    refine hc_draw (by kernel_rfl) 22 [0, 1, 2, 3, 4, 5, 6, 7, 8, 9, 10, 11, 12, 13, 14, 15, 16, 17, 18, 19, 20, 21] (List.take 22 _) (List.drop 22 _) [[], [], [1], [], [2, 3], [], [5], [], [6, 7], [8], [9], [], [], [12], [], [13, 14], [15], [16], [11, 17], [10, 18], [19], [0, 4]] [58, 59, 60, 61, 62, 63, 64, 65, 66, 67, 68, 69, 70, 71, 72, 73, 74, 75, 76, 77, 78, 79] (fun i_ vs_ v_ p_ => match i_ with | 0 => v_ = .slice (some ⟨g2, 0, none⟩) ((List.replicate (n.cnt).toNat (0 : Int)).length) ((List.replicate (n.cnt).toNat (0 : Int)).length) ∧ p_ = [] | 1 => v_ = .agg #[.int .i64 n.ins, n.sv, n.lv, n.ov] ∧ p_ = [] | 2 => v_ = .int .i64 n.fst ∧ p_ = [] | 3 => v_ = .int .i64 (k : Int) ∧ p_ = [] | 4 => v_ = .int .i64 (n.fst + (k : Int)) ∧ p_ = [] | 5 => v_ = .pointer (some ⟨b1, 0 + 2, none⟩) ∧ p_ = [] | 6 => v_ = n.lv ∧ p_ = [] | 7 => v_ = .int .i64 (k : Int) ∧ p_ = [] | 8 => v_ = elP n.lv (((k : Int)).toNat * 2) ∧ p_ = [] | 9 => v_ = elP n.lv (((k : Int)).toNat * 2 + 1) ∧ p_ = [] | 10 => v_ = .int .i64 ((n.ls.getD k lt0).ma) ∧ p_ = [] | 11 => v_ = .slice (some ⟨g2, 0, none⟩) ((List.replicate (n.cnt).toNat (0 : Int)).length) ((List.replicate (n.cnt).toNat (0 : Int)).length) ∧ p_ = [] | 12 => v_ = .pointer (some ⟨b1, 0 + 2, none⟩) ∧ p_ = [] | 13 => v_ = n.lv ∧ p_ = [] | 14 => v_ = .int .i64 (k : Int) ∧ p_ = [] | 15 => v_ = elP n.lv (((k : Int)).toNat * 2) ∧ p_ = [] | 16 => v_ = elP n.lv (((k : Int)).toNat * 2 + 0) ∧ p_ = [] | 17 => v_ = (n.ls.getD k lt0).iv ∧ p_ = [] | 18 => v_ = .int .i64 (pk (atV zs ((n.ls.getD k lt0).xs)) ((n.ls.getD k lt0).xs).length) ∧ p_ = [] | 19 => v_ = .int .i64 (((n.ls.getD k lt0).ma) / 2 ^ (pk (atV zs ((n.ls.getD k lt0).xs)) ((n.ls.getD k lt0).xs).length : Int).toNat) ∧ p_ = [] | 20 => v_ = .int .i64 ((((n.ls.getD k lt0).ma) / 2 ^ (pk (atV zs ((n.ls.getD k lt0).xs)) ((n.ls.getD k lt0).xs).length : Int).toNat) % 2) ∧ p_ = [] | 21 => v_ = elP (.slice (some ⟨g2, 0, none⟩) ((List.replicate (n.cnt).toNat (0 : Int)).length) ((List.replicate (n.cnt).toNat (0 : Int)).length)) ((n.fst + (k : Int)).toNat * 1) ∧ p_ = [] | _ => True) (List.take_append_drop 22 _).symm (by kernel_rfl) (by kernel_rfl) rfl rfl ?_ ?_
    ·
     refine ⟨?_, ?_, ?_, ?_, ?_, ?_, ?_, ?_, ?_, ?_, ?_, ?_, ?_, ?_, ?_, ?_, ?_, ?_, ?_, ?_, ?_, ?_, trivial⟩
     ·
      intro vf pf hR
      refine Or.inl ⟨rfl, ?_⟩
      refine rq_less (sx 7 rfl (sub_nil _)) (List.sublist_append_right _ _) ?_
      exact rq_v (rv_ev rfl)
     ·
      intro vf pf hR
      refine Or.inl ⟨rfl, ?_⟩
      refine rq_less (sx 3 rfl (sub_nil _)) (List.sublist_append_right _ _) ?_
      exact rq_v (rv_loadN (cs := [.int .i64 n.ins, n.sv, n.lv, n.ov]) rfl (by kernel_rfl) (by kernel_rfl) rfl rfl (box_part 1 rfl 0 rfl))
     ·
      intro vf pf hR
      have e1 : (vf 1) = .agg #[.int .i64 n.ins, n.sv, n.lv, n.ov] ∧ (pf 1) = [] := hR 1 (by decide)
      refine Or.inl ⟨rfl, ?_⟩
      refine rq_less (sx 59 (congrArg some e1.1) (sub_nil _)) (List.sublist_append_right _ _) ?_
      exact (rq_call (by kernel_rfl) rfl (fun w hm => ret_ans (l20First_ans n w (hr.below hm.bel) hok.sz)))
     ·
      intro vf pf hR
      refine Or.inl ⟨rfl, ?_⟩
      refine rq_less (sx 10 rfl (sub_nil _)) (List.sublist_append_right _ _) ?_
      exact rq_v (rv_ev rfl)
     ·
      intro vf pf hR
      have e2 : (vf 2) = .int .i64 n.fst ∧ (pf 2) = [] := hR 2 (by decide)
      have e3 : (vf 3) = .int .i64 (k : Int) ∧ (pf 3) = [] := hR 3 (by decide)
      refine Or.inl ⟨rfl, ?_⟩
      refine rq_less (sx 60 (congrArg some e2.1) (sx 61 (congrArg some e3.1) (sub_nil _))) (List.sublist_append_right _ _) ?_
      exact rq_v (rv_add rfl rfl rfl (by constructor <;> omega))
     ·
      intro vf pf hR
      refine Or.inl ⟨rfl, ?_⟩
      refine rq_less (sx 3 rfl (sub_nil _)) (List.sublist_append_right _ _) ?_
      exact rq_v (rv_field (k0 := 2) rfl (by kernel_rfl) rfl)
     ·
      intro vf pf hR
      have e5 : (vf 5) = .pointer (some ⟨b1, 0 + 2, none⟩) ∧ (pf 5) = [] := hR 5 (by decide)
      refine Or.inl ⟨rfl, ?_⟩
      refine rq_less (sx 63 (congrArg some e5.1) (sub_nil _)) (List.sublist_append_right _ _) ?_
      exact rq_v (rv_load rfl (by kernel_rfl) rfl (box_cell 1 rfl rfl))
     ·
      intro vf pf hR
      refine Or.inl ⟨rfl, ?_⟩
      refine rq_less (sx 10 rfl (sub_nil _)) (List.sublist_append_right _ _) ?_
      exact rq_v (rv_ev rfl)
     ·
      intro vf pf hR
      have e6 : (vf 6) = n.lv ∧ (pf 6) = [] := hR 6 (by decide)
      have e7 : (vf 7) = .int .i64 (k : Int) ∧ (pf 7) = [] := hR 7 (by decide)
      refine Or.inl ⟨rfl, ?_⟩
      refine rq_less (sx 64 (congrArg some e6.1) (sx 65 (congrArg some e7.1) (sub_nil _))) (List.sublist_append_right _ _) ?_
      exact rq_v (rv_index (s := 2) rfl Try.underlying35 (by kernel_rfl) rfl rfl (rd_old ((hr).lt.row)) (by omega) (by first | omega | (simp only [List.length_set]; omega)))
     ·
      intro vf pf hR
      have e8 : (vf 8) = elP n.lv (((k : Int)).toNat * 2) ∧ (pf 8) = [] := hR 8 (by decide)
      refine Or.inl ⟨rfl, ?_⟩
      refine rq_less (sx 66 (congrArg some e8.1) (sub_nil _)) (List.sublist_append_right _ _) ?_
      exact rq_v (rv_fieldEl (k0 := 1) rfl (by kernel_rfl) rfl (rd_old ((hr).lt.row)) (by first | omega | (simp only [List.length_set]; omega)))
     ·
      intro vf pf hR
      have e9 : (vf 9) = elP n.lv (((k : Int)).toNat * 2 + 1) ∧ (pf 9) = [] := hR 9 (by decide)
      refine Or.inl ⟨rfl, ?_⟩
      refine rq_less (sx 67 (congrArg some e9.1) (sub_nil _)) (List.sublist_append_right _ _) ?_
      exact rq_v (rv_loadEl (u := .int .i64 ((n.ls.getD k lt0).ma)) rfl (by kernel_rfl) rfl (rd_old ((hr).lt.row)) ((flat_at ltC 2 (fun _ => rfl) n.ls lt0 (show k < _ by first | omega | (simp only [List.length_set]; omega)) (by decide)).trans rfl))
     ·
      intro vf pf hR
      refine Or.inl ⟨rfl, ?_⟩
      refine rq_less (sx 7 rfl (sub_nil _)) (List.sublist_append_right _ _) ?_
      exact rq_v (rv_ev rfl)
     ·
      intro vf pf hR
      refine Or.inl ⟨rfl, ?_⟩
      refine rq_less (sx 3 rfl (sub_nil _)) (List.sublist_append_right _ _) ?_
      exact rq_v (rv_field (k0 := 2) rfl (by kernel_rfl) rfl)
     ·
      intro vf pf hR
      have e12 : (vf 12) = .pointer (some ⟨b1, 0 + 2, none⟩) ∧ (pf 12) = [] := hR 12 (by decide)
      refine Or.inl ⟨rfl, ?_⟩
      refine rq_less (sx 70 (congrArg some e12.1) (sub_nil _)) (List.sublist_append_right _ _) ?_
      exact rq_v (rv_load rfl (by kernel_rfl) rfl (box_cell 1 rfl rfl))
     ·
      intro vf pf hR
      refine Or.inl ⟨rfl, ?_⟩
      refine rq_less (sx 10 rfl (sub_nil _)) (List.sublist_append_right _ _) ?_
      exact rq_v (rv_ev rfl)
     ·
      intro vf pf hR
      have e13 : (vf 13) = n.lv ∧ (pf 13) = [] := hR 13 (by decide)
      have e14 : (vf 14) = .int .i64 (k : Int) ∧ (pf 14) = [] := hR 14 (by decide)
      refine Or.inl ⟨rfl, ?_⟩
      refine rq_less (sx 71 (congrArg some e13.1) (sx 72 (congrArg some e14.1) (sub_nil _))) (List.sublist_append_right _ _) ?_
      exact rq_v (rv_index (s := 2) rfl Try.underlying35 (by kernel_rfl) rfl rfl (rd_old ((hr).lt.row)) (by omega) (by first | omega | (simp only [List.length_set]; omega)))
     ·
      intro vf pf hR
      have e15 : (vf 15) = elP n.lv (((k : Int)).toNat * 2) ∧ (pf 15) = [] := hR 15 (by decide)
      refine Or.inl ⟨rfl, ?_⟩
      refine rq_less (sx 73 (congrArg some e15.1) (sub_nil _)) (List.sublist_append_right _ _) ?_
      exact rq_v (rv_fieldEl (k0 := 0) rfl (by kernel_rfl) rfl (rd_old ((hr).lt.row)) (by first | omega | (simp only [List.length_set]; omega)))
     ·
      intro vf pf hR
      have e16 : (vf 16) = elP n.lv (((k : Int)).toNat * 2 + 0) ∧ (pf 16) = [] := hR 16 (by decide)
      refine Or.inl ⟨rfl, ?_⟩
      refine rq_less (sx 74 (congrArg some e16.1) (sub_nil _)) (List.sublist_append_right _ _) ?_
      exact rq_v (rv_loadEl (u := (n.ls.getD k lt0).iv) rfl (by kernel_rfl) rfl (rd_old ((hr).lt.row)) ((flat_at ltC 2 (fun _ => rfl) n.ls lt0 (show k < _ by first | omega | (simp only [List.length_set]; omega)) (by decide)).trans rfl))
     ·
      intro vf pf hR
      have e11 : (vf 11) = .slice (some ⟨g2, 0, none⟩) ((List.replicate (n.cnt).toNat (0 : Int)).length) ((List.replicate (n.cnt).toNat (0 : Int)).length) ∧ (pf 11) = [] := hR 11 (by decide)
      have e17 : (vf 17) = (n.ls.getD k lt0).iv ∧ (pf 17) = [] := hR 17 (by decide)
      refine Or.inl ⟨rfl, ?_⟩
      refine rq_less (sx 69 (congrArg some e11.1) (sx 75 (congrArg some e17.1) (sub_nil _))) (List.sublist_append_right _ _) ?_
      exact (rq_call (by kernel_rfl) rfl (fun w hm => ret_ans (l20Pack_ans zs ((n.ls.getD k lt0).xs) _ _ w ((rd_row 0 rfl) w hm) ((rd_old ((hr).lt.at (d := lt0) (k := k) (by omega))) w hm) hx4 hxr hx01)))
     ·
      intro vf pf hR
      have e10 : (vf 10) = .int .i64 ((n.ls.getD k lt0).ma) ∧ (pf 10) = [] := hR 10 (by decide)
      have e18 : (vf 18) = .int .i64 (pk (atV zs ((n.ls.getD k lt0).xs)) ((n.ls.getD k lt0).xs).length) ∧ (pf 18) = [] := hR 18 (by decide)
      refine Or.inl ⟨rfl, ?_⟩
      refine rq_less (sx 68 (congrArg some e10.1) (sx 76 (congrArg some e18.1) (sub_nil _))) (List.sublist_append_right _ _) ?_
      exact rq_v (rv_shr rfl rfl rfl (by omega))
     ·
      intro vf pf hR
      have e19 : (vf 19) = .int .i64 (((n.ls.getD k lt0).ma) / 2 ^ (pk (atV zs ((n.ls.getD k lt0).xs)) ((n.ls.getD k lt0).xs).length : Int).toNat) ∧ (pf 19) = [] := hR 19 (by decide)
      refine Or.inl ⟨rfl, ?_⟩
      refine rq_less (sx 77 (congrArg some e19.1) (sub_nil _)) (List.sublist_append_right _ _) ?_
      exact rq_v (rv_bits rfl (by decide) rfl rfl (r := (((n.ls.getD k lt0).ma) / 2 ^ (pk (atV zs ((n.ls.getD k lt0).xs)) ((n.ls.getD k lt0).xs).length : Int).toNat) % 2) (andOne _))
     ·
      intro vf pf hR
      have e0 : (vf 0) = .slice (some ⟨g2, 0, none⟩) ((List.replicate (n.cnt).toNat (0 : Int)).length) ((List.replicate (n.cnt).toNat (0 : Int)).length) ∧ (pf 0) = [] := hR 0 (by decide)
      have e4 : (vf 4) = .int .i64 (n.fst + (k : Int)) ∧ (pf 4) = [] := hR 4 (by decide)
      refine Or.inl ⟨rfl, ?_⟩
      refine rq_less (sx 58 (congrArg some e0.1) (sx 62 (congrArg some e4.1) (sub_nil _))) (List.sublist_append_right _ _) ?_
      exact rq_v (rv_index (s := 1) rfl Try.underlying24 (by kernel_rfl) rfl rfl (rd_row 0 rfl) (by omega) (by first | omega | (simp only [List.length_set]; omega)))
    ·
     intro vf pf hR
     have e20 : (vf 20) = .int .i64 ((((n.ls.getD k lt0).ma) / 2 ^ (pk (atV zs ((n.ls.getD k lt0).xs)) ((n.ls.getD k lt0).xs).length : Int).toNat) % 2) ∧ (pf 20) = [] := hR 20 (by decide)
     have e21 : (vf 21) = elP (.slice (some ⟨g2, 0, none⟩) ((List.replicate (n.cnt).toNat (0 : Int)).length) ((List.replicate (n.cnt).toNat (0 : Int)).length)) ((n.fst + (k : Int)).toNat * 1) ∧ (pf 21) = [] := hR 21 (by decide)
     refine hl_less (l' := [rowE 3 1 (.slice (some ⟨g2, 0, none⟩) ((List.replicate (n.cnt).toNat (0 : Int)).length) ((List.replicate (n.cnt).toNat (0 : Int)).length)) zs.length (zs.map (Value.int .i64)), boxE b1 #[.int .i64 n.ins, n.sv, n.lv, n.ov] 37]) (sx 0 rfl (sx 1 rfl (sx 2 rfl (sx 3 rfl (sx 6 rfl (sx 7 rfl (sx 10 rfl (sx 14 rfl (sx 22 rfl (sx 36 rfl (sx 55 rfl (sx 78 (congrArg some e20.1) (sx 79 (congrArg some e21.1) (sub_nil _)))))))))))))) (List.sublist_append_right _ _) ?_
     simp only [List.drop_succ_cons, List.drop_zero]
     refine hl_storeEl (i := 0) (n' := (zs.set ((n.fst + (k : Int)).toNat) ((((n.ls.getD k lt0).ma) / 2 ^ (pk (atV zs ((n.ls.getD k lt0).xs)) ((n.ls.getD k lt0).xs).length : Int).toNat) % 2)).length) (xs' := ((zs.set ((n.fst + (k : Int)).toNat) ((((n.ls.getD k lt0).ma) / 2 ^ (pk (atV zs ((n.ls.getD k lt0).xs)) ((n.ls.getD k lt0).xs).length : Int).toNat) % 2)).map (Value.int .i64))) (l' := [rowE 3 1 (.slice (some ⟨g2, 0, none⟩) ((List.replicate (n.cnt).toNat (0 : Int)).length) ((List.replicate (n.cnt).toNat (0 : Int)).length)) ((zs.set ((n.fst + (k : Int)).toNat) ((((n.ls.getD k lt0).ma) / 2 ^ (pk (atV zs ((n.ls.getD k lt0).xs)) ((n.ls.getD k lt0).xs).length : Int).toNat) % 2)).length) ((zs.set ((n.fst + (k : Int)).toNat) ((((n.ls.getD k lt0).ma) / 2 ^ (pk (atV zs ((n.ls.getD k lt0).xs)) ((n.ls.getD k lt0).xs).length : Int).toNat) % 2)).map (Value.int .i64)), boxE b1 #[.int .i64 n.ins, n.sv, n.lv, n.ov] 37]) rfl rfl rfl (by kernel_rfl) rfl rfl rfl rfl (by first | omega | (simp only [List.length_set]; omega)) List.length_set.symm (ints_set _ _ _) rfl ?_
     refine hl_less (sx 0 rfl (sx 1 rfl (sx 2 rfl (sx 3 rfl (sx 6 rfl (sx 7 rfl (sx 10 rfl (sx 14 rfl (sx 22 rfl (sx 36 rfl (sx 55 rfl (sub_nil _)))))))))))) (.refl _) ?_
     refine hl_nil ?_
     refine hq_block_normal ?_
     refine hq_then ?_
     refine hc_region ?_
     refine hl_v rfl rfl rfl (rv_ev rfl) ?_
     refine hl_v rfl rfl rfl (rv_add rfl rfl rfl (by constructor <;> omega)) ?_
     refine hl_v rfl rfl rfl (rv_ev rfl) ?_
     refine hl_less (sx 0 rfl (sx 1 rfl (sx 2 rfl (sx 3 rfl (sx 6 rfl (sx 7 rfl (sx 10 rfl (sx 14 rfl (sx 22 rfl (sx 36 rfl (sx 55 rfl (sub_nil _)))))))))))) (.refl _) ?_
     refine hl_nil ?_
     exact hq_round2 (k + 1) (zs.set ((n.fst + (k : Int)).toNat) ((((n.ls.getD k lt0).ma) / 2 ^ (pk (atV zs ((n.ls.getD k lt0).xs)) ((n.ls.getD k lt0).xs).length : Int).toNat) % 2)) ⟨by omega, by rw [hz]; exact (fz_set (by rw [vl_len n st inp k]; omega) (by rw [vl_len n st inp k]; omega)).trans (congrArg (fun q => fzT n.cnt.toNat (vlL n st inp k ++ [q])) (show _ / 2 ^ (pk (atV (fzT n.cnt.toNat (vlL n st inp k)) (n.ls.getD k lt0).xs) _).toNat % 2 = lutV _ _ by rw [← hz, hpe]; rfl))⟩ (by omega) (sx 0 rfl (sx 1 rfl (sx 2 rfl (sx 3 rfl (sx 6 rfl (sx 7 rfl (sx 10 rfl (sx 14 rfl (sx 22 rfl (sx 36 rfl (sub_nil _))))))))))) ((.cons_cons _ (.cons_cons _ .slnil)))
   ·
    refine hl_less (sx 0 rfl (sx 1 rfl (sx 2 rfl (sx 3 rfl (sx 6 rfl (sx 7 rfl (sx 10 rfl (sx 14 rfl (sx 22 rfl (sx 36 rfl (sx 55 rfl (sub_nil _)))))))))))) (.refl _) ?_
    refine hl_nil ?_
    refine hq_then ?_
    refine hc_false rfl ?_
    refine hc_exit ?_
    refine hq_then_exit ?_
    refine hq_then_exit ?_
    refine hq_block_exit ?_
    refine hq_then ?_
    refine hc_seq ?_
    refine hc_region ?_
    refine hl_v rfl rfl rfl (rv_ev rfl) ?_
    refine hl_v rfl rfl rfl (rv_ev rfl) ?_
    refine hl_less (sx 0 rfl (sx 1 rfl (sx 2 rfl (sx 3 rfl (sx 6 rfl (sx 7 rfl (sx 10 rfl (sx 14 rfl (sx 22 rfl (sx 36 rfl (sx 55 rfl (sub_nil _)))))))))))) (.refl _) ?_
    refine hl_nil ?_
    refine hq_then ?_
    refine hc_ret ?_
    exact hq_retR (post := [rowE 3 1 (.slice (some ⟨g2, 0, none⟩) ((List.replicate (n.cnt).toNat (0 : Int)).length) ((List.replicate (n.cnt).toNat (0 : Int)).length)) zs.length (zs.map (Value.int .i64))]) rfl rfl ((.cons_cons _ (.cons _ .slnil))) (by rw [hz, show k = n.ls.length by omega, fz_all (by rw [vl_len n st inp]; omega)])
abbrev ovX (x : Td) : List Int := valT x.n x.ao x.oi
abbrev nvX (x : Td) : List Int := valT x.n x.bs x.ni
def atW (o : Int) (wv : List Int) (t : Int) : Int := if t < 0 then o else wv.getD t.toNat 0
/-- the input j of table i at a time -/
def lin (x : Td) (ws : List (List Int)) (i : Nat) (t : Int) (j : Nat) : Int :=
  atW ((ovX x).getD ((x.n.ls.getD i lt0).xs.getD j 0).toNat 0) (ws.getD ((x.n.ls.getD i lt0).xs.getD j 0).toNat []) (t - (x.dl.getD i ir0).xs.getD j 0)
def wvV (x : Td) (ws : List (List Int)) (k : Nat) (t : Int) : Int :=
  if (k : Int) < x.n.fst then (if 0 ≤ (k : Int) - 1 - x.n.ins ∧ t < x.ks.getD ((k : Int) - 1 - x.n.ins).toNat 0 then (ovX x).getD k 0 else (nvX x).getD k 0)
  else lutV (x.n.ls.getD ((k : Int) - x.n.fst).toNat lt0) (lin x ws ((k : Int) - x.n.fst).toNat t)
def rowW (x : Td) (ws : List (List Int)) (k h : Nat) : List Int := (List.range h).map (fun t : Nat => wvV x ws k (t : Int))
def wvsL (x : Td) (h : Nat) : Nat → List (List Int)
  | 0 => []
  | k + 1 => wvsL x h k ++ [rowW x (wvsL x h k) k (h + 1)]
theorem wvs_succ (x : Td) (h k : Nat) : wvsL x h (k + 1) = wvsL x h k ++ [rowW x (wvsL x h k) k (h + 1)] := rfl
theorem rowW_len (x : Td) (ws : List (List Int)) (k h : Nat) : (rowW x ws k h).length = h := by simp [rowW]
theorem rowW_succ (x : Td) (ws : List (List Int)) (k h : Nat) : rowW x ws k h ++ [wvV x ws k (h : Int)] = rowW x ws k (h + 1) := by unfold rowW; rw [List.range_succ, List.map_append]; rfl
theorem rowW_at (x : Td) (ws : List (List Int)) {k h t : Nat} (ht : t < h) : (rowW x ws k h).getD t 0 = wvV x ws k (t : Int) := by simp [rowW, ht]
theorem wvs_len (x : Td) (h : Nat) : ∀ k, (wvsL x h k).length = k
  | 0 => rfl
  | k + 1 => by unfold wvsL; rw [List.length_append, wvs_len x h k]; rfl
theorem wvs_at (x : Td) (h : Nat) : ∀ k q, q < k → (wvsL x h k).getD q [] = rowW x (wvsL x h q) q (h + 1)
  | 0, _, hq => absurd hq (by omega)
  | k + 1, q, hq => by
    rw [wvs_succ]
    by_cases e : q = k
    · subst e
      rw [getD_right (by rw [wvs_len]; omega), wvs_len, Nat.sub_self]; rfl
    · rw [getD_left (by rw [wvs_len]; omega)]; exact wvs_at x h k q (by omega)
theorem wvs_rl (x : Td) (h : Nat) {k q : Nat} (hq : q < k) : ((wvsL x h k).getD q []).length = h + 1 := by rw [wvs_at x h k q hq, rowW_len]
theorem wvs_val (x : Td) (h : Nat) {k q t : Nat} (hq : q < k) (ht : t ≤ h) : ((wvsL x h k).getD q []).getD t 0 = wvV x (wvsL x h q) q (t : Int) := by rw [wvs_at x h k q hq]; exact rowW_at x _ (by omega)
theorem vl_pre (n : Ln) (st : List Int) (inp : Int) {q : Nat} (hq : q < 1 + n.ins.toNat + st.length) : ∀ i, (vlL n st inp i).getD q 0 = (pb n st inp st.length).getD q 0
  | 0 => rfl
  | i + 1 => by unfold vlL; rw [getD_left (by rw [vl_len]; omega)]; exact vl_pre n st inp hq i
theorem val_zero (n : Ln) (st : List Int) (inp : Int) : (valT n st inp).getD 0 0 = 0 := by
  rw [vl_pre n st inp (by omega)]; unfold pb pa; rfl
theorem val_in (n : Ln) (st : List Int) (inp : Int) {k : Nat} (h0 : 1 ≤ k) (h1 : k ≤ n.ins.toNat) : (valT n st inp).getD k 0 = inp / 2 ^ (k - 1) % 2 := by
  rw [vl_pre n st inp (by omega)]; unfold pb
  rw [getD_left (by rw [pa_len]; omega)]; unfold pa
  rw [getD_right (by simp; omega)]
  simp only [List.length_singleton]
  have : ((List.range n.ins.toNat).map (fun k => inp / 2 ^ k % 2)).getD (k - 1) 0 = inp / 2 ^ (k - 1) % 2 := by simp [show k - 1 < n.ins.toNat by omega]
  exact this
theorem val_seq (n : Ln) (st : List Int) (inp : Int) {s : Nat} (h : s < st.length) : (valT n st inp).getD (1 + n.ins.toNat + s) 0 = st.getD s 0 % 2 := by
  rw [vl_pre n st inp (by omega)]; unfold pb
  rw [getD_right (by rw [pa_len]; omega), pa_len, List.take_length, show 1 + n.ins.toNat + s - (1 + n.ins.toNat) = s by omega]
  exact getD_mapv (· % 2) st s 0
theorem wv_zero (x : Td) (ws : List (List Int)) (t : Int) (hi : 0 ≤ x.n.ins) : wvV x ws 0 t = 0 := by
  have hf : x.n.fst = 1 + x.n.ins + x.n.ss.length := rfl
  unfold wvV; rw [if_pos (by omega), if_neg (by omega)]; exact val_zero _ _ _
theorem wv_in (x : Td) (ws : List (List Int)) (t : Int) {k : Nat} (h0 : 1 ≤ k) (h1 : (k : Int) ≤ x.n.ins) : wvV x ws k t = x.ni / 2 ^ ((k : Int) - 1).toNat % 2 := by
  have hf : x.n.fst = 1 + x.n.ins + x.n.ss.length := rfl
  unfold wvV; rw [if_pos (by omega), if_neg (by omega), show ((k : Int) - 1).toNat = k - 1 by omega]; exact val_in _ _ _ h0 (by omega)
theorem wv_old (x : Td) (ws : List (List Int)) (t : Int) {k : Nat} (hi : 0 ≤ x.n.ins) (ha : x.ao.length = x.n.ss.length) (h0 : x.n.ins < (k : Int)) (h1 : (k : Int) < x.n.fst) (ht : t < x.ks.getD ((k : Int) - 1 - x.n.ins).toNat 0) : wvV x ws k t = x.ao.getD ((k : Int) - 1 - x.n.ins).toNat 0 % 2 := by
  have hf : x.n.fst = 1 + x.n.ins + x.n.ss.length := rfl
  unfold wvV; rw [if_pos h1, if_pos ⟨by omega, ht⟩]
  have := val_seq x.n x.ao x.oi (s := ((k : Int) - 1 - x.n.ins).toNat) (by omega)
  rw [show 1 + x.n.ins.toNat + ((k : Int) - 1 - x.n.ins).toNat = k by omega] at this; exact this
theorem wv_new (x : Td) (ws : List (List Int)) (t : Int) {k : Nat} (hi : 0 ≤ x.n.ins) (hb : x.bs.length = x.n.ss.length) (h0 : x.n.ins < (k : Int)) (h1 : (k : Int) < x.n.fst) (ht : ¬ t < x.ks.getD ((k : Int) - 1 - x.n.ins).toNat 0) : wvV x ws k t = x.bs.getD ((k : Int) - 1 - x.n.ins).toNat 0 % 2 := by
  have hf : x.n.fst = 1 + x.n.ins + x.n.ss.length := rfl
  unfold wvV; rw [if_pos h1, if_neg (fun h => ht h.2)]
  have := val_seq x.n x.bs x.ni (s := ((k : Int) - 1 - x.n.ins).toNat) (by omega)
  rw [show 1 + x.n.ins.toNat + ((k : Int) - 1 - x.n.ins).toNat = k by omega] at this; exact this
theorem wv_lut (x : Td) (ws : List (List Int)) (t : Int) {k i : Nat} (h : (k : Int) - x.n.fst = (i : Int)) : wvV x ws k t = lutV (x.n.ls.getD i lt0) (lin x ws i t) := by
  unfold wvV; rw [if_neg (by omega), show ((k : Int) - x.n.fst).toNat = i by omega]
theorem wv01 {x : Td} (h : TdOk x) (ws : List (List Int)) (k : Nat) (t : Int) : wvV x ws k t = 0 ∨ wvV x ws k t = 1 := by
  have hb := h.bnd
  have hi := hb.i
  have ha := hb.a
  have hb2 := hb.b
  have hf : x.n.fst = 1 + x.n.ins + x.n.ss.length := rfl
  unfold wvV
  split
  · split
    · exact vl01 _ _ _ _ k (by rw [vl_len]; omega)
    · exact vl01 _ _ _ _ k (by rw [vl_len]; omega)
  · exact lut01 _ _
theorem at01 {x : Td} (h : TdOk x) {hz k q : Nat} (hq : q < k) (hk : (q : Int) < x.n.cnt) {t : Int} (ht : t ≤ hz) : atW ((ovX x).getD q 0) ((wvsL x hz k).getD q []) t = 0 ∨ atW ((ovX x).getD q 0) ((wvsL x hz k).getD q []) t = 1 := by
  have hb := h.bnd
  have hi := hb.i
  have ha := hb.a
  have hc : x.n.cnt = 1 + x.n.ins + x.n.ss.length + x.n.ls.length := rfl
  unfold atW
  split
  · exact vl01 _ _ _ _ q (by rw [vl_len]; omega)
  · rw [wvs_val x hz hq (by omega)]; exact wv01 h _ _ _
theorem lin01 {x : Td} (h : TdOk x) {hz i : Nat} (hi : i < x.n.ls.length) {k : Nat} (hk : (k : Int) - x.n.fst = i) {t : Int} (ht : t ≤ hz) (j : Nat) (hj : j < (x.n.ls.getD i lt0).xs.length) : lin x (wvsL x hz k) i t j = 0 ∨ lin x (wvsL x hz k) i t j = 1 := by
  have h1 := (h.n.lt i hi).1.2 j hj
  have h2 := (h.dl i hi).2 j (by have := (h.dl i hi).1; omega)
  have hc : x.n.cnt = 1 + x.n.ins + x.n.ss.length + x.n.ls.length := rfl
  have hf : x.n.fst = 1 + x.n.ins + x.n.ss.length := rfl
  exact at01 h (by omega) (by omega) (by omega)
theorem vl_same {x y : Td} (h : Same x y) (st : List Int) (inp : Int) : ∀ i, vlL y.n st inp i = vlL x.n st inp i
  | 0 => by unfold vlL pb; rw [h.ins]
  | i + 1 => by unfold vlL lutV; rw [vl_same h st inp i, (h.lt i).1, (h.lt i).2]
theorem val_same {x y : Td} (h : Same x y) (st : List Int) (inp : Int) : valT y.n st inp = valT x.n st inp := by
  unfold valT; rw [map_len h.ls]; exact vl_same h st inp _
theorem wvV_same {x y : Td} (h : Same x y) (ws : List (List Int)) (k : Nat) (t : Int) : wvV y ws k t = wvV x ws k t := by
  have e1 : ovX y = ovX x := by unfold ovX; rw [val_same h, h.ao, h.oi]
  have e2 : nvX y = nvX x := by unfold nvX; rw [val_same h, h.bs, h.ni]
  have e3 : ∀ i, lin y ws i t = lin x ws i t := fun i => by funext j; unfold lin; rw [e1, (h.lt i).1, h.dlk i]
  unfold wvV
  rw [h.fst, h.ins, h.ks, e1, e2, e3]
  unfold lutV; rw [(h.lt _).1, (h.lt _).2]
theorem wvs_same {x y : Td} (h : Same x y) (hz : Nat) : ∀ k, wvsL y hz k = wvsL x hz k
  | 0 => rfl
  | k + 1 => by
    unfold wvsL; rw [wvs_same h hz k]
    unfold rowW; simp only [wvV_same h]
noncomputable def wavR (x : Td) (a : Int) : List (List Int) := if pB (TdOk x) = true then (if 0 ≤ a ∧ a ≤ 1100 then wvsL x a.toNat x.n.cnt.toNat else []) else []
theorem wavR_same {x y : Td} (h : Same x y) (a : Int) : wavR y a = wavR x a := by unfold wavR; rw [pB_same h, h.cnt, wvs_same h]
theorem wavR_ok {x : Td} (h : TdOk x) {a : Int} (h0 : 0 ≤ a ∧ a ≤ 1100) : wavR x a = wvsL x a.toNat x.n.cnt.toNat := by unfold wavR; rw [if_pos (pB_yes h), if_pos h0]
theorem wavR_no {x : Td} {a : Int} (h : ¬ TdOk x ∨ ¬ (0 ≤ a ∧ a ≤ 1100)) : wavR x a = [] := by
  unfold wavR
  rcases h with h | h
  · rw [pB_no h]; rfl
  · rw [if_neg h]; split <;> rfl
theorem conv_setPart {w0 : World} {ps l : List HP} {j : Nat} {p' : HP} (h : j < ps.length) : Conv w0 (p' :: bigE ps :: l) (bigE (ps.set j p') :: l) := fun w hm => by
  have h1 : Mem w0 (bigE ps :: p' :: l) w := hm.perm (.swap _ _ _)
  have h2 := conv_focus (j := j) (p := ps[j]) (List.getElem?_eq_getElem h) w h1
  have h3 : Mem w0 (bigE (ps.eraseIdx j) :: p' :: l) w := h2.sub (List.sublist_cons_self _ _)
  exact conv_unfocus h w (h3.perm (.swap _ _ _))
theorem conv_irSet {w0 : World} {l : List HP} {es : List IR} {j : Nat} {e' : IR} (h : j < es.length) : Conv w0 (irPart e' :: bigE (es.map irPart) :: l) (bigE ((es.set j e').map irPart) :: l) := fun w hm => by
  rw [List.map_set]; exact conv_setPart (by rw [List.length_map]; exact h) w hm
theorem conv_irFocus {w0 : World} {l : List HP} {es : List IR} {j : Nat} (h : j < es.length) : Conv w0 (bigE (es.map irPart) :: l) (irPart (es.getD j ir0) :: bigE ((es.map irPart).eraseIdx j) :: l) :=
  conv_focus (by rw [List.getElem?_map, getD_at h (d := ir0)]; rfl)
theorem conv_irUnfocus {w0 : World} {l : List HP} {es : List IR} {j : Nat} {e' : IR} (h : j < es.length) : Conv w0 (irPart e' :: bigE ((es.map irPart).eraseIdx j) :: l) (bigE ((es.set j e').map irPart) :: l) := fun w hm => by
  rw [List.map_set]; exact conv_unfocus (by rw [List.length_map]; exact h) w hm
theorem Mem.irNil {w0 w : World} {l : List HP} (h : Mem w0 l w) (n : Nat) : Mem w0 (bigE ((List.replicate n ir0).map irPart) :: l) w := by
  refine Mem.big ?_
  rw [List.map_replicate]
  exact h.bigNil _ _ n
theorem conv_irSnoc {w0 : World} {l : List HP} {es : List IR} {e' : IR} : Conv w0 (irPart e' :: bigE (es.map irPart) :: l) (bigE ((es ++ [e']).map irPart) :: l) := fun w hm => by
  have h0 : Mem w0 (bigE (es.map irPart) :: irPart e' :: l) w := hm.perm (.swap _ _ _)
  have h1 : Mem w0 (es.map irPart ++ (irPart e' :: l)) w := h0.unbig
  have h2 : Mem w0 ((es ++ [e']).map irPart ++ l) w := by simpa using h1
  exact h2.big
/-- rows of ints_o whose parts and row stand apart -/
theorem rdsIr_sep {w0 w : World} {l : List HP} {v : Value} {es : List IR} (hm : Mem w0 l w) (i j : Nat) (hi : l[i]? = some (bigE (es.map irPart))) (hj : l[j]? = some (rowE 24 1 v es.length (es.flatMap irC))) : RdsIr w v es :=
  ⟨rdsW_own (hm.holds _ (mem_at hj)), fun r hr => rdsW_own ((hm.holds _ (mem_at hi)).1 (irPart r) (List.mem_map.2 ⟨r, hr, rfl⟩)).2⟩
theorem rv_buildM {P : Program} {N : Nat} {w0 : World} {l : List HP} {env : List (Nat × Value)} {o : Oper} {t : TypeId} {ps : Array (Nat × Operand)} {vs : List (Nat × Value)} {cs : Array Value} (ho : o.op = .build t ps)
    (hp : ps.toList.mapM (fun p => (ev env p.2).map fun v => (p.1, v)) = some vs) (hb : ∀ w, Mem w0 l w → P.built t vs = some cs) : RunV P N w0 l env o (.agg cs) := fun a w st => rv_build ho hp (hb w st.mem) a w st
theorem rq_buildSlice1 {P : Program} {N : Nat} {w0 : World} {l : List HP} {env : List (Nat × Value)} {o : Oper} {t e : TypeId} {x : Operand} {v : Value} (ho : o.op = .buildSlice t 1 #[(0, x)]) (hu : P.underlying t = some (.slice e)) (hi : (P.info? e).map (fun i => (i.zero, i.size)) = some (some (.slice none 0 0), 1)) (hx : ev env x = some v) (h1 : v.oneCell' = true) :
    RunQ P N w0 l env o (IsRow_o e 1 1 [v]) :=
  rq_buildSlice (vs := [(0, v)]) ho hu hi (by decide) (by simp [hx]) (by cases v <;> first | (exact absurd h1 Bool.false_ne_true) | kernel_rfl) rfl
structure WOk (x : Td) (h m C : Nat) (es : List IR) : Prop where
  len : es.length = C
  row : ∀ q, q < m → (es.getD q ir0).xs = (wvsL x h m).getD q []
theorem w_start (x : Td) (h C : Nat) : WOk x h 0 C (List.replicate C ir0) := ⟨by simp, fun q hq => absurd hq (by omega)⟩
theorem WOk.set {x : Td} {h m C : Nat} {es : List IR} (k : WOk x h m C es) (e : IR) : WOk x h m C (es.set m e) := ⟨by rw [List.length_set]; exact k.len, fun q hq => by rw [set_neG (by omega)]; exact k.row q hq⟩
theorem WOk.next {x : Td} {h m C : Nat} {es : List IR} (k : WOk x h m C es) (hr : (es.getD m ir0).xs = rowW x (wvsL x h m) m (h + 1)) : WOk x h (m + 1) C es := ⟨k.len, fun q hq => by
  by_cases e : q = m
  · subst e; rw [hr, wvs_at x h _ _ (by omega)]
  · rw [k.row q (by omega), wvs_at x h _ _ (by omega), wvs_at x h _ _ (by omega)]⟩
theorem ext_getDs {es : List IR} {ws : List (List Int)} (h1 : es.length = ws.length) (h2 : ∀ q, q < ws.length → (es.getD q ir0).xs = ws.getD q []) : es.map IR.xs = ws := by
  refine List.ext_getElem (by rw [List.length_map]; exact h1) (fun q q1 q2 => ?_)
  have := h2 q q2
  rw [List.getElem_map]
  rw [List.getD_eq_getElem?_getD, List.getElem?_eq_getElem (by omega), List.getD_eq_getElem?_getD, List.getElem?_eq_getElem q2] at this
  exact this
theorem WOk.all {x : Td} {h C : Nat} {es : List IR} (k : WOk x h C C es) : es.map IR.xs = wvsL x h C := ext_getDs (by rw [wvs_len]; exact k.len) (fun q hq => k.row q (by rw [wvs_len] at hq; exact hq))
theorem rowW_zero (x : Td) (ws : List (List Int)) (k h : Nat) : List.replicate (h + 1) (0 : Int) = fzT (h + 1) (rowW x ws k 0) := fz_nil _
theorem rowW_set {x : Td} {ws : List (List Int)} {k h t : Nat} (ht : t ≤ h) {v : Int} (hv : v = wvV x ws k (t : Int)) : (fzT (h + 1) (rowW x ws k t)).set t v = fzT (h + 1) (rowW x ws k (t + 1)) := by
  rw [fz_set (by rw [rowW_len]) (by rw [rowW_len]; omega), hv, rowW_succ]
theorem fzT_lenW (x : Td) (ws : List (List Int)) {k h t : Nat} (ht : t ≤ h + 1) : (fzT (h + 1) (rowW x ws k t)).length = h + 1 := fz_len (by rw [rowW_len]; exact ht)
theorem fzT_allW (x : Td) (ws : List (List Int)) (k h : Nat) : fzT (h + 1) (rowW x ws k (h + 1)) = rowW x ws k (h + 1) := fz_all (rowW_len _ _ _ _)
/-- a box of waves -/
structure Wv where
  bv : Value
  av : Value
  vs : List Int
  es : List IR
structure RdsWv (w : World) (b : Nat) (g : Wv) : Prop where
  c0 : w.cell? ⟨b, 0, none⟩ = some g.bv
  c1 : w.cell? ⟨b, 1, none⟩ = some g.av
  vs : RdsW w g.bv 1 g.vs.length (g.vs.map (Value.int .i64))
  es : RdsIr w g.av g.es
theorem RdsWv.lt {w : World} {b : Nat} {g : Wv} (h : RdsWv w b g) : b < w.heap.size := World.block_lt_of_cell? _ _ h.c0
theorem RdsWv.below {w w' : World} {b : Nat} {g : Wv} (h : RdsWv w b g) (hb : Below w.heap.size w w') : RdsWv w' b g := ⟨(hb.cell (p := ⟨b, 0, none⟩) h.lt).trans h.c0, (hb.cell (p := ⟨b, 1, none⟩) h.lt).trans h.c1, h.vs.below hb, h.es.below hb⟩
set_option maxHeartbeats 4000000 in
set_option maxRecDepth 100000 in
theorem l37At_ans (xs : List Int) (v : Value) (o t : Int) (w : World) (hv : RdsW w v 1 xs.length (xs.map (Value.int .i64))) (ht : t < xs.length) :
  Calls Try.prog 68 #[v, .int .i64 o, .int .i64 t] w (Ans w (.int .i64 (atW o xs t))) := by
 refine calls_hc (N := 14) (args := [v, .int .i64 o, .int .i64 t]) Try.func68 rfl rfl ?_
 refine hc_less _ (sx 0 rfl (sx 1 rfl (sx 2 rfl (sub_nil _)))) (.refl _) ?_
 refine hc_seq ?_
 refine hc_region ?_
 refine hl_v rfl rfl rfl (rv_ev rfl) ?_
 refine hl_less (sx 0 rfl (sx 1 rfl (sx 2 rfl (sx 6 rfl (sub_nil _))))) (.refl _) ?_
 refine hl_nil ?_
 refine hq_then ?_
 refine hc_seq ?_
 refine hc_seq ?_
 refine hc_region ?_
 refine hl_v rfl rfl rfl (rv_ev rfl) ?_
 refine hl_lss rfl rfl rfl rfl rfl rfl (fun h1 => ?_) (fun h1 => ?_)
 ·
  refine hl_less (sx 0 rfl (sx 1 rfl (sx 2 rfl (sx 6 rfl (sx 8 rfl (sub_nil _)))))) (.refl _) ?_
  refine hl_nil ?_
  refine hq_then ?_
  refine hc_true rfl ?_
  refine hc_seq ?_
  refine hc_region ?_
  refine hl_v rfl rfl rfl (rv_ev rfl) ?_
  refine hl_v rfl rfl rfl (rv_ev rfl) ?_
  refine hl_less (sx 0 rfl (sx 1 rfl (sx 2 rfl (sx 6 rfl (sx 8 rfl (sub_nil _)))))) (.refl _) ?_
  refine hl_nil ?_
  refine hq_then ?_
  refine hc_ret ?_
  refine hq_then_ret ?_
  exact hq_ans rfl rfl (by unfold atW; first | rw [if_pos (by omega)] | rw [if_neg (by omega)])
 ·
  refine hl_less (sx 0 rfl (sx 1 rfl (sx 2 rfl (sx 6 rfl (sx 8 rfl (sub_nil _)))))) (.refl _) ?_
  refine hl_nil ?_
  refine hq_then ?_
  refine hc_false rfl ?_
  refine hc_skip ?_
  refine hq_then ?_
  refine hc_seq ?_
  refine hc_region ?_
  refine hl_v rfl rfl rfl (rv_ev rfl) ?_
  refine hl_v rfl rfl rfl (rv_ev rfl) ?_
  refine hl_v rfl rfl rfl (rv_index (s := 1) rfl Try.underlying24 (by kernel_rfl) rfl rfl (rd_old hv) (by omega) (by first | omega | (simp only [List.length_set]; omega))) ?_
  refine hl_v rfl rfl rfl (rv_loadEl (u := .int .i64 (xs.getD ((t).toNat) 0)) rfl (by kernel_rfl) rfl (rd_old hv) (ints_at1 (show _ < xs.length by first | omega | (simp only [List.length_set]; omega)))) ?_
  refine hl_v rfl rfl rfl (rv_ev rfl) ?_
  refine hl_less (sx 0 rfl (sx 1 rfl (sx 2 rfl (sx 6 rfl (sx 8 rfl (sub_nil _)))))) (.refl _) ?_
  refine hl_nil ?_
  refine hq_then ?_
  refine hc_ret ?_
  exact hq_ans rfl rfl (by unfold atW; first | rw [if_pos (by omega)] | rw [if_neg (by omega)])
set_option maxHeartbeats 4000000 in
set_option maxRecDepth 100000 in
theorem wavesAt_ans (b : Nat) (g : Wv) (k t : Int) (w : World) (hg : RdsWv w b g) (hk : 0 ≤ k ∧ k < g.vs.length) (he : g.es.length = g.vs.length) (ht : t < (g.es.getD k.toNat ir0).xs.length) :
  Calls Try.prog 69 #[.pointer (some ⟨b, 0, none⟩), .int .i64 k, .int .i64 t] w (Ans w (.int .i64 (atW (g.vs.getD k.toNat 0) (g.es.getD k.toNat ir0).xs t))) := by
 refine calls_hc (N := 26) (args := [.pointer (some ⟨b, 0, none⟩), .int .i64 k, .int .i64 t]) Try.func69 rfl rfl ?_
 refine hc_less _ (sx 0 rfl (sx 1 rfl (sx 2 rfl (sub_nil _)))) (.refl _) ?_
 refine hc_seq ?_
 refine hc_region ?_
 refine hl_v rfl rfl rfl (rv_ev rfl) ?_
 refine hl_less (sx 0 rfl (sx 1 rfl (sx 2 rfl (sx 6 rfl (sub_nil _))))) (.refl _) ?_
 refine hl_nil ?_
 refine hq_then ?_
 refine hc_seq ?_
 refine hc_seq ?_
 refine hc_region ?_
 refine hl_v rfl rfl rfl (rv_ev rfl) ?_
 refine hl_lss rfl rfl rfl rfl rfl rfl (fun h1 => ?_) (fun h1 => ?_)
 ·
  refine hl_less (sx 0 rfl (sx 1 rfl (sx 2 rfl (sx 6 rfl (sx 8 rfl (sub_nil _)))))) (.refl _) ?_
  refine hl_nil ?_
  refine hq_then ?_
  refine hc_true rfl ?_
  refine hc_seq ?_
  refine hc_region ?_
  refine hl_v rfl rfl rfl (rv_ev rfl) ?_
  refine hl_v rfl rfl rfl (rv_nilCheck rfl rfl) ?_
  refine hl_v rfl rfl rfl (rv_field (k0 := 0) rfl (by kernel_rfl) rfl) ?_
  refine hl_v rfl rfl rfl (rv_load rfl (by kernel_rfl) rfl (fun w hm => (hm.bel.cell (p := ⟨b, 0 + 0, none⟩) hg.lt).trans hg.c0)) ?_
  refine hl_v rfl rfl rfl (rv_ev rfl) ?_
  refine hl_v rfl rfl rfl (rv_index (s := 1) rfl Try.underlying24 (by kernel_rfl) rfl rfl (rd_old hg.vs) (by omega) (by first | omega | (simp only [List.length_set]; omega))) ?_
  refine hl_v rfl rfl rfl (rv_loadEl (u := .int .i64 (g.vs.getD ((k).toNat) 0)) rfl (by kernel_rfl) rfl (rd_old hg.vs) (ints_at1 (show _ < g.vs.length by first | omega | (simp only [List.length_set]; omega)))) ?_
  refine hl_v rfl rfl rfl (rv_ev rfl) ?_
  refine hl_less (sx 0 rfl (sx 1 rfl (sx 2 rfl (sx 6 rfl (sx 8 rfl (sub_nil _)))))) (.refl _) ?_
  refine hl_nil ?_
  refine hq_then ?_
  refine hc_ret ?_
  refine hq_then_ret ?_
  exact hq_ans rfl rfl (by unfold atW; first | rw [if_pos (by omega)] | rw [if_neg (by omega)])
 ·
  refine hl_less (sx 0 rfl (sx 1 rfl (sx 2 rfl (sx 6 rfl (sx 8 rfl (sub_nil _)))))) (.refl _) ?_
  refine hl_nil ?_
  refine hq_then ?_
  refine hc_false rfl ?_
  refine hc_skip ?_
  refine hq_then ?_
  refine hc_seq ?_
  refine hc_region ?_
  refine hl_v rfl rfl rfl (rv_ev rfl) ?_
  refine hl_v rfl rfl rfl (rv_nilCheck rfl rfl) ?_
  refine hl_v rfl rfl rfl (rv_field (k0 := 1) rfl (by kernel_rfl) rfl) ?_
  refine hl_v rfl rfl rfl (rv_load rfl (by kernel_rfl) rfl (fun w hm => (hm.bel.cell (p := ⟨b, 0 + 1, none⟩) hg.lt).trans hg.c1)) ?_
  refine hl_v rfl rfl rfl (rv_ev rfl) ?_
  refine hl_v rfl rfl rfl (rv_index (s := 1) rfl Try.underlying27 (by kernel_rfl) rfl rfl (rd_old hg.es.row) (by omega) (by first | omega | (simp only [List.length_set]; omega))) ?_
  refine hl_v rfl rfl rfl (rv_loadEl (u := (g.es.getD k.toNat ir0).v) rfl (by kernel_rfl) rfl (rd_old hg.es.row) (flat_one irC (fun r => r.v) (fun _ => rfl) g.es ir0 (show (k).toNat < _ by first | omega | (simp only [List.length_set]; omega)))) ?_
  refine hl_v rfl rfl rfl (rv_ev rfl) ?_
  refine hl_v rfl rfl rfl (rv_index (s := 1) rfl Try.underlying24 (by kernel_rfl) rfl rfl (rd_old (hg.es.at (d := ir0) (k := k.toNat) (by omega))) (by omega) (by first | omega | (simp only [List.length_set]; omega))) ?_
  refine hl_v rfl rfl rfl (rv_loadEl (u := .int .i64 (((g.es.getD k.toNat ir0).xs).getD ((t).toNat) 0)) rfl (by kernel_rfl) rfl (rd_old (hg.es.at (d := ir0) (k := k.toNat) (by omega))) (ints_at1 (show _ < ((g.es.getD k.toNat ir0).xs).length by first | omega | (simp only [List.length_set]; omega)))) ?_
  refine hl_v rfl rfl rfl (rv_ev rfl) ?_
  refine hl_less (sx 0 rfl (sx 1 rfl (sx 2 rfl (sx 6 rfl (sx 8 rfl (sub_nil _)))))) (.refl _) ?_
  refine hl_nil ?_
  refine hq_then ?_
  refine hc_ret ?_
  exact hq_ans rfl rfl (by unfold atW; first | rw [if_pos (by omega)] | rw [if_neg (by omega)])
theorem wavesAt_lin {x : Td} {h m C i j b : Nat} {u v : Value} {es : List IR} {K d t : Int} (w : World) (c0 : w.cell? ⟨b, 0, none⟩ = some u) (c1 : w.cell? ⟨b, 1, none⟩ = some v) (hu : RdsW w u 1 (ovX x).length ((ovX x).map (Value.int .i64))) (hv : RdsIr w v es) (hw : WOk x h m C es)
    (hk : (x.n.ls.getD i lt0).xs.getD j 0 = K) (hd : (x.dl.getD i ir0).xs.getD j 0 = d) (hr : 0 ≤ K ∧ K < m) (hC : C = (ovX x).length) (hm : m < C) (ht : t - d ≤ h) :
    Calls Try.prog 69 #[.pointer (some ⟨b, 0, none⟩), .int .i64 K, .int .i64 (t - d)] w (Ans w (.int .i64 (lin x (wvsL x h m) i t j))) := by
  have hq := hw.row K.toNat (by omega)
  have hl : (es.getD K.toNat ir0).xs.length = h + 1 := by rw [hq]; exact wvs_rl x h (by omega)
  have h9 := wavesAt_ans b ⟨u, v, ovX x, es⟩ K (t - d) w ⟨c0, c1, hu, hv⟩ (show 0 ≤ K ∧ K < ((ovX x).length : Int) from by omega) (show es.length = (ovX x).length from by rw [hw.len]; exact hC) (show t - d < ((es.getD K.toNat ir0).xs.length : Int) from by omega)
  have e : atW ((ovX x).getD K.toNat 0) (es.getD K.toNat ir0).xs (t - d) = lin x (wvsL x h m) i t j := by unfold lin; rw [hq, hk, hd]
  rw [← e]; exact h9
set_option maxHeartbeats 4000000 in
theorem built_waves (x0 : Value) (x1 : Value) (h0 : x0.oneCell' = true) (h1 : x1.oneCell' = true) : Try.prog.built 92 [(0, x0), (1, x1)] = some #[x0, x1] := by
  (cases x0 <;> first | (exact absurd h0 Bool.false_ne_true) | (cases x1 <;> first | (exact absurd h1 Bool.false_ne_true) | kernel_rfl))
theorem hq_oneW {N : Nat} {w0 : World} {l : List HP} {env : List (Nat × Value)} {Q : Post} {ex : Exit} {i e s n : Nat} {v : Value} {xs : List Value} (hi : l[i]? = some (rowE e s v n xs)) (k : v.oneCell' = true → HQ N w0 l env ex Q) : HQ N w0 l env ex Q := fun a w st => k (rdsW_own (st.mem.holds _ (mem_at hi))).one a w st
theorem flat_same {es : List IR} {m : Nat} {xs : List Int} : (es.set m (IR.mk (es.getD m ir0).v xs)).flatMap irC = es.flatMap irC := by
  have e : ∀ zs : List IR, zs.flatMap irC = zs.map IR.v := fun zs => by induction zs with
    | nil => rfl
    | cons a bs ih => rw [List.flatMap_cons, List.map_cons, ih]; rfl
  rw [e, e, List.map_set]
  refine List.ext_getElem (by simp) (fun q h1 h2 => ?_)
  rw [List.getElem_set]
  split
  · subst_vars
    rw [List.getElem_map, List.getD_eq_getElem?_getD, List.getElem?_eq_getElem (by simpa using h2)]; rfl
  · rfl
set_option maxHeartbeats 4000000 in
set_option maxRecDepth 100000 in
theorem wavesOf_ret (x : Td) (a : Int) (w : World) (hr : RdsTd w x) (hok : TdOk x) (ha : 0 ≤ a ∧ a ≤ 1100) :
  Calls Try.prog 66 #[.agg #[.int .i64 x.n.ins, x.n.sv, x.n.lv, x.n.ov, x.pv, x.qv, x.kv, x.av, x.bv, .int .i64 x.oi, .int .i64 x.ni], .int .i64 a] w (Ret w (fun v' post => ∃ (b : Nat) (bv av : Value) (es : List IR), v' = .pointer (some ⟨b, 0, none⟩) ∧ post = [irsE av es, boxE b #[bv, av] 92, rowE 3 1 bv (ovX x).length ((ovX x).map (Value.int .i64))] ∧ WOk x a.toNat x.n.cnt.toNat x.n.cnt.toNat es ∧ av.oneCell' = true)) := by
 have t1 := sml hr.ks
 have t2 := sml hr.ao
 have t3 := sml hr.bs
 have t4 := hr.dl.small
 have t5 := hr.ds.small
 have t6 := hr.n.sq.small
 have t7 := hr.n.lt.small
 have t8 := sml hr.n.ou
 have hcnt : x.n.cnt = 1 + x.n.ins + x.n.ss.length + x.n.ls.length := rfl
 have hfst : x.n.fst = 1 + x.n.ins + x.n.ss.length := rfl
 obtain ⟨ci, cs_, cl, ck, ca, cb, cd, ce⟩ := hok.bnd
 have hi0 := ci.1
 have hi1 := ci.2
 have hvl := vl_len x.n x.ao x.oi x.n.ls.length
 have hov : (ovX x).length = x.n.cnt.toNat := by show (vlL _ _ _ _).length = _; omega
 have hrl : (List.replicate x.n.cnt.toNat ir0).length = x.n.cnt.toNat := List.length_replicate
 refine calls_hc (N := 152) (args := [.agg #[.int .i64 x.n.ins, x.n.sv, x.n.lv, x.n.ov, x.pv, x.qv, x.kv, x.av, x.bv, .int .i64 x.oi, .int .i64 x.ni], .int .i64 a]) Try.func66 rfl rfl ?_
 refine hc_less _ (sx 0 rfl (sx 1 rfl (sub_nil _))) (.refl _) ?_
 refine hc_seq ?_
 refine hc_region ?_
 refine hl_box rfl rfl rfl (rq_box rfl rfl) ?_
 intro b1
 refine hl_v rfl rfl rfl (rv_ev rfl) ?_
 refine hl_less (sx 0 rfl (sx 1 rfl (sx 2 rfl (sx 4 rfl (sub_nil _))))) (.refl _) ?_
 refine hl_nil ?_
 refine hq_then ?_
 refine hc_seq ?_
 refine hc_region ?_
 refine hl_v rfl rfl rfl (rv_field (k0 := 0) rfl (by kernel_rfl) rfl) ?_
 refine hl_v rfl rfl rfl (rv_loadN (cs := [.int .i64 x.n.ins, x.n.sv, x.n.lv, x.n.ov]) rfl (by kernel_rfl) (by kernel_rfl) rfl rfl (box_part 0 rfl 0 rfl)) ?_
 refine hl_box rfl rfl rfl (rq_alloc (z := .agg #[.int .i64 0, .slice none 0 0, .slice none 0 0, .slice none 0 0]) rfl (by kernel_rfl)) ?_
 intro b2
 refine hl_storeBoxN (i := 0) (off := 0) (us := [.int .i64 x.n.ins, x.n.sv, x.n.lv, x.n.ov])  (l' := [boxE b2 #[.int .i64 x.n.ins, x.n.sv, x.n.lv, x.n.ov] 37, boxE b1 #[.int .i64 x.n.ins, x.n.sv, x.n.lv, x.n.ov, x.pv, x.qv, x.kv, x.av, x.bv, .int .i64 x.oi, .int .i64 x.ni] 40]) rfl rfl rfl (by kernel_rfl) rfl rfl rfl (all_cons rfl (all_cons hr.n.sq.row.one (all_cons hr.n.lt.row.one (all_cons hr.n.ou.one all_nil)))) rfl rfl rfl ?_
 refine hl_less (sx 0 rfl (sx 1 rfl (sx 2 rfl (sx 4 rfl (sx 5 rfl (sub_nil _)))))) (.refl _) ?_
 refine hl_nil ?_
 refine hq_then ?_
 refine hc_seq ?_
 refine hc_draw (by kernel_rfl) 11 [0, 1, 2, 3, 4, 5, 6, 7, 8, 9, 10] (List.take 11 _) (List.drop 11 _) [[], [], [1], [], [3], [0, 2, 4], [], [6], [7], [5, 8], [5, 8, 9]] [17, 18, 19, 20, 21, 22, 23, 24, 25, 26, 27] (fun i_ vs_ v_ p_ => match i_ with | 0 => v_ = .agg #[.int .i64 x.n.ins, x.n.sv, x.n.lv, x.n.ov] ∧ p_ = [] | 1 => v_ = .pointer (some ⟨b1, 0 + 7, none⟩) ∧ p_ = [] | 2 => v_ = x.av ∧ p_ = [] | 3 => v_ = .pointer (some ⟨b1, 0 + 9, none⟩) ∧ p_ = [] | 4 => v_ = .int .i64 x.oi ∧ p_ = [] | 5 => (fun v' post => post = [rowE 3 1 v' (ovX x).length ((ovX x).map (Value.int .i64))]) v_ p_ | 6 => v_ = .agg #[.int .i64 x.n.ins, x.n.sv, x.n.lv, x.n.ov] ∧ p_ = [] | 7 => v_ = .int .i64 x.n.cnt ∧ p_ = [] | 8 => IsRow_o 24 1 ((List.replicate (x.n.cnt).toNat ir0).length) ((List.replicate (x.n.cnt).toNat ir0).flatMap irC) v_ p_ | 9 => v_ = .agg #[(List.getD vs_ 0 undef), (List.getD vs_ 1 undef)] ∧ p_ = [] | 10 => IsBox #[(List.getD vs_ 0 undef), (List.getD vs_ 1 undef)] 92 v_ p_ | _ => True) (List.take_append_drop 11 _).symm (by kernel_rfl) (by kernel_rfl) rfl rfl ?_ ?_
 ·
  refine ⟨?_, ?_, ?_, ?_, ?_, ?_, ?_, ?_, ?_, ?_, ?_, trivial⟩
  ·
   intro vf pf hR
   refine Or.inl ⟨rfl, ?_⟩
   refine rq_less (sx 5 rfl (sub_nil _)) (List.sublist_append_right _ _) ?_
   exact rq_v (rv_loadN (cs := [.int .i64 x.n.ins, x.n.sv, x.n.lv, x.n.ov]) rfl (by kernel_rfl) (by kernel_rfl) rfl rfl (box_part 0 rfl 0 rfl))
  ·
   intro vf pf hR
   refine Or.inl ⟨rfl, ?_⟩
   refine rq_less (sx 2 rfl (sub_nil _)) (List.sublist_append_right _ _) ?_
   exact rq_v (rv_field (k0 := 7) rfl (by kernel_rfl) rfl)
  ·
   intro vf pf hR
   have e1 : (vf 1) = .pointer (some ⟨b1, 0 + 7, none⟩) ∧ (pf 1) = [] := hR 1 (by decide)
   refine Or.inl ⟨rfl, ?_⟩
   refine rq_less (sx 18 (congrArg some e1.1) (sub_nil _)) (List.sublist_append_right _ _) ?_
   exact rq_v (rv_load rfl (by kernel_rfl) rfl (box_cell 1 rfl rfl))
  ·
   intro vf pf hR
   refine Or.inl ⟨rfl, ?_⟩
   refine rq_less (sx 2 rfl (sub_nil _)) (List.sublist_append_right _ _) ?_
   exact rq_v (rv_field (k0 := 9) rfl (by kernel_rfl) rfl)
  ·
   intro vf pf hR
   have e3 : (vf 3) = .pointer (some ⟨b1, 0 + 9, none⟩) ∧ (pf 3) = [] := hR 3 (by decide)
   refine Or.inl ⟨rfl, ?_⟩
   refine rq_less (sx 20 (congrArg some e3.1) (sub_nil _)) (List.sublist_append_right _ _) ?_
   exact rq_v (rv_load rfl (by kernel_rfl) rfl (box_cell 1 rfl rfl))
  ·
   intro vf pf hR
   have e0 : (vf 0) = .agg #[.int .i64 x.n.ins, x.n.sv, x.n.lv, x.n.ov] ∧ (pf 0) = [] := hR 0 (by decide)
   have e2 : (vf 2) = x.av ∧ (pf 2) = [] := hR 2 (by decide)
   have e4 : (vf 4) = .int .i64 x.oi ∧ (pf 4) = [] := hR 4 (by decide)
   refine Or.inl ⟨rfl, ?_⟩
   refine rq_less (sx 17 (congrArg some e0.1) (sx 19 (congrArg some e2.1) (sx 21 (congrArg some e4.1) (sub_nil _)))) (List.sublist_append_right _ _) ?_
   exact rq_call (by kernel_rfl) rfl (fun w hm => lutValues_ret x.n x.ao _ x.oi w (hr.n.below hm.bel) (hr.ao.below hm.bel) hok.n hok.a)
  ·
   intro vf pf hR
   refine Or.inl ⟨rfl, ?_⟩
   refine rq_less (sx 5 rfl (sub_nil _)) (List.sublist_append_right _ _) ?_
   exact rq_v (rv_loadN (cs := [.int .i64 x.n.ins, x.n.sv, x.n.lv, x.n.ov]) rfl (by kernel_rfl) (by kernel_rfl) rfl rfl (box_part 0 rfl 0 rfl))
  ·
   intro vf pf hR
   have e6 : (vf 6) = .agg #[.int .i64 x.n.ins, x.n.sv, x.n.lv, x.n.ov] ∧ (pf 6) = [] := hR 6 (by decide)
   refine Or.inl ⟨rfl, ?_⟩
   refine rq_less (sx 23 (congrArg some e6.1) (sub_nil _)) (List.sublist_append_right _ _) ?_
   exact (rq_call (by kernel_rfl) rfl (fun w hm => ret_ans (lutNodes_ans x.n w (hr.n.below hm.bel) hok.n.sz)))
  ·
   intro vf pf hR
   have e7 : (vf 7) = .int .i64 x.n.cnt ∧ (pf 7) = [] := hR 7 (by decide)
   refine Or.inl ⟨rfl, ?_⟩
   refine rq_less (sx 24 (congrArg some e7.1) (sub_nil _)) (List.sublist_append_right _ _) ?_
   exact rq_make (z := .slice none 0 0) (s := 1) (bytes := 24) (n := (List.replicate (x.n.cnt).toNat ir0).length) (cs := ((List.replicate (x.n.cnt).toNat ir0).flatMap irC)) rfl Try.underlying27 (by kernel_rfl) (by decide) rfl rfl (by first | (rw [List.length_replicate]; done) | (rw [List.length_replicate]; omega)) (by first | (rw [List.length_replicate]; done) | (rw [List.length_replicate]; omega)) (by rw [List.length_replicate]; omega) (made_flat irC 1 (fun _ => rfl) ir0 _ rfl (x.n.cnt).toNat)
  ·
   intro vf pf hR
   have e5 : (fun v' post => post = [rowE 3 1 v' (ovX x).length ((ovX x).map (Value.int .i64))]) (vf 5) (pf 5) := hR 5 (by decide)
   obtain ⟨v3, v5⟩ : ∃ x, vf 5 = x := ⟨_, rfl⟩
   obtain ⟨p4, p5⟩ : ∃ x, pf 5 = x := ⟨_, rfl⟩
   have hR5 := e5
   rw [v5, p5] at hR5
   subst hR5
   have e8 : IsRow_o 24 1 ((List.replicate (x.n.cnt).toNat ir0).length) ((List.replicate (x.n.cnt).toNat ir0).flatMap irC) (vf 8) (pf 8) := hR 8 (by decide)
   obtain ⟨g6, v8, p8⟩ := e8
   refine Or.inl ⟨rfl, ?_⟩
   refine rq_less (l' := [rowE 3 1 v3 ((ovX x).length) ((ovX x).map (Value.int .i64)), rowE 24 1 (.slice (some ⟨g6, 0, none⟩) ((List.replicate (x.n.cnt).toNat ir0).length) ((List.replicate (x.n.cnt).toNat ir0).length)) ((List.replicate (x.n.cnt).toNat ir0).length) ((List.replicate (x.n.cnt).toNat ir0).flatMap irC), boxE b2 #[.int .i64 x.n.ins, x.n.sv, x.n.lv, x.n.ov] 37, boxE b1 #[.int .i64 x.n.ins, x.n.sv, x.n.lv, x.n.ov, x.pv, x.qv, x.kv, x.av, x.bv, .int .i64 x.oi, .int .i64 x.ni] 40]) (sx 22 (congrArg some v5) (sx 25 (congrArg some v8) (sub_nil _))) (by first | (simp only [p5, v5, p8, v8, List.flatMap_cons, List.flatMap_nil, List.append_nil, List.nil_append, List.cons_append]; exact List.Sublist.refl _) | simp [p5, v5, p8, v8]) ?_
   exact rq_mono (rq_v (rv_buildM (cs := #[v3, .slice (some ⟨g6, 0, none⟩) ((List.replicate (x.n.cnt).toNat ir0).length) ((List.replicate (x.n.cnt).toNat ir0).length)]) rfl rfl (fun w hm => built_waves v3 (.slice (some ⟨g6, 0, none⟩) ((List.replicate (x.n.cnt).toNat ir0).length) ((List.replicate (x.n.cnt).toNat ir0).length)) ((rd_row 0 rfl w hm).one) rfl))) (fun _ _ h => ⟨h.1.trans (by show _ = (.agg #[(vf 5), (vf 8)] : Value); first | (rw [v5, v8]; done) | (rw [v5, v8]; rfl)), h.2⟩)
  ·
   intro vf pf hR
   have e5 : (fun v' post => post = [rowE 3 1 v' (ovX x).length ((ovX x).map (Value.int .i64))]) (vf 5) (pf 5) := hR 5 (by decide)
   obtain ⟨v3, v5⟩ : ∃ x, vf 5 = x := ⟨_, rfl⟩
   obtain ⟨p4, p5⟩ : ∃ x, pf 5 = x := ⟨_, rfl⟩
   have hR5 := e5
   rw [v5, p5] at hR5
   subst hR5
   have e8 : IsRow_o 24 1 ((List.replicate (x.n.cnt).toNat ir0).length) ((List.replicate (x.n.cnt).toNat ir0).flatMap irC) (vf 8) (pf 8) := hR 8 (by decide)
   obtain ⟨g6, v8, p8⟩ := e8
   have e9 : (vf 9) = .agg #[(vf 5), (vf 8)] ∧ (pf 9) = [] := hR 9 (by decide)
   rw [v5, v8] at e9
   refine Or.inl ⟨rfl, ?_⟩
   refine rq_less (l' := [rowE 3 1 v3 ((ovX x).length) ((ovX x).map (Value.int .i64)), rowE 24 1 (.slice (some ⟨g6, 0, none⟩) ((List.replicate (x.n.cnt).toNat ir0).length) ((List.replicate (x.n.cnt).toNat ir0).length)) ((List.replicate (x.n.cnt).toNat ir0).length) ((List.replicate (x.n.cnt).toNat ir0).flatMap irC), boxE b2 #[.int .i64 x.n.ins, x.n.sv, x.n.lv, x.n.ov] 37, boxE b1 #[.int .i64 x.n.ins, x.n.sv, x.n.lv, x.n.ov, x.pv, x.qv, x.kv, x.av, x.bv, .int .i64 x.oi, .int .i64 x.ni] 40]) (sx 26 (congrArg some e9.1) (sub_nil _)) (by first | (simp only [p5, v5, p8, v8, e9.2, List.flatMap_cons, List.flatMap_nil, List.append_nil, List.nil_append, List.cons_append]; exact List.Sublist.refl _) | simp [p5, v5, p8, v8, e9.2]) ?_
   exact rq_mono (rq_box rfl rfl) (fun v_ p_ h => by show IsBox #[(vf 5), (vf 8)] 92 v_ p_; rw [v5, v8]; exact h)
 ·
  intro vf pf hR
  have e5 : (fun v' post => post = [rowE 3 1 v' (ovX x).length ((ovX x).map (Value.int .i64))]) (vf 5) (pf 5) := hR 5 (by decide)
  obtain ⟨v3, v5⟩ : ∃ x, vf 5 = x := ⟨_, rfl⟩
  obtain ⟨p4, p5⟩ : ∃ x, pf 5 = x := ⟨_, rfl⟩
  have hR5 := e5
  rw [v5, p5] at hR5
  subst hR5
  have e8 : IsRow_o 24 1 ((List.replicate (x.n.cnt).toNat ir0).length) ((List.replicate (x.n.cnt).toNat ir0).flatMap irC) (vf 8) (pf 8) := hR 8 (by decide)
  obtain ⟨g6, v8, p8⟩ := e8
  have e10 : IsBox #[(vf 5), (vf 8)] 92 (vf 10) (pf 10) := hR 10 (by decide)
  rw [v5, v8] at e10
  obtain ⟨b7, v10, p10⟩ := e10
  have q0 : (vf 0) = .agg #[.int .i64 x.n.ins, x.n.sv, x.n.lv, x.n.ov] ∧ (pf 0) = [] := hR 0 (by decide)
  have q1 : (vf 1) = .pointer (some ⟨b1, 0 + 7, none⟩) ∧ (pf 1) = [] := hR 1 (by decide)
  have q2 : (vf 2) = x.av ∧ (pf 2) = [] := hR 2 (by decide)
  have q3 : (vf 3) = .pointer (some ⟨b1, 0 + 9, none⟩) ∧ (pf 3) = [] := hR 3 (by decide)
  have q4 : (vf 4) = .int .i64 x.oi ∧ (pf 4) = [] := hR 4 (by decide)
  have q6 : (vf 6) = .agg #[.int .i64 x.n.ins, x.n.sv, x.n.lv, x.n.ov] ∧ (pf 6) = [] := hR 6 (by decide)
  have q7 : (vf 7) = .int .i64 x.n.cnt ∧ (pf 7) = [] := hR 7 (by decide)
  have q9 : (vf 9) = .agg #[(vf 5), (vf 8)] ∧ (pf 9) = [] := hR 9 (by decide)
  refine hl_less (l' := [rowE 3 1 v3 ((ovX x).length) ((ovX x).map (Value.int .i64)), rowE 24 1 (.slice (some ⟨g6, 0, none⟩) ((List.replicate (x.n.cnt).toNat ir0).length) ((List.replicate (x.n.cnt).toNat ir0).length)) ((List.replicate (x.n.cnt).toNat ir0).length) ((List.replicate (x.n.cnt).toNat ir0).flatMap irC), boxE b7 #[v3, .slice (some ⟨g6, 0, none⟩) ((List.replicate (x.n.cnt).toNat ir0).length) ((List.replicate (x.n.cnt).toNat ir0).length)] 92, boxE b2 #[.int .i64 x.n.ins, x.n.sv, x.n.lv, x.n.ov] 37, boxE b1 #[.int .i64 x.n.ins, x.n.sv, x.n.lv, x.n.ov, x.pv, x.qv, x.kv, x.av, x.bv, .int .i64 x.oi, .int .i64 x.ni] 40]) (sx 0 rfl (sx 1 rfl (sx 2 rfl (sx 4 rfl (sx 5 rfl (sx 27 (congrArg some v10) (sub_nil _))))))) (by first | (simp only [p5, v5, p8, v8, p10, v10, q0.2, q1.2, q2.2, q3.2, q4.2, q6.2, q7.2, q9.2, List.flatMap_cons, List.flatMap_nil, List.append_nil, List.nil_append, List.cons_append]; exact List.Sublist.refl _) | simp [p5, v5, p8, v8, p10, v10, q0.2, q1.2, q2.2, q3.2, q4.2, q6.2, q7.2, q9.2]) ?_
  simp only [List.drop_succ_cons, List.drop_zero]
  refine hl_v rfl rfl rfl (rv_ev rfl) ?_
  refine hl_less (sx 0 rfl (sx 1 rfl (sx 2 rfl (sx 4 rfl (sx 5 rfl (sx 6 rfl (sub_nil _))))))) (.refl _) ?_
  refine hl_nil ?_
  refine hq_then ?_
  refine hc_seq ?_
  refine hc_seq ?_
  refine hc_region ?_
  refine hl_v rfl rfl rfl (rv_ev rfl) ?_
  refine hl_v rfl rfl rfl (rv_nilCheck rfl rfl) ?_
  refine hl_v rfl rfl rfl (rv_field (k0 := 1) rfl (by kernel_rfl) rfl) ?_
  refine hl_v rfl rfl rfl (rv_load rfl (by kernel_rfl) rfl (box_cell 2 rfl rfl)) ?_
  refine hl_v rfl rfl rfl (rv_len rfl Try.underlying27 rfl (rd_row 1 rfl)) ?_
  refine hl_v rfl rfl rfl (rv_ev rfl) ?_
  refine hl_less (sx 0 rfl (sx 1 rfl (sx 2 rfl (sx 4 rfl (sx 5 rfl (sx 6 rfl (sx 32 rfl (sx 33 rfl (sub_nil _))))))))) (.refl _) ?_
  refine hl_nil ?_
  refine hq_then ?_
  refine hc_block ?_
  refine hc_conv [bigE ((List.replicate x.n.cnt.toNat ir0).map irPart), rowE 3 1 v3 ((ovX x).length) ((ovX x).map (Value.int .i64)), rowE 24 1 (.slice (some ⟨g6, 0, none⟩) ((List.replicate (x.n.cnt).toNat ir0).length) ((List.replicate (x.n.cnt).toNat ir0).length)) ((List.replicate (x.n.cnt).toNat ir0).length) ((List.replicate (x.n.cnt).toNat ir0).flatMap irC), boxE b7 #[v3, .slice (some ⟨g6, 0, none⟩) ((List.replicate (x.n.cnt).toNat ir0).length) ((List.replicate (x.n.cnt).toNat ir0).length)] 92, boxE b2 #[.int .i64 x.n.ins, x.n.sv, x.n.lv, x.n.ov] 37, boxE b1 #[.int .i64 x.n.ins, x.n.sv, x.n.lv, x.n.ov, x.pv, x.qv, x.kv, x.av, x.bv, .int .i64 x.oi, .int .i64 x.ni] 40] (fun w hm => hm.irNil x.n.cnt.toNat) ?_
  refine hc_loop2 (α := Nat) (β := List IR) (fun m es => [bigE (es.map irPart), rowE 3 1 v3 ((ovX x).length) ((ovX x).map (Value.int .i64)), rowE 24 1 (.slice (some ⟨g6, 0, none⟩) ((List.replicate (x.n.cnt).toNat ir0).length) ((List.replicate (x.n.cnt).toNat ir0).length)) es.length (es.flatMap irC), boxE b7 #[v3, .slice (some ⟨g6, 0, none⟩) ((List.replicate (x.n.cnt).toNat ir0).length) ((List.replicate (x.n.cnt).toNat ir0).length)] 92, boxE b2 #[.int .i64 x.n.ins, x.n.sv, x.n.lv, x.n.ov] 37, boxE b1 #[.int .i64 x.n.ins, x.n.sv, x.n.lv, x.n.ov, x.pv, x.qv, x.kv, x.av, x.bv, .int .i64 x.oi, .int .i64 x.ni] 40]) (fun m es => [(0, .agg #[.int .i64 x.n.ins, x.n.sv, x.n.lv, x.n.ov, x.pv, x.qv, x.kv, x.av, x.bv, .int .i64 x.oi, .int .i64 x.ni]), (1, .int .i64 a), (2, .pointer (some ⟨b1, 0, none⟩)), (4, .pointer none), (5, .pointer (some ⟨b2, 0, none⟩)), (6, .pointer (some ⟨b7, 0, none⟩)), (32, .int .i64 ((List.replicate (x.n.cnt).toNat ir0).length : Int)), (33, .int .i64 (m : Int))]) (fun m es => m ≤ x.n.cnt.toNat ∧ WOk x a.toNat m x.n.cnt.toNat es) (fun m es => x.n.cnt.toNat - m) 0 (List.replicate x.n.cnt.toNat ir0) ⟨by omega, w_start _ _ _⟩ (sx 0 rfl (sx 1 rfl (sx 2 rfl (sx 4 rfl (sx 5 rfl (sx 6 rfl (sx 32 rfl (sx 33 rfl (sub_nil _))))))))) ((.cons_cons _ (.cons_cons _ (.cons_cons _ (.cons_cons _ (.cons_cons _ (.cons_cons _ .slnil))))))) ?_
  intro m es hi8
  obtain ⟨hm9, hw⟩ := hi8
  have hel := hw.len
  refine hc_seq ?_
  refine hc_region ?_
  refine hl_lss rfl rfl rfl rfl rfl rfl (fun h9 => ?_) (fun h9 => ?_)
  ·
   refine hl_less (sx 0 rfl (sx 1 rfl (sx 2 rfl (sx 4 rfl (sx 5 rfl (sx 6 rfl (sx 32 rfl (sx 33 rfl (sx 34 rfl (sub_nil _)))))))))) (.refl _) ?_
   refine hl_nil ?_
   refine hq_then ?_
   refine hc_seq ?_
   refine hc_true rfl ?_
   refine hc_skip ?_
   refine hq_then ?_
   refine hc_seq ?_
   refine hc_block ?_
   refine hc_seq ?_
   refine hc_region ?_
   refine hl_v rfl rfl rfl (rv_ev rfl) ?_
   refine hl_v rfl rfl rfl (rv_ev rfl) ?_
   refine hl_less (sx 0 rfl (sx 1 rfl (sx 2 rfl (sx 4 rfl (sx 5 rfl (sx 6 rfl (sx 7 rfl (sx 32 rfl (sx 33 rfl (sx 34 rfl (sub_nil _))))))))))) (.refl _) ?_
   refine hl_nil ?_
   refine hq_then ?_
   refine hc_seq ?_
   refine hc_draw (by kernel_rfl) 9 [0, 1, 2, 3, 4, 5, 6, 7, 8] (List.take 9 _) (List.drop 9 _) [[], [0], [1], [2], [], [], [5], [6], [3, 4]] [36, 37, 38, 39, 40, 41, 42, 43, 44] (fun i_ vs_ v_ p_ => match i_ with | 0 => v_ = .pointer (some ⟨b7, 0, none⟩) ∧ p_ = [] | 1 => v_ = .pointer (some ⟨b7, 0, none⟩) ∧ p_ = [] | 2 => v_ = .pointer (some ⟨b7, 0 + 1, none⟩) ∧ p_ = [] | 3 => v_ = .slice (some ⟨g6, 0, none⟩) ((List.replicate (x.n.cnt).toNat ir0).length) ((List.replicate (x.n.cnt).toNat ir0).length) ∧ p_ = [] | 4 => v_ = .int .i64 (m : Int) ∧ p_ = [] | 5 => v_ = .int .i64 a ∧ p_ = [] | 6 => v_ = .int .i64 (a + 1) ∧ p_ = [] | 7 => IsRow_o 3 1 ((List.replicate (a + 1).toNat (0 : Int)).length) ((List.replicate (a + 1).toNat (0 : Int)).map (Value.int .i64)) v_ p_ | 8 => v_ = elP (.slice (some ⟨g6, 0, none⟩) ((List.replicate (x.n.cnt).toNat ir0).length) ((List.replicate (x.n.cnt).toNat ir0).length)) (((m : Int)).toNat * 1) ∧ p_ = [] | _ => True) (List.take_append_drop 9 _).symm (by kernel_rfl) (by kernel_rfl) rfl rfl ?_ ?_
   ·
    refine ⟨?_, ?_, ?_, ?_, ?_, ?_, ?_, ?_, ?_, trivial⟩
    ·
     intro vf pf hR
     refine Or.inl ⟨rfl, ?_⟩
     refine rq_less (sx 6 rfl (sub_nil _)) (List.sublist_append_right _ _) ?_
     exact rq_v (rv_ev rfl)
    ·
     intro vf pf hR
     have e0 : (vf 0) = .pointer (some ⟨b7, 0, none⟩) ∧ (pf 0) = [] := hR 0 (by decide)
     refine Or.inl ⟨rfl, ?_⟩
     refine rq_less (sx 36 (congrArg some e0.1) (sub_nil _)) (List.sublist_append_right _ _) ?_
     exact rq_v (rv_nilCheck rfl rfl)
    ·
     intro vf pf hR
     have e1 : (vf 1) = .pointer (some ⟨b7, 0, none⟩) ∧ (pf 1) = [] := hR 1 (by decide)
     refine Or.inl ⟨rfl, ?_⟩
     refine rq_less (sx 37 (congrArg some e1.1) (sub_nil _)) (List.sublist_append_right _ _) ?_
     exact rq_v (rv_field (k0 := 1) rfl (by kernel_rfl) rfl)
    ·
     intro vf pf hR
     have e2 : (vf 2) = .pointer (some ⟨b7, 0 + 1, none⟩) ∧ (pf 2) = [] := hR 2 (by decide)
     refine Or.inl ⟨rfl, ?_⟩
     refine rq_less (sx 38 (congrArg some e2.1) (sub_nil _)) (List.sublist_append_right _ _) ?_
     exact rq_v (rv_load rfl (by kernel_rfl) rfl (box_cell 3 rfl rfl))
    ·
     intro vf pf hR
     refine Or.inl ⟨rfl, ?_⟩
     refine rq_less (sx 7 rfl (sub_nil _)) (List.sublist_append_right _ _) ?_
     exact rq_v (rv_ev rfl)
    ·
     intro vf pf hR
     refine Or.inl ⟨rfl, ?_⟩
     refine rq_less (sx 1 rfl (sub_nil _)) (List.sublist_append_right _ _) ?_
     exact rq_v (rv_ev rfl)
    ·
     intro vf pf hR
     have e5 : (vf 5) = .int .i64 a ∧ (pf 5) = [] := hR 5 (by decide)
     refine Or.inl ⟨rfl, ?_⟩
     refine rq_less (sx 41 (congrArg some e5.1) (sub_nil _)) (List.sublist_append_right _ _) ?_
     exact rq_v (rv_add rfl rfl rfl (by constructor <;> omega))
    ·
     intro vf pf hR
     have e6 : (vf 6) = .int .i64 (a + 1) ∧ (pf 6) = [] := hR 6 (by decide)
     refine Or.inl ⟨rfl, ?_⟩
     refine rq_less (sx 42 (congrArg some e6.1) (sub_nil _)) (List.sublist_append_right _ _) ?_
     exact rq_make (z := .int .i64 0) (s := 1) (bytes := 8) (n := (List.replicate (a + 1).toNat (0 : Int)).length) (cs := ((List.replicate (a + 1).toNat (0 : Int)).map (Value.int .i64))) rfl Try.underlying24 (by kernel_rfl) (by decide) rfl rfl (by first | (rw [List.length_replicate]; done) | (rw [List.length_replicate]; omega)) (by first | (rw [List.length_replicate]; done) | (rw [List.length_replicate]; omega)) (by rw [List.length_replicate]; omega) (ints_make _)
    ·
     intro vf pf hR
     have e3 : (vf 3) = .slice (some ⟨g6, 0, none⟩) ((List.replicate (x.n.cnt).toNat ir0).length) ((List.replicate (x.n.cnt).toNat ir0).length) ∧ (pf 3) = [] := hR 3 (by decide)
     have e4 : (vf 4) = .int .i64 (m : Int) ∧ (pf 4) = [] := hR 4 (by decide)
     refine Or.inl ⟨rfl, ?_⟩
     refine rq_less (sx 39 (congrArg some e3.1) (sx 40 (congrArg some e4.1) (sub_nil _))) (List.sublist_append_right _ _) ?_
     exact rq_v (rv_index (s := 1) rfl Try.underlying27 (by kernel_rfl) rfl rfl (rd_row 2 rfl) (by omega) (by first | omega | (simp only [List.length_set]; omega)))
   ·
    intro vf pf hR
    have e7 : IsRow_o 3 1 ((List.replicate (a + 1).toNat (0 : Int)).length) ((List.replicate (a + 1).toNat (0 : Int)).map (Value.int .i64)) (vf 7) (pf 7) := hR 7 (by decide)
    obtain ⟨g10, v7, p7⟩ := e7
    have e8 : (vf 8) = elP (.slice (some ⟨g6, 0, none⟩) ((List.replicate (x.n.cnt).toNat ir0).length) ((List.replicate (x.n.cnt).toNat ir0).length)) (((m : Int)).toNat * 1) ∧ (pf 8) = [] := hR 8 (by decide)
    have q0 : (vf 0) = .pointer (some ⟨b7, 0, none⟩) ∧ (pf 0) = [] := hR 0 (by decide)
    have q1 : (vf 1) = .pointer (some ⟨b7, 0, none⟩) ∧ (pf 1) = [] := hR 1 (by decide)
    have q2 : (vf 2) = .pointer (some ⟨b7, 0 + 1, none⟩) ∧ (pf 2) = [] := hR 2 (by decide)
    have q3 : (vf 3) = .slice (some ⟨g6, 0, none⟩) ((List.replicate (x.n.cnt).toNat ir0).length) ((List.replicate (x.n.cnt).toNat ir0).length) ∧ (pf 3) = [] := hR 3 (by decide)
    have q4 : (vf 4) = .int .i64 (m : Int) ∧ (pf 4) = [] := hR 4 (by decide)
    have q5 : (vf 5) = .int .i64 a ∧ (pf 5) = [] := hR 5 (by decide)
    have q6 : (vf 6) = .int .i64 (a + 1) ∧ (pf 6) = [] := hR 6 (by decide)
    have q8 : (vf 8) = elP (.slice (some ⟨g6, 0, none⟩) ((List.replicate (x.n.cnt).toNat ir0).length) ((List.replicate (x.n.cnt).toNat ir0).length)) (((m : Int)).toNat * 1) ∧ (pf 8) = [] := hR 8 (by decide)
    refine hl_less (l' := [rowE 3 1 (.slice (some ⟨g10, 0, none⟩) ((List.replicate (a + 1).toNat (0 : Int)).length) ((List.replicate (a + 1).toNat (0 : Int)).length)) ((List.replicate (a + 1).toNat (0 : Int)).length) ((List.replicate (a + 1).toNat (0 : Int)).map (Value.int .i64)), bigE (es.map irPart), rowE 3 1 v3 ((ovX x).length) ((ovX x).map (Value.int .i64)), rowE 24 1 (.slice (some ⟨g6, 0, none⟩) ((List.replicate (x.n.cnt).toNat ir0).length) ((List.replicate (x.n.cnt).toNat ir0).length)) es.length (es.flatMap irC), boxE b7 #[v3, .slice (some ⟨g6, 0, none⟩) ((List.replicate (x.n.cnt).toNat ir0).length) ((List.replicate (x.n.cnt).toNat ir0).length)] 92, boxE b2 #[.int .i64 x.n.ins, x.n.sv, x.n.lv, x.n.ov] 37, boxE b1 #[.int .i64 x.n.ins, x.n.sv, x.n.lv, x.n.ov, x.pv, x.qv, x.kv, x.av, x.bv, .int .i64 x.oi, .int .i64 x.ni] 40]) (sx 0 rfl (sx 1 rfl (sx 2 rfl (sx 4 rfl (sx 5 rfl (sx 6 rfl (sx 7 rfl (sx 32 rfl (sx 33 rfl (sx 34 rfl (sx 43 (congrArg some v7) (sx 44 (congrArg some e8.1) (sub_nil _))))))))))))) (by first | (simp only [p7, v7, q0.2, q1.2, q2.2, q3.2, q4.2, q5.2, q6.2, q8.2, List.flatMap_cons, List.flatMap_nil, List.append_nil, List.nil_append, List.cons_append]; exact List.Sublist.refl _) | simp [p7, v7, q0.2, q1.2, q2.2, q3.2, q4.2, q5.2, q6.2, q8.2]) ?_
    simp only [List.drop_succ_cons, List.drop_zero]
    refine hl_storeEl (i := 3) (n' := (es.set m (IR.mk (.slice (some ⟨g10, 0, none⟩) ((List.replicate (a + 1).toNat (0 : Int)).length) ((List.replicate (a + 1).toNat (0 : Int)).length)) (List.replicate ((a + 1).toNat) (0 : Int)))).length) (xs' := ((es.set m (IR.mk (.slice (some ⟨g10, 0, none⟩) ((List.replicate (a + 1).toNat (0 : Int)).length) ((List.replicate (a + 1).toNat (0 : Int)).length)) (List.replicate ((a + 1).toNat) (0 : Int)))).flatMap irC)) (l' := [rowE 3 1 (.slice (some ⟨g10, 0, none⟩) ((List.replicate (a + 1).toNat (0 : Int)).length) ((List.replicate (a + 1).toNat (0 : Int)).length)) ((List.replicate (a + 1).toNat (0 : Int)).length) ((List.replicate (a + 1).toNat (0 : Int)).map (Value.int .i64)), bigE (es.map irPart), rowE 3 1 v3 ((ovX x).length) ((ovX x).map (Value.int .i64)), rowE 24 1 (.slice (some ⟨g6, 0, none⟩) ((List.replicate (x.n.cnt).toNat ir0).length) ((List.replicate (x.n.cnt).toNat ir0).length)) ((es.set m (IR.mk (.slice (some ⟨g10, 0, none⟩) ((List.replicate (a + 1).toNat (0 : Int)).length) ((List.replicate (a + 1).toNat (0 : Int)).length)) (List.replicate ((a + 1).toNat) (0 : Int)))).length) ((es.set m (IR.mk (.slice (some ⟨g10, 0, none⟩) ((List.replicate (a + 1).toNat (0 : Int)).length) ((List.replicate (a + 1).toNat (0 : Int)).length)) (List.replicate ((a + 1).toNat) (0 : Int)))).flatMap irC), boxE b7 #[v3, .slice (some ⟨g6, 0, none⟩) ((List.replicate (x.n.cnt).toNat ir0).length) ((List.replicate (x.n.cnt).toNat ir0).length)] 92, boxE b2 #[.int .i64 x.n.ins, x.n.sv, x.n.lv, x.n.ov] 37, boxE b1 #[.int .i64 x.n.ins, x.n.sv, x.n.lv, x.n.ov, x.pv, x.qv, x.kv, x.av, x.bv, .int .i64 x.oi, .int .i64 x.ni] 40]) rfl rfl rfl (by kernel_rfl) rfl rfl rfl rfl (by first | omega | (simp only [List.length_set]; omega)) List.length_set.symm (flat_set1 irC (fun r => r.v) (fun _ => rfl) _ (IR.mk (.slice (some ⟨g10, 0, none⟩) ((List.replicate (a + 1).toNat (0 : Int)).length) ((List.replicate (a + 1).toNat (0 : Int)).length)) (List.replicate ((a + 1).toNat) (0 : Int))) rfl) rfl ?_
    refine hl_less (sx 0 rfl (sx 1 rfl (sx 2 rfl (sx 4 rfl (sx 5 rfl (sx 6 rfl (sx 7 rfl (sx 32 rfl (sx 33 rfl (sx 34 rfl (sub_nil _))))))))))) (.refl _) ?_
    refine hl_nil ?_
    refine hq_then ?_
    refine hc_seq ?_
    refine hc_region ?_
    refine hl_v rfl rfl rfl (rv_ev rfl) ?_
    refine hl_less (sx 0 rfl (sx 1 rfl (sx 2 rfl (sx 4 rfl (sx 5 rfl (sx 6 rfl (sx 7 rfl (sx 8 rfl (sx 32 rfl (sx 33 rfl (sx 34 rfl (sub_nil _)))))))))))) (.refl _) ?_
    refine hl_nil ?_
    refine hq_then ?_
    refine hc_block ?_
    refine hc_conv [rowE 3 1 (.slice (some ⟨g10, 0, none⟩) ((List.replicate (a + 1).toNat (0 : Int)).length) ((List.replicate (a + 1).toNat (0 : Int)).length)) ((List.replicate (a + 1).toNat (0 : Int)).length) ((List.replicate (a + 1).toNat (0 : Int)).map (Value.int .i64)), bigE (es.map irPart), rowE 3 1 v3 ((ovX x).length) ((ovX x).map (Value.int .i64)), rowE 24 1 (.slice (some ⟨g6, 0, none⟩) ((List.replicate (x.n.cnt).toNat ir0).length) ((List.replicate (x.n.cnt).toNat ir0).length)) ((es.set m (IR.mk (.slice (some ⟨g10, 0, none⟩) ((List.replicate (a + 1).toNat (0 : Int)).length) ((List.replicate (a + 1).toNat (0 : Int)).length)) (List.replicate ((a + 1).toNat) (0 : Int)))).length) ((es.set m (IR.mk (.slice (some ⟨g10, 0, none⟩) ((List.replicate (a + 1).toNat (0 : Int)).length) ((List.replicate (a + 1).toNat (0 : Int)).length)) (List.replicate ((a + 1).toNat) (0 : Int)))).flatMap irC), boxE b7 #[v3, .slice (some ⟨g6, 0, none⟩) ((List.replicate (x.n.cnt).toNat ir0).length) ((List.replicate (x.n.cnt).toNat ir0).length)] 92, boxE b2 #[.int .i64 x.n.ins, x.n.sv, x.n.lv, x.n.ov] 37, boxE b1 #[.int .i64 x.n.ins, x.n.sv, x.n.lv, x.n.ov, x.pv, x.qv, x.kv, x.av, x.bv, .int .i64 x.oi, .int .i64 x.ni] 40] (conv_pick (src := [rowE 3 1 (.slice (some ⟨g10, 0, none⟩) ((List.replicate (a + 1).toNat (0 : Int)).length) ((List.replicate (a + 1).toNat (0 : Int)).length)) ((List.replicate (a + 1).toNat (0 : Int)).length) ((List.replicate (a + 1).toNat (0 : Int)).map (Value.int .i64)), bigE (es.map irPart), rowE 3 1 v3 ((ovX x).length) ((ovX x).map (Value.int .i64)), rowE 24 1 (.slice (some ⟨g6, 0, none⟩) ((List.replicate (x.n.cnt).toNat ir0).length) ((List.replicate (x.n.cnt).toNat ir0).length)) ((es.set m (IR.mk (.slice (some ⟨g10, 0, none⟩) ((List.replicate (a + 1).toNat (0 : Int)).length) ((List.replicate (a + 1).toNat (0 : Int)).length)) (List.replicate ((a + 1).toNat) (0 : Int)))).length) ((es.set m (IR.mk (.slice (some ⟨g10, 0, none⟩) ((List.replicate (a + 1).toNat (0 : Int)).length) ((List.replicate (a + 1).toNat (0 : Int)).length)) (List.replicate ((a + 1).toNat) (0 : Int)))).flatMap irC), boxE b7 #[v3, .slice (some ⟨g6, 0, none⟩) ((List.replicate (x.n.cnt).toNat ir0).length) ((List.replicate (x.n.cnt).toNat ir0).length)] 92, boxE b2 #[.int .i64 x.n.ins, x.n.sv, x.n.lv, x.n.ov] 37, boxE b1 #[.int .i64 x.n.ins, x.n.sv, x.n.lv, x.n.ov, x.pv, x.qv, x.kv, x.av, x.bv, .int .i64 x.oi, .int .i64 x.ni] 40]) (dst := [rowE 3 1 (.slice (some ⟨g10, 0, none⟩) ((List.replicate (a + 1).toNat (0 : Int)).length) ((List.replicate (a + 1).toNat (0 : Int)).length)) ((List.replicate (a + 1).toNat (0 : Int)).length) ((List.replicate (a + 1).toNat (0 : Int)).map (Value.int .i64)), bigE (es.map irPart), rowE 3 1 v3 ((ovX x).length) ((ovX x).map (Value.int .i64)), rowE 24 1 (.slice (some ⟨g6, 0, none⟩) ((List.replicate (x.n.cnt).toNat ir0).length) ((List.replicate (x.n.cnt).toNat ir0).length)) ((es.set m (IR.mk (.slice (some ⟨g10, 0, none⟩) ((List.replicate (a + 1).toNat (0 : Int)).length) ((List.replicate (a + 1).toNat (0 : Int)).length)) (List.replicate ((a + 1).toNat) (0 : Int)))).length) ((es.set m (IR.mk (.slice (some ⟨g10, 0, none⟩) ((List.replicate (a + 1).toNat (0 : Int)).length) ((List.replicate (a + 1).toNat (0 : Int)).length)) (List.replicate ((a + 1).toNat) (0 : Int)))).flatMap irC), boxE b7 #[v3, .slice (some ⟨g6, 0, none⟩) ((List.replicate (x.n.cnt).toNat ir0).length) ((List.replicate (x.n.cnt).toNat ir0).length)] 92, boxE b2 #[.int .i64 x.n.ins, x.n.sv, x.n.lv, x.n.ov] 37, boxE b1 #[.int .i64 x.n.ins, x.n.sv, x.n.lv, x.n.ov, x.pv, x.qv, x.kv, x.av, x.bv, .int .i64 x.oi, .int .i64 x.ni] 40]) (l := []) [0, 1, 2, 3, 4, 5, 6] (by decide) rfl) ?_
    refine hc_conv [bigE ((es.set m (IR.mk (.slice (some ⟨g10, 0, none⟩) ((List.replicate (a + 1).toNat (0 : Int)).length) ((List.replicate (a + 1).toNat (0 : Int)).length)) (List.replicate ((a + 1).toNat) (0 : Int)))).map irPart), rowE 3 1 v3 ((ovX x).length) ((ovX x).map (Value.int .i64)), rowE 24 1 (.slice (some ⟨g6, 0, none⟩) ((List.replicate (x.n.cnt).toNat ir0).length) ((List.replicate (x.n.cnt).toNat ir0).length)) ((es.set m (IR.mk (.slice (some ⟨g10, 0, none⟩) ((List.replicate (a + 1).toNat (0 : Int)).length) ((List.replicate (a + 1).toNat (0 : Int)).length)) (List.replicate ((a + 1).toNat) (0 : Int)))).length) ((es.set m (IR.mk (.slice (some ⟨g10, 0, none⟩) ((List.replicate (a + 1).toNat (0 : Int)).length) ((List.replicate (a + 1).toNat (0 : Int)).length)) (List.replicate ((a + 1).toNat) (0 : Int)))).flatMap irC), boxE b7 #[v3, .slice (some ⟨g6, 0, none⟩) ((List.replicate (x.n.cnt).toNat ir0).length) ((List.replicate (x.n.cnt).toNat ir0).length)] 92, boxE b2 #[.int .i64 x.n.ins, x.n.sv, x.n.lv, x.n.ov] 37, boxE b1 #[.int .i64 x.n.ins, x.n.sv, x.n.lv, x.n.ov, x.pv, x.qv, x.kv, x.av, x.bv, .int .i64 x.oi, .int .i64 x.ni] 40] (conv_irSet (es := es) (j := m) (e' := (IR.mk (.slice (some ⟨g10, 0, none⟩) ((List.replicate (a + 1).toNat (0 : Int)).length) ((List.replicate (a + 1).toNat (0 : Int)).length)) (List.replicate ((a + 1).toNat) (0 : Int)))) (by omega)) ?_
    refine hc_loop2 (α := Nat) (β := List IR) (fun t e2 => [bigE (e2.map irPart), rowE 3 1 v3 ((ovX x).length) ((ovX x).map (Value.int .i64)), rowE 24 1 (.slice (some ⟨g6, 0, none⟩) ((List.replicate (x.n.cnt).toNat ir0).length) ((List.replicate (x.n.cnt).toNat ir0).length)) e2.length (e2.flatMap irC), boxE b7 #[v3, .slice (some ⟨g6, 0, none⟩) ((List.replicate (x.n.cnt).toNat ir0).length) ((List.replicate (x.n.cnt).toNat ir0).length)] 92, boxE b2 #[.int .i64 x.n.ins, x.n.sv, x.n.lv, x.n.ov] 37, boxE b1 #[.int .i64 x.n.ins, x.n.sv, x.n.lv, x.n.ov, x.pv, x.qv, x.kv, x.av, x.bv, .int .i64 x.oi, .int .i64 x.ni] 40]) (fun t e2 => [(0, .agg #[.int .i64 x.n.ins, x.n.sv, x.n.lv, x.n.ov, x.pv, x.qv, x.kv, x.av, x.bv, .int .i64 x.oi, .int .i64 x.ni]), (1, .int .i64 a), (2, .pointer (some ⟨b1, 0, none⟩)), (4, .pointer none), (5, .pointer (some ⟨b2, 0, none⟩)), (6, .pointer (some ⟨b7, 0, none⟩)), (7, .int .i64 (m : Int)), (8, .int .i64 (t : Int)), (32, .int .i64 ((List.replicate (x.n.cnt).toNat ir0).length : Int)), (33, .int .i64 (m : Int)), (34, .bool true)]) (fun t e2 => t ≤ a.toNat + 1 ∧ WOk x a.toNat m x.n.cnt.toNat e2 ∧ (e2.getD m ir0).xs = fzT (a.toNat + 1) (rowW x (wvsL x a.toNat m) m t)) (fun t e2 => a.toNat + 1 - t) 0 (es.set m (IR.mk (.slice (some ⟨g10, 0, none⟩) ((List.replicate (a + 1).toNat (0 : Int)).length) ((List.replicate (a + 1).toNat (0 : Int)).length)) (List.replicate ((a + 1).toNat) (0 : Int)))) ⟨by omega, hw.set _, by rw [set_selfG (by omega)]; show List.replicate _ _ = _; rw [show (a + 1).toNat = a.toNat + 1 by omega]; exact rowW_zero x _ m _⟩ (sx 0 rfl (sx 1 rfl (sx 2 rfl (sx 4 rfl (sx 5 rfl (sx 6 rfl (sx 7 rfl (sx 8 rfl (sx 32 rfl (sx 33 rfl (sx 34 rfl (sub_nil _)))))))))))) ((.cons_cons _ (.cons_cons _ (.cons_cons _ (.cons_cons _ (.cons_cons _ (.cons_cons _ .slnil))))))) ?_
    intro t e2 hi11
    obtain ⟨ht, hw2, hx2⟩ := hi11
    have hel2 := hw2.len
    have hxl2 : (e2.getD m ir0).xs.length = a.toNat + 1 := by rw [hx2]; exact fzT_lenW _ _ ht
    refine hc_seq ?_
    refine hc_seq ?_
    refine hc_region ?_
    refine hl_v rfl rfl rfl (rv_ev rfl) ?_
    refine hl_v rfl rfl rfl (rv_ev rfl) ?_
    refine hl_leq rfl rfl rfl rfl rfl rfl (fun h12 => ?_) (fun h12 => ?_)
    ·
     refine hl_less (sx 0 rfl (sx 1 rfl (sx 2 rfl (sx 4 rfl (sx 5 rfl (sx 6 rfl (sx 7 rfl (sx 8 rfl (sx 32 rfl (sx 33 rfl (sx 34 rfl (sx 47 rfl (sub_nil _))))))))))))) (.refl _) ?_
     refine hl_nil ?_
     refine hq_then ?_
     refine hc_true rfl ?_
     refine hc_skip ?_
     refine hq_then ?_
     refine hc_seq ?_
     refine hc_block ?_
     refine hc_seq ?_
     refine hc_region ?_
     refine hl_v rfl rfl rfl (rv_ev rfl) ?_
     refine hl_less (sx 0 rfl (sx 1 rfl (sx 2 rfl (sx 4 rfl (sx 5 rfl (sx 6 rfl (sx 7 rfl (sx 8 rfl (sx 9 rfl (sx 32 rfl (sx 33 rfl (sx 34 rfl (sx 47 rfl (sub_nil _)))))))))))))) (.refl _) ?_
     refine hl_nil ?_
     refine hq_then ?_
     refine hc_seq ?_
     refine hc_block ?_
     refine hc_seq ?_
     refine hc_region ?_
     refine hl_v rfl rfl rfl (rv_ev rfl) ?_
     refine hl_eql rfl rfl rfl rfl rfl rfl (fun h13 => ?_) (fun h13 => ?_)
     ·
      refine hl_v rfl rfl rfl (rv_ev rfl) ?_
      refine hl_less (sx 0 rfl (sx 1 rfl (sx 2 rfl (sx 4 rfl (sx 5 rfl (sx 6 rfl (sx 7 rfl (sx 8 rfl (sx 9 rfl (sx 32 rfl (sx 33 rfl (sx 34 rfl (sx 47 rfl (sx 96 rfl (sub_nil _))))))))))))))) (.refl _) ?_
      refine hl_nil ?_
      refine hq_then ?_
      refine hc_true rfl ?_
      refine hc_skip ?_
      refine hq_block_normal ?_
      refine hq_then ?_
      refine hc_region ?_
      refine hl_conv [bigE (e2.map irPart), rowE 3 1 v3 ((ovX x).length) ((ovX x).map (Value.int .i64)), rowE 24 1 (.slice (some ⟨g6, 0, none⟩) ((List.replicate (x.n.cnt).toNat ir0).length) ((List.replicate (x.n.cnt).toNat ir0).length)) e2.length (e2.flatMap irC), boxE b7 #[v3, .slice (some ⟨g6, 0, none⟩) ((List.replicate (x.n.cnt).toNat ir0).length) ((List.replicate (x.n.cnt).toNat ir0).length)] 92, boxE b2 #[.int .i64 x.n.ins, x.n.sv, x.n.lv, x.n.ov] 37, boxE b1 #[.int .i64 x.n.ins, x.n.sv, x.n.lv, x.n.ov, x.pv, x.qv, x.kv, x.av, x.bv, .int .i64 x.oi, .int .i64 x.ni] 40] (conv_pick (src := [bigE (e2.map irPart), rowE 3 1 v3 ((ovX x).length) ((ovX x).map (Value.int .i64)), rowE 24 1 (.slice (some ⟨g6, 0, none⟩) ((List.replicate (x.n.cnt).toNat ir0).length) ((List.replicate (x.n.cnt).toNat ir0).length)) e2.length (e2.flatMap irC), boxE b7 #[v3, .slice (some ⟨g6, 0, none⟩) ((List.replicate (x.n.cnt).toNat ir0).length) ((List.replicate (x.n.cnt).toNat ir0).length)] 92, boxE b2 #[.int .i64 x.n.ins, x.n.sv, x.n.lv, x.n.ov] 37, boxE b1 #[.int .i64 x.n.ins, x.n.sv, x.n.lv, x.n.ov, x.pv, x.qv, x.kv, x.av, x.bv, .int .i64 x.oi, .int .i64 x.ni] 40]) (dst := [bigE (e2.map irPart), rowE 3 1 v3 ((ovX x).length) ((ovX x).map (Value.int .i64)), rowE 24 1 (.slice (some ⟨g6, 0, none⟩) ((List.replicate (x.n.cnt).toNat ir0).length) ((List.replicate (x.n.cnt).toNat ir0).length)) e2.length (e2.flatMap irC), boxE b7 #[v3, .slice (some ⟨g6, 0, none⟩) ((List.replicate (x.n.cnt).toNat ir0).length) ((List.replicate (x.n.cnt).toNat ir0).length)] 92, boxE b2 #[.int .i64 x.n.ins, x.n.sv, x.n.lv, x.n.ov] 37, boxE b1 #[.int .i64 x.n.ins, x.n.sv, x.n.lv, x.n.ov, x.pv, x.qv, x.kv, x.av, x.bv, .int .i64 x.oi, .int .i64 x.ni] 40]) (l := []) [0, 1, 2, 3, 4, 5] (by decide) rfl) ?_
      refine hl_conv [rowE 3 1 ((e2.getD m ir0).v) (((e2.getD m ir0).xs).length) (((e2.getD m ir0).xs).map (Value.int .i64)), bigE ((e2.map irPart).eraseIdx m), rowE 3 1 v3 ((ovX x).length) ((ovX x).map (Value.int .i64)), rowE 24 1 (.slice (some ⟨g6, 0, none⟩) ((List.replicate (x.n.cnt).toNat ir0).length) ((List.replicate (x.n.cnt).toNat ir0).length)) e2.length (e2.flatMap irC), boxE b7 #[v3, .slice (some ⟨g6, 0, none⟩) ((List.replicate (x.n.cnt).toNat ir0).length) ((List.replicate (x.n.cnt).toNat ir0).length)] 92, boxE b2 #[.int .i64 x.n.ins, x.n.sv, x.n.lv, x.n.ov] 37, boxE b1 #[.int .i64 x.n.ins, x.n.sv, x.n.lv, x.n.ov, x.pv, x.qv, x.kv, x.av, x.bv, .int .i64 x.oi, .int .i64 x.ni] 40] (conv_irFocus (es := e2) (j := m) (by omega)) ?_
      refine hl_v rfl rfl rfl (rv_ev rfl) ?_
      refine hl_v rfl rfl rfl (rv_nilCheck rfl rfl) ?_
      refine hl_v rfl rfl rfl (rv_field (k0 := 1) rfl (by kernel_rfl) rfl) ?_
      refine hl_v rfl rfl rfl (rv_load rfl (by kernel_rfl) rfl (box_cell 4 rfl rfl)) ?_
      refine hl_v rfl rfl rfl (rv_ev rfl) ?_
      refine hl_v rfl rfl rfl (rv_index (s := 1) rfl Try.underlying27 (by kernel_rfl) rfl rfl (rd_row 3 rfl) (by omega) (by first | omega | (simp only [List.length_set]; omega))) ?_
      refine hl_v rfl rfl rfl (rv_loadEl (u := (e2.getD m ir0).v) rfl (by kernel_rfl) rfl (rd_row 3 rfl) (flat_one irC (fun r => r.v) (fun _ => rfl) e2 ir0 (show m < _ by first | omega | (simp only [List.length_set]; omega)))) ?_
      refine hl_v rfl rfl rfl (rv_ev rfl) ?_
      refine hl_v rfl rfl rfl (rv_ev rfl) ?_
      refine hl_v rfl rfl rfl (rv_index (s := 1) rfl Try.underlying24 (by kernel_rfl) rfl rfl (rd_row 0 rfl) (by omega) (by first | omega | (simp only [List.length_set]; omega))) ?_
      refine hl_storeEl (i := 0) (n' := (((e2.getD m ir0).xs).set t 0).length) (xs' := ((((e2.getD m ir0).xs).set t 0).map (Value.int .i64))) (l' := [rowE 3 1 ((e2.getD m ir0).v) ((((e2.getD m ir0).xs).set t 0).length) ((((e2.getD m ir0).xs).set t 0).map (Value.int .i64)), bigE ((e2.map irPart).eraseIdx m), rowE 3 1 v3 ((ovX x).length) ((ovX x).map (Value.int .i64)), rowE 24 1 (.slice (some ⟨g6, 0, none⟩) ((List.replicate (x.n.cnt).toNat ir0).length) ((List.replicate (x.n.cnt).toNat ir0).length)) e2.length (e2.flatMap irC), boxE b7 #[v3, .slice (some ⟨g6, 0, none⟩) ((List.replicate (x.n.cnt).toNat ir0).length) ((List.replicate (x.n.cnt).toNat ir0).length)] 92, boxE b2 #[.int .i64 x.n.ins, x.n.sv, x.n.lv, x.n.ov] 37, boxE b1 #[.int .i64 x.n.ins, x.n.sv, x.n.lv, x.n.ov, x.pv, x.qv, x.kv, x.av, x.bv, .int .i64 x.oi, .int .i64 x.ni] 40]) rfl rfl rfl (by kernel_rfl) rfl rfl rfl rfl (by first | omega | (simp only [List.length_set]; omega)) List.length_set.symm (ints_set _ _ _) rfl ?_
      refine hl_less (sx 0 rfl (sx 1 rfl (sx 2 rfl (sx 4 rfl (sx 5 rfl (sx 6 rfl (sx 7 rfl (sx 8 rfl (sx 9 rfl (sx 32 rfl (sx 33 rfl (sx 34 rfl (sx 47 rfl (sx 96 rfl (sub_nil _))))))))))))))) (.refl _) ?_
      refine hl_nil ?_
      refine hq_block_normal ?_
      refine hq_then ?_
      refine hc_region ?_
      refine hl_v rfl rfl rfl (rv_ev rfl) ?_
      refine hl_v rfl rfl rfl (rv_add rfl rfl rfl (by constructor <;> omega)) ?_
      refine hl_v rfl rfl rfl (rv_ev rfl) ?_
      refine hl_less (sx 0 rfl (sx 1 rfl (sx 2 rfl (sx 4 rfl (sx 5 rfl (sx 6 rfl (sx 7 rfl (sx 8 rfl (sx 9 rfl (sx 32 rfl (sx 33 rfl (sx 34 rfl (sx 47 rfl (sx 96 rfl (sub_nil _))))))))))))))) (.refl _) ?_
      refine hl_nil ?_
      have hv9 : 0 = wvV x (wvsL x a.toNat m) m (t : Int) := by rw [show m = 0 by omega]; exact (wv_zero x _ _ hi0).symm
      refine hq_conv [rowE 3 1 ((e2.getD m ir0).v) ((((e2.getD m ir0).xs).set t 0).length) ((((e2.getD m ir0).xs).set t 0).map (Value.int .i64)), bigE ((e2.map irPart).eraseIdx m), rowE 3 1 v3 ((ovX x).length) ((ovX x).map (Value.int .i64)), rowE 24 1 (.slice (some ⟨g6, 0, none⟩) ((List.replicate (x.n.cnt).toNat ir0).length) ((List.replicate (x.n.cnt).toNat ir0).length)) e2.length (e2.flatMap irC), boxE b7 #[v3, .slice (some ⟨g6, 0, none⟩) ((List.replicate (x.n.cnt).toNat ir0).length) ((List.replicate (x.n.cnt).toNat ir0).length)] 92, boxE b2 #[.int .i64 x.n.ins, x.n.sv, x.n.lv, x.n.ov] 37, boxE b1 #[.int .i64 x.n.ins, x.n.sv, x.n.lv, x.n.ov, x.pv, x.qv, x.kv, x.av, x.bv, .int .i64 x.oi, .int .i64 x.ni] 40] (conv_pick (src := [rowE 3 1 ((e2.getD m ir0).v) ((((e2.getD m ir0).xs).set t 0).length) ((((e2.getD m ir0).xs).set t 0).map (Value.int .i64)), bigE ((e2.map irPart).eraseIdx m), rowE 3 1 v3 ((ovX x).length) ((ovX x).map (Value.int .i64)), rowE 24 1 (.slice (some ⟨g6, 0, none⟩) ((List.replicate (x.n.cnt).toNat ir0).length) ((List.replicate (x.n.cnt).toNat ir0).length)) e2.length (e2.flatMap irC), boxE b7 #[v3, .slice (some ⟨g6, 0, none⟩) ((List.replicate (x.n.cnt).toNat ir0).length) ((List.replicate (x.n.cnt).toNat ir0).length)] 92, boxE b2 #[.int .i64 x.n.ins, x.n.sv, x.n.lv, x.n.ov] 37, boxE b1 #[.int .i64 x.n.ins, x.n.sv, x.n.lv, x.n.ov, x.pv, x.qv, x.kv, x.av, x.bv, .int .i64 x.oi, .int .i64 x.ni] 40]) (dst := [rowE 3 1 ((e2.getD m ir0).v) ((((e2.getD m ir0).xs).set t 0).length) ((((e2.getD m ir0).xs).set t 0).map (Value.int .i64)), bigE ((e2.map irPart).eraseIdx m), rowE 3 1 v3 ((ovX x).length) ((ovX x).map (Value.int .i64)), rowE 24 1 (.slice (some ⟨g6, 0, none⟩) ((List.replicate (x.n.cnt).toNat ir0).length) ((List.replicate (x.n.cnt).toNat ir0).length)) e2.length (e2.flatMap irC), boxE b7 #[v3, .slice (some ⟨g6, 0, none⟩) ((List.replicate (x.n.cnt).toNat ir0).length) ((List.replicate (x.n.cnt).toNat ir0).length)] 92, boxE b2 #[.int .i64 x.n.ins, x.n.sv, x.n.lv, x.n.ov] 37, boxE b1 #[.int .i64 x.n.ins, x.n.sv, x.n.lv, x.n.ov, x.pv, x.qv, x.kv, x.av, x.bv, .int .i64 x.oi, .int .i64 x.ni] 40]) (l := []) [0, 1, 2, 3, 4, 5, 6] (by decide) rfl) ?_
      refine hq_conv [bigE ((e2.set m (IR.mk (e2.getD m ir0).v (((e2.getD m ir0).xs).set t 0))).map irPart), rowE 3 1 v3 ((ovX x).length) ((ovX x).map (Value.int .i64)), rowE 24 1 (.slice (some ⟨g6, 0, none⟩) ((List.replicate (x.n.cnt).toNat ir0).length) ((List.replicate (x.n.cnt).toNat ir0).length)) ((e2.set m (IR.mk (e2.getD m ir0).v (((e2.getD m ir0).xs).set t 0))).length) ((e2.set m (IR.mk (e2.getD m ir0).v (((e2.getD m ir0).xs).set t 0))).flatMap irC), boxE b7 #[v3, .slice (some ⟨g6, 0, none⟩) ((List.replicate (x.n.cnt).toNat ir0).length) ((List.replicate (x.n.cnt).toNat ir0).length)] 92, boxE b2 #[.int .i64 x.n.ins, x.n.sv, x.n.lv, x.n.ov] 37, boxE b1 #[.int .i64 x.n.ins, x.n.sv, x.n.lv, x.n.ov, x.pv, x.qv, x.kv, x.av, x.bv, .int .i64 x.oi, .int .i64 x.ni] 40] (fun w hm => by
        have h8 := conv_irUnfocus (es := e2) (j := m) (e' := IR.mk (e2.getD m ir0).v (((e2.getD m ir0).xs).set t 0)) (by omega) w hm
        have h7 : (e2.set m (IR.mk (e2.getD m ir0).v (((e2.getD m ir0).xs).set t 0))).flatMap irC = e2.flatMap irC := flat_same
        rw [h7, List.length_set]; exact h8) ?_
      exact hq_round2 (t + 1) (e2.set m (IR.mk (e2.getD m ir0).v (((e2.getD m ir0).xs).set t 0))) ⟨by omega, hw2.set _, by rw [set_selfG (by omega)]; show ((e2.getD m ir0).xs).set t 0 = _; rw [hx2]; exact rowW_set (by omega) hv9⟩ (by omega) (sx 0 rfl (sx 1 rfl (sx 2 rfl (sx 4 rfl (sx 5 rfl (sx 6 rfl (sx 7 rfl (sx 8 rfl (sx 32 rfl (sx 33 rfl (sx 34 rfl (sub_nil _)))))))))))) ((.cons_cons _ (.cons_cons _ (.cons_cons _ (.cons_cons _ (.cons_cons _ (.cons_cons _ .slnil)))))))
     ·
      refine hl_v rfl rfl rfl (rv_ev rfl) ?_
      refine hl_less (sx 0 rfl (sx 1 rfl (sx 2 rfl (sx 4 rfl (sx 5 rfl (sx 6 rfl (sx 7 rfl (sx 8 rfl (sx 9 rfl (sx 32 rfl (sx 33 rfl (sx 34 rfl (sx 47 rfl (sx 96 rfl (sub_nil _))))))))))))))) (.refl _) ?_
      refine hl_nil ?_
      refine hq_then ?_
      refine hc_false rfl ?_
      refine hc_seq ?_
      refine hc_region ?_
      refine hl_v rfl rfl rfl (rv_ev rfl) ?_
      refine hl_v rfl rfl rfl (rv_field (k0 := 0) rfl (by kernel_rfl) rfl) ?_
      refine hl_v rfl rfl rfl (rv_load rfl (by kernel_rfl) rfl (box_cell 4 rfl rfl)) ?_
      refine hl_leq rfl rfl rfl rfl rfl rfl (fun h14 => ?_) (fun h14 => ?_)
      ·
       refine hl_v rfl rfl rfl (rv_ev rfl) ?_
       refine hl_less (sx 0 rfl (sx 1 rfl (sx 2 rfl (sx 4 rfl (sx 5 rfl (sx 6 rfl (sx 7 rfl (sx 8 rfl (sx 9 rfl (sx 32 rfl (sx 33 rfl (sx 34 rfl (sx 47 rfl (sx 96 rfl (sx 99 rfl (sub_nil _)))))))))))))))) (.refl _) ?_
       refine hl_nil ?_
       refine hq_then ?_
       refine hc_true rfl ?_
       refine hc_region ?_
       refine hl_v rfl rfl rfl (rv_field (k0 := 10) rfl (by kernel_rfl) rfl) ?_
       refine hl_v rfl rfl rfl (rv_load rfl (by kernel_rfl) rfl (box_cell 5 rfl rfl)) ?_
       refine hl_v rfl rfl rfl (rv_ev rfl) ?_
       refine hl_v rfl rfl rfl (rv_sub rfl rfl rfl (by constructor <;> omega)) ?_
       refine hl_v rfl rfl rfl (rv_conv rfl Try.underlying3 Try.underlying112 rfl (IntWalk.u64_in _ (by omega))) ?_
       refine hl_v rfl rfl rfl (rv_shr rfl rfl rfl (by omega)) ?_
       refine hl_v rfl rfl rfl (rv_bits rfl (by decide) rfl rfl (r := (x.ni / 2 ^ ((m : Int) - 1 : Int).toNat) % 2) (andOne _)) ?_
       refine hl_v rfl rfl rfl (rv_ev rfl) ?_
       refine hl_less (sx 0 rfl (sx 1 rfl (sx 2 rfl (sx 4 rfl (sx 5 rfl (sx 6 rfl (sx 7 rfl (sx 8 rfl (sx 9 rfl (sx 32 rfl (sx 33 rfl (sx 34 rfl (sx 47 rfl (sx 96 rfl (sx 99 rfl (sub_nil _)))))))))))))))) (.refl _) ?_
       refine hl_nil ?_
       refine hq_block_normal ?_
       refine hq_then ?_
       refine hc_region ?_
       refine hl_conv [bigE (e2.map irPart), rowE 3 1 v3 ((ovX x).length) ((ovX x).map (Value.int .i64)), rowE 24 1 (.slice (some ⟨g6, 0, none⟩) ((List.replicate (x.n.cnt).toNat ir0).length) ((List.replicate (x.n.cnt).toNat ir0).length)) e2.length (e2.flatMap irC), boxE b7 #[v3, .slice (some ⟨g6, 0, none⟩) ((List.replicate (x.n.cnt).toNat ir0).length) ((List.replicate (x.n.cnt).toNat ir0).length)] 92, boxE b2 #[.int .i64 x.n.ins, x.n.sv, x.n.lv, x.n.ov] 37, boxE b1 #[.int .i64 x.n.ins, x.n.sv, x.n.lv, x.n.ov, x.pv, x.qv, x.kv, x.av, x.bv, .int .i64 x.oi, .int .i64 x.ni] 40] (conv_pick (src := [bigE (e2.map irPart), rowE 3 1 v3 ((ovX x).length) ((ovX x).map (Value.int .i64)), rowE 24 1 (.slice (some ⟨g6, 0, none⟩) ((List.replicate (x.n.cnt).toNat ir0).length) ((List.replicate (x.n.cnt).toNat ir0).length)) e2.length (e2.flatMap irC), boxE b7 #[v3, .slice (some ⟨g6, 0, none⟩) ((List.replicate (x.n.cnt).toNat ir0).length) ((List.replicate (x.n.cnt).toNat ir0).length)] 92, boxE b2 #[.int .i64 x.n.ins, x.n.sv, x.n.lv, x.n.ov] 37, boxE b1 #[.int .i64 x.n.ins, x.n.sv, x.n.lv, x.n.ov, x.pv, x.qv, x.kv, x.av, x.bv, .int .i64 x.oi, .int .i64 x.ni] 40]) (dst := [bigE (e2.map irPart), rowE 3 1 v3 ((ovX x).length) ((ovX x).map (Value.int .i64)), rowE 24 1 (.slice (some ⟨g6, 0, none⟩) ((List.replicate (x.n.cnt).toNat ir0).length) ((List.replicate (x.n.cnt).toNat ir0).length)) e2.length (e2.flatMap irC), boxE b7 #[v3, .slice (some ⟨g6, 0, none⟩) ((List.replicate (x.n.cnt).toNat ir0).length) ((List.replicate (x.n.cnt).toNat ir0).length)] 92, boxE b2 #[.int .i64 x.n.ins, x.n.sv, x.n.lv, x.n.ov] 37, boxE b1 #[.int .i64 x.n.ins, x.n.sv, x.n.lv, x.n.ov, x.pv, x.qv, x.kv, x.av, x.bv, .int .i64 x.oi, .int .i64 x.ni] 40]) (l := []) [0, 1, 2, 3, 4, 5] (by decide) rfl) ?_
       refine hl_conv [rowE 3 1 ((e2.getD m ir0).v) (((e2.getD m ir0).xs).length) (((e2.getD m ir0).xs).map (Value.int .i64)), bigE ((e2.map irPart).eraseIdx m), rowE 3 1 v3 ((ovX x).length) ((ovX x).map (Value.int .i64)), rowE 24 1 (.slice (some ⟨g6, 0, none⟩) ((List.replicate (x.n.cnt).toNat ir0).length) ((List.replicate (x.n.cnt).toNat ir0).length)) e2.length (e2.flatMap irC), boxE b7 #[v3, .slice (some ⟨g6, 0, none⟩) ((List.replicate (x.n.cnt).toNat ir0).length) ((List.replicate (x.n.cnt).toNat ir0).length)] 92, boxE b2 #[.int .i64 x.n.ins, x.n.sv, x.n.lv, x.n.ov] 37, boxE b1 #[.int .i64 x.n.ins, x.n.sv, x.n.lv, x.n.ov, x.pv, x.qv, x.kv, x.av, x.bv, .int .i64 x.oi, .int .i64 x.ni] 40] (conv_irFocus (es := e2) (j := m) (by omega)) ?_
       refine hl_v rfl rfl rfl (rv_ev rfl) ?_
       refine hl_v rfl rfl rfl (rv_nilCheck rfl rfl) ?_
       refine hl_v rfl rfl rfl (rv_field (k0 := 1) rfl (by kernel_rfl) rfl) ?_
       refine hl_v rfl rfl rfl (rv_load rfl (by kernel_rfl) rfl (box_cell 4 rfl rfl)) ?_
       refine hl_v rfl rfl rfl (rv_ev rfl) ?_
       refine hl_v rfl rfl rfl (rv_index (s := 1) rfl Try.underlying27 (by kernel_rfl) rfl rfl (rd_row 3 rfl) (by omega) (by first | omega | (simp only [List.length_set]; omega))) ?_
       refine hl_v rfl rfl rfl (rv_loadEl (u := (e2.getD m ir0).v) rfl (by kernel_rfl) rfl (rd_row 3 rfl) (flat_one irC (fun r => r.v) (fun _ => rfl) e2 ir0 (show m < _ by first | omega | (simp only [List.length_set]; omega)))) ?_
       refine hl_v rfl rfl rfl (rv_ev rfl) ?_
       refine hl_v rfl rfl rfl (rv_ev rfl) ?_
       refine hl_v rfl rfl rfl (rv_index (s := 1) rfl Try.underlying24 (by kernel_rfl) rfl rfl (rd_row 0 rfl) (by omega) (by first | omega | (simp only [List.length_set]; omega))) ?_
       refine hl_storeEl (i := 0) (n' := (((e2.getD m ir0).xs).set t ((x.ni / 2 ^ ((m : Int) - 1 : Int).toNat) % 2)).length) (xs' := ((((e2.getD m ir0).xs).set t ((x.ni / 2 ^ ((m : Int) - 1 : Int).toNat) % 2)).map (Value.int .i64))) (l' := [rowE 3 1 ((e2.getD m ir0).v) ((((e2.getD m ir0).xs).set t ((x.ni / 2 ^ ((m : Int) - 1 : Int).toNat) % 2)).length) ((((e2.getD m ir0).xs).set t ((x.ni / 2 ^ ((m : Int) - 1 : Int).toNat) % 2)).map (Value.int .i64)), bigE ((e2.map irPart).eraseIdx m), rowE 3 1 v3 ((ovX x).length) ((ovX x).map (Value.int .i64)), rowE 24 1 (.slice (some ⟨g6, 0, none⟩) ((List.replicate (x.n.cnt).toNat ir0).length) ((List.replicate (x.n.cnt).toNat ir0).length)) e2.length (e2.flatMap irC), boxE b7 #[v3, .slice (some ⟨g6, 0, none⟩) ((List.replicate (x.n.cnt).toNat ir0).length) ((List.replicate (x.n.cnt).toNat ir0).length)] 92, boxE b2 #[.int .i64 x.n.ins, x.n.sv, x.n.lv, x.n.ov] 37, boxE b1 #[.int .i64 x.n.ins, x.n.sv, x.n.lv, x.n.ov, x.pv, x.qv, x.kv, x.av, x.bv, .int .i64 x.oi, .int .i64 x.ni] 40]) rfl rfl rfl (by kernel_rfl) rfl rfl rfl rfl (by first | omega | (simp only [List.length_set]; omega)) List.length_set.symm (ints_set _ _ _) rfl ?_
       refine hl_less (sx 0 rfl (sx 1 rfl (sx 2 rfl (sx 4 rfl (sx 5 rfl (sx 6 rfl (sx 7 rfl (sx 8 rfl (sx 9 rfl (sx 32 rfl (sx 33 rfl (sx 34 rfl (sx 47 rfl (sx 96 rfl (sx 99 rfl (sub_nil _)))))))))))))))) (.refl _) ?_
       refine hl_nil ?_
       refine hq_block_normal ?_
       refine hq_then ?_
       refine hc_region ?_
       refine hl_v rfl rfl rfl (rv_ev rfl) ?_
       refine hl_v rfl rfl rfl (rv_add rfl rfl rfl (by constructor <;> omega)) ?_
       refine hl_v rfl rfl rfl (rv_ev rfl) ?_
       refine hl_less (sx 0 rfl (sx 1 rfl (sx 2 rfl (sx 4 rfl (sx 5 rfl (sx 6 rfl (sx 7 rfl (sx 8 rfl (sx 9 rfl (sx 32 rfl (sx 33 rfl (sx 34 rfl (sx 47 rfl (sx 96 rfl (sx 99 rfl (sub_nil _)))))))))))))))) (.refl _) ?_
       refine hl_nil ?_
       have hv9 : (x.ni / 2 ^ ((m : Int) - 1 : Int).toNat) % 2 = wvV x (wvsL x a.toNat m) m (t : Int) := (wv_in x _ _ (by omega) (by omega)).symm
       refine hq_conv [rowE 3 1 ((e2.getD m ir0).v) ((((e2.getD m ir0).xs).set t ((x.ni / 2 ^ ((m : Int) - 1 : Int).toNat) % 2)).length) ((((e2.getD m ir0).xs).set t ((x.ni / 2 ^ ((m : Int) - 1 : Int).toNat) % 2)).map (Value.int .i64)), bigE ((e2.map irPart).eraseIdx m), rowE 3 1 v3 ((ovX x).length) ((ovX x).map (Value.int .i64)), rowE 24 1 (.slice (some ⟨g6, 0, none⟩) ((List.replicate (x.n.cnt).toNat ir0).length) ((List.replicate (x.n.cnt).toNat ir0).length)) e2.length (e2.flatMap irC), boxE b7 #[v3, .slice (some ⟨g6, 0, none⟩) ((List.replicate (x.n.cnt).toNat ir0).length) ((List.replicate (x.n.cnt).toNat ir0).length)] 92, boxE b2 #[.int .i64 x.n.ins, x.n.sv, x.n.lv, x.n.ov] 37, boxE b1 #[.int .i64 x.n.ins, x.n.sv, x.n.lv, x.n.ov, x.pv, x.qv, x.kv, x.av, x.bv, .int .i64 x.oi, .int .i64 x.ni] 40] (conv_pick (src := [rowE 3 1 ((e2.getD m ir0).v) ((((e2.getD m ir0).xs).set t ((x.ni / 2 ^ ((m : Int) - 1 : Int).toNat) % 2)).length) ((((e2.getD m ir0).xs).set t ((x.ni / 2 ^ ((m : Int) - 1 : Int).toNat) % 2)).map (Value.int .i64)), bigE ((e2.map irPart).eraseIdx m), rowE 3 1 v3 ((ovX x).length) ((ovX x).map (Value.int .i64)), rowE 24 1 (.slice (some ⟨g6, 0, none⟩) ((List.replicate (x.n.cnt).toNat ir0).length) ((List.replicate (x.n.cnt).toNat ir0).length)) e2.length (e2.flatMap irC), boxE b7 #[v3, .slice (some ⟨g6, 0, none⟩) ((List.replicate (x.n.cnt).toNat ir0).length) ((List.replicate (x.n.cnt).toNat ir0).length)] 92, boxE b2 #[.int .i64 x.n.ins, x.n.sv, x.n.lv, x.n.ov] 37, boxE b1 #[.int .i64 x.n.ins, x.n.sv, x.n.lv, x.n.ov, x.pv, x.qv, x.kv, x.av, x.bv, .int .i64 x.oi, .int .i64 x.ni] 40]) (dst := [rowE 3 1 ((e2.getD m ir0).v) ((((e2.getD m ir0).xs).set t ((x.ni / 2 ^ ((m : Int) - 1 : Int).toNat) % 2)).length) ((((e2.getD m ir0).xs).set t ((x.ni / 2 ^ ((m : Int) - 1 : Int).toNat) % 2)).map (Value.int .i64)), bigE ((e2.map irPart).eraseIdx m), rowE 3 1 v3 ((ovX x).length) ((ovX x).map (Value.int .i64)), rowE 24 1 (.slice (some ⟨g6, 0, none⟩) ((List.replicate (x.n.cnt).toNat ir0).length) ((List.replicate (x.n.cnt).toNat ir0).length)) e2.length (e2.flatMap irC), boxE b7 #[v3, .slice (some ⟨g6, 0, none⟩) ((List.replicate (x.n.cnt).toNat ir0).length) ((List.replicate (x.n.cnt).toNat ir0).length)] 92, boxE b2 #[.int .i64 x.n.ins, x.n.sv, x.n.lv, x.n.ov] 37, boxE b1 #[.int .i64 x.n.ins, x.n.sv, x.n.lv, x.n.ov, x.pv, x.qv, x.kv, x.av, x.bv, .int .i64 x.oi, .int .i64 x.ni] 40]) (l := []) [0, 1, 2, 3, 4, 5, 6] (by decide) rfl) ?_
       refine hq_conv [bigE ((e2.set m (IR.mk (e2.getD m ir0).v (((e2.getD m ir0).xs).set t ((x.ni / 2 ^ ((m : Int) - 1 : Int).toNat) % 2)))).map irPart), rowE 3 1 v3 ((ovX x).length) ((ovX x).map (Value.int .i64)), rowE 24 1 (.slice (some ⟨g6, 0, none⟩) ((List.replicate (x.n.cnt).toNat ir0).length) ((List.replicate (x.n.cnt).toNat ir0).length)) ((e2.set m (IR.mk (e2.getD m ir0).v (((e2.getD m ir0).xs).set t ((x.ni / 2 ^ ((m : Int) - 1 : Int).toNat) % 2)))).length) ((e2.set m (IR.mk (e2.getD m ir0).v (((e2.getD m ir0).xs).set t ((x.ni / 2 ^ ((m : Int) - 1 : Int).toNat) % 2)))).flatMap irC), boxE b7 #[v3, .slice (some ⟨g6, 0, none⟩) ((List.replicate (x.n.cnt).toNat ir0).length) ((List.replicate (x.n.cnt).toNat ir0).length)] 92, boxE b2 #[.int .i64 x.n.ins, x.n.sv, x.n.lv, x.n.ov] 37, boxE b1 #[.int .i64 x.n.ins, x.n.sv, x.n.lv, x.n.ov, x.pv, x.qv, x.kv, x.av, x.bv, .int .i64 x.oi, .int .i64 x.ni] 40] (fun w hm => by
         have h8 := conv_irUnfocus (es := e2) (j := m) (e' := IR.mk (e2.getD m ir0).v (((e2.getD m ir0).xs).set t ((x.ni / 2 ^ ((m : Int) - 1 : Int).toNat) % 2))) (by omega) w hm
         have h7 : (e2.set m (IR.mk (e2.getD m ir0).v (((e2.getD m ir0).xs).set t ((x.ni / 2 ^ ((m : Int) - 1 : Int).toNat) % 2)))).flatMap irC = e2.flatMap irC := flat_same
         rw [h7, List.length_set]; exact h8) ?_
       exact hq_round2 (t + 1) (e2.set m (IR.mk (e2.getD m ir0).v (((e2.getD m ir0).xs).set t ((x.ni / 2 ^ ((m : Int) - 1 : Int).toNat) % 2)))) ⟨by omega, hw2.set _, by rw [set_selfG (by omega)]; show ((e2.getD m ir0).xs).set t ((x.ni / 2 ^ ((m : Int) - 1 : Int).toNat) % 2) = _; rw [hx2]; exact rowW_set (by omega) hv9⟩ (by omega) (sx 0 rfl (sx 1 rfl (sx 2 rfl (sx 4 rfl (sx 5 rfl (sx 6 rfl (sx 7 rfl (sx 8 rfl (sx 32 rfl (sx 33 rfl (sx 34 rfl (sub_nil _)))))))))))) ((.cons_cons _ (.cons_cons _ (.cons_cons _ (.cons_cons _ (.cons_cons _ (.cons_cons _ .slnil)))))))
      ·
       refine hl_v rfl rfl rfl (rv_ev rfl) ?_
       refine hl_less (sx 0 rfl (sx 1 rfl (sx 2 rfl (sx 4 rfl (sx 5 rfl (sx 6 rfl (sx 7 rfl (sx 8 rfl (sx 9 rfl (sx 32 rfl (sx 33 rfl (sx 34 rfl (sx 47 rfl (sx 96 rfl (sx 99 rfl (sub_nil _)))))))))))))))) (.refl _) ?_
       refine hl_nil ?_
       refine hq_then ?_
       refine hc_false rfl ?_
       refine hc_seq ?_
       refine hc_region ?_
       refine hl_v rfl rfl rfl (rv_ev rfl) ?_
       refine hl_v rfl rfl rfl (rv_loadN (cs := [.int .i64 x.n.ins, x.n.sv, x.n.lv, x.n.ov]) rfl (by kernel_rfl) (by kernel_rfl) rfl rfl (box_part 4 rfl 0 rfl)) ?_
       refine hl_callV rfl rfl rfl (rq_call (by kernel_rfl) rfl (fun w hm => ret_ans (firstLut_ans x.n w (hr.n.below hm.bel) hok.n.sz))) ?_
       refine hl_lss rfl rfl rfl rfl rfl rfl (fun h15 => ?_) (fun h15 => ?_)
       ·
        refine hl_v rfl rfl rfl (rv_ev rfl) ?_
        refine hl_less (sx 0 rfl (sx 1 rfl (sx 2 rfl (sx 4 rfl (sx 5 rfl (sx 6 rfl (sx 7 rfl (sx 8 rfl (sx 9 rfl (sx 32 rfl (sx 33 rfl (sx 34 rfl (sx 47 rfl (sx 96 rfl (sx 99 rfl (sx 111 rfl (sub_nil _))))))))))))))))) (.refl _) ?_
        refine hl_nil ?_
        refine hq_then ?_
        refine hc_true rfl ?_
        refine hc_seq ?_
        refine hc_region ?_
        refine hl_v rfl rfl rfl (rv_ev rfl) ?_
        refine hl_v rfl rfl rfl (rv_sub rfl rfl rfl (by constructor <;> omega)) ?_
        refine hl_v rfl rfl rfl (rv_field (k0 := 0) rfl (by kernel_rfl) rfl) ?_
        refine hl_v rfl rfl rfl (rv_load rfl (by kernel_rfl) rfl (box_cell 4 rfl rfl)) ?_
        refine hl_v rfl rfl rfl (rv_sub rfl rfl rfl (by constructor <;> omega)) ?_
        refine hl_v rfl rfl rfl (rv_ev rfl) ?_
        refine hl_less (sx 0 rfl (sx 1 rfl (sx 2 rfl (sx 4 rfl (sx 5 rfl (sx 6 rfl (sx 7 rfl (sx 8 rfl (sx 9 rfl (sx 10 rfl (sx 32 rfl (sx 33 rfl (sx 34 rfl (sx 47 rfl (sx 96 rfl (sx 99 rfl (sx 111 rfl (sub_nil _)))))))))))))))))) (.refl _) ?_
        refine hl_nil ?_
        refine hq_then ?_
        refine hc_seq ?_
        refine hc_region ?_
        refine hl_v rfl rfl rfl (rv_field (k0 := 7) rfl (by kernel_rfl) rfl) ?_
        refine hl_v rfl rfl rfl (rv_load rfl (by kernel_rfl) rfl (box_cell 5 rfl rfl)) ?_
        refine hl_v rfl rfl rfl (rv_ev rfl) ?_
        refine hl_v rfl rfl rfl (rv_index (s := 1) rfl Try.underlying24 (by kernel_rfl) rfl rfl (rd_old ((hr).ao)) (by omega) (by first | omega | (simp only [List.length_set]; omega))) ?_
        refine hl_v rfl rfl rfl (rv_loadEl (u := .int .i64 (x.ao.getD ((((m : Int) - 1) - x.n.ins).toNat) 0)) rfl (by kernel_rfl) rfl (rd_old ((hr).ao)) (ints_at1 (show _ < x.ao.length by first | omega | (simp only [List.length_set]; omega)))) ?_
        refine hl_v rfl rfl rfl (rv_bits rfl (by decide) rfl rfl (r := (x.ao.getD ((((m : Int) - 1) - x.n.ins).toNat) 0) % 2) (andOne _)) ?_
        refine hl_v rfl rfl rfl (rv_ev rfl) ?_
        refine hl_less (sx 0 rfl (sx 1 rfl (sx 2 rfl (sx 4 rfl (sx 5 rfl (sx 6 rfl (sx 7 rfl (sx 8 rfl (sx 9 rfl (sx 10 rfl (sx 32 rfl (sx 33 rfl (sx 34 rfl (sx 47 rfl (sx 96 rfl (sx 99 rfl (sx 111 rfl (sub_nil _)))))))))))))))))) (.refl _) ?_
        refine hl_nil ?_
        refine hq_then ?_
        refine hc_seq ?_
        refine hc_region ?_
        refine hl_v rfl rfl rfl (rv_ev rfl) ?_
        refine hl_v rfl rfl rfl (rv_field (k0 := 6) rfl (by kernel_rfl) rfl) ?_
        refine hl_v rfl rfl rfl (rv_load rfl (by kernel_rfl) rfl (box_cell 5 rfl rfl)) ?_
        refine hl_v rfl rfl rfl (rv_ev rfl) ?_
        refine hl_v rfl rfl rfl (rv_index (s := 1) rfl Try.underlying24 (by kernel_rfl) rfl rfl (rd_old ((hr).ks)) (by omega) (by first | omega | (simp only [List.length_set]; omega))) ?_
        refine hl_v rfl rfl rfl (rv_loadEl (u := .int .i64 (x.ks.getD ((((m : Int) - 1) - x.n.ins).toNat) 0)) rfl (by kernel_rfl) rfl (rd_old ((hr).ks)) (ints_at1 (show _ < x.ks.length by first | omega | (simp only [List.length_set]; omega)))) ?_
        refine hl_geq rfl rfl rfl rfl rfl rfl (fun h16 => ?_) (fun h16 => ?_)
        ·
         refine hl_less (sx 0 rfl (sx 1 rfl (sx 2 rfl (sx 4 rfl (sx 5 rfl (sx 6 rfl (sx 7 rfl (sx 8 rfl (sx 9 rfl (sx 10 rfl (sx 32 rfl (sx 33 rfl (sx 34 rfl (sx 47 rfl (sx 96 rfl (sx 99 rfl (sx 111 rfl (sx 133 rfl (sub_nil _))))))))))))))))))) (.refl _) ?_
         refine hl_nil ?_
         refine hq_then ?_
         refine hc_true rfl ?_
         refine hc_region ?_
         refine hl_v rfl rfl rfl (rv_field (k0 := 8) rfl (by kernel_rfl) rfl) ?_
         refine hl_v rfl rfl rfl (rv_load rfl (by kernel_rfl) rfl (box_cell 5 rfl rfl)) ?_
         refine hl_v rfl rfl rfl (rv_ev rfl) ?_
         refine hl_v rfl rfl rfl (rv_index (s := 1) rfl Try.underlying24 (by kernel_rfl) rfl rfl (rd_old ((hr).bs)) (by omega) (by first | omega | (simp only [List.length_set]; omega))) ?_
         refine hl_v rfl rfl rfl (rv_loadEl (u := .int .i64 (x.bs.getD ((((m : Int) - 1) - x.n.ins).toNat) 0)) rfl (by kernel_rfl) rfl (rd_old ((hr).bs)) (ints_at1 (show _ < x.bs.length by first | omega | (simp only [List.length_set]; omega)))) ?_
         refine hl_v rfl rfl rfl (rv_bits rfl (by decide) rfl rfl (r := (x.bs.getD ((((m : Int) - 1) - x.n.ins).toNat) 0) % 2) (andOne _)) ?_
         refine hl_v rfl rfl rfl (rv_ev rfl) ?_
         refine hl_less (sx 0 rfl (sx 1 rfl (sx 2 rfl (sx 4 rfl (sx 5 rfl (sx 6 rfl (sx 7 rfl (sx 8 rfl (sx 9 rfl (sx 10 rfl (sx 32 rfl (sx 33 rfl (sx 34 rfl (sx 47 rfl (sx 96 rfl (sx 99 rfl (sx 111 rfl (sx 133 rfl (sub_nil _))))))))))))))))))) (.refl _) ?_
         refine hl_nil ?_
         refine hq_block_normal ?_
         refine hq_then ?_
         refine hc_region ?_
         refine hl_conv [bigE (e2.map irPart), rowE 3 1 v3 ((ovX x).length) ((ovX x).map (Value.int .i64)), rowE 24 1 (.slice (some ⟨g6, 0, none⟩) ((List.replicate (x.n.cnt).toNat ir0).length) ((List.replicate (x.n.cnt).toNat ir0).length)) e2.length (e2.flatMap irC), boxE b7 #[v3, .slice (some ⟨g6, 0, none⟩) ((List.replicate (x.n.cnt).toNat ir0).length) ((List.replicate (x.n.cnt).toNat ir0).length)] 92, boxE b2 #[.int .i64 x.n.ins, x.n.sv, x.n.lv, x.n.ov] 37, boxE b1 #[.int .i64 x.n.ins, x.n.sv, x.n.lv, x.n.ov, x.pv, x.qv, x.kv, x.av, x.bv, .int .i64 x.oi, .int .i64 x.ni] 40] (conv_pick (src := [bigE (e2.map irPart), rowE 3 1 v3 ((ovX x).length) ((ovX x).map (Value.int .i64)), rowE 24 1 (.slice (some ⟨g6, 0, none⟩) ((List.replicate (x.n.cnt).toNat ir0).length) ((List.replicate (x.n.cnt).toNat ir0).length)) e2.length (e2.flatMap irC), boxE b7 #[v3, .slice (some ⟨g6, 0, none⟩) ((List.replicate (x.n.cnt).toNat ir0).length) ((List.replicate (x.n.cnt).toNat ir0).length)] 92, boxE b2 #[.int .i64 x.n.ins, x.n.sv, x.n.lv, x.n.ov] 37, boxE b1 #[.int .i64 x.n.ins, x.n.sv, x.n.lv, x.n.ov, x.pv, x.qv, x.kv, x.av, x.bv, .int .i64 x.oi, .int .i64 x.ni] 40]) (dst := [bigE (e2.map irPart), rowE 3 1 v3 ((ovX x).length) ((ovX x).map (Value.int .i64)), rowE 24 1 (.slice (some ⟨g6, 0, none⟩) ((List.replicate (x.n.cnt).toNat ir0).length) ((List.replicate (x.n.cnt).toNat ir0).length)) e2.length (e2.flatMap irC), boxE b7 #[v3, .slice (some ⟨g6, 0, none⟩) ((List.replicate (x.n.cnt).toNat ir0).length) ((List.replicate (x.n.cnt).toNat ir0).length)] 92, boxE b2 #[.int .i64 x.n.ins, x.n.sv, x.n.lv, x.n.ov] 37, boxE b1 #[.int .i64 x.n.ins, x.n.sv, x.n.lv, x.n.ov, x.pv, x.qv, x.kv, x.av, x.bv, .int .i64 x.oi, .int .i64 x.ni] 40]) (l := []) [0, 1, 2, 3, 4, 5] (by decide) rfl) ?_
         refine hl_conv [rowE 3 1 ((e2.getD m ir0).v) (((e2.getD m ir0).xs).length) (((e2.getD m ir0).xs).map (Value.int .i64)), bigE ((e2.map irPart).eraseIdx m), rowE 3 1 v3 ((ovX x).length) ((ovX x).map (Value.int .i64)), rowE 24 1 (.slice (some ⟨g6, 0, none⟩) ((List.replicate (x.n.cnt).toNat ir0).length) ((List.replicate (x.n.cnt).toNat ir0).length)) e2.length (e2.flatMap irC), boxE b7 #[v3, .slice (some ⟨g6, 0, none⟩) ((List.replicate (x.n.cnt).toNat ir0).length) ((List.replicate (x.n.cnt).toNat ir0).length)] 92, boxE b2 #[.int .i64 x.n.ins, x.n.sv, x.n.lv, x.n.ov] 37, boxE b1 #[.int .i64 x.n.ins, x.n.sv, x.n.lv, x.n.ov, x.pv, x.qv, x.kv, x.av, x.bv, .int .i64 x.oi, .int .i64 x.ni] 40] (conv_irFocus (es := e2) (j := m) (by omega)) ?_
         refine hl_v rfl rfl rfl (rv_ev rfl) ?_
         refine hl_v rfl rfl rfl (rv_nilCheck rfl rfl) ?_
         refine hl_v rfl rfl rfl (rv_field (k0 := 1) rfl (by kernel_rfl) rfl) ?_
         refine hl_v rfl rfl rfl (rv_load rfl (by kernel_rfl) rfl (box_cell 4 rfl rfl)) ?_
         refine hl_v rfl rfl rfl (rv_ev rfl) ?_
         refine hl_v rfl rfl rfl (rv_index (s := 1) rfl Try.underlying27 (by kernel_rfl) rfl rfl (rd_row 3 rfl) (by omega) (by first | omega | (simp only [List.length_set]; omega))) ?_
         refine hl_v rfl rfl rfl (rv_loadEl (u := (e2.getD m ir0).v) rfl (by kernel_rfl) rfl (rd_row 3 rfl) (flat_one irC (fun r => r.v) (fun _ => rfl) e2 ir0 (show m < _ by first | omega | (simp only [List.length_set]; omega)))) ?_
         refine hl_v rfl rfl rfl (rv_ev rfl) ?_
         refine hl_v rfl rfl rfl (rv_ev rfl) ?_
         refine hl_v rfl rfl rfl (rv_index (s := 1) rfl Try.underlying24 (by kernel_rfl) rfl rfl (rd_row 0 rfl) (by omega) (by first | omega | (simp only [List.length_set]; omega))) ?_
         refine hl_storeEl (i := 0) (n' := (((e2.getD m ir0).xs).set t ((x.bs.getD ((((m : Int) - 1) - x.n.ins).toNat) 0) % 2)).length) (xs' := ((((e2.getD m ir0).xs).set t ((x.bs.getD ((((m : Int) - 1) - x.n.ins).toNat) 0) % 2)).map (Value.int .i64))) (l' := [rowE 3 1 ((e2.getD m ir0).v) ((((e2.getD m ir0).xs).set t ((x.bs.getD ((((m : Int) - 1) - x.n.ins).toNat) 0) % 2)).length) ((((e2.getD m ir0).xs).set t ((x.bs.getD ((((m : Int) - 1) - x.n.ins).toNat) 0) % 2)).map (Value.int .i64)), bigE ((e2.map irPart).eraseIdx m), rowE 3 1 v3 ((ovX x).length) ((ovX x).map (Value.int .i64)), rowE 24 1 (.slice (some ⟨g6, 0, none⟩) ((List.replicate (x.n.cnt).toNat ir0).length) ((List.replicate (x.n.cnt).toNat ir0).length)) e2.length (e2.flatMap irC), boxE b7 #[v3, .slice (some ⟨g6, 0, none⟩) ((List.replicate (x.n.cnt).toNat ir0).length) ((List.replicate (x.n.cnt).toNat ir0).length)] 92, boxE b2 #[.int .i64 x.n.ins, x.n.sv, x.n.lv, x.n.ov] 37, boxE b1 #[.int .i64 x.n.ins, x.n.sv, x.n.lv, x.n.ov, x.pv, x.qv, x.kv, x.av, x.bv, .int .i64 x.oi, .int .i64 x.ni] 40]) rfl rfl rfl (by kernel_rfl) rfl rfl rfl rfl (by first | omega | (simp only [List.length_set]; omega)) List.length_set.symm (ints_set _ _ _) rfl ?_
         refine hl_less (sx 0 rfl (sx 1 rfl (sx 2 rfl (sx 4 rfl (sx 5 rfl (sx 6 rfl (sx 7 rfl (sx 8 rfl (sx 9 rfl (sx 10 rfl (sx 32 rfl (sx 33 rfl (sx 34 rfl (sx 47 rfl (sx 96 rfl (sx 99 rfl (sx 111 rfl (sx 133 rfl (sub_nil _))))))))))))))))))) (.refl _) ?_
         refine hl_nil ?_
         refine hq_block_normal ?_
         refine hq_then ?_
         refine hc_region ?_
         refine hl_v rfl rfl rfl (rv_ev rfl) ?_
         refine hl_v rfl rfl rfl (rv_add rfl rfl rfl (by constructor <;> omega)) ?_
         refine hl_v rfl rfl rfl (rv_ev rfl) ?_
         refine hl_less (sx 0 rfl (sx 1 rfl (sx 2 rfl (sx 4 rfl (sx 5 rfl (sx 6 rfl (sx 7 rfl (sx 8 rfl (sx 9 rfl (sx 10 rfl (sx 32 rfl (sx 33 rfl (sx 34 rfl (sx 47 rfl (sx 96 rfl (sx 99 rfl (sx 111 rfl (sx 133 rfl (sub_nil _))))))))))))))))))) (.refl _) ?_
         refine hl_nil ?_
         have hv9 : (x.bs.getD ((((m : Int) - 1) - x.n.ins).toNat) 0) % 2 = wvV x (wvsL x a.toNat m) m (t : Int) := (wv_new x _ _ hi0 cb (by omega) (by omega) (by omega)).symm
         refine hq_conv [rowE 3 1 ((e2.getD m ir0).v) ((((e2.getD m ir0).xs).set t ((x.bs.getD ((((m : Int) - 1) - x.n.ins).toNat) 0) % 2)).length) ((((e2.getD m ir0).xs).set t ((x.bs.getD ((((m : Int) - 1) - x.n.ins).toNat) 0) % 2)).map (Value.int .i64)), bigE ((e2.map irPart).eraseIdx m), rowE 3 1 v3 ((ovX x).length) ((ovX x).map (Value.int .i64)), rowE 24 1 (.slice (some ⟨g6, 0, none⟩) ((List.replicate (x.n.cnt).toNat ir0).length) ((List.replicate (x.n.cnt).toNat ir0).length)) e2.length (e2.flatMap irC), boxE b7 #[v3, .slice (some ⟨g6, 0, none⟩) ((List.replicate (x.n.cnt).toNat ir0).length) ((List.replicate (x.n.cnt).toNat ir0).length)] 92, boxE b2 #[.int .i64 x.n.ins, x.n.sv, x.n.lv, x.n.ov] 37, boxE b1 #[.int .i64 x.n.ins, x.n.sv, x.n.lv, x.n.ov, x.pv, x.qv, x.kv, x.av, x.bv, .int .i64 x.oi, .int .i64 x.ni] 40] (conv_pick (src := [rowE 3 1 ((e2.getD m ir0).v) ((((e2.getD m ir0).xs).set t ((x.bs.getD ((((m : Int) - 1) - x.n.ins).toNat) 0) % 2)).length) ((((e2.getD m ir0).xs).set t ((x.bs.getD ((((m : Int) - 1) - x.n.ins).toNat) 0) % 2)).map (Value.int .i64)), bigE ((e2.map irPart).eraseIdx m), rowE 3 1 v3 ((ovX x).length) ((ovX x).map (Value.int .i64)), rowE 24 1 (.slice (some ⟨g6, 0, none⟩) ((List.replicate (x.n.cnt).toNat ir0).length) ((List.replicate (x.n.cnt).toNat ir0).length)) e2.length (e2.flatMap irC), boxE b7 #[v3, .slice (some ⟨g6, 0, none⟩) ((List.replicate (x.n.cnt).toNat ir0).length) ((List.replicate (x.n.cnt).toNat ir0).length)] 92, boxE b2 #[.int .i64 x.n.ins, x.n.sv, x.n.lv, x.n.ov] 37, boxE b1 #[.int .i64 x.n.ins, x.n.sv, x.n.lv, x.n.ov, x.pv, x.qv, x.kv, x.av, x.bv, .int .i64 x.oi, .int .i64 x.ni] 40]) (dst := [rowE 3 1 ((e2.getD m ir0).v) ((((e2.getD m ir0).xs).set t ((x.bs.getD ((((m : Int) - 1) - x.n.ins).toNat) 0) % 2)).length) ((((e2.getD m ir0).xs).set t ((x.bs.getD ((((m : Int) - 1) - x.n.ins).toNat) 0) % 2)).map (Value.int .i64)), bigE ((e2.map irPart).eraseIdx m), rowE 3 1 v3 ((ovX x).length) ((ovX x).map (Value.int .i64)), rowE 24 1 (.slice (some ⟨g6, 0, none⟩) ((List.replicate (x.n.cnt).toNat ir0).length) ((List.replicate (x.n.cnt).toNat ir0).length)) e2.length (e2.flatMap irC), boxE b7 #[v3, .slice (some ⟨g6, 0, none⟩) ((List.replicate (x.n.cnt).toNat ir0).length) ((List.replicate (x.n.cnt).toNat ir0).length)] 92, boxE b2 #[.int .i64 x.n.ins, x.n.sv, x.n.lv, x.n.ov] 37, boxE b1 #[.int .i64 x.n.ins, x.n.sv, x.n.lv, x.n.ov, x.pv, x.qv, x.kv, x.av, x.bv, .int .i64 x.oi, .int .i64 x.ni] 40]) (l := []) [0, 1, 2, 3, 4, 5, 6] (by decide) rfl) ?_
         refine hq_conv [bigE ((e2.set m (IR.mk (e2.getD m ir0).v (((e2.getD m ir0).xs).set t ((x.bs.getD ((((m : Int) - 1) - x.n.ins).toNat) 0) % 2)))).map irPart), rowE 3 1 v3 ((ovX x).length) ((ovX x).map (Value.int .i64)), rowE 24 1 (.slice (some ⟨g6, 0, none⟩) ((List.replicate (x.n.cnt).toNat ir0).length) ((List.replicate (x.n.cnt).toNat ir0).length)) ((e2.set m (IR.mk (e2.getD m ir0).v (((e2.getD m ir0).xs).set t ((x.bs.getD ((((m : Int) - 1) - x.n.ins).toNat) 0) % 2)))).length) ((e2.set m (IR.mk (e2.getD m ir0).v (((e2.getD m ir0).xs).set t ((x.bs.getD ((((m : Int) - 1) - x.n.ins).toNat) 0) % 2)))).flatMap irC), boxE b7 #[v3, .slice (some ⟨g6, 0, none⟩) ((List.replicate (x.n.cnt).toNat ir0).length) ((List.replicate (x.n.cnt).toNat ir0).length)] 92, boxE b2 #[.int .i64 x.n.ins, x.n.sv, x.n.lv, x.n.ov] 37, boxE b1 #[.int .i64 x.n.ins, x.n.sv, x.n.lv, x.n.ov, x.pv, x.qv, x.kv, x.av, x.bv, .int .i64 x.oi, .int .i64 x.ni] 40] (fun w hm => by
           have h8 := conv_irUnfocus (es := e2) (j := m) (e' := IR.mk (e2.getD m ir0).v (((e2.getD m ir0).xs).set t ((x.bs.getD ((((m : Int) - 1) - x.n.ins).toNat) 0) % 2))) (by omega) w hm
           have h7 : (e2.set m (IR.mk (e2.getD m ir0).v (((e2.getD m ir0).xs).set t ((x.bs.getD ((((m : Int) - 1) - x.n.ins).toNat) 0) % 2)))).flatMap irC = e2.flatMap irC := flat_same
           rw [h7, List.length_set]; exact h8) ?_
         exact hq_round2 (t + 1) (e2.set m (IR.mk (e2.getD m ir0).v (((e2.getD m ir0).xs).set t ((x.bs.getD ((((m : Int) - 1) - x.n.ins).toNat) 0) % 2)))) ⟨by omega, hw2.set _, by rw [set_selfG (by omega)]; show ((e2.getD m ir0).xs).set t ((x.bs.getD ((((m : Int) - 1) - x.n.ins).toNat) 0) % 2) = _; rw [hx2]; exact rowW_set (by omega) hv9⟩ (by omega) (sx 0 rfl (sx 1 rfl (sx 2 rfl (sx 4 rfl (sx 5 rfl (sx 6 rfl (sx 7 rfl (sx 8 rfl (sx 32 rfl (sx 33 rfl (sx 34 rfl (sub_nil _)))))))))))) ((.cons_cons _ (.cons_cons _ (.cons_cons _ (.cons_cons _ (.cons_cons _ (.cons_cons _ .slnil)))))))
        ·
         refine hl_less (sx 0 rfl (sx 1 rfl (sx 2 rfl (sx 4 rfl (sx 5 rfl (sx 6 rfl (sx 7 rfl (sx 8 rfl (sx 9 rfl (sx 10 rfl (sx 32 rfl (sx 33 rfl (sx 34 rfl (sx 47 rfl (sx 96 rfl (sx 99 rfl (sx 111 rfl (sx 133 rfl (sub_nil _))))))))))))))))))) (.refl _) ?_
         refine hl_nil ?_
         refine hq_then ?_
         refine hc_false rfl ?_
         refine hc_skip ?_
         refine hq_block_normal ?_
         refine hq_then ?_
         refine hc_region ?_
         refine hl_conv [bigE (e2.map irPart), rowE 3 1 v3 ((ovX x).length) ((ovX x).map (Value.int .i64)), rowE 24 1 (.slice (some ⟨g6, 0, none⟩) ((List.replicate (x.n.cnt).toNat ir0).length) ((List.replicate (x.n.cnt).toNat ir0).length)) e2.length (e2.flatMap irC), boxE b7 #[v3, .slice (some ⟨g6, 0, none⟩) ((List.replicate (x.n.cnt).toNat ir0).length) ((List.replicate (x.n.cnt).toNat ir0).length)] 92, boxE b2 #[.int .i64 x.n.ins, x.n.sv, x.n.lv, x.n.ov] 37, boxE b1 #[.int .i64 x.n.ins, x.n.sv, x.n.lv, x.n.ov, x.pv, x.qv, x.kv, x.av, x.bv, .int .i64 x.oi, .int .i64 x.ni] 40] (conv_pick (src := [bigE (e2.map irPart), rowE 3 1 v3 ((ovX x).length) ((ovX x).map (Value.int .i64)), rowE 24 1 (.slice (some ⟨g6, 0, none⟩) ((List.replicate (x.n.cnt).toNat ir0).length) ((List.replicate (x.n.cnt).toNat ir0).length)) e2.length (e2.flatMap irC), boxE b7 #[v3, .slice (some ⟨g6, 0, none⟩) ((List.replicate (x.n.cnt).toNat ir0).length) ((List.replicate (x.n.cnt).toNat ir0).length)] 92, boxE b2 #[.int .i64 x.n.ins, x.n.sv, x.n.lv, x.n.ov] 37, boxE b1 #[.int .i64 x.n.ins, x.n.sv, x.n.lv, x.n.ov, x.pv, x.qv, x.kv, x.av, x.bv, .int .i64 x.oi, .int .i64 x.ni] 40]) (dst := [bigE (e2.map irPart), rowE 3 1 v3 ((ovX x).length) ((ovX x).map (Value.int .i64)), rowE 24 1 (.slice (some ⟨g6, 0, none⟩) ((List.replicate (x.n.cnt).toNat ir0).length) ((List.replicate (x.n.cnt).toNat ir0).length)) e2.length (e2.flatMap irC), boxE b7 #[v3, .slice (some ⟨g6, 0, none⟩) ((List.replicate (x.n.cnt).toNat ir0).length) ((List.replicate (x.n.cnt).toNat ir0).length)] 92, boxE b2 #[.int .i64 x.n.ins, x.n.sv, x.n.lv, x.n.ov] 37, boxE b1 #[.int .i64 x.n.ins, x.n.sv, x.n.lv, x.n.ov, x.pv, x.qv, x.kv, x.av, x.bv, .int .i64 x.oi, .int .i64 x.ni] 40]) (l := []) [0, 1, 2, 3, 4, 5] (by decide) rfl) ?_
         refine hl_conv [rowE 3 1 ((e2.getD m ir0).v) (((e2.getD m ir0).xs).length) (((e2.getD m ir0).xs).map (Value.int .i64)), bigE ((e2.map irPart).eraseIdx m), rowE 3 1 v3 ((ovX x).length) ((ovX x).map (Value.int .i64)), rowE 24 1 (.slice (some ⟨g6, 0, none⟩) ((List.replicate (x.n.cnt).toNat ir0).length) ((List.replicate (x.n.cnt).toNat ir0).length)) e2.length (e2.flatMap irC), boxE b7 #[v3, .slice (some ⟨g6, 0, none⟩) ((List.replicate (x.n.cnt).toNat ir0).length) ((List.replicate (x.n.cnt).toNat ir0).length)] 92, boxE b2 #[.int .i64 x.n.ins, x.n.sv, x.n.lv, x.n.ov] 37, boxE b1 #[.int .i64 x.n.ins, x.n.sv, x.n.lv, x.n.ov, x.pv, x.qv, x.kv, x.av, x.bv, .int .i64 x.oi, .int .i64 x.ni] 40] (conv_irFocus (es := e2) (j := m) (by omega)) ?_
         refine hl_v rfl rfl rfl (rv_ev rfl) ?_
         refine hl_v rfl rfl rfl (rv_nilCheck rfl rfl) ?_
         refine hl_v rfl rfl rfl (rv_field (k0 := 1) rfl (by kernel_rfl) rfl) ?_
         refine hl_v rfl rfl rfl (rv_load rfl (by kernel_rfl) rfl (box_cell 4 rfl rfl)) ?_
         refine hl_v rfl rfl rfl (rv_ev rfl) ?_
         refine hl_v rfl rfl rfl (rv_index (s := 1) rfl Try.underlying27 (by kernel_rfl) rfl rfl (rd_row 3 rfl) (by omega) (by first | omega | (simp only [List.length_set]; omega))) ?_
         refine hl_v rfl rfl rfl (rv_loadEl (u := (e2.getD m ir0).v) rfl (by kernel_rfl) rfl (rd_row 3 rfl) (flat_one irC (fun r => r.v) (fun _ => rfl) e2 ir0 (show m < _ by first | omega | (simp only [List.length_set]; omega)))) ?_
         refine hl_v rfl rfl rfl (rv_ev rfl) ?_
         refine hl_v rfl rfl rfl (rv_ev rfl) ?_
         refine hl_v rfl rfl rfl (rv_index (s := 1) rfl Try.underlying24 (by kernel_rfl) rfl rfl (rd_row 0 rfl) (by omega) (by first | omega | (simp only [List.length_set]; omega))) ?_
         refine hl_storeEl (i := 0) (n' := (((e2.getD m ir0).xs).set t ((x.ao.getD ((((m : Int) - 1) - x.n.ins).toNat) 0) % 2)).length) (xs' := ((((e2.getD m ir0).xs).set t ((x.ao.getD ((((m : Int) - 1) - x.n.ins).toNat) 0) % 2)).map (Value.int .i64))) (l' := [rowE 3 1 ((e2.getD m ir0).v) ((((e2.getD m ir0).xs).set t ((x.ao.getD ((((m : Int) - 1) - x.n.ins).toNat) 0) % 2)).length) ((((e2.getD m ir0).xs).set t ((x.ao.getD ((((m : Int) - 1) - x.n.ins).toNat) 0) % 2)).map (Value.int .i64)), bigE ((e2.map irPart).eraseIdx m), rowE 3 1 v3 ((ovX x).length) ((ovX x).map (Value.int .i64)), rowE 24 1 (.slice (some ⟨g6, 0, none⟩) ((List.replicate (x.n.cnt).toNat ir0).length) ((List.replicate (x.n.cnt).toNat ir0).length)) e2.length (e2.flatMap irC), boxE b7 #[v3, .slice (some ⟨g6, 0, none⟩) ((List.replicate (x.n.cnt).toNat ir0).length) ((List.replicate (x.n.cnt).toNat ir0).length)] 92, boxE b2 #[.int .i64 x.n.ins, x.n.sv, x.n.lv, x.n.ov] 37, boxE b1 #[.int .i64 x.n.ins, x.n.sv, x.n.lv, x.n.ov, x.pv, x.qv, x.kv, x.av, x.bv, .int .i64 x.oi, .int .i64 x.ni] 40]) rfl rfl rfl (by kernel_rfl) rfl rfl rfl rfl (by first | omega | (simp only [List.length_set]; omega)) List.length_set.symm (ints_set _ _ _) rfl ?_
         refine hl_less (sx 0 rfl (sx 1 rfl (sx 2 rfl (sx 4 rfl (sx 5 rfl (sx 6 rfl (sx 7 rfl (sx 8 rfl (sx 9 rfl (sx 10 rfl (sx 32 rfl (sx 33 rfl (sx 34 rfl (sx 47 rfl (sx 96 rfl (sx 99 rfl (sx 111 rfl (sx 133 rfl (sub_nil _))))))))))))))))))) (.refl _) ?_
         refine hl_nil ?_
         refine hq_block_normal ?_
         refine hq_then ?_
         refine hc_region ?_
         refine hl_v rfl rfl rfl (rv_ev rfl) ?_
         refine hl_v rfl rfl rfl (rv_add rfl rfl rfl (by constructor <;> omega)) ?_
         refine hl_v rfl rfl rfl (rv_ev rfl) ?_
         refine hl_less (sx 0 rfl (sx 1 rfl (sx 2 rfl (sx 4 rfl (sx 5 rfl (sx 6 rfl (sx 7 rfl (sx 8 rfl (sx 9 rfl (sx 10 rfl (sx 32 rfl (sx 33 rfl (sx 34 rfl (sx 47 rfl (sx 96 rfl (sx 99 rfl (sx 111 rfl (sx 133 rfl (sub_nil _))))))))))))))))))) (.refl _) ?_
         refine hl_nil ?_
         have hv9 : (x.ao.getD ((((m : Int) - 1) - x.n.ins).toNat) 0) % 2 = wvV x (wvsL x a.toNat m) m (t : Int) := (wv_old x _ _ hi0 ca (by omega) (by omega) (by omega)).symm
         refine hq_conv [rowE 3 1 ((e2.getD m ir0).v) ((((e2.getD m ir0).xs).set t ((x.ao.getD ((((m : Int) - 1) - x.n.ins).toNat) 0) % 2)).length) ((((e2.getD m ir0).xs).set t ((x.ao.getD ((((m : Int) - 1) - x.n.ins).toNat) 0) % 2)).map (Value.int .i64)), bigE ((e2.map irPart).eraseIdx m), rowE 3 1 v3 ((ovX x).length) ((ovX x).map (Value.int .i64)), rowE 24 1 (.slice (some ⟨g6, 0, none⟩) ((List.replicate (x.n.cnt).toNat ir0).length) ((List.replicate (x.n.cnt).toNat ir0).length)) e2.length (e2.flatMap irC), boxE b7 #[v3, .slice (some ⟨g6, 0, none⟩) ((List.replicate (x.n.cnt).toNat ir0).length) ((List.replicate (x.n.cnt).toNat ir0).length)] 92, boxE b2 #[.int .i64 x.n.ins, x.n.sv, x.n.lv, x.n.ov] 37, boxE b1 #[.int .i64 x.n.ins, x.n.sv, x.n.lv, x.n.ov, x.pv, x.qv, x.kv, x.av, x.bv, .int .i64 x.oi, .int .i64 x.ni] 40] (conv_pick (src := [rowE 3 1 ((e2.getD m ir0).v) ((((e2.getD m ir0).xs).set t ((x.ao.getD ((((m : Int) - 1) - x.n.ins).toNat) 0) % 2)).length) ((((e2.getD m ir0).xs).set t ((x.ao.getD ((((m : Int) - 1) - x.n.ins).toNat) 0) % 2)).map (Value.int .i64)), bigE ((e2.map irPart).eraseIdx m), rowE 3 1 v3 ((ovX x).length) ((ovX x).map (Value.int .i64)), rowE 24 1 (.slice (some ⟨g6, 0, none⟩) ((List.replicate (x.n.cnt).toNat ir0).length) ((List.replicate (x.n.cnt).toNat ir0).length)) e2.length (e2.flatMap irC), boxE b7 #[v3, .slice (some ⟨g6, 0, none⟩) ((List.replicate (x.n.cnt).toNat ir0).length) ((List.replicate (x.n.cnt).toNat ir0).length)] 92, boxE b2 #[.int .i64 x.n.ins, x.n.sv, x.n.lv, x.n.ov] 37, boxE b1 #[.int .i64 x.n.ins, x.n.sv, x.n.lv, x.n.ov, x.pv, x.qv, x.kv, x.av, x.bv, .int .i64 x.oi, .int .i64 x.ni] 40]) (dst := [rowE 3 1 ((e2.getD m ir0).v) ((((e2.getD m ir0).xs).set t ((x.ao.getD ((((m : Int) - 1) - x.n.ins).toNat) 0) % 2)).length) ((((e2.getD m ir0).xs).set t ((x.ao.getD ((((m : Int) - 1) - x.n.ins).toNat) 0) % 2)).map (Value.int .i64)), bigE ((e2.map irPart).eraseIdx m), rowE 3 1 v3 ((ovX x).length) ((ovX x).map (Value.int .i64)), rowE 24 1 (.slice (some ⟨g6, 0, none⟩) ((List.replicate (x.n.cnt).toNat ir0).length) ((List.replicate (x.n.cnt).toNat ir0).length)) e2.length (e2.flatMap irC), boxE b7 #[v3, .slice (some ⟨g6, 0, none⟩) ((List.replicate (x.n.cnt).toNat ir0).length) ((List.replicate (x.n.cnt).toNat ir0).length)] 92, boxE b2 #[.int .i64 x.n.ins, x.n.sv, x.n.lv, x.n.ov] 37, boxE b1 #[.int .i64 x.n.ins, x.n.sv, x.n.lv, x.n.ov, x.pv, x.qv, x.kv, x.av, x.bv, .int .i64 x.oi, .int .i64 x.ni] 40]) (l := []) [0, 1, 2, 3, 4, 5, 6] (by decide) rfl) ?_
         refine hq_conv [bigE ((e2.set m (IR.mk (e2.getD m ir0).v (((e2.getD m ir0).xs).set t ((x.ao.getD ((((m : Int) - 1) - x.n.ins).toNat) 0) % 2)))).map irPart), rowE 3 1 v3 ((ovX x).length) ((ovX x).map (Value.int .i64)), rowE 24 1 (.slice (some ⟨g6, 0, none⟩) ((List.replicate (x.n.cnt).toNat ir0).length) ((List.replicate (x.n.cnt).toNat ir0).length)) ((e2.set m (IR.mk (e2.getD m ir0).v (((e2.getD m ir0).xs).set t ((x.ao.getD ((((m : Int) - 1) - x.n.ins).toNat) 0) % 2)))).length) ((e2.set m (IR.mk (e2.getD m ir0).v (((e2.getD m ir0).xs).set t ((x.ao.getD ((((m : Int) - 1) - x.n.ins).toNat) 0) % 2)))).flatMap irC), boxE b7 #[v3, .slice (some ⟨g6, 0, none⟩) ((List.replicate (x.n.cnt).toNat ir0).length) ((List.replicate (x.n.cnt).toNat ir0).length)] 92, boxE b2 #[.int .i64 x.n.ins, x.n.sv, x.n.lv, x.n.ov] 37, boxE b1 #[.int .i64 x.n.ins, x.n.sv, x.n.lv, x.n.ov, x.pv, x.qv, x.kv, x.av, x.bv, .int .i64 x.oi, .int .i64 x.ni] 40] (fun w hm => by
           have h8 := conv_irUnfocus (es := e2) (j := m) (e' := IR.mk (e2.getD m ir0).v (((e2.getD m ir0).xs).set t ((x.ao.getD ((((m : Int) - 1) - x.n.ins).toNat) 0) % 2))) (by omega) w hm
           have h7 : (e2.set m (IR.mk (e2.getD m ir0).v (((e2.getD m ir0).xs).set t ((x.ao.getD ((((m : Int) - 1) - x.n.ins).toNat) 0) % 2)))).flatMap irC = e2.flatMap irC := flat_same
           rw [h7, List.length_set]; exact h8) ?_
         exact hq_round2 (t + 1) (e2.set m (IR.mk (e2.getD m ir0).v (((e2.getD m ir0).xs).set t ((x.ao.getD ((((m : Int) - 1) - x.n.ins).toNat) 0) % 2)))) ⟨by omega, hw2.set _, by rw [set_selfG (by omega)]; show ((e2.getD m ir0).xs).set t ((x.ao.getD ((((m : Int) - 1) - x.n.ins).toNat) 0) % 2) = _; rw [hx2]; exact rowW_set (by omega) hv9⟩ (by omega) (sx 0 rfl (sx 1 rfl (sx 2 rfl (sx 4 rfl (sx 5 rfl (sx 6 rfl (sx 7 rfl (sx 8 rfl (sx 32 rfl (sx 33 rfl (sx 34 rfl (sub_nil _)))))))))))) ((.cons_cons _ (.cons_cons _ (.cons_cons _ (.cons_cons _ (.cons_cons _ (.cons_cons _ .slnil)))))))
       ·
        refine hl_v rfl rfl rfl (rv_ev rfl) ?_
        refine hl_less (sx 0 rfl (sx 1 rfl (sx 2 rfl (sx 4 rfl (sx 5 rfl (sx 6 rfl (sx 7 rfl (sx 8 rfl (sx 9 rfl (sx 32 rfl (sx 33 rfl (sx 34 rfl (sx 47 rfl (sx 96 rfl (sx 99 rfl (sx 111 rfl (sub_nil _))))))))))))))))) (.refl _) ?_
        refine hl_nil ?_
        refine hq_then ?_
        refine hc_false rfl ?_
        refine hc_seq ?_
        refine hc_region ?_
        refine hl_v rfl rfl rfl (rv_ev rfl) ?_
        refine hl_v rfl rfl rfl (rv_loadN (cs := [.int .i64 x.n.ins, x.n.sv, x.n.lv, x.n.ov]) rfl (by kernel_rfl) (by kernel_rfl) rfl rfl (box_part 4 rfl 0 rfl)) ?_
        refine hl_callV rfl rfl rfl (rq_call (by kernel_rfl) rfl (fun w hm => ret_ans (firstLut_ans x.n w (hr.n.below hm.bel) hok.n.sz))) ?_
        refine hl_v rfl rfl rfl (rv_sub rfl rfl rfl (by constructor <;> omega)) ?_
        obtain ⟨i, hmi⟩ : ∃ i : Nat, (m : Int) - x.n.fst = (i : Int) := ⟨((m : Int) - x.n.fst).toNat, by omega⟩
        rw [hmi]
        have hil : i < x.n.ls.length := by omega
        have hlt9 := hok.n.lt i hil
        have hx4 := hlt9.1.1
        have hdi : (x.dl.getD i ir0).xs.length = (x.n.ls.getD i lt0).xs.length := by have := (hok.dl i hil).1; omega
        refine hl_v rfl rfl rfl (rv_ev rfl) ?_
        refine hl_less (sx 0 rfl (sx 1 rfl (sx 2 rfl (sx 4 rfl (sx 5 rfl (sx 6 rfl (sx 7 rfl (sx 8 rfl (sx 9 rfl (sx 11 rfl (sx 32 rfl (sx 33 rfl (sx 34 rfl (sx 47 rfl (sx 96 rfl (sx 99 rfl (sx 111 rfl (sub_nil _)))))))))))))))))) (.refl _) ?_
        refine hl_nil ?_
        refine hq_then ?_
        refine hc_seq ?_
        refine hc_region ?_
        refine hl_v rfl rfl rfl (rv_ev rfl) ?_
        refine hl_less (sx 0 rfl (sx 1 rfl (sx 2 rfl (sx 4 rfl (sx 5 rfl (sx 6 rfl (sx 7 rfl (sx 8 rfl (sx 9 rfl (sx 11 rfl (sx 12 rfl (sx 32 rfl (sx 33 rfl (sx 34 rfl (sx 47 rfl (sx 96 rfl (sx 99 rfl (sx 111 rfl (sub_nil _))))))))))))))))))) (.refl _) ?_
        refine hl_nil ?_
        refine hq_then ?_
        refine hc_seq ?_
        refine hc_seq ?_
        refine hc_region ?_
        refine hl_v rfl rfl rfl (rv_field (k0 := 2) rfl (by kernel_rfl) rfl) ?_
        refine hl_v rfl rfl rfl (rv_load rfl (by kernel_rfl) rfl (box_cell 4 rfl rfl)) ?_
        refine hl_v rfl rfl rfl (rv_ev rfl) ?_
        refine hl_v rfl rfl rfl (rv_index (s := 2) rfl Try.underlying35 (by kernel_rfl) rfl rfl (rd_old ((hr).n.lt.row)) (by omega) (by first | omega | (simp only [List.length_set]; omega))) ?_
        refine hl_v rfl rfl rfl (rv_fieldEl (k0 := 0) rfl (by kernel_rfl) rfl (rd_old ((hr).n.lt.row)) (by first | omega | (simp only [List.length_set]; omega))) ?_
        refine hl_v rfl rfl rfl (rv_loadEl (u := (x.n.ls.getD i lt0).iv) rfl (by kernel_rfl) rfl (rd_old ((hr).n.lt.row)) ((flat_at ltC 2 (fun _ => rfl) x.n.ls lt0 (show i < _ by first | omega | (simp only [List.length_set]; omega)) (by decide)).trans rfl)) ?_
        refine hl_v rfl rfl rfl (rv_len rfl Try.underlying24 rfl (rd_old ((hr).n.lt.at (d := lt0) (k := i) (by omega)))) ?_
        refine hl_v rfl rfl rfl (rv_ev rfl) ?_
        refine hl_less (sx 0 rfl (sx 1 rfl (sx 2 rfl (sx 4 rfl (sx 5 rfl (sx 6 rfl (sx 7 rfl (sx 8 rfl (sx 9 rfl (sx 11 rfl (sx 12 rfl (sx 32 rfl (sx 33 rfl (sx 34 rfl (sx 47 rfl (sx 59 rfl (sx 60 rfl (sx 61 rfl (sx 96 rfl (sx 99 rfl (sx 111 rfl (sub_nil _)))))))))))))))))))))) (.refl _) ?_
        refine hl_nil ?_
        refine hq_then ?_
        refine hc_block ?_
        refine hc_loop2 (α := Nat) (β := Int) (fun j q => [bigE (e2.map irPart), rowE 3 1 v3 ((ovX x).length) ((ovX x).map (Value.int .i64)), rowE 24 1 (.slice (some ⟨g6, 0, none⟩) ((List.replicate (x.n.cnt).toNat ir0).length) ((List.replicate (x.n.cnt).toNat ir0).length)) e2.length (e2.flatMap irC), boxE b7 #[v3, .slice (some ⟨g6, 0, none⟩) ((List.replicate (x.n.cnt).toNat ir0).length) ((List.replicate (x.n.cnt).toNat ir0).length)] 92, boxE b2 #[.int .i64 x.n.ins, x.n.sv, x.n.lv, x.n.ov] 37, boxE b1 #[.int .i64 x.n.ins, x.n.sv, x.n.lv, x.n.ov, x.pv, x.qv, x.kv, x.av, x.bv, .int .i64 x.oi, .int .i64 x.ni] 40]) (fun j q => [(0, .agg #[.int .i64 x.n.ins, x.n.sv, x.n.lv, x.n.ov, x.pv, x.qv, x.kv, x.av, x.bv, .int .i64 x.oi, .int .i64 x.ni]), (1, .int .i64 a), (2, .pointer (some ⟨b1, 0, none⟩)), (4, .pointer none), (5, .pointer (some ⟨b2, 0, none⟩)), (6, .pointer (some ⟨b7, 0, none⟩)), (7, .int .i64 (m : Int)), (8, .int .i64 (t : Int)), (9, .int .i64 0), (11, .int .i64 (i : Int)), (12, .int .i64 q), (32, .int .i64 ((List.replicate (x.n.cnt).toNat ir0).length : Int)), (33, .int .i64 (m : Int)), (34, .bool true), (47, .bool true), (59, (x.n.ls.getD i lt0).iv), (60, .int .i64 (((x.n.ls.getD i lt0).xs).length : Int)), (61, .int .i64 (j : Int)), (96, .bool false), (99, .bool false), (111, .bool false)]) (fun j q => j ≤ (x.n.ls.getD i lt0).xs.length ∧ q = pk (lin x (wvsL x a.toNat m) i (t : Int)) j) (fun j q => (x.n.ls.getD i lt0).xs.length - j) 0 0 ⟨Nat.zero_le _, rfl⟩ (sx 0 rfl (sx 1 rfl (sx 2 rfl (sx 4 rfl (sx 5 rfl (sx 6 rfl (sx 7 rfl (sx 8 rfl (sx 9 rfl (sx 11 rfl (sx 12 rfl (sx 32 rfl (sx 33 rfl (sx 34 rfl (sx 47 rfl (sx 59 rfl (sx 60 rfl (sx 61 rfl (sx 96 rfl (sx 99 rfl (sx 111 rfl (sub_nil _)))))))))))))))))))))) ((.cons_cons _ (.cons_cons _ (.cons_cons _ (.cons_cons _ (.cons_cons _ (.cons_cons _ .slnil))))))) ?_
        intro j q hi17
        obtain ⟨hj, hq⟩ := hi17
        refine hc_seq ?_
        refine hc_region ?_
        refine hl_lss rfl rfl rfl rfl rfl rfl (fun h18 => ?_) (fun h18 => ?_)
        ·
         refine hl_less (sx 0 rfl (sx 1 rfl (sx 2 rfl (sx 4 rfl (sx 5 rfl (sx 6 rfl (sx 7 rfl (sx 8 rfl (sx 9 rfl (sx 11 rfl (sx 12 rfl (sx 32 rfl (sx 33 rfl (sx 34 rfl (sx 47 rfl (sx 59 rfl (sx 60 rfl (sx 61 rfl (sx 62 rfl (sx 96 rfl (sx 99 rfl (sx 111 rfl (sub_nil _))))))))))))))))))))))) (.refl _) ?_
         refine hl_nil ?_
         refine hq_then ?_
         refine hc_seq ?_
         refine hc_true rfl ?_
         refine hc_skip ?_
         refine hq_then ?_
         refine hc_seq ?_
         refine hc_block ?_
         refine hc_seq ?_
         refine hc_region ?_
         refine hl_v rfl rfl rfl (rv_ev rfl) ?_
         refine hl_v rfl rfl rfl (rv_index (s := 1) rfl Try.underlying24 (by kernel_rfl) rfl rfl (rd_old ((hr).n.lt.at (d := lt0) (k := i) (by omega))) (by omega) (by first | omega | (simp only [List.length_set]; omega))) ?_
         refine hl_v rfl rfl rfl (rv_loadEl (u := .int .i64 (((x.n.ls.getD i lt0).xs).getD j 0)) rfl (by kernel_rfl) rfl (rd_old ((hr).n.lt.at (d := lt0) (k := i) (by omega))) (ints_at1 (show _ < ((x.n.ls.getD i lt0).xs).length by first | omega | (simp only [List.length_set]; omega)))) ?_
         refine hl_v rfl rfl rfl (rv_ev rfl) ?_
         refine hl_v rfl rfl rfl (rv_ev rfl) ?_
         refine hl_less (sx 0 rfl (sx 1 rfl (sx 2 rfl (sx 4 rfl (sx 5 rfl (sx 6 rfl (sx 7 rfl (sx 8 rfl (sx 9 rfl (sx 11 rfl (sx 12 rfl (sx 13 rfl (sx 14 rfl (sx 32 rfl (sx 33 rfl (sx 34 rfl (sx 47 rfl (sx 59 rfl (sx 60 rfl (sx 61 rfl (sx 62 rfl (sx 96 rfl (sx 99 rfl (sx 111 rfl (sub_nil _))))))))))))))))))))))))) (.refl _) ?_
         refine hl_nil ?_
         refine hq_then ?_
         refine hc_region ?_
         have hns := hlt9.1.2 j (by omega)
         have hdj := (hok.dl i hil).2 j (by omega)
         have hbk : (lin x (wvsL x a.toNat m) i (t : Int)) j = 0 ∨ (lin x (wvsL x a.toNat m) i (t : Int)) j = 1 := lin01 hok (by omega) hmi (by omega) j (by omega)
         have hal : ∀ z, z < j → (lin x (wvsL x a.toNat m) i (t : Int)) z = 0 ∨ (lin x (wvsL x a.toNat m) i (t : Int)) z = 1 := fun z hz => lin01 hok (by omega) hmi (by omega) z (by omega)
         have hpr := pk16 (b := (lin x (wvsL x a.toNat m) i (t : Int))) (k := j) hal (by omega)
         refine hl_v rfl rfl rfl (rv_ev rfl) ?_
         refine hl_v rfl rfl rfl (rv_ev rfl) ?_
         refine hl_v rfl rfl rfl (rv_ev rfl) ?_
         refine hl_v rfl rfl rfl (rv_ev rfl) ?_
         refine hl_v rfl rfl rfl (rv_field (k0 := 4) rfl (by kernel_rfl) rfl) ?_
         refine hl_v rfl rfl rfl (rv_field (k0 := 0) rfl (by kernel_rfl) rfl) ?_
         refine hl_v rfl rfl rfl (rv_load rfl (by kernel_rfl) rfl (box_cell 5 rfl rfl)) ?_
         refine hl_v rfl rfl rfl (rv_ev rfl) ?_
         refine hl_v rfl rfl rfl (rv_index (s := 1) rfl Try.underlying27 (by kernel_rfl) rfl rfl (rd_old ((hr).dl.row)) (by omega) (by first | omega | (simp only [List.length_set]; omega))) ?_
         refine hl_v rfl rfl rfl (rv_loadEl (u := (x.dl.getD i ir0).v) rfl (by kernel_rfl) rfl (rd_old ((hr).dl.row)) (flat_one irC (fun r => r.v) (fun _ => rfl) x.dl ir0 (show i < _ by first | omega | (simp only [List.length_set]; omega)))) ?_
         refine hl_v rfl rfl rfl (rv_ev rfl) ?_
         refine hl_v rfl rfl rfl (rv_index (s := 1) rfl Try.underlying24 (by kernel_rfl) rfl rfl (rd_old ((hr).dl.at (d := ir0) (k := i) (by omega))) (by omega) (by first | omega | (simp only [List.length_set]; omega))) ?_
         refine hl_v rfl rfl rfl (rv_loadEl (u := .int .i64 (((x.dl.getD i ir0).xs).getD j 0)) rfl (by kernel_rfl) rfl (rd_old ((hr).dl.at (d := ir0) (k := i) (by omega))) (ints_at1 (show _ < ((x.dl.getD i ir0).xs).length by first | omega | (simp only [List.length_set]; omega)))) ?_
         refine hl_v rfl rfl rfl (rv_sub rfl rfl rfl (by constructor <;> omega)) ?_
         refine hl_callV rfl rfl rfl (rq_call (by kernel_rfl) rfl (fun w hm => ret_ans (wavesAt_lin w (box_cell 3 rfl rfl w hm) (box_cell 3 rfl rfl w hm) (rd_row 1 rfl w hm) (rdsIr_sep hm 0 2 rfl rfl) hw2 rfl rfl (by omega) hov.symm (by omega) (by omega)))) ?_
         refine hl_v rfl rfl rfl (rv_ev rfl) ?_
         refine hl_v rfl rfl rfl (rv_conv rfl Try.underlying3 Try.underlying112 rfl (IntWalk.u64_in _ (by omega))) ?_
         refine hl_v rfl rfl rfl (rv_shlG (k := .i64) (kk := .u64) (r := (lin x (wvsL x a.toNat m) i (t : Int)) j * 2 ^ j) rfl rfl rfl rfl (by omega) (shl_pk hbk (by omega))) ?_
         refine hl_v rfl rfl rfl (rv_bits rfl (by decide) rfl rfl (r := pk (lin x (wvsL x a.toNat m) i (t : Int)) (j + 1)) (by rw [hq]; exact or_pk hal hbk (by omega))) ?_
         refine hl_v rfl rfl rfl (rv_ev rfl) ?_
         refine hl_less (sx 0 rfl (sx 1 rfl (sx 2 rfl (sx 4 rfl (sx 5 rfl (sx 6 rfl (sx 7 rfl (sx 8 rfl (sx 9 rfl (sx 11 rfl (sx 12 rfl (sx 13 rfl (sx 14 rfl (sx 32 rfl (sx 33 rfl (sx 34 rfl (sx 47 rfl (sx 59 rfl (sx 60 rfl (sx 61 rfl (sx 62 rfl (sx 96 rfl (sx 99 rfl (sx 111 rfl (sub_nil _))))))))))))))))))))))))) (.refl _) ?_
         refine hl_nil ?_
         refine hq_block_normal ?_
         refine hq_then ?_
         refine hc_region ?_
         refine hl_v rfl rfl rfl (rv_add rfl rfl rfl (by constructor <;> omega)) ?_
         refine hl_v rfl rfl rfl (rv_ev rfl) ?_
         refine hl_less (sx 0 rfl (sx 1 rfl (sx 2 rfl (sx 4 rfl (sx 5 rfl (sx 6 rfl (sx 7 rfl (sx 8 rfl (sx 9 rfl (sx 11 rfl (sx 12 rfl (sx 13 rfl (sx 14 rfl (sx 32 rfl (sx 33 rfl (sx 34 rfl (sx 47 rfl (sx 59 rfl (sx 60 rfl (sx 61 rfl (sx 62 rfl (sx 96 rfl (sx 99 rfl (sx 111 rfl (sub_nil _))))))))))))))))))))))))) (.refl _) ?_
         refine hl_nil ?_
         exact hq_round2 (j + 1) _ ⟨by omega, by first | rfl | (rw [hq]; rfl)⟩ (by omega) (sx 0 rfl (sx 1 rfl (sx 2 rfl (sx 4 rfl (sx 5 rfl (sx 6 rfl (sx 7 rfl (sx 8 rfl (sx 9 rfl (sx 11 rfl (sx 12 rfl (sx 32 rfl (sx 33 rfl (sx 34 rfl (sx 47 rfl (sx 59 rfl (sx 60 rfl (sx 61 rfl (sx 96 rfl (sx 99 rfl (sx 111 rfl (sub_nil _)))))))))))))))))))))) ((.cons_cons _ (.cons_cons _ (.cons_cons _ (.cons_cons _ (.cons_cons _ (.cons_cons _ .slnil)))))))
        ·
         refine hl_less (sx 0 rfl (sx 1 rfl (sx 2 rfl (sx 4 rfl (sx 5 rfl (sx 6 rfl (sx 7 rfl (sx 8 rfl (sx 9 rfl (sx 11 rfl (sx 12 rfl (sx 32 rfl (sx 33 rfl (sx 34 rfl (sx 47 rfl (sx 59 rfl (sx 60 rfl (sx 61 rfl (sx 62 rfl (sx 96 rfl (sx 99 rfl (sx 111 rfl (sub_nil _))))))))))))))))))))))) (.refl _) ?_
         refine hl_nil ?_
         refine hq_then ?_
         refine hc_seq ?_
         refine hc_false rfl ?_
         refine hc_exit ?_
         refine hq_then_exit ?_
         refine hq_then_exit ?_
         refine hq_block_exit ?_
         refine hq_then ?_
         refine hc_region ?_
         have hal : ∀ z, z < j → (lin x (wvsL x a.toNat m) i (t : Int)) z = 0 ∨ (lin x (wvsL x a.toNat m) i (t : Int)) z = 1 := fun z hz => lin01 hok (by omega) hmi (by omega) z (by omega)
         have hpr := pk16 (b := (lin x (wvsL x a.toNat m) i (t : Int))) (k := j) hal (by omega)
         refine hl_v rfl rfl rfl (rv_field (k0 := 2) rfl (by kernel_rfl) rfl) ?_
         refine hl_v rfl rfl rfl (rv_load rfl (by kernel_rfl) rfl (box_cell 4 rfl rfl)) ?_
         refine hl_v rfl rfl rfl (rv_ev rfl) ?_
         refine hl_v rfl rfl rfl (rv_index (s := 2) rfl Try.underlying35 (by kernel_rfl) rfl rfl (rd_old ((hr).n.lt.row)) (by omega) (by first | omega | (simp only [List.length_set]; omega))) ?_
         refine hl_v rfl rfl rfl (rv_fieldEl (k0 := 1) rfl (by kernel_rfl) rfl (rd_old ((hr).n.lt.row)) (by first | omega | (simp only [List.length_set]; omega))) ?_
         refine hl_v rfl rfl rfl (rv_loadEl (u := .int .i64 ((x.n.ls.getD i lt0).ma)) rfl (by kernel_rfl) rfl (rd_old ((hr).n.lt.row)) ((flat_at ltC 2 (fun _ => rfl) x.n.ls lt0 (show i < _ by first | omega | (simp only [List.length_set]; omega)) (by decide)).trans rfl)) ?_
         refine hl_v rfl rfl rfl (rv_ev rfl) ?_
         refine hl_v rfl rfl rfl (rv_conv rfl Try.underlying3 Try.underlying112 rfl (IntWalk.u64_in _ (by omega))) ?_
         refine hl_v rfl rfl rfl (rv_shr rfl rfl rfl (by omega)) ?_
         refine hl_v rfl rfl rfl (rv_bits rfl (by decide) rfl rfl (r := (((x.n.ls.getD i lt0).ma) / 2 ^ (q : Int).toNat) % 2) (andOne _)) ?_
         refine hl_v rfl rfl rfl (rv_ev rfl) ?_
         refine hl_less (sx 0 rfl (sx 1 rfl (sx 2 rfl (sx 4 rfl (sx 5 rfl (sx 6 rfl (sx 7 rfl (sx 8 rfl (sx 9 rfl (sx 11 rfl (sx 12 rfl (sx 32 rfl (sx 33 rfl (sx 34 rfl (sx 47 rfl (sx 59 rfl (sx 60 rfl (sx 61 rfl (sx 62 rfl (sx 96 rfl (sx 99 rfl (sx 111 rfl (sub_nil _))))))))))))))))))))))) (.refl _) ?_
         refine hl_nil ?_
         refine hq_block_normal ?_
         refine hq_then ?_
         refine hc_region ?_
         refine hl_conv [bigE (e2.map irPart), rowE 3 1 v3 ((ovX x).length) ((ovX x).map (Value.int .i64)), rowE 24 1 (.slice (some ⟨g6, 0, none⟩) ((List.replicate (x.n.cnt).toNat ir0).length) ((List.replicate (x.n.cnt).toNat ir0).length)) e2.length (e2.flatMap irC), boxE b7 #[v3, .slice (some ⟨g6, 0, none⟩) ((List.replicate (x.n.cnt).toNat ir0).length) ((List.replicate (x.n.cnt).toNat ir0).length)] 92, boxE b2 #[.int .i64 x.n.ins, x.n.sv, x.n.lv, x.n.ov] 37, boxE b1 #[.int .i64 x.n.ins, x.n.sv, x.n.lv, x.n.ov, x.pv, x.qv, x.kv, x.av, x.bv, .int .i64 x.oi, .int .i64 x.ni] 40] (conv_pick (src := [bigE (e2.map irPart), rowE 3 1 v3 ((ovX x).length) ((ovX x).map (Value.int .i64)), rowE 24 1 (.slice (some ⟨g6, 0, none⟩) ((List.replicate (x.n.cnt).toNat ir0).length) ((List.replicate (x.n.cnt).toNat ir0).length)) e2.length (e2.flatMap irC), boxE b7 #[v3, .slice (some ⟨g6, 0, none⟩) ((List.replicate (x.n.cnt).toNat ir0).length) ((List.replicate (x.n.cnt).toNat ir0).length)] 92, boxE b2 #[.int .i64 x.n.ins, x.n.sv, x.n.lv, x.n.ov] 37, boxE b1 #[.int .i64 x.n.ins, x.n.sv, x.n.lv, x.n.ov, x.pv, x.qv, x.kv, x.av, x.bv, .int .i64 x.oi, .int .i64 x.ni] 40]) (dst := [bigE (e2.map irPart), rowE 3 1 v3 ((ovX x).length) ((ovX x).map (Value.int .i64)), rowE 24 1 (.slice (some ⟨g6, 0, none⟩) ((List.replicate (x.n.cnt).toNat ir0).length) ((List.replicate (x.n.cnt).toNat ir0).length)) e2.length (e2.flatMap irC), boxE b7 #[v3, .slice (some ⟨g6, 0, none⟩) ((List.replicate (x.n.cnt).toNat ir0).length) ((List.replicate (x.n.cnt).toNat ir0).length)] 92, boxE b2 #[.int .i64 x.n.ins, x.n.sv, x.n.lv, x.n.ov] 37, boxE b1 #[.int .i64 x.n.ins, x.n.sv, x.n.lv, x.n.ov, x.pv, x.qv, x.kv, x.av, x.bv, .int .i64 x.oi, .int .i64 x.ni] 40]) (l := []) [0, 1, 2, 3, 4, 5] (by decide) rfl) ?_
         refine hl_conv [rowE 3 1 ((e2.getD m ir0).v) (((e2.getD m ir0).xs).length) (((e2.getD m ir0).xs).map (Value.int .i64)), bigE ((e2.map irPart).eraseIdx m), rowE 3 1 v3 ((ovX x).length) ((ovX x).map (Value.int .i64)), rowE 24 1 (.slice (some ⟨g6, 0, none⟩) ((List.replicate (x.n.cnt).toNat ir0).length) ((List.replicate (x.n.cnt).toNat ir0).length)) e2.length (e2.flatMap irC), boxE b7 #[v3, .slice (some ⟨g6, 0, none⟩) ((List.replicate (x.n.cnt).toNat ir0).length) ((List.replicate (x.n.cnt).toNat ir0).length)] 92, boxE b2 #[.int .i64 x.n.ins, x.n.sv, x.n.lv, x.n.ov] 37, boxE b1 #[.int .i64 x.n.ins, x.n.sv, x.n.lv, x.n.ov, x.pv, x.qv, x.kv, x.av, x.bv, .int .i64 x.oi, .int .i64 x.ni] 40] (conv_irFocus (es := e2) (j := m) (by omega)) ?_
         refine hl_v rfl rfl rfl (rv_ev rfl) ?_
         refine hl_v rfl rfl rfl (rv_nilCheck rfl rfl) ?_
         refine hl_v rfl rfl rfl (rv_field (k0 := 1) rfl (by kernel_rfl) rfl) ?_
         refine hl_v rfl rfl rfl (rv_load rfl (by kernel_rfl) rfl (box_cell 4 rfl rfl)) ?_
         refine hl_v rfl rfl rfl (rv_ev rfl) ?_
         refine hl_v rfl rfl rfl (rv_index (s := 1) rfl Try.underlying27 (by kernel_rfl) rfl rfl (rd_row 3 rfl) (by omega) (by first | omega | (simp only [List.length_set]; omega))) ?_
         refine hl_v rfl rfl rfl (rv_loadEl (u := (e2.getD m ir0).v) rfl (by kernel_rfl) rfl (rd_row 3 rfl) (flat_one irC (fun r => r.v) (fun _ => rfl) e2 ir0 (show m < _ by first | omega | (simp only [List.length_set]; omega)))) ?_
         refine hl_v rfl rfl rfl (rv_ev rfl) ?_
         refine hl_v rfl rfl rfl (rv_ev rfl) ?_
         refine hl_v rfl rfl rfl (rv_index (s := 1) rfl Try.underlying24 (by kernel_rfl) rfl rfl (rd_row 0 rfl) (by omega) (by first | omega | (simp only [List.length_set]; omega))) ?_
         refine hl_storeEl (i := 0) (n' := (((e2.getD m ir0).xs).set t ((((x.n.ls.getD i lt0).ma) / 2 ^ (q : Int).toNat) % 2)).length) (xs' := ((((e2.getD m ir0).xs).set t ((((x.n.ls.getD i lt0).ma) / 2 ^ (q : Int).toNat) % 2)).map (Value.int .i64))) (l' := [rowE 3 1 ((e2.getD m ir0).v) ((((e2.getD m ir0).xs).set t ((((x.n.ls.getD i lt0).ma) / 2 ^ (q : Int).toNat) % 2)).length) ((((e2.getD m ir0).xs).set t ((((x.n.ls.getD i lt0).ma) / 2 ^ (q : Int).toNat) % 2)).map (Value.int .i64)), bigE ((e2.map irPart).eraseIdx m), rowE 3 1 v3 ((ovX x).length) ((ovX x).map (Value.int .i64)), rowE 24 1 (.slice (some ⟨g6, 0, none⟩) ((List.replicate (x.n.cnt).toNat ir0).length) ((List.replicate (x.n.cnt).toNat ir0).length)) e2.length (e2.flatMap irC), boxE b7 #[v3, .slice (some ⟨g6, 0, none⟩) ((List.replicate (x.n.cnt).toNat ir0).length) ((List.replicate (x.n.cnt).toNat ir0).length)] 92, boxE b2 #[.int .i64 x.n.ins, x.n.sv, x.n.lv, x.n.ov] 37, boxE b1 #[.int .i64 x.n.ins, x.n.sv, x.n.lv, x.n.ov, x.pv, x.qv, x.kv, x.av, x.bv, .int .i64 x.oi, .int .i64 x.ni] 40]) rfl rfl rfl (by kernel_rfl) rfl rfl rfl rfl (by first | omega | (simp only [List.length_set]; omega)) List.length_set.symm (ints_set _ _ _) rfl ?_
         refine hl_less (sx 0 rfl (sx 1 rfl (sx 2 rfl (sx 4 rfl (sx 5 rfl (sx 6 rfl (sx 7 rfl (sx 8 rfl (sx 9 rfl (sx 11 rfl (sx 12 rfl (sx 32 rfl (sx 33 rfl (sx 34 rfl (sx 47 rfl (sx 59 rfl (sx 60 rfl (sx 61 rfl (sx 62 rfl (sx 96 rfl (sx 99 rfl (sx 111 rfl (sub_nil _))))))))))))))))))))))) (.refl _) ?_
         refine hl_nil ?_
         refine hq_block_normal ?_
         refine hq_then ?_
         refine hc_region ?_
         refine hl_v rfl rfl rfl (rv_ev rfl) ?_
         refine hl_v rfl rfl rfl (rv_add rfl rfl rfl (by constructor <;> omega)) ?_
         refine hl_v rfl rfl rfl (rv_ev rfl) ?_
         refine hl_less (sx 0 rfl (sx 1 rfl (sx 2 rfl (sx 4 rfl (sx 5 rfl (sx 6 rfl (sx 7 rfl (sx 8 rfl (sx 9 rfl (sx 11 rfl (sx 12 rfl (sx 32 rfl (sx 33 rfl (sx 34 rfl (sx 47 rfl (sx 59 rfl (sx 60 rfl (sx 61 rfl (sx 62 rfl (sx 96 rfl (sx 99 rfl (sx 111 rfl (sub_nil _))))))))))))))))))))))) (.refl _) ?_
         refine hl_nil ?_
         have hv9 : (((x.n.ls.getD i lt0).ma) / 2 ^ (q : Int).toNat) % 2 = wvV x (wvsL x a.toNat m) m (t : Int) := by rw [wv_lut x _ _ hmi]; unfold lutV; rw [hq, show j = (x.n.ls.getD i lt0).xs.length by omega]
         refine hq_conv [rowE 3 1 ((e2.getD m ir0).v) ((((e2.getD m ir0).xs).set t ((((x.n.ls.getD i lt0).ma) / 2 ^ (q : Int).toNat) % 2)).length) ((((e2.getD m ir0).xs).set t ((((x.n.ls.getD i lt0).ma) / 2 ^ (q : Int).toNat) % 2)).map (Value.int .i64)), bigE ((e2.map irPart).eraseIdx m), rowE 3 1 v3 ((ovX x).length) ((ovX x).map (Value.int .i64)), rowE 24 1 (.slice (some ⟨g6, 0, none⟩) ((List.replicate (x.n.cnt).toNat ir0).length) ((List.replicate (x.n.cnt).toNat ir0).length)) e2.length (e2.flatMap irC), boxE b7 #[v3, .slice (some ⟨g6, 0, none⟩) ((List.replicate (x.n.cnt).toNat ir0).length) ((List.replicate (x.n.cnt).toNat ir0).length)] 92, boxE b2 #[.int .i64 x.n.ins, x.n.sv, x.n.lv, x.n.ov] 37, boxE b1 #[.int .i64 x.n.ins, x.n.sv, x.n.lv, x.n.ov, x.pv, x.qv, x.kv, x.av, x.bv, .int .i64 x.oi, .int .i64 x.ni] 40] (conv_pick (src := [rowE 3 1 ((e2.getD m ir0).v) ((((e2.getD m ir0).xs).set t ((((x.n.ls.getD i lt0).ma) / 2 ^ (q : Int).toNat) % 2)).length) ((((e2.getD m ir0).xs).set t ((((x.n.ls.getD i lt0).ma) / 2 ^ (q : Int).toNat) % 2)).map (Value.int .i64)), bigE ((e2.map irPart).eraseIdx m), rowE 3 1 v3 ((ovX x).length) ((ovX x).map (Value.int .i64)), rowE 24 1 (.slice (some ⟨g6, 0, none⟩) ((List.replicate (x.n.cnt).toNat ir0).length) ((List.replicate (x.n.cnt).toNat ir0).length)) e2.length (e2.flatMap irC), boxE b7 #[v3, .slice (some ⟨g6, 0, none⟩) ((List.replicate (x.n.cnt).toNat ir0).length) ((List.replicate (x.n.cnt).toNat ir0).length)] 92, boxE b2 #[.int .i64 x.n.ins, x.n.sv, x.n.lv, x.n.ov] 37, boxE b1 #[.int .i64 x.n.ins, x.n.sv, x.n.lv, x.n.ov, x.pv, x.qv, x.kv, x.av, x.bv, .int .i64 x.oi, .int .i64 x.ni] 40]) (dst := [rowE 3 1 ((e2.getD m ir0).v) ((((e2.getD m ir0).xs).set t ((((x.n.ls.getD i lt0).ma) / 2 ^ (q : Int).toNat) % 2)).length) ((((e2.getD m ir0).xs).set t ((((x.n.ls.getD i lt0).ma) / 2 ^ (q : Int).toNat) % 2)).map (Value.int .i64)), bigE ((e2.map irPart).eraseIdx m), rowE 3 1 v3 ((ovX x).length) ((ovX x).map (Value.int .i64)), rowE 24 1 (.slice (some ⟨g6, 0, none⟩) ((List.replicate (x.n.cnt).toNat ir0).length) ((List.replicate (x.n.cnt).toNat ir0).length)) e2.length (e2.flatMap irC), boxE b7 #[v3, .slice (some ⟨g6, 0, none⟩) ((List.replicate (x.n.cnt).toNat ir0).length) ((List.replicate (x.n.cnt).toNat ir0).length)] 92, boxE b2 #[.int .i64 x.n.ins, x.n.sv, x.n.lv, x.n.ov] 37, boxE b1 #[.int .i64 x.n.ins, x.n.sv, x.n.lv, x.n.ov, x.pv, x.qv, x.kv, x.av, x.bv, .int .i64 x.oi, .int .i64 x.ni] 40]) (l := []) [0, 1, 2, 3, 4, 5, 6] (by decide) rfl) ?_
         refine hq_conv [bigE ((e2.set m (IR.mk (e2.getD m ir0).v (((e2.getD m ir0).xs).set t ((((x.n.ls.getD i lt0).ma) / 2 ^ (q : Int).toNat) % 2)))).map irPart), rowE 3 1 v3 ((ovX x).length) ((ovX x).map (Value.int .i64)), rowE 24 1 (.slice (some ⟨g6, 0, none⟩) ((List.replicate (x.n.cnt).toNat ir0).length) ((List.replicate (x.n.cnt).toNat ir0).length)) ((e2.set m (IR.mk (e2.getD m ir0).v (((e2.getD m ir0).xs).set t ((((x.n.ls.getD i lt0).ma) / 2 ^ (q : Int).toNat) % 2)))).length) ((e2.set m (IR.mk (e2.getD m ir0).v (((e2.getD m ir0).xs).set t ((((x.n.ls.getD i lt0).ma) / 2 ^ (q : Int).toNat) % 2)))).flatMap irC), boxE b7 #[v3, .slice (some ⟨g6, 0, none⟩) ((List.replicate (x.n.cnt).toNat ir0).length) ((List.replicate (x.n.cnt).toNat ir0).length)] 92, boxE b2 #[.int .i64 x.n.ins, x.n.sv, x.n.lv, x.n.ov] 37, boxE b1 #[.int .i64 x.n.ins, x.n.sv, x.n.lv, x.n.ov, x.pv, x.qv, x.kv, x.av, x.bv, .int .i64 x.oi, .int .i64 x.ni] 40] (fun w hm => by
           have h8 := conv_irUnfocus (es := e2) (j := m) (e' := IR.mk (e2.getD m ir0).v (((e2.getD m ir0).xs).set t ((((x.n.ls.getD i lt0).ma) / 2 ^ (q : Int).toNat) % 2))) (by omega) w hm
           have h7 : (e2.set m (IR.mk (e2.getD m ir0).v (((e2.getD m ir0).xs).set t ((((x.n.ls.getD i lt0).ma) / 2 ^ (q : Int).toNat) % 2)))).flatMap irC = e2.flatMap irC := flat_same
           rw [h7, List.length_set]; exact h8) ?_
         exact hq_round2 (t + 1) (e2.set m (IR.mk (e2.getD m ir0).v (((e2.getD m ir0).xs).set t ((((x.n.ls.getD i lt0).ma) / 2 ^ (q : Int).toNat) % 2)))) ⟨by omega, hw2.set _, by rw [set_selfG (by omega)]; show ((e2.getD m ir0).xs).set t ((((x.n.ls.getD i lt0).ma) / 2 ^ (q : Int).toNat) % 2) = _; rw [hx2]; exact rowW_set (by omega) hv9⟩ (by omega) (sx 0 rfl (sx 1 rfl (sx 2 rfl (sx 4 rfl (sx 5 rfl (sx 6 rfl (sx 7 rfl (sx 8 rfl (sx 32 rfl (sx 33 rfl (sx 34 rfl (sub_nil _)))))))))))) ((.cons_cons _ (.cons_cons _ (.cons_cons _ (.cons_cons _ (.cons_cons _ (.cons_cons _ .slnil)))))))
    ·
     refine hl_less (sx 0 rfl (sx 1 rfl (sx 2 rfl (sx 4 rfl (sx 5 rfl (sx 6 rfl (sx 7 rfl (sx 8 rfl (sx 32 rfl (sx 33 rfl (sx 34 rfl (sx 47 rfl (sub_nil _))))))))))))) (.refl _) ?_
     refine hl_nil ?_
     refine hq_then ?_
     refine hc_false rfl ?_
     refine hc_exit ?_
     refine hq_then_exit ?_
     refine hq_then_exit ?_
     refine hq_block_exit ?_
     refine hq_block_normal ?_
     refine hq_then ?_
     refine hc_region ?_
     refine hl_v rfl rfl rfl (rv_add rfl rfl rfl (by constructor <;> omega)) ?_
     refine hl_v rfl rfl rfl (rv_ev rfl) ?_
     refine hl_less (sx 0 rfl (sx 1 rfl (sx 2 rfl (sx 4 rfl (sx 5 rfl (sx 6 rfl (sx 7 rfl (sx 8 rfl (sx 32 rfl (sx 33 rfl (sx 34 rfl (sx 47 rfl (sub_nil _))))))))))))) (.refl _) ?_
     refine hl_nil ?_
     exact hq_round2 (m + 1) e2 ⟨by omega, hw2.next (by rw [hx2, show t = a.toNat + 1 by omega]; exact fzT_allW _ _ _ _)⟩ (by omega) (sx 0 rfl (sx 1 rfl (sx 2 rfl (sx 4 rfl (sx 5 rfl (sx 6 rfl (sx 32 rfl (sx 33 rfl (sub_nil _))))))))) ((.cons_cons _ (.cons_cons _ (.cons_cons _ (.cons_cons _ (.cons_cons _ (.cons_cons _ .slnil)))))))
  ·
   refine hl_less (sx 0 rfl (sx 1 rfl (sx 2 rfl (sx 4 rfl (sx 5 rfl (sx 6 rfl (sx 32 rfl (sx 33 rfl (sx 34 rfl (sub_nil _)))))))))) (.refl _) ?_
   refine hl_nil ?_
   refine hq_then ?_
   refine hc_seq ?_
   refine hc_false rfl ?_
   refine hc_exit ?_
   refine hq_then_exit ?_
   refine hq_then_exit ?_
   refine hq_block_exit ?_
   refine hq_then ?_
   refine hc_seq ?_
   refine hc_region ?_
   refine hl_v rfl rfl rfl (rv_ev rfl) ?_
   refine hl_v rfl rfl rfl (rv_ev rfl) ?_
   refine hl_less (sx 0 rfl (sx 1 rfl (sx 2 rfl (sx 4 rfl (sx 5 rfl (sx 6 rfl (sx 32 rfl (sx 33 rfl (sx 34 rfl (sub_nil _)))))))))) (.refl _) ?_
   refine hl_nil ?_
   refine hq_then ?_
   refine hc_ret ?_
   refine hq_oneW (i := 2) rfl (fun hoR => ?_)
   refine hq_conv [bigE (es.map irPart), rowE 24 1 (.slice (some ⟨g6, 0, none⟩) ((List.replicate (x.n.cnt).toNat ir0).length) ((List.replicate (x.n.cnt).toNat ir0).length)) es.length (es.flatMap irC), boxE b7 #[v3, .slice (some ⟨g6, 0, none⟩) ((List.replicate (x.n.cnt).toNat ir0).length) ((List.replicate (x.n.cnt).toNat ir0).length)] 92, rowE 3 1 v3 ((ovX x).length) ((ovX x).map (Value.int .i64))] (conv_pick (src := [bigE (es.map irPart), rowE 3 1 v3 ((ovX x).length) ((ovX x).map (Value.int .i64)), rowE 24 1 (.slice (some ⟨g6, 0, none⟩) ((List.replicate (x.n.cnt).toNat ir0).length) ((List.replicate (x.n.cnt).toNat ir0).length)) es.length (es.flatMap irC), boxE b7 #[v3, .slice (some ⟨g6, 0, none⟩) ((List.replicate (x.n.cnt).toNat ir0).length) ((List.replicate (x.n.cnt).toNat ir0).length)] 92, boxE b2 #[.int .i64 x.n.ins, x.n.sv, x.n.lv, x.n.ov] 37, boxE b1 #[.int .i64 x.n.ins, x.n.sv, x.n.lv, x.n.ov, x.pv, x.qv, x.kv, x.av, x.bv, .int .i64 x.oi, .int .i64 x.ni] 40]) (dst := [bigE (es.map irPart), rowE 24 1 (.slice (some ⟨g6, 0, none⟩) ((List.replicate (x.n.cnt).toNat ir0).length) ((List.replicate (x.n.cnt).toNat ir0).length)) es.length (es.flatMap irC), boxE b7 #[v3, .slice (some ⟨g6, 0, none⟩) ((List.replicate (x.n.cnt).toNat ir0).length) ((List.replicate (x.n.cnt).toNat ir0).length)] 92, rowE 3 1 v3 ((ovX x).length) ((ovX x).map (Value.int .i64))]) (l := []) [0, 2, 3, 1] (by decide) rfl) ?_
   refine hq_conv [irsE (.slice (some ⟨g6, 0, none⟩) ((List.replicate (x.n.cnt).toNat ir0).length) ((List.replicate (x.n.cnt).toNat ir0).length)) es, boxE b7 #[v3, .slice (some ⟨g6, 0, none⟩) ((List.replicate (x.n.cnt).toNat ir0).length) ((List.replicate (x.n.cnt).toNat ir0).length)] 92, rowE 3 1 v3 ((ovX x).length) ((ovX x).map (Value.int .i64))] (conv_big (ps := [bigE (es.map irPart), rowE 24 1 (.slice (some ⟨g6, 0, none⟩) ((List.replicate (x.n.cnt).toNat ir0).length) ((List.replicate (x.n.cnt).toNat ir0).length)) es.length (es.flatMap irC)])) ?_
   exact hq_retR (post := [irsE (.slice (some ⟨g6, 0, none⟩) ((List.replicate (x.n.cnt).toNat ir0).length) ((List.replicate (x.n.cnt).toNat ir0).length)) es, boxE b7 #[v3, .slice (some ⟨g6, 0, none⟩) ((List.replicate (x.n.cnt).toNat ir0).length) ((List.replicate (x.n.cnt).toNat ir0).length)] 92, rowE 3 1 v3 ((ovX x).length) ((ovX x).map (Value.int .i64))]) rfl rfl (.refl _) ⟨b7, v3, .slice (some ⟨g6, 0, none⟩) ((List.replicate (x.n.cnt).toNat ir0).length) ((List.replicate (x.n.cnt).toNat ir0).length), es, rfl, rfl, by rw [show m = x.n.cnt.toNat by omega] at hw; exact hw, hoR⟩
open Go.RowKit
theorem l37At_lin {x : Td} {h m i j : Nat} {v : Value} {es : List IR} {o K d t : Int} (w : World) (hv : RdsIr w v es) (hw : WOk x h m m es)
    (hk : (x.n.ls.getD i lt0).xs.getD j 0 = K) (ho : (ovX x).getD K.toNat 0 = o) (hd : (x.dl.getD i ir0).xs.getD j 0 = d) (hr : 0 ≤ K ∧ K < m) (ht : t - d ≤ h) :
    Calls Try.prog 68 #[(es.getD K.toNat ir0).v, .int .i64 o, .int .i64 (t - d)] w (Ans w (.int .i64 (lin x (wvsL x h m) i t j))) := by
  have hq := hw.row K.toNat (by omega)
  have hl : (es.getD K.toNat ir0).xs.length = h + 1 := by rw [hq]; exact wvs_rl x h (by omega)
  have h9 := l37At_ans (es.getD K.toNat ir0).xs _ o (t - d) w (hv.at (d := ir0) (k := K.toNat) (by have := hw.len; omega)) (by omega)
  have e : atW o (es.getD K.toNat ir0).xs (t - d) = lin x (wvsL x h m) i t j := by unfold lin; rw [hq, hk, ho, hd]
  rw [← e]; exact h9
theorem WOk.snoc {x : Td} {h m : Nat} {es : List IR} {e : IR} (k : WOk x h m m es) (he : e.xs = rowW x (wvsL x h m) m (h + 1)) : WOk x h (m + 1) (m + 1) (es ++ [e]) := by
  have hl := k.len
  refine ⟨by rw [List.length_append, hl]; rfl, fun q hq => ?_⟩
  by_cases c : q = m
  · subst c
    rw [getD_right (by omega), hl, Nat.sub_self, wvs_at x h _ _ (by omega)]; exact he
  · rw [getD_left (by omega), k.row q (by omega), wvs_at x h _ _ (by omega), wvs_at x h _ _ (by omega)]
end Go.Proofs.Ytceebbcoikgocaa
