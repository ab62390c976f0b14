/- Texts of the law FnExactSettleTimes, part 4: what it uses. -/
import Derived.Test.YtceebbcoikgocaaSe3
set_option linter.unusedVariables false
set_option linter.unusedSimpArgs false
namespace Go.Proofs.Ytceebbcoikgocaa
open Go.RowKit Go.ChangeShapes
open Go.RowKit
set_option maxHeartbeats 4000000 in
set_option maxRecDepth 100000 in
theorem specTimedOk_ans (x : Td) (w : World) (hr : RdsTd w x) :
  Calls Try.prog 11 #[.agg #[.int .i64 x.n.ins, x.n.sv, x.n.lv, x.n.ov, x.pv, x.qv, x.kv, x.av, x.bv, .int .i64 x.oi, .int .i64 x.ni]] w (Ans w (.bool (pB (TdOk x)))) := by
 have t1 := sml hr.ks
 have t2 := sml hr.ao
 have t3 := sml hr.bs
 have t4 := hr.dl.small
 have t5 := hr.ds.small
 have t6 := hr.n.sq.small
 have t7 := hr.n.lt.small
 have t8 := sml hr.n.ou
 have hcnt : x.n.cnt = 1 + x.n.ins + x.n.ss.length + x.n.ls.length := rfl
 have hfst : x.n.fst = 1 + x.n.ins + x.n.ss.length := rfl
 refine calls_hc (N := 99) (args := [.agg #[.int .i64 x.n.ins, x.n.sv, x.n.lv, x.n.ov, x.pv, x.qv, x.kv, x.av, x.bv, .int .i64 x.oi, .int .i64 x.ni]]) Try.func11 rfl rfl ?_
 refine hc_less _ (sx 0 rfl (sub_nil _)) (.refl _) ?_
 refine hc_seq ?_
 refine hc_region ?_
 refine hl_box rfl rfl rfl (rq_box rfl rfl) ?_
 intro b1
 refine hl_v rfl rfl rfl (rv_ev rfl) ?_
 refine hl_less (sx 0 rfl (sx 1 rfl (sx 2 rfl (sub_nil _)))) (.refl _) ?_
 refine hl_nil ?_
 refine hq_then ?_
 refine hc_seq ?_
 refine hc_seq ?_
 refine hc_region ?_
 refine hl_v rfl rfl rfl (rv_field (k0 := 0) rfl (by kernel_rfl) rfl) ?_
 refine hl_v rfl rfl rfl (rv_loadN (cs := [.int .i64 x.n.ins, x.n.sv, x.n.lv, x.n.ov]) rfl (by kernel_rfl) (by kernel_rfl) rfl rfl (box_part 0 rfl 0 rfl)) ?_
 refine hl_v rfl rfl rfl (rv_field (k0 := 7) rfl (by kernel_rfl) rfl) ?_
 refine hl_v rfl rfl rfl (rv_load rfl (by kernel_rfl) rfl (box_cell 0 rfl rfl)) ?_
 refine hl_callV rfl rfl rfl (rq_call (by kernel_rfl) rfl (fun w hm => ret_ans (specLutStateOk_ans x.n x.ao _ w (hr.n.below hm.bel) (hr.ao.below hm.bel)))) ?_
 refine hl_bool (fun h2 => ?_) (fun h2 => ?_)
 ·
  have hSao := of_pB h2
  refine hl_v rfl rfl rfl (rv_ev rfl) ?_
  refine hl_v rfl rfl rfl (rv_ev rfl) ?_
  refine hl_v rfl rfl rfl (rv_field (k0 := 0) rfl (by kernel_rfl) rfl) ?_
  refine hl_v rfl rfl rfl (rv_loadN (cs := [.int .i64 x.n.ins, x.n.sv, x.n.lv, x.n.ov]) rfl (by kernel_rfl) (by kernel_rfl) rfl rfl (box_part 0 rfl 0 rfl)) ?_
  refine hl_v rfl rfl rfl (rv_field (k0 := 8) rfl (by kernel_rfl) rfl) ?_
  refine hl_v rfl rfl rfl (rv_load rfl (by kernel_rfl) rfl (box_cell 0 rfl rfl)) ?_
  refine hl_callV rfl rfl rfl (rq_call (by kernel_rfl) rfl (fun w hm => ret_ans (specLutStateOk_ans x.n x.bs _ w (hr.n.below hm.bel) (hr.bs.below hm.bel)))) ?_
  refine hl_bool (fun h3 => ?_) (fun h3 => ?_)
  ·
   have hSbs := of_pB h3
   refine hl_v rfl rfl rfl (rv_ev rfl) ?_
   refine hl_v rfl rfl rfl (rv_ev rfl) ?_
   refine hl_v rfl rfl rfl (rv_ev rfl) ?_
   refine hl_v rfl rfl rfl (rv_field (k0 := 4) rfl (by kernel_rfl) rfl) ?_
   refine hl_v rfl rfl rfl (rv_field (k0 := 0) rfl (by kernel_rfl) rfl) ?_
   refine hl_v rfl rfl rfl (rv_load rfl (by kernel_rfl) rfl (box_cell 0 rfl rfl)) ?_
   refine hl_v rfl rfl rfl (rv_len rfl Try.underlying27 rfl (rd_old ((hr).dl.row))) ?_
   refine hl_v rfl rfl rfl (rv_field (k0 := 0) rfl (by kernel_rfl) rfl) ?_
   refine hl_v rfl rfl rfl (rv_field (k0 := 2) rfl (by kernel_rfl) rfl) ?_
   refine hl_v rfl rfl rfl (rv_load rfl (by kernel_rfl) rfl (box_cell 0 rfl rfl)) ?_
   refine hl_v rfl rfl rfl (rv_len rfl Try.underlying35 rfl (rd_old ((hr).n.lt.row))) ?_
   refine hl_neq rfl rfl rfl rfl rfl rfl (fun h4 => ?_) (fun h4 => ?_)
   ·
    refine hl_v rfl rfl rfl (rv_ev rfl) ?_
    refine hl_v rfl rfl rfl (rv_ev rfl) ?_
    refine hl_skip rfl rfl rfl ?_
    refine hl_skip rfl rfl rfl ?_
    refine hl_skip rfl rfl rfl ?_
    refine hl_skip rfl rfl rfl ?_
    refine hl_skip rfl rfl rfl ?_
    refine hl_skip rfl rfl rfl ?_
    refine hl_skip rfl rfl rfl ?_
    refine hl_skip rfl rfl rfl ?_
    refine hl_skip rfl rfl rfl ?_
    refine hl_v rfl rfl rfl (rv_ev rfl) ?_
    refine hl_v rfl rfl rfl (rv_ev rfl) ?_
    refine hl_skip rfl rfl rfl ?_
    refine hl_skip rfl rfl rfl ?_
    refine hl_skip rfl rfl rfl ?_
    refine hl_skip rfl rfl rfl ?_
    refine hl_skip rfl rfl rfl ?_
    refine hl_skip rfl rfl rfl ?_
    refine hl_skip rfl rfl rfl ?_
    refine hl_skip rfl rfl rfl ?_
    refine hl_v rfl rfl rfl (rv_ev rfl) ?_
    refine hl_less (sx 0 rfl (sx 1 rfl (sx 2 rfl (sx 50 rfl (sub_nil _))))) (.refl _) ?_
    refine hl_nil ?_
    refine hq_then ?_
    refine hc_true rfl ?_
    refine hc_seq ?_
    refine hc_region ?_
    refine hl_v rfl rfl rfl (rv_ev rfl) ?_
    refine hl_less (sx 0 rfl (sx 1 rfl (sx 2 rfl (sx 50 rfl (sub_nil _))))) (.refl _) ?_
    refine hl_nil ?_
    refine hq_then ?_
    refine hc_ret ?_
    refine hq_then_ret ?_
    exact hq_ans rfl rfl (congrArg _ (pB_no (fun hp => by first | (exact hSao ⟨hp.n, hp.a⟩) | (exact hSbs ⟨hp.n, hp.b⟩) | (exact hK hp.k) | (have h9 := hp.dn; omega) | (have h9 := hp.sn; omega) | (exact absurd (hp.dl i (by omega)) (by assumption)) | (exact absurd (hp.ds k (by omega)) (by assumption)))).symm)
   ·
    refine hl_v rfl rfl rfl (rv_ev rfl) ?_
    refine hl_v rfl rfl rfl (rv_ev rfl) ?_
    refine hl_v rfl rfl rfl (rv_field (k0 := 4) rfl (by kernel_rfl) rfl) ?_
    refine hl_v rfl rfl rfl (rv_field (k0 := 1) rfl (by kernel_rfl) rfl) ?_
    refine hl_v rfl rfl rfl (rv_load rfl (by kernel_rfl) rfl (box_cell 0 rfl rfl)) ?_
    refine hl_v rfl rfl rfl (rv_len rfl Try.underlying27 rfl (rd_old ((hr).ds.row))) ?_
    refine hl_v rfl rfl rfl (rv_field (k0 := 0) rfl (by kernel_rfl) rfl) ?_
    refine hl_v rfl rfl rfl (rv_field (k0 := 1) rfl (by kernel_rfl) rfl) ?_
    refine hl_v rfl rfl rfl (rv_load rfl (by kernel_rfl) rfl (box_cell 0 rfl rfl)) ?_
    refine hl_v rfl rfl rfl (rv_len rfl Try.underlying34 rfl (rd_old ((hr).n.sq.row))) ?_
    refine hl_neq rfl rfl rfl rfl rfl rfl (fun h5 => ?_) (fun h5 => ?_)
    ·
     refine hl_v rfl rfl rfl (rv_ev rfl) ?_
     refine hl_v rfl rfl rfl (rv_ev rfl) ?_
     refine hl_skip rfl rfl rfl ?_
     refine hl_skip rfl rfl rfl ?_
     refine hl_skip rfl rfl rfl ?_
     refine hl_skip rfl rfl rfl ?_
     refine hl_skip rfl rfl rfl ?_
     refine hl_skip rfl rfl rfl ?_
     refine hl_skip rfl rfl rfl ?_
     refine hl_skip rfl rfl rfl ?_
     refine hl_v rfl rfl rfl (rv_ev rfl) ?_
     refine hl_less (sx 0 rfl (sx 1 rfl (sx 2 rfl (sx 50 rfl (sub_nil _))))) (.refl _) ?_
     refine hl_nil ?_
     refine hq_then ?_
     refine hc_true rfl ?_
     refine hc_seq ?_
     refine hc_region ?_
     refine hl_v rfl rfl rfl (rv_ev rfl) ?_
     refine hl_less (sx 0 rfl (sx 1 rfl (sx 2 rfl (sx 50 rfl (sub_nil _))))) (.refl _) ?_
     refine hl_nil ?_
     refine hq_then ?_
     refine hc_ret ?_
     refine hq_then_ret ?_
     exact hq_ans rfl rfl (congrArg _ (pB_no (fun hp => by first | (exact hSao ⟨hp.n, hp.a⟩) | (exact hSbs ⟨hp.n, hp.b⟩) | (exact hK hp.k) | (have h9 := hp.dn; omega) | (have h9 := hp.sn; omega) | (exact absurd (hp.dl i (by omega)) (by assumption)) | (exact absurd (hp.ds k (by omega)) (by assumption)))).symm)
    ·
     refine hl_v rfl rfl rfl (rv_ev rfl) ?_
     refine hl_v rfl rfl rfl (rv_ev rfl) ?_
     refine hl_v rfl rfl rfl (rv_field (k0 := 6) rfl (by kernel_rfl) rfl) ?_
     refine hl_v rfl rfl rfl (rv_load rfl (by kernel_rfl) rfl (box_cell 0 rfl rfl)) ?_
     refine hl_v rfl rfl rfl (rv_field (k0 := 0) rfl (by kernel_rfl) rfl) ?_
     refine hl_v rfl rfl rfl (rv_field (k0 := 1) rfl (by kernel_rfl) rfl) ?_
     refine hl_v rfl rfl rfl (rv_load rfl (by kernel_rfl) rfl (box_cell 0 rfl rfl)) ?_
     refine hl_v rfl rfl rfl (rv_len rfl Try.underlying34 rfl (rd_old ((hr).n.sq.row))) ?_
     refine hl_callV rfl rfl rfl (rq_call (by kernel_rfl) rfl (fun w hm => ret_ans (l37List_ans x.ks (x.n.ss.length : Int) 50 _ w ((rd_old ((hr).ks)) w hm)))) ?_
     refine hl_bool (fun h6 => ?_) (fun h6 => ?_)
     ·
      have hK := of_pB h6
      refine hl_v rfl rfl rfl (rv_ev rfl) ?_
      refine hl_v rfl rfl rfl (rv_ev rfl) ?_
      refine hl_less (sx 0 rfl (sx 1 rfl (sx 2 rfl (sx 50 rfl (sub_nil _))))) (.refl _) ?_
      refine hl_nil ?_
      refine hq_then ?_
      refine hc_false rfl ?_
      refine hc_skip ?_
      refine hq_then ?_
      refine hc_seq ?_
      refine hc_seq ?_
      refine hc_region ?_
      refine hl_v rfl rfl rfl (rv_ev rfl) ?_
      refine hl_less (sx 0 rfl (sx 1 rfl (sx 2 rfl (sx 3 rfl (sx 50 rfl (sub_nil _)))))) (.refl _) ?_
      refine hl_nil ?_
      refine hq_then ?_
      refine hc_block ?_
      refine hc_loop1 (α := Nat) (fun i => [boxE b1 #[.int .i64 x.n.ins, x.n.sv, x.n.lv, x.n.ov, x.pv, x.qv, x.kv, x.av, x.bv, .int .i64 x.oi, .int .i64 x.ni] 40]) (fun i => [(0, .agg #[.int .i64 x.n.ins, x.n.sv, x.n.lv, x.n.ov, x.pv, x.qv, x.kv, x.av, x.bv, .int .i64 x.oi, .int .i64 x.ni]), (1, .pointer (some ⟨b1, 0, none⟩)), (2, .bool false), (3, .int .i64 (i : Int)), (50, .bool false)]) (fun i => i ≤ x.n.ls.length ∧ ∀ q, q < i → LiP (x.dl.getD q ir0).xs (x.n.ls.getD q lt0).xs.length 100) (fun i => x.n.ls.length - i) 0 ⟨Nat.zero_le _, fun q hq => absurd hq (by omega)⟩ (sx 0 rfl (sx 1 rfl (sx 2 rfl (sx 3 rfl (sx 50 rfl (sub_nil _)))))) ((.cons_cons _ .slnil)) ?_
      intro i hi7
      obtain ⟨hi, hq1⟩ := hi7
      refine hc_seq ?_
      refine hc_seq ?_
      refine hc_region ?_
      refine hl_v rfl rfl rfl (rv_ev rfl) ?_
      refine hl_v rfl rfl rfl (rv_field (k0 := 0) rfl (by kernel_rfl) rfl) ?_
      refine hl_v rfl rfl rfl (rv_field (k0 := 2) rfl (by kernel_rfl) rfl) ?_
      refine hl_v rfl rfl rfl (rv_load rfl (by kernel_rfl) rfl (box_cell 0 rfl rfl)) ?_
      refine hl_v rfl rfl rfl (rv_len rfl Try.underlying35 rfl (rd_old ((hr).n.lt.row))) ?_
      refine hl_lss rfl rfl rfl rfl rfl rfl (fun h8 => ?_) (fun h8 => ?_)
      ·
       refine hl_less (sx 0 rfl (sx 1 rfl (sx 2 rfl (sx 3 rfl (sx 50 rfl (sx 56 rfl (sub_nil _))))))) (.refl _) ?_
       refine hl_nil ?_
       refine hq_then ?_
       refine hc_true rfl ?_
       refine hc_skip ?_
       refine hq_then ?_
       refine hc_seq ?_
       refine hc_block ?_
       refine hc_seq ?_
       rcases Bool.eq_false_or_eq_true (pB (LiP ((x.dl.getD i ir0).xs) (((x.n.ls.getD i lt0).xs).length : Int) 100)) with hb9 | hb9
       ·
        have hb9p := of_pB hb9
        refine hc_draw (by kernel_rfl) 16 [0, 1, 2, 3, 4, 5, 6, 7, 8, 9, 10, 11, 12, 13, 14, 15] (List.take 16 _) (List.drop 16 _) [[], [0], [1], [], [2, 3], [4], [], [6], [7], [], [8, 9], [10], [11], [12], [5, 13], [14]] [59, 60, 61, 62, 63, 64, 65, 66, 67, 68, 69, 70, 71, 72, 73, 74] (fun i_ vs_ v_ p_ => match i_ with | 0 => v_ = .pointer (some ⟨b1, 0 + 4, none⟩) ∧ p_ = [] | 1 => v_ = .pointer (some ⟨b1, 0 + 4 + 0, none⟩) ∧ p_ = [] | 2 => v_ = x.pv ∧ p_ = [] | 3 => v_ = .int .i64 (i : Int) ∧ p_ = [] | 4 => v_ = elP x.pv (((i : Int)).toNat * 1) ∧ p_ = [] | 5 => v_ = (x.dl.getD i ir0).v ∧ p_ = [] | 6 => v_ = .pointer (some ⟨b1, 0 + 0, none⟩) ∧ p_ = [] | 7 => v_ = .pointer (some ⟨b1, 0 + 0 + 2, none⟩) ∧ p_ = [] | 8 => v_ = x.n.lv ∧ p_ = [] | 9 => v_ = .int .i64 (i : Int) ∧ p_ = [] | 10 => v_ = elP x.n.lv (((i : Int)).toNat * 2) ∧ p_ = [] | 11 => v_ = elP x.n.lv (((i : Int)).toNat * 2 + 0) ∧ p_ = [] | 12 => v_ = (x.n.ls.getD i lt0).iv ∧ p_ = [] | 13 => v_ = .int .i64 (((x.n.ls.getD i lt0).xs).length : Int) ∧ p_ = [] | 14 => v_ = .bool true ∧ p_ = [] | 15 => v_ = .bool false ∧ p_ = [] | _ => True) (List.take_append_drop 16 _).symm (by kernel_rfl) (by kernel_rfl) rfl rfl ?_ ?_
        ·
         refine ⟨?_, ?_, ?_, ?_, ?_, ?_, ?_, ?_, ?_, ?_, ?_, ?_, ?_, ?_, ?_, ?_, trivial⟩
         ·
          intro vf pf hR
          refine Or.inl ⟨rfl, ?_⟩
          refine rq_less (sx 1 rfl (sub_nil _)) (List.sublist_append_right _ _) ?_
          exact rq_v (rv_field (k0 := 4) rfl (by kernel_rfl) rfl)
         ·
          intro vf pf hR
          have e0 : (vf 0) = .pointer (some ⟨b1, 0 + 4, none⟩) ∧ (pf 0) = [] := hR 0 (by decide)
          refine Or.inl ⟨rfl, ?_⟩
          refine rq_less (sx 59 (congrArg some e0.1) (sub_nil _)) (List.sublist_append_right _ _) ?_
          exact rq_v (rv_field (k0 := 0) rfl (by kernel_rfl) rfl)
         ·
          intro vf pf hR
          have e1 : (vf 1) = .pointer (some ⟨b1, 0 + 4 + 0, none⟩) ∧ (pf 1) = [] := hR 1 (by decide)
          refine Or.inl ⟨rfl, ?_⟩
          refine rq_less (sx 60 (congrArg some e1.1) (sub_nil _)) (List.sublist_append_right _ _) ?_
          exact rq_v (rv_load rfl (by kernel_rfl) rfl (box_cell 0 rfl rfl))
         ·
          intro vf pf hR
          refine Or.inl ⟨rfl, ?_⟩
          refine rq_less (sx 3 rfl (sub_nil _)) (List.sublist_append_right _ _) ?_
          exact rq_v (rv_ev rfl)
         ·
          intro vf pf hR
          have e2 : (vf 2) = x.pv ∧ (pf 2) = [] := hR 2 (by decide)
          have e3 : (vf 3) = .int .i64 (i : Int) ∧ (pf 3) = [] := hR 3 (by decide)
          refine Or.inl ⟨rfl, ?_⟩
          refine rq_less (sx 61 (congrArg some e2.1) (sx 62 (congrArg some e3.1) (sub_nil _))) (List.sublist_append_right _ _) ?_
          exact rq_v (rv_index (s := 1) rfl Try.underlying27 (by kernel_rfl) rfl rfl (rd_old ((hr).dl.row)) (by omega) (by first | omega | (simp only [List.length_set]; omega)))
         ·
          intro vf pf hR
          have e4 : (vf 4) = elP x.pv (((i : Int)).toNat * 1) ∧ (pf 4) = [] := hR 4 (by decide)
          refine Or.inl ⟨rfl, ?_⟩
          refine rq_less (sx 63 (congrArg some e4.1) (sub_nil _)) (List.sublist_append_right _ _) ?_
          exact rq_v (rv_loadEl (u := (x.dl.getD i ir0).v) rfl (by kernel_rfl) rfl (rd_old ((hr).dl.row)) (flat_one irC (fun r => r.v) (fun _ => rfl) x.dl ir0 (show i < _ by first | omega | (simp only [List.length_set]; omega))))
         ·
          intro vf pf hR
          refine Or.inl ⟨rfl, ?_⟩
          refine rq_less (sx 1 rfl (sub_nil _)) (List.sublist_append_right _ _) ?_
          exact rq_v (rv_field (k0 := 0) rfl (by kernel_rfl) rfl)
         ·
          intro vf pf hR
          have e6 : (vf 6) = .pointer (some ⟨b1, 0 + 0, none⟩) ∧ (pf 6) = [] := hR 6 (by decide)
          refine Or.inl ⟨rfl, ?_⟩
          refine rq_less (sx 65 (congrArg some e6.1) (sub_nil _)) (List.sublist_append_right _ _) ?_
          exact rq_v (rv_field (k0 := 2) rfl (by kernel_rfl) rfl)
         ·
          intro vf pf hR
          have e7 : (vf 7) = .pointer (some ⟨b1, 0 + 0 + 2, none⟩) ∧ (pf 7) = [] := hR 7 (by decide)
          refine Or.inl ⟨rfl, ?_⟩
          refine rq_less (sx 66 (congrArg some e7.1) (sub_nil _)) (List.sublist_append_right _ _) ?_
          exact rq_v (rv_load rfl (by kernel_rfl) rfl (box_cell 0 rfl rfl))
         ·
          intro vf pf hR
          refine Or.inl ⟨rfl, ?_⟩
          refine rq_less (sx 3 rfl (sub_nil _)) (List.sublist_append_right _ _) ?_
          exact rq_v (rv_ev rfl)
         ·
          intro vf pf hR
          have e8 : (vf 8) = x.n.lv ∧ (pf 8) = [] := hR 8 (by decide)
          have e9 : (vf 9) = .int .i64 (i : Int) ∧ (pf 9) = [] := hR 9 (by decide)
          refine Or.inl ⟨rfl, ?_⟩
          refine rq_less (sx 67 (congrArg some e8.1) (sx 68 (congrArg some e9.1) (sub_nil _))) (List.sublist_append_right _ _) ?_
          exact rq_v (rv_index (s := 2) rfl Try.underlying35 (by kernel_rfl) rfl rfl (rd_old ((hr).n.lt.row)) (by omega) (by first | omega | (simp only [List.length_set]; omega)))
         ·
          intro vf pf hR
          have e10 : (vf 10) = elP x.n.lv (((i : Int)).toNat * 2) ∧ (pf 10) = [] := hR 10 (by decide)
          refine Or.inl ⟨rfl, ?_⟩
          refine rq_less (sx 69 (congrArg some e10.1) (sub_nil _)) (List.sublist_append_right _ _) ?_
          exact rq_v (rv_fieldEl (k0 := 0) rfl (by kernel_rfl) rfl (rd_old ((hr).n.lt.row)) (by first | omega | (simp only [List.length_set]; omega)))
         ·
          intro vf pf hR
          have e11 : (vf 11) = elP x.n.lv (((i : Int)).toNat * 2 + 0) ∧ (pf 11) = [] := hR 11 (by decide)
          refine Or.inl ⟨rfl, ?_⟩
          refine rq_less (sx 70 (congrArg some e11.1) (sub_nil _)) (List.sublist_append_right _ _) ?_
          exact rq_v (rv_loadEl (u := (x.n.ls.getD i lt0).iv) rfl (by kernel_rfl) rfl (rd_old ((hr).n.lt.row)) ((flat_at ltC 2 (fun _ => rfl) x.n.ls lt0 (show i < _ by first | omega | (simp only [List.length_set]; omega)) (by decide)).trans rfl))
         ·
          intro vf pf hR
          have e12 : (vf 12) = (x.n.ls.getD i lt0).iv ∧ (pf 12) = [] := hR 12 (by decide)
          refine Or.inl ⟨rfl, ?_⟩
          refine rq_less (sx 71 (congrArg some e12.1) (sub_nil _)) (List.sublist_append_right _ _) ?_
          exact rq_v (rv_len rfl Try.underlying24 rfl (rd_old ((hr).n.lt.at (d := lt0) (k := i) (by omega))))
         ·
          intro vf pf hR
          have e5 : (vf 5) = (x.dl.getD i ir0).v ∧ (pf 5) = [] := hR 5 (by decide)
          have e13 : (vf 13) = .int .i64 (((x.n.ls.getD i lt0).xs).length : Int) ∧ (pf 13) = [] := hR 13 (by decide)
          refine Or.inl ⟨rfl, ?_⟩
          refine rq_less (sx 64 (congrArg some e5.1) (sx 72 (congrArg some e13.1) (sub_nil _))) (List.sublist_append_right _ _) ?_
          exact rq_mono (rq_call (by kernel_rfl) rfl (fun w hm => ret_ans (l37List_ans ((x.dl.getD i ir0).xs) (((x.n.ls.getD i lt0).xs).length : Int) 100 _ w ((rd_old ((hr).dl.at (d := ir0) (k := i) (by omega))) w hm)))) (fun _ _ h => ⟨h.1.trans (congrArg Value.bool hb9), h.2⟩)
         ·
          intro vf pf hR
          have e14 : (vf 14) = .bool true ∧ (pf 14) = [] := hR 14 (by decide)
          refine Or.inl ⟨rfl, ?_⟩
          refine rq_less (sx 73 (congrArg some e14.1) (sub_nil _)) (List.sublist_append_right _ _) ?_
          exact rq_v (rv_ev rfl)
        ·
         intro vf pf hR
         have e15 : (vf 15) = .bool false ∧ (pf 15) = [] := hR 15 (by decide)
         refine hl_less (l' := [boxE b1 #[.int .i64 x.n.ins, x.n.sv, x.n.lv, x.n.ov, x.pv, x.qv, x.kv, x.av, x.bv, .int .i64 x.oi, .int .i64 x.ni] 40]) (sx 0 rfl (sx 1 rfl (sx 2 rfl (sx 3 rfl (sx 50 rfl (sx 56 rfl (sx 74 (congrArg some e15.1) (sub_nil _)))))))) (List.sublist_append_right _ _) ?_
         simp only [List.drop_succ_cons, List.drop_zero]
         refine hl_less (sx 0 rfl (sx 1 rfl (sx 2 rfl (sx 3 rfl (sx 50 rfl (sx 56 rfl (sx 74 rfl (sub_nil _)))))))) (.refl _) ?_
         refine hl_nil ?_
         refine hq_then ?_
         refine hc_false rfl ?_
         refine hc_skip ?_
         refine hq_block_normal ?_
         refine hq_then ?_
         refine hc_region ?_
         refine hl_v rfl rfl rfl (rv_ev rfl) ?_
         refine hl_v rfl rfl rfl (rv_add rfl rfl rfl (by constructor <;> omega)) ?_
         refine hl_v rfl rfl rfl (rv_ev rfl) ?_
         refine hl_less (sx 0 rfl (sx 1 rfl (sx 2 rfl (sx 3 rfl (sx 50 rfl (sx 56 rfl (sx 74 rfl (sub_nil _)))))))) (.refl _) ?_
         refine hl_nil ?_
         exact hq_round1 (i + 1) ⟨by omega, fun q hq9 => by by_cases e : q = i; (subst e; assumption); exact hq1 q (by omega)⟩ (by omega) (sx 0 rfl (sx 1 rfl (sx 2 rfl (sx 3 rfl (sx 50 rfl (sub_nil _)))))) ((.cons_cons _ .slnil))
       ·
        have hb9p := of_pBn hb9
        refine hc_draw (by kernel_rfl) 16 [0, 1, 2, 3, 4, 5, 6, 7, 8, 9, 10, 11, 12, 13, 14, 15] (List.take 16 _) (List.drop 16 _) [[], [0], [1], [], [2, 3], [4], [], [6], [7], [], [8, 9], [10], [11], [12], [5, 13], [14]] [59, 60, 61, 62, 63, 64, 65, 66, 67, 68, 69, 70, 71, 72, 73, 74] (fun i_ vs_ v_ p_ => match i_ with | 0 => v_ = .pointer (some ⟨b1, 0 + 4, none⟩) ∧ p_ = [] | 1 => v_ = .pointer (some ⟨b1, 0 + 4 + 0, none⟩) ∧ p_ = [] | 2 => v_ = x.pv ∧ p_ = [] | 3 => v_ = .int .i64 (i : Int) ∧ p_ = [] | 4 => v_ = elP x.pv (((i : Int)).toNat * 1) ∧ p_ = [] | 5 => v_ = (x.dl.getD i ir0).v ∧ p_ = [] | 6 => v_ = .pointer (some ⟨b1, 0 + 0, none⟩) ∧ p_ = [] | 7 => v_ = .pointer (some ⟨b1, 0 + 0 + 2, none⟩) ∧ p_ = [] | 8 => v_ = x.n.lv ∧ p_ = [] | 9 => v_ = .int .i64 (i : Int) ∧ p_ = [] | 10 => v_ = elP x.n.lv (((i : Int)).toNat * 2) ∧ p_ = [] | 11 => v_ = elP x.n.lv (((i : Int)).toNat * 2 + 0) ∧ p_ = [] | 12 => v_ = (x.n.ls.getD i lt0).iv ∧ p_ = [] | 13 => v_ = .int .i64 (((x.n.ls.getD i lt0).xs).length : Int) ∧ p_ = [] | 14 => v_ = .bool false ∧ p_ = [] | 15 => v_ = .bool true ∧ p_ = [] | _ => True) (List.take_append_drop 16 _).symm (by kernel_rfl) (by kernel_rfl) rfl rfl ?_ ?_
        ·
         refine ⟨?_, ?_, ?_, ?_, ?_, ?_, ?_, ?_, ?_, ?_, ?_, ?_, ?_, ?_, ?_, ?_, trivial⟩
         ·
          intro vf pf hR
          refine Or.inl ⟨rfl, ?_⟩
          refine rq_less (sx 1 rfl (sub_nil _)) (List.sublist_append_right _ _) ?_
          exact rq_v (rv_field (k0 := 4) rfl (by kernel_rfl) rfl)
         ·
          intro vf pf hR
          have e0 : (vf 0) = .pointer (some ⟨b1, 0 + 4, none⟩) ∧ (pf 0) = [] := hR 0 (by decide)
          refine Or.inl ⟨rfl, ?_⟩
          refine rq_less (sx 59 (congrArg some e0.1) (sub_nil _)) (List.sublist_append_right _ _) ?_
          exact rq_v (rv_field (k0 := 0) rfl (by kernel_rfl) rfl)
         ·
          intro vf pf hR
          have e1 : (vf 1) = .pointer (some ⟨b1, 0 + 4 + 0, none⟩) ∧ (pf 1) = [] := hR 1 (by decide)
          refine Or.inl ⟨rfl, ?_⟩
          refine rq_less (sx 60 (congrArg some e1.1) (sub_nil _)) (List.sublist_append_right _ _) ?_
          exact rq_v (rv_load rfl (by kernel_rfl) rfl (box_cell 0 rfl rfl))
         ·
          intro vf pf hR
          refine Or.inl ⟨rfl, ?_⟩
          refine rq_less (sx 3 rfl (sub_nil _)) (List.sublist_append_right _ _) ?_
          exact rq_v (rv_ev rfl)
         ·
          intro vf pf hR
          have e2 : (vf 2) = x.pv ∧ (pf 2) = [] := hR 2 (by decide)
          have e3 : (vf 3) = .int .i64 (i : Int) ∧ (pf 3) = [] := hR 3 (by decide)
          refine Or.inl ⟨rfl, ?_⟩
          refine rq_less (sx 61 (congrArg some e2.1) (sx 62 (congrArg some e3.1) (sub_nil _))) (List.sublist_append_right _ _) ?_
          exact rq_v (rv_index (s := 1) rfl Try.underlying27 (by kernel_rfl) rfl rfl (rd_old ((hr).dl.row)) (by omega) (by first | omega | (simp only [List.length_set]; omega)))
         ·
          intro vf pf hR
          have e4 : (vf 4) = elP x.pv (((i : Int)).toNat * 1) ∧ (pf 4) = [] := hR 4 (by decide)
          refine Or.inl ⟨rfl, ?_⟩
          refine rq_less (sx 63 (congrArg some e4.1) (sub_nil _)) (List.sublist_append_right _ _) ?_
          exact rq_v (rv_loadEl (u := (x.dl.getD i ir0).v) rfl (by kernel_rfl) rfl (rd_old ((hr).dl.row)) (flat_one irC (fun r => r.v) (fun _ => rfl) x.dl ir0 (show i < _ by first | omega | (simp only [List.length_set]; omega))))
         ·
          intro vf pf hR
          refine Or.inl ⟨rfl, ?_⟩
          refine rq_less (sx 1 rfl (sub_nil _)) (List.sublist_append_right _ _) ?_
          exact rq_v (rv_field (k0 := 0) rfl (by kernel_rfl) rfl)
         ·
          intro vf pf hR
          have e6 : (vf 6) = .pointer (some ⟨b1, 0 + 0, none⟩) ∧ (pf 6) = [] := hR 6 (by decide)
          refine Or.inl ⟨rfl, ?_⟩
          refine rq_less (sx 65 (congrArg some e6.1) (sub_nil _)) (List.sublist_append_right _ _) ?_
          exact rq_v (rv_field (k0 := 2) rfl (by kernel_rfl) rfl)
         ·
          intro vf pf hR
          have e7 : (vf 7) = .pointer (some ⟨b1, 0 + 0 + 2, none⟩) ∧ (pf 7) = [] := hR 7 (by decide)
          refine Or.inl ⟨rfl, ?_⟩
          refine rq_less (sx 66 (congrArg some e7.1) (sub_nil _)) (List.sublist_append_right _ _) ?_
          exact rq_v (rv_load rfl (by kernel_rfl) rfl (box_cell 0 rfl rfl))
         ·
          intro vf pf hR
          refine Or.inl ⟨rfl, ?_⟩
          refine rq_less (sx 3 rfl (sub_nil _)) (List.sublist_append_right _ _) ?_
          exact rq_v (rv_ev rfl)
         ·
          intro vf pf hR
          have e8 : (vf 8) = x.n.lv ∧ (pf 8) = [] := hR 8 (by decide)
          have e9 : (vf 9) = .int .i64 (i : Int) ∧ (pf 9) = [] := hR 9 (by decide)
          refine Or.inl ⟨rfl, ?_⟩
          refine rq_less (sx 67 (congrArg some e8.1) (sx 68 (congrArg some e9.1) (sub_nil _))) (List.sublist_append_right _ _) ?_
          exact rq_v (rv_index (s := 2) rfl Try.underlying35 (by kernel_rfl) rfl rfl (rd_old ((hr).n.lt.row)) (by omega) (by first | omega | (simp only [List.length_set]; omega)))
         ·
          intro vf pf hR
          have e10 : (vf 10) = elP x.n.lv (((i : Int)).toNat * 2) ∧ (pf 10) = [] := hR 10 (by decide)
          refine Or.inl ⟨rfl, ?_⟩
          refine rq_less (sx 69 (congrArg some e10.1) (sub_nil _)) (List.sublist_append_right _ _) ?_
          exact rq_v (rv_fieldEl (k0 := 0) rfl (by kernel_rfl) rfl (rd_old ((hr).n.lt.row)) (by first | omega | (simp only [List.length_set]; omega)))
         ·
          intro vf pf hR
          have e11 : (vf 11) = elP x.n.lv (((i : Int)).toNat * 2 + 0) ∧ (pf 11) = [] := hR 11 (by decide)
          refine Or.inl ⟨rfl, ?_⟩
          refine rq_less (sx 70 (congrArg some e11.1) (sub_nil _)) (List.sublist_append_right _ _) ?_
          exact rq_v (rv_loadEl (u := (x.n.ls.getD i lt0).iv) rfl (by kernel_rfl) rfl (rd_old ((hr).n.lt.row)) ((flat_at ltC 2 (fun _ => rfl) x.n.ls lt0 (show i < _ by first | omega | (simp only [List.length_set]; omega)) (by decide)).trans rfl))
         ·
          intro vf pf hR
          have e12 : (vf 12) = (x.n.ls.getD i lt0).iv ∧ (pf 12) = [] := hR 12 (by decide)
          refine Or.inl ⟨rfl, ?_⟩
          refine rq_less (sx 71 (congrArg some e12.1) (sub_nil _)) (List.sublist_append_right _ _) ?_
          exact rq_v (rv_len rfl Try.underlying24 rfl (rd_old ((hr).n.lt.at (d := lt0) (k := i) (by omega))))
         ·
          intro vf pf hR
          have e5 : (vf 5) = (x.dl.getD i ir0).v ∧ (pf 5) = [] := hR 5 (by decide)
          have e13 : (vf 13) = .int .i64 (((x.n.ls.getD i lt0).xs).length : Int) ∧ (pf 13) = [] := hR 13 (by decide)
          refine Or.inl ⟨rfl, ?_⟩
          refine rq_less (sx 64 (congrArg some e5.1) (sx 72 (congrArg some e13.1) (sub_nil _))) (List.sublist_append_right _ _) ?_
          exact rq_mono (rq_call (by kernel_rfl) rfl (fun w hm => ret_ans (l37List_ans ((x.dl.getD i ir0).xs) (((x.n.ls.getD i lt0).xs).length : Int) 100 _ w ((rd_old ((hr).dl.at (d := ir0) (k := i) (by omega))) w hm)))) (fun _ _ h => ⟨h.1.trans (congrArg Value.bool hb9), h.2⟩)
         ·
          intro vf pf hR
          have e14 : (vf 14) = .bool false ∧ (pf 14) = [] := hR 14 (by decide)
          refine Or.inl ⟨rfl, ?_⟩
          refine rq_less (sx 73 (congrArg some e14.1) (sub_nil _)) (List.sublist_append_right _ _) ?_
          exact rq_v (rv_ev rfl)
        ·
         intro vf pf hR
         have e15 : (vf 15) = .bool true ∧ (pf 15) = [] := hR 15 (by decide)
         refine hl_less (l' := [boxE b1 #[.int .i64 x.n.ins, x.n.sv, x.n.lv, x.n.ov, x.pv, x.qv, x.kv, x.av, x.bv, .int .i64 x.oi, .int .i64 x.ni] 40]) (sx 0 rfl (sx 1 rfl (sx 2 rfl (sx 3 rfl (sx 50 rfl (sx 56 rfl (sx 74 (congrArg some e15.1) (sub_nil _)))))))) (List.sublist_append_right _ _) ?_
         simp only [List.drop_succ_cons, List.drop_zero]
         refine hl_less (sx 0 rfl (sx 1 rfl (sx 2 rfl (sx 3 rfl (sx 50 rfl (sx 56 rfl (sx 74 rfl (sub_nil _)))))))) (.refl _) ?_
         refine hl_nil ?_
         refine hq_then ?_
         refine hc_true rfl ?_
         refine hc_seq ?_
         refine hc_region ?_
         refine hl_v rfl rfl rfl (rv_ev rfl) ?_
         refine hl_less (sx 0 rfl (sx 1 rfl (sx 2 rfl (sx 3 rfl (sx 50 rfl (sx 56 rfl (sx 74 rfl (sub_nil _)))))))) (.refl _) ?_
         refine hl_nil ?_
         refine hq_then ?_
         refine hc_ret ?_
         refine hq_block_ret ?_
         refine hq_then_ret ?_
         refine hq_then_ret ?_
         refine hq_block_ret ?_
         refine hq_then_ret ?_
         exact hq_ans rfl rfl (congrArg _ (pB_no (fun hp => by first | (exact hSao ⟨hp.n, hp.a⟩) | (exact hSbs ⟨hp.n, hp.b⟩) | (exact hK hp.k) | (have h9 := hp.dn; omega) | (have h9 := hp.sn; omega) | (exact absurd (hp.dl i (by omega)) (by assumption)) | (exact absurd (hp.ds k (by omega)) (by assumption)))).symm)
      ·
       refine hl_less (sx 0 rfl (sx 1 rfl (sx 2 rfl (sx 3 rfl (sx 50 rfl (sx 56 rfl (sub_nil _))))))) (.refl _) ?_
       refine hl_nil ?_
       refine hq_then ?_
       refine hc_false rfl ?_
       refine hc_exit ?_
       refine hq_then_exit ?_
       refine hq_then_exit ?_
       refine hq_block_exit ?_
       refine hq_then ?_
       refine hc_seq ?_
       refine hc_seq ?_
       refine hc_region ?_
       refine hl_v rfl rfl rfl (rv_ev rfl) ?_
       refine hl_less (sx 0 rfl (sx 1 rfl (sx 2 rfl (sx 3 rfl (sx 4 rfl (sx 50 rfl (sx 56 rfl (sub_nil _)))))))) (.refl _) ?_
       refine hl_nil ?_
       refine hq_then ?_
       refine hc_block ?_
       refine hc_loop1 (α := Nat) (fun k => [boxE b1 #[.int .i64 x.n.ins, x.n.sv, x.n.lv, x.n.ov, x.pv, x.qv, x.kv, x.av, x.bv, .int .i64 x.oi, .int .i64 x.ni] 40]) (fun k => [(0, .agg #[.int .i64 x.n.ins, x.n.sv, x.n.lv, x.n.ov, x.pv, x.qv, x.kv, x.av, x.bv, .int .i64 x.oi, .int .i64 x.ni]), (1, .pointer (some ⟨b1, 0, none⟩)), (2, .bool false), (4, .int .i64 (k : Int)), (50, .bool false), (56, .bool false)]) (fun k => k ≤ x.n.ss.length ∧ ∀ q, q < k → LiP (x.ds.getD q ir0).xs (x.n.ss.getD q sq0).xs.length 100) (fun k => x.n.ss.length - k) 0 ⟨Nat.zero_le _, fun q hq => absurd hq (by omega)⟩ (sx 0 rfl (sx 1 rfl (sx 2 rfl (sx 4 rfl (sx 50 rfl (sx 56 rfl (sub_nil _))))))) ((.cons_cons _ .slnil)) ?_
       intro k hi10
       obtain ⟨hk, hq2⟩ := hi10
       refine hc_seq ?_
       refine hc_seq ?_
       refine hc_region ?_
       refine hl_v rfl rfl rfl (rv_ev rfl) ?_
       refine hl_v rfl rfl rfl (rv_field (k0 := 0) rfl (by kernel_rfl) rfl) ?_
       refine hl_v rfl rfl rfl (rv_field (k0 := 1) rfl (by kernel_rfl) rfl) ?_
       refine hl_v rfl rfl rfl (rv_load rfl (by kernel_rfl) rfl (box_cell 0 rfl rfl)) ?_
       refine hl_v rfl rfl rfl (rv_len rfl Try.underlying34 rfl (rd_old ((hr).n.sq.row))) ?_
       refine hl_lss rfl rfl rfl rfl rfl rfl (fun h11 => ?_) (fun h11 => ?_)
       ·
        refine hl_less (sx 0 rfl (sx 1 rfl (sx 2 rfl (sx 4 rfl (sx 50 rfl (sx 56 rfl (sx 80 rfl (sub_nil _)))))))) (.refl _) ?_
        refine hl_nil ?_
        refine hq_then ?_
        refine hc_true rfl ?_
        refine hc_skip ?_
        refine hq_then ?_
        refine hc_seq ?_
        refine hc_block ?_
        refine hc_seq ?_
        rcases Bool.eq_false_or_eq_true (pB (LiP ((x.ds.getD k ir0).xs) (((x.n.ss.getD k sq0).xs).length : Int) 100)) with hb12 | hb12
        ·
         have hb12p := of_pB hb12
         refine hc_draw (by kernel_rfl) 16 [0, 1, 2, 3, 4, 5, 6, 7, 8, 9, 10, 11, 12, 13, 14, 15] (List.take 16 _) (List.drop 16 _) [[], [0], [1], [], [2, 3], [4], [], [6], [7], [], [8, 9], [10], [11], [12], [5, 13], [14]] [83, 84, 85, 86, 87, 88, 89, 90, 91, 92, 93, 94, 95, 96, 97, 98] (fun i_ vs_ v_ p_ => match i_ with | 0 => v_ = .pointer (some ⟨b1, 0 + 4, none⟩) ∧ p_ = [] | 1 => v_ = .pointer (some ⟨b1, 0 + 4 + 1, none⟩) ∧ p_ = [] | 2 => v_ = x.qv ∧ p_ = [] | 3 => v_ = .int .i64 (k : Int) ∧ p_ = [] | 4 => v_ = elP x.qv (((k : Int)).toNat * 1) ∧ p_ = [] | 5 => v_ = (x.ds.getD k ir0).v ∧ p_ = [] | 6 => v_ = .pointer (some ⟨b1, 0 + 0, none⟩) ∧ p_ = [] | 7 => v_ = .pointer (some ⟨b1, 0 + 0 + 1, none⟩) ∧ p_ = [] | 8 => v_ = x.n.sv ∧ p_ = [] | 9 => v_ = .int .i64 (k : Int) ∧ p_ = [] | 10 => v_ = elP x.n.sv (((k : Int)).toNat * 3) ∧ p_ = [] | 11 => v_ = elP x.n.sv (((k : Int)).toNat * 3 + 2) ∧ p_ = [] | 12 => v_ = (x.n.ss.getD k sq0).iv ∧ p_ = [] | 13 => v_ = .int .i64 (((x.n.ss.getD k sq0).xs).length : Int) ∧ p_ = [] | 14 => v_ = .bool true ∧ p_ = [] | 15 => v_ = .bool false ∧ p_ = [] | _ => True) (List.take_append_drop 16 _).symm (by kernel_rfl) (by kernel_rfl) rfl rfl ?_ ?_
         ·
          refine ⟨?_, ?_, ?_, ?_, ?_, ?_, ?_, ?_, ?_, ?_, ?_, ?_, ?_, ?_, ?_, ?_, trivial⟩
          ·
           intro vf pf hR
           refine Or.inl ⟨rfl, ?_⟩
           refine rq_less (sx 1 rfl (sub_nil _)) (List.sublist_append_right _ _) ?_
           exact rq_v (rv_field (k0 := 4) rfl (by kernel_rfl) rfl)
          ·
           intro vf pf hR
           have e0 : (vf 0) = .pointer (some ⟨b1, 0 + 4, none⟩) ∧ (pf 0) = [] := hR 0 (by decide)
           refine Or.inl ⟨rfl, ?_⟩
           refine rq_less (sx 83 (congrArg some e0.1) (sub_nil _)) (List.sublist_append_right _ _) ?_
           exact rq_v (rv_field (k0 := 1) rfl (by kernel_rfl) rfl)
          ·
           intro vf pf hR
           have e1 : (vf 1) = .pointer (some ⟨b1, 0 + 4 + 1, none⟩) ∧ (pf 1) = [] := hR 1 (by decide)
           refine Or.inl ⟨rfl, ?_⟩
           refine rq_less (sx 84 (congrArg some e1.1) (sub_nil _)) (List.sublist_append_right _ _) ?_
           exact rq_v (rv_load rfl (by kernel_rfl) rfl (box_cell 0 rfl rfl))
          ·
           intro vf pf hR
           refine Or.inl ⟨rfl, ?_⟩
           refine rq_less (sx 4 rfl (sub_nil _)) (List.sublist_append_right _ _) ?_
           exact rq_v (rv_ev rfl)
          ·
           intro vf pf hR
           have e2 : (vf 2) = x.qv ∧ (pf 2) = [] := hR 2 (by decide)
           have e3 : (vf 3) = .int .i64 (k : Int) ∧ (pf 3) = [] := hR 3 (by decide)
           refine Or.inl ⟨rfl, ?_⟩
           refine rq_less (sx 85 (congrArg some e2.1) (sx 86 (congrArg some e3.1) (sub_nil _))) (List.sublist_append_right _ _) ?_
           exact rq_v (rv_index (s := 1) rfl Try.underlying27 (by kernel_rfl) rfl rfl (rd_old ((hr).ds.row)) (by omega) (by first | omega | (simp only [List.length_set]; omega)))
          ·
           intro vf pf hR
           have e4 : (vf 4) = elP x.qv (((k : Int)).toNat * 1) ∧ (pf 4) = [] := hR 4 (by decide)
           refine Or.inl ⟨rfl, ?_⟩
           refine rq_less (sx 87 (congrArg some e4.1) (sub_nil _)) (List.sublist_append_right _ _) ?_
           exact rq_v (rv_loadEl (u := (x.ds.getD k ir0).v) rfl (by kernel_rfl) rfl (rd_old ((hr).ds.row)) (flat_one irC (fun r => r.v) (fun _ => rfl) x.ds ir0 (show k < _ by first | omega | (simp only [List.length_set]; omega))))
          ·
           intro vf pf hR
           refine Or.inl ⟨rfl, ?_⟩
           refine rq_less (sx 1 rfl (sub_nil _)) (List.sublist_append_right _ _) ?_
           exact rq_v (rv_field (k0 := 0) rfl (by kernel_rfl) rfl)
          ·
           intro vf pf hR
           have e6 : (vf 6) = .pointer (some ⟨b1, 0 + 0, none⟩) ∧ (pf 6) = [] := hR 6 (by decide)
           refine Or.inl ⟨rfl, ?_⟩
           refine rq_less (sx 89 (congrArg some e6.1) (sub_nil _)) (List.sublist_append_right _ _) ?_
           exact rq_v (rv_field (k0 := 1) rfl (by kernel_rfl) rfl)
          ·
           intro vf pf hR
           have e7 : (vf 7) = .pointer (some ⟨b1, 0 + 0 + 1, none⟩) ∧ (pf 7) = [] := hR 7 (by decide)
           refine Or.inl ⟨rfl, ?_⟩
           refine rq_less (sx 90 (congrArg some e7.1) (sub_nil _)) (List.sublist_append_right _ _) ?_
           exact rq_v (rv_load rfl (by kernel_rfl) rfl (box_cell 0 rfl rfl))
          ·
           intro vf pf hR
           refine Or.inl ⟨rfl, ?_⟩
           refine rq_less (sx 4 rfl (sub_nil _)) (List.sublist_append_right _ _) ?_
           exact rq_v (rv_ev rfl)
          ·
           intro vf pf hR
           have e8 : (vf 8) = x.n.sv ∧ (pf 8) = [] := hR 8 (by decide)
           have e9 : (vf 9) = .int .i64 (k : Int) ∧ (pf 9) = [] := hR 9 (by decide)
           refine Or.inl ⟨rfl, ?_⟩
           refine rq_less (sx 91 (congrArg some e8.1) (sx 92 (congrArg some e9.1) (sub_nil _))) (List.sublist_append_right _ _) ?_
           exact rq_v (rv_index (s := 3) rfl Try.underlying34 (by kernel_rfl) rfl rfl (rd_old ((hr).n.sq.row)) (by omega) (by first | omega | (simp only [List.length_set]; omega)))
          ·
           intro vf pf hR
           have e10 : (vf 10) = elP x.n.sv (((k : Int)).toNat * 3) ∧ (pf 10) = [] := hR 10 (by decide)
           refine Or.inl ⟨rfl, ?_⟩
           refine rq_less (sx 93 (congrArg some e10.1) (sub_nil _)) (List.sublist_append_right _ _) ?_
           exact rq_v (rv_fieldEl (k0 := 2) rfl (by kernel_rfl) rfl (rd_old ((hr).n.sq.row)) (by first | omega | (simp only [List.length_set]; omega)))
          ·
           intro vf pf hR
           have e11 : (vf 11) = elP x.n.sv (((k : Int)).toNat * 3 + 2) ∧ (pf 11) = [] := hR 11 (by decide)
           refine Or.inl ⟨rfl, ?_⟩
           refine rq_less (sx 94 (congrArg some e11.1) (sub_nil _)) (List.sublist_append_right _ _) ?_
           exact rq_v (rv_loadEl (u := (x.n.ss.getD k sq0).iv) rfl (by kernel_rfl) rfl (rd_old ((hr).n.sq.row)) ((flat_at sqC 3 (fun _ => rfl) x.n.ss sq0 (show k < _ by first | omega | (simp only [List.length_set]; omega)) (by decide)).trans rfl))
          ·
           intro vf pf hR
           have e12 : (vf 12) = (x.n.ss.getD k sq0).iv ∧ (pf 12) = [] := hR 12 (by decide)
           refine Or.inl ⟨rfl, ?_⟩
           refine rq_less (sx 95 (congrArg some e12.1) (sub_nil _)) (List.sublist_append_right _ _) ?_
           exact rq_v (rv_len rfl Try.underlying24 rfl (rd_old ((hr).n.sq.at (d := sq0) (k := k) (by omega))))
          ·
           intro vf pf hR
           have e5 : (vf 5) = (x.ds.getD k ir0).v ∧ (pf 5) = [] := hR 5 (by decide)
           have e13 : (vf 13) = .int .i64 (((x.n.ss.getD k sq0).xs).length : Int) ∧ (pf 13) = [] := hR 13 (by decide)
           refine Or.inl ⟨rfl, ?_⟩
           refine rq_less (sx 88 (congrArg some e5.1) (sx 96 (congrArg some e13.1) (sub_nil _))) (List.sublist_append_right _ _) ?_
           exact rq_mono (rq_call (by kernel_rfl) rfl (fun w hm => ret_ans (l37List_ans ((x.ds.getD k ir0).xs) (((x.n.ss.getD k sq0).xs).length : Int) 100 _ w ((rd_old ((hr).ds.at (d := ir0) (k := k) (by omega))) w hm)))) (fun _ _ h => ⟨h.1.trans (congrArg Value.bool hb12), h.2⟩)
          ·
           intro vf pf hR
           have e14 : (vf 14) = .bool true ∧ (pf 14) = [] := hR 14 (by decide)
           refine Or.inl ⟨rfl, ?_⟩
           refine rq_less (sx 97 (congrArg some e14.1) (sub_nil _)) (List.sublist_append_right _ _) ?_
           exact rq_v (rv_ev rfl)
         ·
          intro vf pf hR
          have e15 : (vf 15) = .bool false ∧ (pf 15) = [] := hR 15 (by decide)
          refine hl_less (l' := [boxE b1 #[.int .i64 x.n.ins, x.n.sv, x.n.lv, x.n.ov, x.pv, x.qv, x.kv, x.av, x.bv, .int .i64 x.oi, .int .i64 x.ni] 40]) (sx 0 rfl (sx 1 rfl (sx 2 rfl (sx 4 rfl (sx 50 rfl (sx 56 rfl (sx 80 rfl (sx 98 (congrArg some e15.1) (sub_nil _))))))))) (List.sublist_append_right _ _) ?_
          simp only [List.drop_succ_cons, List.drop_zero]
          refine hl_less (sx 0 rfl (sx 1 rfl (sx 2 rfl (sx 4 rfl (sx 50 rfl (sx 56 rfl (sx 80 rfl (sx 98 rfl (sub_nil _))))))))) (.refl _) ?_
          refine hl_nil ?_
          refine hq_then ?_
          refine hc_false rfl ?_
          refine hc_skip ?_
          refine hq_block_normal ?_
          refine hq_then ?_
          refine hc_region ?_
          refine hl_v rfl rfl rfl (rv_ev rfl) ?_
          refine hl_v rfl rfl rfl (rv_add rfl rfl rfl (by constructor <;> omega)) ?_
          refine hl_v rfl rfl rfl (rv_ev rfl) ?_
          refine hl_less (sx 0 rfl (sx 1 rfl (sx 2 rfl (sx 4 rfl (sx 50 rfl (sx 56 rfl (sx 80 rfl (sx 98 rfl (sub_nil _))))))))) (.refl _) ?_
          refine hl_nil ?_
          exact hq_round1 (k + 1) ⟨by omega, fun q hq9 => by by_cases e : q = k; (subst e; assumption); exact hq2 q (by omega)⟩ (by omega) (sx 0 rfl (sx 1 rfl (sx 2 rfl (sx 4 rfl (sx 50 rfl (sx 56 rfl (sub_nil _))))))) ((.cons_cons _ .slnil))
        ·
         have hb12p := of_pBn hb12
         refine hc_draw (by kernel_rfl) 16 [0, 1, 2, 3, 4, 5, 6, 7, 8, 9, 10, 11, 12, 13, 14, 15] (List.take 16 _) (List.drop 16 _) [[], [0], [1], [], [2, 3], [4], [], [6], [7], [], [8, 9], [10], [11], [12], [5, 13], [14]] [83, 84, 85, 86, 87, 88, 89, 90, 91, 92, 93, 94, 95, 96, 97, 98] (fun i_ vs_ v_ p_ => match i_ with | 0 => v_ = .pointer (some ⟨b1, 0 + 4, none⟩) ∧ p_ = [] | 1 => v_ = .pointer (some ⟨b1, 0 + 4 + 1, none⟩) ∧ p_ = [] | 2 => v_ = x.qv ∧ p_ = [] | 3 => v_ = .int .i64 (k : Int) ∧ p_ = [] | 4 => v_ = elP x.qv (((k : Int)).toNat * 1) ∧ p_ = [] | 5 => v_ = (x.ds.getD k ir0).v ∧ p_ = [] | 6 => v_ = .pointer (some ⟨b1, 0 + 0, none⟩) ∧ p_ = [] | 7 => v_ = .pointer (some ⟨b1, 0 + 0 + 1, none⟩) ∧ p_ = [] | 8 => v_ = x.n.sv ∧ p_ = [] | 9 => v_ = .int .i64 (k : Int) ∧ p_ = [] | 10 => v_ = elP x.n.sv (((k : Int)).toNat * 3) ∧ p_ = [] | 11 => v_ = elP x.n.sv (((k : Int)).toNat * 3 + 2) ∧ p_ = [] | 12 => v_ = (x.n.ss.getD k sq0).iv ∧ p_ = [] | 13 => v_ = .int .i64 (((x.n.ss.getD k sq0).xs).length : Int) ∧ p_ = [] | 14 => v_ = .bool false ∧ p_ = [] | 15 => v_ = .bool true ∧ p_ = [] | _ => True) (List.take_append_drop 16 _).symm (by kernel_rfl) (by kernel_rfl) rfl rfl ?_ ?_
         ·
          refine ⟨?_, ?_, ?_, ?_, ?_, ?_, ?_, ?_, ?_, ?_, ?_, ?_, ?_, ?_, ?_, ?_, trivial⟩
          ·
           intro vf pf hR
           refine Or.inl ⟨rfl, ?_⟩
           refine rq_less (sx 1 rfl (sub_nil _)) (List.sublist_append_right _ _) ?_
           exact rq_v (rv_field (k0 := 4) rfl (by kernel_rfl) rfl)
          ·
           intro vf pf hR
           have e0 : (vf 0) = .pointer (some ⟨b1, 0 + 4, none⟩) ∧ (pf 0) = [] := hR 0 (by decide)
           refine Or.inl ⟨rfl, ?_⟩
           refine rq_less (sx 83 (congrArg some e0.1) (sub_nil _)) (List.sublist_append_right _ _) ?_
           exact rq_v (rv_field (k0 := 1) rfl (by kernel_rfl) rfl)
          ·
           intro vf pf hR
           have e1 : (vf 1) = .pointer (some ⟨b1, 0 + 4 + 1, none⟩) ∧ (pf 1) = [] := hR 1 (by decide)
           refine Or.inl ⟨rfl, ?_⟩
           refine rq_less (sx 84 (congrArg some e1.1) (sub_nil _)) (List.sublist_append_right _ _) ?_
           exact rq_v (rv_load rfl (by kernel_rfl) rfl (box_cell 0 rfl rfl))
          ·
           intro vf pf hR
           refine Or.inl ⟨rfl, ?_⟩
           refine rq_less (sx 4 rfl (sub_nil _)) (List.sublist_append_right _ _) ?_
           exact rq_v (rv_ev rfl)
          ·
           intro vf pf hR
           have e2 : (vf 2) = x.qv ∧ (pf 2) = [] := hR 2 (by decide)
           have e3 : (vf 3) = .int .i64 (k : Int) ∧ (pf 3) = [] := hR 3 (by decide)
           refine Or.inl ⟨rfl, ?_⟩
           refine rq_less (sx 85 (congrArg some e2.1) (sx 86 (congrArg some e3.1) (sub_nil _))) (List.sublist_append_right _ _) ?_
           exact rq_v (rv_index (s := 1) rfl Try.underlying27 (by kernel_rfl) rfl rfl (rd_old ((hr).ds.row)) (by omega) (by first | omega | (simp only [List.length_set]; omega)))
          ·
           intro vf pf hR
           have e4 : (vf 4) = elP x.qv (((k : Int)).toNat * 1) ∧ (pf 4) = [] := hR 4 (by decide)
           refine Or.inl ⟨rfl, ?_⟩
           refine rq_less (sx 87 (congrArg some e4.1) (sub_nil _)) (List.sublist_append_right _ _) ?_
           exact rq_v (rv_loadEl (u := (x.ds.getD k ir0).v) rfl (by kernel_rfl) rfl (rd_old ((hr).ds.row)) (flat_one irC (fun r => r.v) (fun _ => rfl) x.ds ir0 (show k < _ by first | omega | (simp only [List.length_set]; omega))))
          ·
           intro vf pf hR
           refine Or.inl ⟨rfl, ?_⟩
           refine rq_less (sx 1 rfl (sub_nil _)) (List.sublist_append_right _ _) ?_
           exact rq_v (rv_field (k0 := 0) rfl (by kernel_rfl) rfl)
          ·
           intro vf pf hR
           have e6 : (vf 6) = .pointer (some ⟨b1, 0 + 0, none⟩) ∧ (pf 6) = [] := hR 6 (by decide)
           refine Or.inl ⟨rfl, ?_⟩
           refine rq_less (sx 89 (congrArg some e6.1) (sub_nil _)) (List.sublist_append_right _ _) ?_
           exact rq_v (rv_field (k0 := 1) rfl (by kernel_rfl) rfl)
          ·
           intro vf pf hR
           have e7 : (vf 7) = .pointer (some ⟨b1, 0 + 0 + 1, none⟩) ∧ (pf 7) = [] := hR 7 (by decide)
           refine Or.inl ⟨rfl, ?_⟩
           refine rq_less (sx 90 (congrArg some e7.1) (sub_nil _)) (List.sublist_append_right _ _) ?_
           exact rq_v (rv_load rfl (by kernel_rfl) rfl (box_cell 0 rfl rfl))
          ·
           intro vf pf hR
           refine Or.inl ⟨rfl, ?_⟩
           refine rq_less (sx 4 rfl (sub_nil _)) (List.sublist_append_right _ _) ?_
           exact rq_v (rv_ev rfl)
          ·
           intro vf pf hR
           have e8 : (vf 8) = x.n.sv ∧ (pf 8) = [] := hR 8 (by decide)
           have e9 : (vf 9) = .int .i64 (k : Int) ∧ (pf 9) = [] := hR 9 (by decide)
           refine Or.inl ⟨rfl, ?_⟩
           refine rq_less (sx 91 (congrArg some e8.1) (sx 92 (congrArg some e9.1) (sub_nil _))) (List.sublist_append_right _ _) ?_
           exact rq_v (rv_index (s := 3) rfl Try.underlying34 (by kernel_rfl) rfl rfl (rd_old ((hr).n.sq.row)) (by omega) (by first | omega | (simp only [List.length_set]; omega)))
          ·
           intro vf pf hR
           have e10 : (vf 10) = elP x.n.sv (((k : Int)).toNat * 3) ∧ (pf 10) = [] := hR 10 (by decide)
           refine Or.inl ⟨rfl, ?_⟩
           refine rq_less (sx 93 (congrArg some e10.1) (sub_nil _)) (List.sublist_append_right _ _) ?_
           exact rq_v (rv_fieldEl (k0 := 2) rfl (by kernel_rfl) rfl (rd_old ((hr).n.sq.row)) (by first | omega | (simp only [List.length_set]; omega)))
          ·
           intro vf pf hR
           have e11 : (vf 11) = elP x.n.sv (((k : Int)).toNat * 3 + 2) ∧ (pf 11) = [] := hR 11 (by decide)
           refine Or.inl ⟨rfl, ?_⟩
           refine rq_less (sx 94 (congrArg some e11.1) (sub_nil _)) (List.sublist_append_right _ _) ?_
           exact rq_v (rv_loadEl (u := (x.n.ss.getD k sq0).iv) rfl (by kernel_rfl) rfl (rd_old ((hr).n.sq.row)) ((flat_at sqC 3 (fun _ => rfl) x.n.ss sq0 (show k < _ by first | omega | (simp only [List.length_set]; omega)) (by decide)).trans rfl))
          ·
           intro vf pf hR
           have e12 : (vf 12) = (x.n.ss.getD k sq0).iv ∧ (pf 12) = [] := hR 12 (by decide)
           refine Or.inl ⟨rfl, ?_⟩
           refine rq_less (sx 95 (congrArg some e12.1) (sub_nil _)) (List.sublist_append_right _ _) ?_
           exact rq_v (rv_len rfl Try.underlying24 rfl (rd_old ((hr).n.sq.at (d := sq0) (k := k) (by omega))))
          ·
           intro vf pf hR
           have e5 : (vf 5) = (x.ds.getD k ir0).v ∧ (pf 5) = [] := hR 5 (by decide)
           have e13 : (vf 13) = .int .i64 (((x.n.ss.getD k sq0).xs).length : Int) ∧ (pf 13) = [] := hR 13 (by decide)
           refine Or.inl ⟨rfl, ?_⟩
           refine rq_less (sx 88 (congrArg some e5.1) (sx 96 (congrArg some e13.1) (sub_nil _))) (List.sublist_append_right _ _) ?_
           exact rq_mono (rq_call (by kernel_rfl) rfl (fun w hm => ret_ans (l37List_ans ((x.ds.getD k ir0).xs) (((x.n.ss.getD k sq0).xs).length : Int) 100 _ w ((rd_old ((hr).ds.at (d := ir0) (k := k) (by omega))) w hm)))) (fun _ _ h => ⟨h.1.trans (congrArg Value.bool hb12), h.2⟩)
          ·
           intro vf pf hR
           have e14 : (vf 14) = .bool false ∧ (pf 14) = [] := hR 14 (by decide)
           refine Or.inl ⟨rfl, ?_⟩
           refine rq_less (sx 97 (congrArg some e14.1) (sub_nil _)) (List.sublist_append_right _ _) ?_
           exact rq_v (rv_ev rfl)
         ·
          intro vf pf hR
          have e15 : (vf 15) = .bool true ∧ (pf 15) = [] := hR 15 (by decide)
          refine hl_less (l' := [boxE b1 #[.int .i64 x.n.ins, x.n.sv, x.n.lv, x.n.ov, x.pv, x.qv, x.kv, x.av, x.bv, .int .i64 x.oi, .int .i64 x.ni] 40]) (sx 0 rfl (sx 1 rfl (sx 2 rfl (sx 4 rfl (sx 50 rfl (sx 56 rfl (sx 80 rfl (sx 98 (congrArg some e15.1) (sub_nil _))))))))) (List.sublist_append_right _ _) ?_
          simp only [List.drop_succ_cons, List.drop_zero]
          refine hl_less (sx 0 rfl (sx 1 rfl (sx 2 rfl (sx 4 rfl (sx 50 rfl (sx 56 rfl (sx 80 rfl (sx 98 rfl (sub_nil _))))))))) (.refl _) ?_
          refine hl_nil ?_
          refine hq_then ?_
          refine hc_true rfl ?_
          refine hc_seq ?_
          refine hc_region ?_
          refine hl_v rfl rfl rfl (rv_ev rfl) ?_
          refine hl_less (sx 0 rfl (sx 1 rfl (sx 2 rfl (sx 4 rfl (sx 50 rfl (sx 56 rfl (sx 80 rfl (sx 98 rfl (sub_nil _))))))))) (.refl _) ?_
          refine hl_nil ?_
          refine hq_then ?_
          refine hc_ret ?_
          refine hq_block_ret ?_
          refine hq_then_ret ?_
          refine hq_then_ret ?_
          refine hq_block_ret ?_
          refine hq_then_ret ?_
          exact hq_ans rfl rfl (congrArg _ (pB_no (fun hp => by first | (exact hSao ⟨hp.n, hp.a⟩) | (exact hSbs ⟨hp.n, hp.b⟩) | (exact hK hp.k) | (have h9 := hp.dn; omega) | (have h9 := hp.sn; omega) | (exact absurd (hp.dl i (by omega)) (by assumption)) | (exact absurd (hp.ds k (by omega)) (by assumption)))).symm)
       ·
        refine hl_less (sx 0 rfl (sx 1 rfl (sx 2 rfl (sx 4 rfl (sx 50 rfl (sx 56 rfl (sx 80 rfl (sub_nil _)))))))) (.refl _) ?_
        refine hl_nil ?_
        refine hq_then ?_
        refine hc_false rfl ?_
        refine hc_exit ?_
        refine hq_then_exit ?_
        refine hq_then_exit ?_
        refine hq_block_exit ?_
        refine hq_then ?_
        refine hc_seq ?_
        refine hc_region ?_
        refine hl_v rfl rfl rfl (rv_ev rfl) ?_
        refine hl_less (sx 0 rfl (sx 1 rfl (sx 2 rfl (sx 4 rfl (sx 50 rfl (sx 56 rfl (sx 80 rfl (sub_nil _)))))))) (.refl _) ?_
        refine hl_nil ?_
        refine hq_then ?_
        refine hc_ret ?_
        exact hq_ans rfl rfl (congrArg _ (pB_yes ⟨hSao.ok, hSao.sp, hSbs.sp, hK, by omega, fun q hq => hq1 q (by omega), by omega, fun q hq => hq2 q (by omega)⟩).symm)
     ·
      have hK := of_pBn h6
      refine hl_v rfl rfl rfl (rv_ev rfl) ?_
      refine hl_v rfl rfl rfl (rv_ev rfl) ?_
      refine hl_less (sx 0 rfl (sx 1 rfl (sx 2 rfl (sx 50 rfl (sub_nil _))))) (.refl _) ?_
      refine hl_nil ?_
      refine hq_then ?_
      refine hc_true rfl ?_
      refine hc_seq ?_
      refine hc_region ?_
      refine hl_v rfl rfl rfl (rv_ev rfl) ?_
      refine hl_less (sx 0 rfl (sx 1 rfl (sx 2 rfl (sx 50 rfl (sub_nil _))))) (.refl _) ?_
      refine hl_nil ?_
      refine hq_then ?_
      refine hc_ret ?_
      refine hq_then_ret ?_
      exact hq_ans rfl rfl (congrArg _ (pB_no (fun hp => by first | (exact hSao ⟨hp.n, hp.a⟩) | (exact hSbs ⟨hp.n, hp.b⟩) | (exact hK hp.k) | (have h9 := hp.dn; omega) | (have h9 := hp.sn; omega) | (exact absurd (hp.dl i (by omega)) (by assumption)) | (exact absurd (hp.ds k (by omega)) (by assumption)))).symm)
  ·
   have hSbs := of_pBn h3
   refine hl_v rfl rfl rfl (rv_ev rfl) ?_
   refine hl_v rfl rfl rfl (rv_ev rfl) ?_
   refine hl_v rfl rfl rfl (rv_ev rfl) ?_
   refine hl_skip rfl rfl rfl ?_
   refine hl_skip rfl rfl rfl ?_
   refine hl_skip rfl rfl rfl ?_
   refine hl_skip rfl rfl rfl ?_
   refine hl_skip rfl rfl rfl ?_
   refine hl_skip rfl rfl rfl ?_
   refine hl_skip rfl rfl rfl ?_
   refine hl_skip rfl rfl rfl ?_
   refine hl_skip rfl rfl rfl ?_
   refine hl_v rfl rfl rfl (rv_ev rfl) ?_
   refine hl_v rfl rfl rfl (rv_ev rfl) ?_
   refine hl_skip rfl rfl rfl ?_
   refine hl_skip rfl rfl rfl ?_
   refine hl_skip rfl rfl rfl ?_
   refine hl_skip rfl rfl rfl ?_
   refine hl_skip rfl rfl rfl ?_
   refine hl_skip rfl rfl rfl ?_
   refine hl_skip rfl rfl rfl ?_
   refine hl_skip rfl rfl rfl ?_
   refine hl_skip rfl rfl rfl ?_
   refine hl_v rfl rfl rfl (rv_ev rfl) ?_
   refine hl_v rfl rfl rfl (rv_ev rfl) ?_
   refine hl_skip rfl rfl rfl ?_
   refine hl_skip rfl rfl rfl ?_
   refine hl_skip rfl rfl rfl ?_
   refine hl_skip rfl rfl rfl ?_
   refine hl_skip rfl rfl rfl ?_
   refine hl_skip rfl rfl rfl ?_
   refine hl_skip rfl rfl rfl ?_
   refine hl_skip rfl rfl rfl ?_
   refine hl_v rfl rfl rfl (rv_ev rfl) ?_
   refine hl_less (sx 0 rfl (sx 1 rfl (sx 2 rfl (sx 50 rfl (sub_nil _))))) (.refl _) ?_
   refine hl_nil ?_
   refine hq_then ?_
   refine hc_true rfl ?_
   refine hc_seq ?_
   refine hc_region ?_
   refine hl_v rfl rfl rfl (rv_ev rfl) ?_
   refine hl_less (sx 0 rfl (sx 1 rfl (sx 2 rfl (sx 50 rfl (sub_nil _))))) (.refl _) ?_
   refine hl_nil ?_
   refine hq_then ?_
   refine hc_ret ?_
   refine hq_then_ret ?_
   exact hq_ans rfl rfl (congrArg _ (pB_no (fun hp => by first | (exact hSao ⟨hp.n, hp.a⟩) | (exact hSbs ⟨hp.n, hp.b⟩) | (exact hK hp.k) | (have h9 := hp.dn; omega) | (have h9 := hp.sn; omega) | (exact absurd (hp.dl i (by omega)) (by assumption)) | (exact absurd (hp.ds k (by omega)) (by assumption)))).symm)
 ·
  have hSao := of_pBn h2
  refine hl_v rfl rfl rfl (rv_ev rfl) ?_
  refine hl_v rfl rfl rfl (rv_ev rfl) ?_
  refine hl_skip rfl rfl rfl ?_
  refine hl_skip rfl rfl rfl ?_
  refine hl_skip rfl rfl rfl ?_
  refine hl_skip rfl rfl rfl ?_
  refine hl_skip rfl rfl rfl ?_
  refine hl_skip rfl rfl rfl ?_
  refine hl_v rfl rfl rfl (rv_ev rfl) ?_
  refine hl_v rfl rfl rfl (rv_ev rfl) ?_
  refine hl_skip rfl rfl rfl ?_
  refine hl_skip rfl rfl rfl ?_
  refine hl_skip rfl rfl rfl ?_
  refine hl_skip rfl rfl rfl ?_
  refine hl_skip rfl rfl rfl ?_
  refine hl_skip rfl rfl rfl ?_
  refine hl_skip rfl rfl rfl ?_
  refine hl_skip rfl rfl rfl ?_
  refine hl_skip rfl rfl rfl ?_
  refine hl_v rfl rfl rfl (rv_ev rfl) ?_
  refine hl_v rfl rfl rfl (rv_ev rfl) ?_
  refine hl_skip rfl rfl rfl ?_
  refine hl_skip rfl rfl rfl ?_
  refine hl_skip rfl rfl rfl ?_
  refine hl_skip rfl rfl rfl ?_
  refine hl_skip rfl rfl rfl ?_
  refine hl_skip rfl rfl rfl ?_
  refine hl_skip rfl rfl rfl ?_
  refine hl_skip rfl rfl rfl ?_
  refine hl_skip rfl rfl rfl ?_
  refine hl_v rfl rfl rfl (rv_ev rfl) ?_
  refine hl_v rfl rfl rfl (rv_ev rfl) ?_
  refine hl_skip rfl rfl rfl ?_
  refine hl_skip rfl rfl rfl ?_
  refine hl_skip rfl rfl rfl ?_
  refine hl_skip rfl rfl rfl ?_
  refine hl_skip rfl rfl rfl ?_
  refine hl_skip rfl rfl rfl ?_
  refine hl_skip rfl rfl rfl ?_
  refine hl_skip rfl rfl rfl ?_
  refine hl_v rfl rfl rfl (rv_ev rfl) ?_
  refine hl_less (sx 0 rfl (sx 1 rfl (sx 2 rfl (sx 50 rfl (sub_nil _))))) (.refl _) ?_
  refine hl_nil ?_
  refine hq_then ?_
  refine hc_true rfl ?_
  refine hc_seq ?_
  refine hc_region ?_
  refine hl_v rfl rfl rfl (rv_ev rfl) ?_
  refine hl_less (sx 0 rfl (sx 1 rfl (sx 2 rfl (sx 50 rfl (sub_nil _))))) (.refl _) ?_
  refine hl_nil ?_
  refine hq_then ?_
  refine hc_ret ?_
  refine hq_then_ret ?_
  exact hq_ans rfl rfl (congrArg _ (pB_no (fun hp => by first | (exact hSao ⟨hp.n, hp.a⟩) | (exact hSbs ⟨hp.n, hp.b⟩) | (exact hK hp.k) | (have h9 := hp.dn; omega) | (have h9 := hp.sn; omega) | (exact absurd (hp.dl i (by omega)) (by assumption)) | (exact absurd (hp.ds k (by omega)) (by assumption)))).symm)
/-- how many inputs the sequential elements ahead of k have -/
def nS (x : Td) : Nat → Nat
  | 0 => 0
  | k + 1 => nS x k + (x.n.ss.getD k sq0).xs.length
theorem nS_le {x : Td} (h : LnOk x.n) : ∀ k, k ≤ x.n.ss.length → nS x k ≤ 4 * k
  | 0, _ => Nat.le_refl _
  | k + 1, hk => by have := nS_le h k (by omega); have h4 := (h.sq k (by omega)).1.len; unfold nS; omega
def lauA (k : Nat) : List Pt := (List.range k).map (fun (q : Nat) => ⟨1 + q, 0⟩)
def lauB (x : Td) (k : Nat) : List Pt := lauA x.n.ins.toNat ++ (List.range k).map (fun (q : Nat) => ⟨1 + x.n.ins + q, x.ks.getD q 0⟩)
theorem lauA_len (k : Nat) : (lauA k).length = k := by simp [lauA]
theorem lauB_len (x : Td) (k : Nat) : (lauB x k).length = x.n.ins.toNat + k := by simp [lauB, lauA]
theorem lauA_succ (k : Nat) : lauA (k + 1) = lauA k ++ [⟨1 + k, 0⟩] := by simp [lauA, List.range_succ]
theorem lauB_zero (x : Td) : lauB x 0 = lauA x.n.ins.toNat := by simp [lauB]
theorem lauB_succ (x : Td) (k : Nat) : lauB x (k + 1) = lauB x k ++ [⟨1 + x.n.ins + k, x.ks.getD k 0⟩] := by
  unfold lauB; rw [List.range_succ, List.map_append, List.append_assoc]; rfl
noncomputable def lauR (x : Td) : List Pt := if pB (TdOk x) = true then lauB x x.ks.length else []
def arcL (x : Td) : Nat → List Arc
  | 0 => []
  | i + 1 => arcL x i ++ (List.range (x.n.ls.getD i lt0).xs.length).map (fun j => ⟨(x.n.ls.getD i lt0).xs.getD j 0, x.n.fst + i, (x.dl.getD i ir0).xs.getD j 0⟩)
def arcI (x : Td) (i j : Nat) : List Arc := arcL x i ++ (List.range j).map (fun j => ⟨(x.n.ls.getD i lt0).xs.getD j 0, x.n.fst + i, (x.dl.getD i ir0).xs.getD j 0⟩)
theorem arcI_zero (x : Td) (i : Nat) : arcI x i 0 = arcL x i := by simp [arcI]
theorem arcI_succ (x : Td) (i j : Nat) : arcI x i (j + 1) = arcI x i j ++ [⟨(x.n.ls.getD i lt0).xs.getD j 0, x.n.fst + i, (x.dl.getD i ir0).xs.getD j 0⟩] := by
  unfold arcI; rw [List.range_succ, List.map_append, List.append_assoc]; rfl
theorem arcL_le {x : Td} (h : LnOk x.n) : ∀ i, i ≤ x.n.ls.length → (arcL x i).length ≤ 4 * i
  | 0, _ => Nat.le_refl _
  | i + 1, hi => by
    have := arcL_le h i (by omega)
    have h4 := (h.lt i (by omega)).1.1
    unfold arcL; rw [List.length_append]; simp only [List.length_map, List.length_range]; omega
theorem arcI_len (x : Td) (i j : Nat) : (arcI x i j).length = (arcL x i).length + j := by simp [arcI]
def arcS (x : Td) : Nat → List Arc
  | 0 => arcL x x.n.ls.length
  | k + 1 => arcS x k ++ (List.range (x.n.ss.getD k sq0).xs.length).map (fun j => ⟨(x.n.ss.getD k sq0).xs.getD j 0, x.n.cnt + nS x k + j, (x.ds.getD k ir0).xs.getD j 0⟩)
def arcT (x : Td) (k j : Nat) : List Arc := arcS x k ++ (List.range j).map (fun j => ⟨(x.n.ss.getD k sq0).xs.getD j 0, x.n.cnt + nS x k + j, (x.ds.getD k ir0).xs.getD j 0⟩)
theorem arcT_zero (x : Td) (k : Nat) : arcT x k 0 = arcS x k := by simp [arcT]
theorem arcT_succ (x : Td) (k j : Nat) : arcT x k (j + 1) = arcT x k j ++ [⟨(x.n.ss.getD k sq0).xs.getD j 0, x.n.cnt + nS x k + j, (x.ds.getD k ir0).xs.getD j 0⟩] := by
  unfold arcT; rw [List.range_succ, List.map_append, List.append_assoc]; rfl
theorem arcT_len (x : Td) (k j : Nat) : (arcT x k j).length = (arcS x k).length + j := by simp [arcT]
theorem arcS_len (x : Td) : ∀ k, (arcS x k).length = (arcL x x.n.ls.length).length + nS x k
  | 0 => rfl
  | k + 1 => by unfold arcS nS; rw [List.length_append, arcS_len x k]; simp; omega
noncomputable def arcR (x : Td) : List Arc := if pB (TdOk x) = true then arcS x x.n.ss.length else []
noncomputable def nodR (x : Td) : Int := if pB (TdOk x) = true then x.n.cnt + nS x x.n.ss.length else 0
theorem nS_same {x y : Td} (h : Same x y) : ∀ k, nS y k = nS x k
  | 0 => rfl
  | k + 1 => by unfold nS; rw [nS_same h k, (h.sq k).2.2]
theorem arcL_same {x y : Td} (h : Same x y) : ∀ i, arcL y i = arcL x i
  | 0 => rfl
  | i + 1 => by unfold arcL; rw [arcL_same h i, (h.lt i).1, h.fst, h.dlk i]
theorem arcS_same {x y : Td} (h : Same x y) : ∀ k, arcS y k = arcS x k
  | 0 => by show arcL y y.n.ls.length = arcL x x.n.ls.length; rw [arcL_same h, map_len h.ls]
  | k + 1 => by unfold arcS; rw [arcS_same h k, (h.sq k).2.2, h.cnt, nS_same h k, h.dsk k]
/-- what a valid timed net keeps -/
structure Bnd (x : Td) : Prop where
  i : 0 ≤ x.n.ins ∧ x.n.ins ≤ 20
  s : x.n.ss.length ≤ 12
  l : x.n.ls.length ≤ 400
  k : x.ks.length = x.n.ss.length
  a : x.ao.length = x.n.ss.length
  b : x.bs.length = x.n.ss.length
  d : x.dl.length = x.n.ls.length
  e : x.ds.length = x.n.ss.length
theorem TdOk.bnd {x : Td} (h : TdOk x) : Bnd x := ⟨h.n.sz.i, h.n.sz.s, h.n.sz.l, by have := h.k.1; omega, h.a.len, h.b.len, h.dn, h.sn⟩
set_option maxHeartbeats 4000000 in
set_option maxRecDepth 100000 in
theorem specLaunchPoints_ret (x : Td) (w : World) (hr : RdsTd w x) :
  Calls Try.prog 21 #[.agg #[.int .i64 x.n.ins, x.n.sv, x.n.lv, x.n.ov, x.pv, x.qv, x.kv, x.av, x.bv, .int .i64 x.oi, .int .i64 x.ni]] w (Ret w (fun v' post => post = [rowE 81 2 v' (lauR x).length ((lauR x).flatMap ptC)])) := by
 have t1 := sml hr.ks
 have t2 := sml hr.ao
 have t3 := sml hr.bs
 have t4 := hr.dl.small
 have t5 := hr.ds.small
 have t6 := hr.n.sq.small
 have t7 := hr.n.lt.small
 have t8 := sml hr.n.ou
 have hcnt : x.n.cnt = 1 + x.n.ins + x.n.ss.length + x.n.ls.length := rfl
 have hfst : x.n.fst = 1 + x.n.ins + x.n.ss.length := rfl
 refine calls_hc (N := 47) (args := [.agg #[.int .i64 x.n.ins, x.n.sv, x.n.lv, x.n.ov, x.pv, x.qv, x.kv, x.av, x.bv, .int .i64 x.oi, .int .i64 x.ni]]) Try.func21 rfl rfl ?_
 refine hc_less _ (sx 0 rfl (sub_nil _)) (.refl _) ?_
 refine hc_seq ?_
 refine hc_region ?_
 refine hl_box rfl rfl rfl (rq_box rfl rfl) ?_
 intro b1
 refine hl_nilRow 81 2 ?_
 refine hl_eqL (l' := [rowE 81 2 (.slice none 0 0) (([] : List Pt).length) (([] : List Pt).flatMap ptC), boxE b1 #[.int .i64 x.n.ins, x.n.sv, x.n.lv, x.n.ov, x.pv, x.qv, x.kv, x.av, x.bv, .int .i64 x.oi, .int .i64 x.ni] 40]) rfl ?_
 refine hl_v rfl rfl rfl (rv_ev rfl) ?_
 refine hl_less (sx 0 rfl (sx 1 rfl (sx 2 rfl (sub_nil _)))) (.refl _) ?_
 refine hl_nil ?_
 refine hq_then ?_
 refine hc_seq ?_
 refine hc_region ?_
 refine hl_row rfl rfl rfl (rq_slice0 (s := 2) rfl Try.underlying44 (by kernel_rfl)) ?_
 intro g3
 refine hl_v rfl rfl rfl (rv_ev rfl) ?_
 refine hl_less (sx 0 rfl (sx 1 rfl (sx 2 rfl (sx 3 rfl (sub_nil _))))) (.refl _) ?_
 refine hl_nil ?_
 refine hq_then ?_
 refine hc_seq ?_
 refine hc_seq ?_
 refine hc_region ?_
 refine hl_v rfl rfl rfl (rv_loadN (cs := [.int .i64 x.n.ins, x.n.sv, x.n.lv, x.n.ov, x.pv, x.qv, x.kv, x.av, x.bv, .int .i64 x.oi, .int .i64 x.ni]) rfl (by kernel_rfl) (by kernel_rfl) rfl rfl (box_part 2 rfl 0 rfl)) ?_
 refine hl_callV rfl rfl rfl (rq_call (by kernel_rfl) rfl (fun w hm => ret_ans (specTimedOk_ans x w (hr.below hm.bel)))) ?_
 refine hl_bool (fun h4 => ?_) (fun h4 => ?_)
 ·
  have hok := of_pB h4
  obtain ⟨ci, cs_, cl, ck, ca, cb, cd, ce⟩ := hok.bnd
  have hi0 := ci.1
  have hi1 := ci.2
  refine hl_v rfl rfl rfl (rv_ev rfl) ?_
  refine hl_less (sx 0 rfl (sx 1 rfl (sx 2 rfl (sx 3 rfl (sx 9 rfl (sub_nil _)))))) (.refl _) ?_
  refine hl_nil ?_
  refine hq_then ?_
  refine hc_false rfl ?_
  refine hc_skip ?_
  refine hq_then ?_
  refine hc_seq ?_
  refine hc_seq ?_
  refine hc_region ?_
  refine hl_v rfl rfl rfl (rv_ev rfl) ?_
  refine hl_less (sx 0 rfl (sx 1 rfl (sx 2 rfl (sx 3 rfl (sx 4 rfl (sx 9 rfl (sub_nil _))))))) (.refl _) ?_
  refine hl_nil ?_
  refine hq_then ?_
  refine hc_block ?_
  refine hc_loop3 (α := Nat) (β := Value) (γ := List Pt) (fun k u zs => [rowE 81 2 u zs.length (zs.flatMap ptC), rowE 81 2 (.slice none 0 0) (([] : List Pt).length) (([] : List Pt).flatMap ptC), boxE b1 #[.int .i64 x.n.ins, x.n.sv, x.n.lv, x.n.ov, x.pv, x.qv, x.kv, x.av, x.bv, .int .i64 x.oi, .int .i64 x.ni] 40]) (fun k u zs => [(0, .agg #[.int .i64 x.n.ins, x.n.sv, x.n.lv, x.n.ov, x.pv, x.qv, x.kv, x.av, x.bv, .int .i64 x.oi, .int .i64 x.ni]), (1, .pointer (some ⟨b1, 0, none⟩)), (2, .slice none 0 0), (3, u), (4, .int .i64 (k : Int)), (9, .bool false)]) (fun k u zs => (k : Int) ≤ x.n.ins ∧ zs = lauA k) (fun k u zs => x.n.ins.toNat - k) 0 _ [] ⟨by omega, rfl⟩ (sx 0 rfl (sx 1 rfl (sx 2 rfl (sx 3 rfl (sx 4 rfl (sx 9 rfl (sub_nil _))))))) ((.cons_cons _ (.cons_cons _ (.cons_cons _ .slnil)))) ?_
  intro k u zs hi5
  obtain ⟨hk, hz⟩ := hi5
  have hzl : zs.length = k := by rw [hz]; exact lauA_len k
  refine hc_seq ?_
  refine hc_seq ?_
  refine hc_region ?_
  refine hl_v rfl rfl rfl (rv_ev rfl) ?_
  refine hl_v rfl rfl rfl (rv_field (k0 := 0) rfl (by kernel_rfl) rfl) ?_
  refine hl_v rfl rfl rfl (rv_field (k0 := 0) rfl (by kernel_rfl) rfl) ?_
  refine hl_v rfl rfl rfl (rv_load rfl (by kernel_rfl) rfl (box_cell 2 rfl rfl)) ?_
  refine hl_lss rfl rfl rfl rfl rfl rfl (fun h6 => ?_) (fun h6 => ?_)
  ·
   refine hl_less (sx 0 rfl (sx 1 rfl (sx 2 rfl (sx 3 rfl (sx 4 rfl (sx 9 rfl (sx 15 rfl (sub_nil _)))))))) (.refl _) ?_
   refine hl_nil ?_
   refine hq_then ?_
   refine hc_true rfl ?_
   refine hc_skip ?_
   refine hq_then ?_
   refine hc_seq ?_
   refine hc_block ?_
   refine hc_region ?_
   refine hl_v rfl rfl rfl (rv_ev rfl) ?_
   refine hl_v rfl rfl rfl (rv_ev rfl) ?_
   refine hl_v rfl rfl rfl (rv_add rfl rfl rfl (by constructor <;> omega)) ?_
   refine hl_v rfl rfl rfl (rv_build (cs := #[.int .i64 (1 + (k : Int)), .int .i64 0]) rfl rfl (by kernel_rfl)) ?_
   refine hl_row rfl rfl rfl (rq_buildSlice (z := .agg #[.int .i64 0, .int .i64 0]) (s := 2) (cs := ([1 + (k : Int), 0].map (Value.int .i64))) rfl Try.underlying44 (by kernel_rfl) (by decide) rfl (by kernel_rfl) rfl) ?_
   intro g7
   refine hl_append (i := 1) (z := .agg #[.int .i64 0, .int .i64 0]) (bytes := 16) (n' := (zs ++ [Pt.mk (1 + (k : Int)) 0]).length) (xs' := ((zs ++ [Pt.mk (1 + (k : Int)) 0]).flatMap ptC)) (L := fun v8 => [rowE 81 2 (.slice (some ⟨g7, 0, none⟩) 1 1) 1 ([1 + (k : Int), 0].map (Value.int .i64)), rowE 81 2 v8 ((zs ++ [Pt.mk (1 + (k : Int)) 0]).length) ((zs ++ [Pt.mk (1 + (k : Int)) 0]).flatMap ptC), rowE 81 2 (.slice none 0 0) (([] : List Pt).length) (([] : List Pt).flatMap ptC), boxE b1 #[.int .i64 x.n.ins, x.n.sv, x.n.lv, x.n.ov, x.pv, x.qv, x.kv, x.av, x.bv, .int .i64 x.oi, .int .i64 x.ni] 40]) rfl rfl rfl rfl Try.underlying44 (by kernel_rfl) (by kernel_rfl) rfl rfl rfl (rd_row 0 rfl) (ints_one _) (by first | omega | (simp only [List.length_append, List.length_cons, List.length_nil]; omega)) (len_app zs [Pt.mk (1 + (k : Int)) 0]) (flat_app1 ptC zs (Pt.mk (1 + (k : Int)) 0) _ rfl) (fun _ => rfl) ?_
   intro v8
   refine hl_v rfl rfl rfl (rv_ev rfl) ?_
   refine hl_less (sx 0 rfl (sx 1 rfl (sx 2 rfl (sx 3 rfl (sx 4 rfl (sx 9 rfl (sx 15 rfl (sub_nil _)))))))) (.refl _) ?_
   refine hl_nil ?_
   refine hq_block_normal ?_
   refine hq_then ?_
   refine hc_region ?_
   refine hl_v rfl rfl rfl (rv_ev rfl) ?_
   refine hl_v rfl rfl rfl (rv_add rfl rfl rfl (by constructor <;> omega)) ?_
   refine hl_v rfl rfl rfl (rv_ev rfl) ?_
   refine hl_less (sx 0 rfl (sx 1 rfl (sx 2 rfl (sx 3 rfl (sx 4 rfl (sx 9 rfl (sx 15 rfl (sub_nil _)))))))) (.refl _) ?_
   refine hl_nil ?_
   exact hq_round3 (k + 1) v8 (zs ++ [Pt.mk (1 + (k : Int)) 0]) ⟨by omega, by rw [lauA_succ, hz]⟩ (by omega) (sx 0 rfl (sx 1 rfl (sx 2 rfl (sx 3 rfl (sx 4 rfl (sx 9 rfl (sub_nil _))))))) ((.cons _ (.cons_cons _ (.cons_cons _ (.cons_cons _ .slnil)))))
  ·
   refine hl_less (sx 0 rfl (sx 1 rfl (sx 2 rfl (sx 3 rfl (sx 4 rfl (sx 9 rfl (sx 15 rfl (sub_nil _)))))))) (.refl _) ?_
   refine hl_nil ?_
   refine hq_then ?_
   refine hc_false rfl ?_
   refine hc_exit ?_
   refine hq_then_exit ?_
   refine hq_then_exit ?_
   refine hq_block_exit ?_
   refine hq_then ?_
   refine hc_seq ?_
   refine hc_seq ?_
   refine hc_region ?_
   refine hl_v rfl rfl rfl (rv_ev rfl) ?_
   refine hl_less (sx 0 rfl (sx 1 rfl (sx 2 rfl (sx 3 rfl (sx 4 rfl (sx 5 rfl (sx 9 rfl (sx 15 rfl (sub_nil _))))))))) (.refl _) ?_
   refine hl_nil ?_
   refine hq_then ?_
   refine hc_block ?_
   refine hc_loop3 (α := Nat) (β := Value) (γ := List Pt) (fun j u2 ys => [rowE 81 2 u2 ys.length (ys.flatMap ptC), rowE 81 2 (.slice none 0 0) (([] : List Pt).length) (([] : List Pt).flatMap ptC), boxE b1 #[.int .i64 x.n.ins, x.n.sv, x.n.lv, x.n.ov, x.pv, x.qv, x.kv, x.av, x.bv, .int .i64 x.oi, .int .i64 x.ni] 40]) (fun j u2 ys => [(0, .agg #[.int .i64 x.n.ins, x.n.sv, x.n.lv, x.n.ov, x.pv, x.qv, x.kv, x.av, x.bv, .int .i64 x.oi, .int .i64 x.ni]), (1, .pointer (some ⟨b1, 0, none⟩)), (2, .slice none 0 0), (3, u2), (5, .int .i64 (j : Int)), (9, .bool false), (15, .bool false)]) (fun j u2 ys => j ≤ x.ks.length ∧ ys = lauB x j) (fun j u2 ys => x.ks.length - j) 0 _ zs ⟨Nat.zero_le _, by rw [lauB_zero, hz, show k = x.n.ins.toNat by omega]⟩ (sx 0 rfl (sx 1 rfl (sx 2 rfl (sx 3 rfl (sx 5 rfl (sx 9 rfl (sx 15 rfl (sub_nil _)))))))) ((.cons_cons _ (.cons_cons _ (.cons_cons _ .slnil)))) ?_
   intro j u2 ys hi9
   obtain ⟨hj, hy⟩ := hi9
   have hyl : ys.length = x.n.ins.toNat + j := by rw [hy]; exact lauB_len x j
   refine hc_seq ?_
   refine hc_seq ?_
   refine hc_region ?_
   refine hl_v rfl rfl rfl (rv_ev rfl) ?_
   refine hl_v rfl rfl rfl (rv_field (k0 := 6) rfl (by kernel_rfl) rfl) ?_
   refine hl_v rfl rfl rfl (rv_load rfl (by kernel_rfl) rfl (box_cell 2 rfl rfl)) ?_
   refine hl_v rfl rfl rfl (rv_len rfl Try.underlying24 rfl (rd_old ((hr).ks))) ?_
   refine hl_lss rfl rfl rfl rfl rfl rfl (fun h10 => ?_) (fun h10 => ?_)
   ·
    refine hl_less (sx 0 rfl (sx 1 rfl (sx 2 rfl (sx 3 rfl (sx 5 rfl (sx 9 rfl (sx 15 rfl (sx 28 rfl (sub_nil _))))))))) (.refl _) ?_
    refine hl_nil ?_
    refine hq_then ?_
    refine hc_true rfl ?_
    refine hc_skip ?_
    refine hq_then ?_
    refine hc_seq ?_
    refine hc_block ?_
    refine hc_draw (by kernel_rfl) 14 [0, 1, 2, 3, 4, 5, 6, 7, 8, 9, 10, 11, 12, 13] (List.take 14 _) (List.drop 14 _) [[], [], [1], [2], [3], [], [4, 5], [], [7], [], [8, 9], [10], [6, 11], [12]] [31, 32, 33, 34, 35, 36, 37, 38, 39, 40, 41, 42, 43, 44] (fun i_ vs_ v_ p_ => match i_ with | 0 => v_ = u2 ∧ p_ = [] | 1 => v_ = .pointer (some ⟨b1, 0 + 0, none⟩) ∧ p_ = [] | 2 => v_ = .pointer (some ⟨b1, 0 + 0 + 0, none⟩) ∧ p_ = [] | 3 => v_ = .int .i64 x.n.ins ∧ p_ = [] | 4 => v_ = .int .i64 (1 + x.n.ins) ∧ p_ = [] | 5 => v_ = .int .i64 (j : Int) ∧ p_ = [] | 6 => v_ = .int .i64 ((1 + x.n.ins) + (j : Int)) ∧ p_ = [] | 7 => v_ = .pointer (some ⟨b1, 0 + 6, none⟩) ∧ p_ = [] | 8 => v_ = x.kv ∧ p_ = [] | 9 => v_ = .int .i64 (j : Int) ∧ p_ = [] | 10 => v_ = elP x.kv (((j : Int)).toNat * 1) ∧ p_ = [] | 11 => v_ = .int .i64 (x.ks.getD j 0) ∧ p_ = [] | 12 => v_ = .agg #[.int .i64 ((1 + x.n.ins) + (j : Int)), .int .i64 (x.ks.getD j 0)] ∧ p_ = [] | 13 => IsRow_o 81 2 1 ([(1 + x.n.ins) + (j : Int), x.ks.getD j 0].map (Value.int .i64)) v_ p_ | _ => True) (List.take_append_drop 14 _).symm (by kernel_rfl) (by kernel_rfl) rfl rfl ?_ ?_
    ·
     refine ⟨?_, ?_, ?_, ?_, ?_, ?_, ?_, ?_, ?_, ?_, ?_, ?_, ?_, ?_, trivial⟩
     ·
      intro vf pf hR
      refine Or.inl ⟨rfl, ?_⟩
      refine rq_less (sx 3 rfl (sub_nil _)) (List.sublist_append_right _ _) ?_
      exact rq_v (rv_ev rfl)
     ·
      intro vf pf hR
      refine Or.inl ⟨rfl, ?_⟩
      refine rq_less (sx 1 rfl (sub_nil _)) (List.sublist_append_right _ _) ?_
      exact rq_v (rv_field (k0 := 0) rfl (by kernel_rfl) rfl)
     ·
      intro vf pf hR
      have e1 : (vf 1) = .pointer (some ⟨b1, 0 + 0, none⟩) ∧ (pf 1) = [] := hR 1 (by decide)
      refine Or.inl ⟨rfl, ?_⟩
      refine rq_less (sx 32 (congrArg some e1.1) (sub_nil _)) (List.sublist_append_right _ _) ?_
      exact rq_v (rv_field (k0 := 0) rfl (by kernel_rfl) rfl)
     ·
      intro vf pf hR
      have e2 : (vf 2) = .pointer (some ⟨b1, 0 + 0 + 0, none⟩) ∧ (pf 2) = [] := hR 2 (by decide)
      refine Or.inl ⟨rfl, ?_⟩
      refine rq_less (sx 33 (congrArg some e2.1) (sub_nil _)) (List.sublist_append_right _ _) ?_
      exact rq_v (rv_load rfl (by kernel_rfl) rfl (box_cell 2 rfl rfl))
     ·
      intro vf pf hR
      have e3 : (vf 3) = .int .i64 x.n.ins ∧ (pf 3) = [] := hR 3 (by decide)
      refine Or.inl ⟨rfl, ?_⟩
      refine rq_less (sx 34 (congrArg some e3.1) (sub_nil _)) (List.sublist_append_right _ _) ?_
      exact rq_v (rv_add rfl rfl rfl (by constructor <;> omega))
     ·
      intro vf pf hR
      refine Or.inl ⟨rfl, ?_⟩
      refine rq_less (sx 5 rfl (sub_nil _)) (List.sublist_append_right _ _) ?_
      exact rq_v (rv_ev rfl)
     ·
      intro vf pf hR
      have e4 : (vf 4) = .int .i64 (1 + x.n.ins) ∧ (pf 4) = [] := hR 4 (by decide)
      have e5 : (vf 5) = .int .i64 (j : Int) ∧ (pf 5) = [] := hR 5 (by decide)
      refine Or.inl ⟨rfl, ?_⟩
      refine rq_less (sx 35 (congrArg some e4.1) (sx 36 (congrArg some e5.1) (sub_nil _))) (List.sublist_append_right _ _) ?_
      exact rq_v (rv_add rfl rfl rfl (by constructor <;> omega))
     ·
      intro vf pf hR
      refine Or.inl ⟨rfl, ?_⟩
      refine rq_less (sx 1 rfl (sub_nil _)) (List.sublist_append_right _ _) ?_
      exact rq_v (rv_field (k0 := 6) rfl (by kernel_rfl) rfl)
     ·
      intro vf pf hR
      have e7 : (vf 7) = .pointer (some ⟨b1, 0 + 6, none⟩) ∧ (pf 7) = [] := hR 7 (by decide)
      refine Or.inl ⟨rfl, ?_⟩
      refine rq_less (sx 38 (congrArg some e7.1) (sub_nil _)) (List.sublist_append_right _ _) ?_
      exact rq_v (rv_load rfl (by kernel_rfl) rfl (box_cell 2 rfl rfl))
     ·
      intro vf pf hR
      refine Or.inl ⟨rfl, ?_⟩
      refine rq_less (sx 5 rfl (sub_nil _)) (List.sublist_append_right _ _) ?_
      exact rq_v (rv_ev rfl)
     ·
      intro vf pf hR
      have e8 : (vf 8) = x.kv ∧ (pf 8) = [] := hR 8 (by decide)
      have e9 : (vf 9) = .int .i64 (j : Int) ∧ (pf 9) = [] := hR 9 (by decide)
      refine Or.inl ⟨rfl, ?_⟩
      refine rq_less (sx 39 (congrArg some e8.1) (sx 40 (congrArg some e9.1) (sub_nil _))) (List.sublist_append_right _ _) ?_
      exact rq_v (rv_index (s := 1) rfl Try.underlying24 (by kernel_rfl) rfl rfl (rd_old ((hr).ks)) (by omega) (by first | omega | (simp only [List.length_set]; omega)))
     ·
      intro vf pf hR
      have e10 : (vf 10) = elP x.kv (((j : Int)).toNat * 1) ∧ (pf 10) = [] := hR 10 (by decide)
      refine Or.inl ⟨rfl, ?_⟩
      refine rq_less (sx 41 (congrArg some e10.1) (sub_nil _)) (List.sublist_append_right _ _) ?_
      exact rq_v (rv_loadEl (u := .int .i64 (x.ks.getD j 0)) rfl (by kernel_rfl) rfl (rd_old ((hr).ks)) (ints_at1 (show _ < x.ks.length by first | omega | (simp only [List.length_set]; omega))))
     ·
      intro vf pf hR
      have e6 : (vf 6) = .int .i64 ((1 + x.n.ins) + (j : Int)) ∧ (pf 6) = [] := hR 6 (by decide)
      have e11 : (vf 11) = .int .i64 (x.ks.getD j 0) ∧ (pf 11) = [] := hR 11 (by decide)
      refine Or.inl ⟨rfl, ?_⟩
      refine rq_less (sx 37 (congrArg some e6.1) (sx 42 (congrArg some e11.1) (sub_nil _))) (List.sublist_append_right _ _) ?_
      exact rq_v (rv_build (cs := #[.int .i64 ((1 + x.n.ins) + (j : Int)), .int .i64 (x.ks.getD j 0)]) rfl rfl (by kernel_rfl))
     ·
      intro vf pf hR
      have e12 : (vf 12) = .agg #[.int .i64 ((1 + x.n.ins) + (j : Int)), .int .i64 (x.ks.getD j 0)] ∧ (pf 12) = [] := hR 12 (by decide)
      refine Or.inl ⟨rfl, ?_⟩
      refine rq_less (sx 43 (congrArg some e12.1) (sub_nil _)) (List.sublist_append_right _ _) ?_
      exact rq_buildSlice (z := .agg #[.int .i64 0, .int .i64 0]) (s := 2) (cs := ([(1 + x.n.ins) + (j : Int), x.ks.getD j 0].map (Value.int .i64))) rfl Try.underlying44 (by kernel_rfl) (by decide) rfl (by kernel_rfl) rfl
    ·
     intro vf pf hR
     have e0 : (vf 0) = u2 ∧ (pf 0) = [] := hR 0 (by decide)
     have e13 : IsRow_o 81 2 1 ([(1 + x.n.ins) + (j : Int), x.ks.getD j 0].map (Value.int .i64)) (vf 13) (pf 13) := hR 13 (by decide)
     obtain ⟨g11, v13, p13⟩ := e13
     have q0 : (vf 0) = u2 ∧ (pf 0) = [] := hR 0 (by decide)
     have q1 : (vf 1) = .pointer (some ⟨b1, 0 + 0, none⟩) ∧ (pf 1) = [] := hR 1 (by decide)
     have q2 : (vf 2) = .pointer (some ⟨b1, 0 + 0 + 0, none⟩) ∧ (pf 2) = [] := hR 2 (by decide)
     have q3 : (vf 3) = .int .i64 x.n.ins ∧ (pf 3) = [] := hR 3 (by decide)
     have q4 : (vf 4) = .int .i64 (1 + x.n.ins) ∧ (pf 4) = [] := hR 4 (by decide)
     have q5 : (vf 5) = .int .i64 (j : Int) ∧ (pf 5) = [] := hR 5 (by decide)
     have q6 : (vf 6) = .int .i64 ((1 + x.n.ins) + (j : Int)) ∧ (pf 6) = [] := hR 6 (by decide)
     have q7 : (vf 7) = .pointer (some ⟨b1, 0 + 6, none⟩) ∧ (pf 7) = [] := hR 7 (by decide)
     have q8 : (vf 8) = x.kv ∧ (pf 8) = [] := hR 8 (by decide)
     have q9 : (vf 9) = .int .i64 (j : Int) ∧ (pf 9) = [] := hR 9 (by decide)
     have q10 : (vf 10) = elP x.kv (((j : Int)).toNat * 1) ∧ (pf 10) = [] := hR 10 (by decide)
     have q11 : (vf 11) = .int .i64 (x.ks.getD j 0) ∧ (pf 11) = [] := hR 11 (by decide)
     have q12 : (vf 12) = .agg #[.int .i64 ((1 + x.n.ins) + (j : Int)), .int .i64 (x.ks.getD j 0)] ∧ (pf 12) = [] := hR 12 (by decide)
     refine hl_less (l' := [rowE 81 2 (.slice (some ⟨g11, 0, none⟩) 1 1) 1 ([(1 + x.n.ins) + (j : Int), x.ks.getD j 0].map (Value.int .i64)), rowE 81 2 u2 ys.length (ys.flatMap ptC), rowE 81 2 (.slice none 0 0) (([] : List Pt).length) (([] : List Pt).flatMap ptC), boxE b1 #[.int .i64 x.n.ins, x.n.sv, x.n.lv, x.n.ov, x.pv, x.qv, x.kv, x.av, x.bv, .int .i64 x.oi, .int .i64 x.ni] 40]) (sx 0 rfl (sx 1 rfl (sx 2 rfl (sx 3 rfl (sx 5 rfl (sx 9 rfl (sx 15 rfl (sx 28 rfl (sx 31 (congrArg some e0.1) (sx 44 (congrArg some v13) (sub_nil _))))))))))) (by first | (simp only [p13, v13, q0.2, q1.2, q2.2, q3.2, q4.2, q5.2, q6.2, q7.2, q8.2, q9.2, q10.2, q11.2, q12.2, List.flatMap_cons, List.flatMap_nil, List.append_nil, List.nil_append, List.cons_append]; exact List.Sublist.refl _) | simp [p13, v13, q0.2, q1.2, q2.2, q3.2, q4.2, q5.2, q6.2, q7.2, q8.2, q9.2, q10.2, q11.2, q12.2]) ?_
     simp only [List.drop_succ_cons, List.drop_zero]
     refine hl_append (i := 1) (z := .agg #[.int .i64 0, .int .i64 0]) (bytes := 16) (n' := (ys ++ [Pt.mk ((1 + x.n.ins) + (j : Int)) (x.ks.getD j 0)]).length) (xs' := ((ys ++ [Pt.mk ((1 + x.n.ins) + (j : Int)) (x.ks.getD j 0)]).flatMap ptC)) (L := fun v12 => [rowE 81 2 (.slice (some ⟨g11, 0, none⟩) 1 1) 1 ([(1 + x.n.ins) + (j : Int), x.ks.getD j 0].map (Value.int .i64)), rowE 81 2 v12 ((ys ++ [Pt.mk ((1 + x.n.ins) + (j : Int)) (x.ks.getD j 0)]).length) ((ys ++ [Pt.mk ((1 + x.n.ins) + (j : Int)) (x.ks.getD j 0)]).flatMap ptC), rowE 81 2 (.slice none 0 0) (([] : List Pt).length) (([] : List Pt).flatMap ptC), boxE b1 #[.int .i64 x.n.ins, x.n.sv, x.n.lv, x.n.ov, x.pv, x.qv, x.kv, x.av, x.bv, .int .i64 x.oi, .int .i64 x.ni] 40]) rfl rfl rfl rfl Try.underlying44 (by kernel_rfl) (by kernel_rfl) rfl rfl rfl (rd_row 0 rfl) (ints_one _) (by first | omega | (simp only [List.length_append, List.length_cons, List.length_nil]; omega)) (len_app ys [Pt.mk ((1 + x.n.ins) + (j : Int)) (x.ks.getD j 0)]) (flat_app1 ptC ys (Pt.mk ((1 + x.n.ins) + (j : Int)) (x.ks.getD j 0)) _ rfl) (fun _ => rfl) ?_
     intro v12
     refine hl_v rfl rfl rfl (rv_ev rfl) ?_
     refine hl_less (sx 0 rfl (sx 1 rfl (sx 2 rfl (sx 3 rfl (sx 5 rfl (sx 9 rfl (sx 15 rfl (sx 28 rfl (sub_nil _))))))))) (.refl _) ?_
     refine hl_nil ?_
     refine hq_block_normal ?_
     refine hq_then ?_
     refine hc_region ?_
     refine hl_v rfl rfl rfl (rv_ev rfl) ?_
     refine hl_v rfl rfl rfl (rv_add rfl rfl rfl (by constructor <;> omega)) ?_
     refine hl_v rfl rfl rfl (rv_ev rfl) ?_
     refine hl_less (sx 0 rfl (sx 1 rfl (sx 2 rfl (sx 3 rfl (sx 5 rfl (sx 9 rfl (sx 15 rfl (sx 28 rfl (sub_nil _))))))))) (.refl _) ?_
     refine hl_nil ?_
     exact hq_round3 (j + 1) v12 (ys ++ [Pt.mk ((1 + x.n.ins) + (j : Int)) (x.ks.getD j 0)]) ⟨by omega, by rw [lauB_succ, hy]⟩ (by omega) (sx 0 rfl (sx 1 rfl (sx 2 rfl (sx 3 rfl (sx 5 rfl (sx 9 rfl (sx 15 rfl (sub_nil _)))))))) ((.cons _ (.cons_cons _ (.cons_cons _ (.cons_cons _ .slnil)))))
   ·
    refine hl_less (sx 0 rfl (sx 1 rfl (sx 2 rfl (sx 3 rfl (sx 5 rfl (sx 9 rfl (sx 15 rfl (sx 28 rfl (sub_nil _))))))))) (.refl _) ?_
    refine hl_nil ?_
    refine hq_then ?_
    refine hc_false rfl ?_
    refine hc_exit ?_
    refine hq_then_exit ?_
    refine hq_then_exit ?_
    refine hq_block_exit ?_
    refine hq_then ?_
    refine hc_seq ?_
    refine hc_region ?_
    refine hl_v rfl rfl rfl (rv_ev rfl) ?_
    refine hl_v rfl rfl rfl (rv_ev rfl) ?_
    refine hl_less (sx 0 rfl (sx 1 rfl (sx 2 rfl (sx 3 rfl (sx 5 rfl (sx 9 rfl (sx 15 rfl (sx 28 rfl (sub_nil _))))))))) (.refl _) ?_
    refine hl_nil ?_
    refine hq_then ?_
    refine hc_ret ?_
    have hE : ys = lauR x := by unfold lauR; rw [if_pos (pB_yes hok), hy, show j = x.ks.length by omega]
    exact hq_retR (post := [rowE 81 2 u2 ys.length (ys.flatMap ptC)]) rfl rfl ((.cons_cons _ (.cons _ (.cons _ .slnil)))) (by rw [← hE] <;> rfl)
 ·
  have hno := of_pBn h4
  refine hl_v rfl rfl rfl (rv_ev rfl) ?_
  refine hl_less (sx 0 rfl (sx 1 rfl (sx 2 rfl (sx 3 rfl (sx 9 rfl (sub_nil _)))))) (.refl _) ?_
  refine hl_nil ?_
  refine hq_then ?_
  refine hc_true rfl ?_
  refine hc_seq ?_
  refine hc_region ?_
  refine hl_v rfl rfl rfl (rv_ev rfl) ?_
  refine hl_v rfl rfl rfl (rv_ev rfl) ?_
  refine hl_less (sx 0 rfl (sx 1 rfl (sx 2 rfl (sx 3 rfl (sx 9 rfl (sub_nil _)))))) (.refl _) ?_
  refine hl_nil ?_
  refine hq_then ?_
  refine hc_ret ?_
  refine hq_then_ret ?_
  have hE : (([] : List Pt)) = lauR x := by unfold lauR; rw [pB_no hno]; rfl
  exact hq_retR (post := [rowE 81 2 (.slice (some ⟨g3, 0, none⟩) 0 0) 0 ([])]) rfl rfl ((.cons_cons _ (.cons _ (.cons _ .slnil)))) (by rw [← hE] <;> rfl)
open Go.RowKit
theorem hq_oneT {N : Nat} {w0 : World} {l : List HP} {env : List (Nat × Value)} {Q : Post} {ex : Exit} {i e s n : Nat} {v : Value} {xs : List Value} (hi : l[i]? = some (rowE e s v n xs)) (k : v.oneCell' = true → HQ N w0 l env ex Q) : HQ N w0 l env ex Q := fun a w st => k (rdsW_own (st.mem.holds _ (mem_at hi))).one a w st
set_option maxHeartbeats 4000000 in
set_option maxRecDepth 100000 in
theorem specTimingOf_ret (x : Td) (w : World) (hr : RdsTd w x) :
  Calls Try.prog 23 #[.agg #[.int .i64 x.n.ins, x.n.sv, x.n.lv, x.n.ov, x.pv, x.qv, x.kv, x.av, x.bv, .int .i64 x.oi, .int .i64 x.ni]] w (Ret w (fun v' post => ∃ u : Value, v' = .tuple #[.agg #[.int .i64 (nodR x), u], .bool (pB (TdOk x))] ∧ post = [rowE 86 3 u (arcR x).length ((arcR x).flatMap arcC)] ∧ u.oneCell' = true)) := by
 have t1 := sml hr.ks
 have t2 := sml hr.ao
 have t3 := sml hr.bs
 have t4 := hr.dl.small
 have t5 := hr.ds.small
 have t6 := hr.n.sq.small
 have t7 := hr.n.lt.small
 have t8 := sml hr.n.ou
 have hcnt : x.n.cnt = 1 + x.n.ins + x.n.ss.length + x.n.ls.length := rfl
 have hfst : x.n.fst = 1 + x.n.ins + x.n.ss.length := rfl
 refine calls_hc (N := 119) (args := [.agg #[.int .i64 x.n.ins, x.n.sv, x.n.lv, x.n.ov, x.pv, x.qv, x.kv, x.av, x.bv, .int .i64 x.oi, .int .i64 x.ni]]) Try.func23 rfl rfl ?_
 refine hc_less _ (sx 0 rfl (sub_nil _)) (.refl _) ?_
 refine hc_seq ?_
 refine hc_region ?_
 refine hl_box rfl rfl rfl (rq_box rfl rfl) ?_
 intro b1
 refine hl_box rfl rfl rfl (rq_alloc (z := .agg #[.int .i64 0, .slice none 0 0]) rfl (by kernel_rfl)) ?_
 intro b2
 refine hl_v rfl rfl rfl (rv_ev rfl) ?_
 refine hl_less (sx 0 rfl (sx 1 rfl (sx 2 rfl (sx 3 rfl (sub_nil _))))) (.refl _) ?_
 refine hl_nil ?_
 refine hq_then ?_
 refine hc_seq ?_
 refine hc_seq ?_
 refine hc_region ?_
 refine hl_v rfl rfl rfl (rv_loadN (cs := [.int .i64 x.n.ins, x.n.sv, x.n.lv, x.n.ov, x.pv, x.qv, x.kv, x.av, x.bv, .int .i64 x.oi, .int .i64 x.ni]) rfl (by kernel_rfl) (by kernel_rfl) rfl rfl (box_part 1 rfl 0 rfl)) ?_
 refine hl_callV rfl rfl rfl (rq_call (by kernel_rfl) rfl (fun w hm => ret_ans (specTimedOk_ans x w (hr.below hm.bel)))) ?_
 refine hl_bool (fun h3 => ?_) (fun h3 => ?_)
 ·
  have hok := of_pB h3
  obtain ⟨ci, cs_, cl, ck, ca, cb, cd, ce⟩ := hok.bnd
  have hi0 := ci.1
  have hi1 := ci.2
  refine hl_v rfl rfl rfl (rv_ev rfl) ?_
  refine hl_less (sx 0 rfl (sx 1 rfl (sx 2 rfl (sx 3 rfl (sx 11 rfl (sub_nil _)))))) (.refl _) ?_
  refine hl_nil ?_
  refine hq_then ?_
  refine hc_false rfl ?_
  refine hc_skip ?_
  refine hq_then ?_
  refine hc_seq ?_
  refine hc_region ?_
  refine hl_v rfl rfl rfl (rv_field (k0 := 0) rfl (by kernel_rfl) rfl) ?_
  refine hl_v rfl rfl rfl (rv_loadN (cs := [.int .i64 x.n.ins, x.n.sv, x.n.lv, x.n.ov]) rfl (by kernel_rfl) (by kernel_rfl) rfl rfl (box_part 1 rfl 0 rfl)) ?_
  refine hl_callV rfl rfl rfl (rq_call (by kernel_rfl) rfl (fun w hm => ret_ans (by have h9 := specLutNodes_ans x.n w (hr.n.below hm.bel); rw [lnN_yes hok.n.sz, show x.n.cnt = x.n.cnt + (nS x 0 : Int) from (Int.add_zero _).symm] at h9; exact h9))) ?_
  refine hl_v rfl rfl rfl (rv_build (cs := #[.int .i64 (x.n.cnt + (nS x 0 : Int)), .slice none 0 0]) rfl rfl (by kernel_rfl)) ?_
  refine hl_box rfl rfl rfl (rq_alloc (z := .agg #[.int .i64 0, .slice none 0 0]) rfl (by kernel_rfl)) ?_
  intro b4
  refine hl_storeBoxN (i := 0) (off := 0) (us := [.int .i64 (x.n.cnt + (nS x 0 : Int)), .slice none 0 0])  (l' := [boxE b4 #[.int .i64 (x.n.cnt + (nS x 0 : Int)), .slice none 0 0] 51, boxE b2 #[.int .i64 0, .slice none 0 0] 51, boxE b1 #[.int .i64 x.n.ins, x.n.sv, x.n.lv, x.n.ov, x.pv, x.qv, x.kv, x.av, x.bv, .int .i64 x.oi, .int .i64 x.ni] 40]) rfl rfl rfl (by kernel_rfl) rfl rfl rfl (all_cons rfl (all_cons rfl all_nil)) rfl rfl rfl ?_
  refine hl_less (sx 0 rfl (sx 1 rfl (sx 2 rfl (sx 3 rfl (sx 4 rfl (sx 11 rfl (sub_nil _))))))) (.refl _) ?_
  refine hl_nil ?_
  refine hq_then ?_
  refine hc_seq ?_
  refine hc_seq ?_
  refine hc_region ?_
  refine hl_v rfl rfl rfl (rv_ev rfl) ?_
  refine hl_less (sx 0 rfl (sx 1 rfl (sx 2 rfl (sx 3 rfl (sx 4 rfl (sx 5 rfl (sx 11 rfl (sub_nil _)))))))) (.refl _) ?_
  refine hl_nil ?_
  refine hq_then ?_
  refine hc_block ?_
  refine hc_conv [rowE 86 3 (.slice none 0 0) (([] : List Arc).length) (([] : List Arc).flatMap arcC), boxE b4 #[.int .i64 (x.n.cnt + (nS x 0 : Int)), .slice none 0 0] 51, boxE b2 #[.int .i64 0, .slice none 0 0] 51, boxE b1 #[.int .i64 x.n.ins, x.n.sv, x.n.lv, x.n.ov, x.pv, x.qv, x.kv, x.av, x.bv, .int .i64 x.oi, .int .i64 x.ni] 40] (fun w hm => hm.nilRow 86 3) ?_
  refine hc_loop3 (α := Nat) (β := Value) (γ := List Arc) (fun i u zs => [rowE 86 3 u zs.length (zs.flatMap arcC), boxE b4 #[.int .i64 (x.n.cnt + (nS x 0 : Int)), u] 51, boxE b2 #[.int .i64 0, .slice none 0 0] 51, boxE b1 #[.int .i64 x.n.ins, x.n.sv, x.n.lv, x.n.ov, x.pv, x.qv, x.kv, x.av, x.bv, .int .i64 x.oi, .int .i64 x.ni] 40]) (fun i u zs => [(0, .agg #[.int .i64 x.n.ins, x.n.sv, x.n.lv, x.n.ov, x.pv, x.qv, x.kv, x.av, x.bv, .int .i64 x.oi, .int .i64 x.ni]), (1, .pointer (some ⟨b1, 0, none⟩)), (2, .pointer (some ⟨b2, 0, none⟩)), (3, .bool false), (4, .pointer (some ⟨b4, 0, none⟩)), (5, .int .i64 (i : Int)), (11, .bool false)]) (fun i u zs => i ≤ x.n.ls.length ∧ zs = arcL x i) (fun i u zs => x.n.ls.length - i) 0 _ [] ⟨Nat.zero_le _, rfl⟩ (sx 0 rfl (sx 1 rfl (sx 2 rfl (sx 3 rfl (sx 4 rfl (sx 5 rfl (sx 11 rfl (sub_nil _)))))))) ((.cons_cons _ (.cons_cons _ (.cons_cons _ (.cons_cons _ .slnil))))) ?_
  intro i u zs hi5
  obtain ⟨hi, hz⟩ := hi5
  have hzl : zs.length ≤ 4 * i := by rw [hz]; exact arcL_le hok.n i hi
  refine hc_seq ?_
  refine hc_seq ?_
  refine hc_region ?_
  refine hl_v rfl rfl rfl (rv_ev rfl) ?_
  refine hl_v rfl rfl rfl (rv_field (k0 := 0) rfl (by kernel_rfl) rfl) ?_
  refine hl_v rfl rfl rfl (rv_field (k0 := 2) rfl (by kernel_rfl) rfl) ?_
  refine hl_v rfl rfl rfl (rv_load rfl (by kernel_rfl) rfl (box_cell 3 rfl rfl)) ?_
  refine hl_v rfl rfl rfl (rv_len rfl Try.underlying35 rfl (rd_old ((hr).n.lt.row))) ?_
  refine hl_lss rfl rfl rfl rfl rfl rfl (fun h6 => ?_) (fun h6 => ?_)
  ·
   refine hl_less (sx 0 rfl (sx 1 rfl (sx 2 rfl (sx 3 rfl (sx 4 rfl (sx 5 rfl (sx 11 rfl (sx 22 rfl (sub_nil _))))))))) (.refl _) ?_
   refine hl_nil ?_
   refine hq_then ?_
   refine hc_true rfl ?_
   refine hc_skip ?_
   refine hq_then ?_
   refine hc_seq ?_
   refine hc_block ?_
   refine hc_seq ?_
   refine hc_region ?_
   have hx4 : (x.n.ls.getD i lt0).xs.length ≤ 4 := (hok.n.lt i (by omega)).1.1
   have hdi : (x.dl.getD i ir0).xs.length = (x.n.ls.getD i lt0).xs.length := by have := (hok.dl i (by omega)).1; omega
   refine hl_v rfl rfl rfl (rv_ev rfl) ?_
   refine hl_less (sx 0 rfl (sx 1 rfl (sx 2 rfl (sx 3 rfl (sx 4 rfl (sx 5 rfl (sx 6 rfl (sx 11 rfl (sx 22 rfl (sub_nil _)))))))))) (.refl _) ?_
   refine hl_nil ?_
   refine hq_then ?_
   refine hc_block ?_
   refine hc_loop3 (α := Nat) (β := Value) (γ := List Arc) (fun j u2 ys => [rowE 86 3 u2 ys.length (ys.flatMap arcC), boxE b4 #[.int .i64 (x.n.cnt + (nS x 0 : Int)), u2] 51, boxE b2 #[.int .i64 0, .slice none 0 0] 51, boxE b1 #[.int .i64 x.n.ins, x.n.sv, x.n.lv, x.n.ov, x.pv, x.qv, x.kv, x.av, x.bv, .int .i64 x.oi, .int .i64 x.ni] 40]) (fun j u2 ys => [(0, .agg #[.int .i64 x.n.ins, x.n.sv, x.n.lv, x.n.ov, x.pv, x.qv, x.kv, x.av, x.bv, .int .i64 x.oi, .int .i64 x.ni]), (1, .pointer (some ⟨b1, 0, none⟩)), (2, .pointer (some ⟨b2, 0, none⟩)), (3, .bool false), (4, .pointer (some ⟨b4, 0, none⟩)), (5, .int .i64 (i : Int)), (6, .int .i64 (j : Int)), (11, .bool false), (22, .bool true)]) (fun j u2 ys => j ≤ (x.n.ls.getD i lt0).xs.length ∧ ys = arcI x i j) (fun j u2 ys => (x.n.ls.getD i lt0).xs.length - j) 0 _ zs ⟨Nat.zero_le _, by rw [hz, arcI_zero]⟩ (sx 0 rfl (sx 1 rfl (sx 2 rfl (sx 3 rfl (sx 4 rfl (sx 5 rfl (sx 6 rfl (sx 11 rfl (sx 22 rfl (sub_nil _)))))))))) ((.cons_cons _ (.cons_cons _ (.cons_cons _ (.cons_cons _ .slnil))))) ?_
   intro j u2 ys hi7
   obtain ⟨hj, hy⟩ := hi7
   have hyl : ys.length ≤ 4 * i + j := by rw [hy, arcI_len, ← hz]; omega
   refine hc_seq ?_
   refine hc_seq ?_
   refine hc_region ?_
   refine hl_v rfl rfl rfl (rv_ev rfl) ?_
   refine hl_v rfl rfl rfl (rv_field (k0 := 0) rfl (by kernel_rfl) rfl) ?_
   refine hl_v rfl rfl rfl (rv_field (k0 := 2) rfl (by kernel_rfl) rfl) ?_
   refine hl_v rfl rfl rfl (rv_load rfl (by kernel_rfl) rfl (box_cell 3 rfl rfl)) ?_
   refine hl_v rfl rfl rfl (rv_ev rfl) ?_
   refine hl_v rfl rfl rfl (rv_index (s := 2) rfl Try.underlying35 (by kernel_rfl) rfl rfl (rd_old ((hr).n.lt.row)) (by omega) (by first | omega | (simp only [List.length_set]; omega))) ?_
   refine hl_v rfl rfl rfl (rv_fieldEl (k0 := 0) rfl (by kernel_rfl) rfl (rd_old ((hr).n.lt.row)) (by first | omega | (simp only [List.length_set]; omega))) ?_
   refine hl_v rfl rfl rfl (rv_loadEl (u := (x.n.ls.getD i lt0).iv) rfl (by kernel_rfl) rfl (rd_old ((hr).n.lt.row)) ((flat_at ltC 2 (fun _ => rfl) x.n.ls lt0 (show i < _ by first | omega | (simp only [List.length_set]; omega)) (by decide)).trans rfl)) ?_
   refine hl_v rfl rfl rfl (rv_len rfl Try.underlying24 rfl (rd_old ((hr).n.lt.at (d := lt0) (k := i) (by omega)))) ?_
   refine hl_lss rfl rfl rfl rfl rfl rfl (fun h8 => ?_) (fun h8 => ?_)
   ·
    refine hl_less (sx 0 rfl (sx 1 rfl (sx 2 rfl (sx 3 rfl (sx 4 rfl (sx 5 rfl (sx 6 rfl (sx 11 rfl (sx 22 rfl (sx 34 rfl (sub_nil _))))))))))) (.refl _) ?_
    refine hl_nil ?_
    refine hq_then ?_
    refine hc_true rfl ?_
    refine hc_skip ?_
    refine hq_then ?_
    refine hc_seq ?_
    refine hc_block ?_
    refine hc_draw (by kernel_rfl) 28 [0, 1, 2, 3, 4, 5, 6, 7, 8, 9, 10, 11, 12, 13, 14, 15, 16, 17, 18, 19, 20, 21, 22, 23, 24, 25, 26, 27] (List.take 28 _) (List.drop 28 _) [[], [0], [], [2], [3], [], [4, 5], [6], [7], [], [8, 9], [10], [], [12], [13], [], [14, 15], [], [17], [18], [], [19, 20], [21], [], [22, 23], [24], [11, 16, 25], [26]] [37, 38, 39, 40, 41, 42, 43, 44, 45, 46, 47, 48, 49, 50, 51, 52, 53, 54, 55, 56, 57, 58, 59, 60, 61, 62, 63, 64] (fun i_ vs_ v_ p_ => match i_ with | 0 => v_ = .pointer (some ⟨b4, 0 + 1, none⟩) ∧ p_ = [] | 1 => v_ = u2 ∧ p_ = [] | 2 => v_ = .pointer (some ⟨b1, 0 + 0, none⟩) ∧ p_ = [] | 3 => v_ = .pointer (some ⟨b1, 0 + 0 + 2, none⟩) ∧ p_ = [] | 4 => v_ = x.n.lv ∧ p_ = [] | 5 => v_ = .int .i64 (i : Int) ∧ p_ = [] | 6 => v_ = elP x.n.lv (((i : Int)).toNat * 2) ∧ p_ = [] | 7 => v_ = elP x.n.lv (((i : Int)).toNat * 2 + 0) ∧ p_ = [] | 8 => v_ = (x.n.ls.getD i lt0).iv ∧ p_ = [] | 9 => v_ = .int .i64 (j : Int) ∧ p_ = [] | 10 => v_ = elP ((x.n.ls.getD i lt0).iv) (((j : Int)).toNat * 1) ∧ p_ = [] | 11 => v_ = .int .i64 (((x.n.ls.getD i lt0).xs).getD j 0) ∧ p_ = [] | 12 => v_ = .pointer (some ⟨b1, 0 + 0, none⟩) ∧ p_ = [] | 13 => v_ = .agg #[.int .i64 x.n.ins, x.n.sv, x.n.lv, x.n.ov] ∧ p_ = [] | 14 => v_ = .int .i64 x.n.fst ∧ p_ = [] | 15 => v_ = .int .i64 (i : Int) ∧ p_ = [] | 16 => v_ = .int .i64 (x.n.fst + (i : Int)) ∧ p_ = [] | 17 => v_ = .pointer (some ⟨b1, 0 + 4, none⟩) ∧ p_ = [] | 18 => v_ = .pointer (some ⟨b1, 0 + 4 + 0, none⟩) ∧ p_ = [] | 19 => v_ = x.pv ∧ p_ = [] | 20 => v_ = .int .i64 (i : Int) ∧ p_ = [] | 21 => v_ = elP x.pv (((i : Int)).toNat * 1) ∧ p_ = [] | 22 => v_ = (x.dl.getD i ir0).v ∧ p_ = [] | 23 => v_ = .int .i64 (j : Int) ∧ p_ = [] | 24 => v_ = elP ((x.dl.getD i ir0).v) (((j : Int)).toNat * 1) ∧ p_ = [] | 25 => v_ = .int .i64 (((x.dl.getD i ir0).xs).getD j 0) ∧ p_ = [] | 26 => v_ = .agg #[.int .i64 (((x.n.ls.getD i lt0).xs).getD j 0), .int .i64 (x.n.fst + (i : Int)), .int .i64 (((x.dl.getD i ir0).xs).getD j 0)] ∧ p_ = [] | 27 => IsRow_o 86 3 1 ([((x.n.ls.getD i lt0).xs).getD j 0, x.n.fst + (i : Int), ((x.dl.getD i ir0).xs).getD j 0].map (Value.int .i64)) v_ p_ | _ => True) (List.take_append_drop 28 _).symm (by kernel_rfl) (by kernel_rfl) rfl rfl ?_ ?_
    ·
     refine ⟨?_, ?_, ?_, ?_, ?_, ?_, ?_, ?_, ?_, ?_, ?_, ?_, ?_, ?_, ?_, ?_, ?_, ?_, ?_, ?_, ?_, ?_, ?_, ?_, ?_, ?_, ?_, ?_, trivial⟩
     ·
      intro vf pf hR
      refine Or.inl ⟨rfl, ?_⟩
      refine rq_less (sx 4 rfl (sub_nil _)) (List.sublist_append_right _ _) ?_
      exact rq_v (rv_field (k0 := 1) rfl (by kernel_rfl) rfl)
     ·
      intro vf pf hR
      have e0 : (vf 0) = .pointer (some ⟨b4, 0 + 1, none⟩) ∧ (pf 0) = [] := hR 0 (by decide)
      refine Or.inl ⟨rfl, ?_⟩
      refine rq_less (sx 37 (congrArg some e0.1) (sub_nil _)) (List.sublist_append_right _ _) ?_
      exact rq_v (rv_load rfl (by kernel_rfl) rfl (box_cell 1 rfl rfl))
     ·
      intro vf pf hR
      refine Or.inl ⟨rfl, ?_⟩
      refine rq_less (sx 1 rfl (sub_nil _)) (List.sublist_append_right _ _) ?_
      exact rq_v (rv_field (k0 := 0) rfl (by kernel_rfl) rfl)
     ·
      intro vf pf hR
      have e2 : (vf 2) = .pointer (some ⟨b1, 0 + 0, none⟩) ∧ (pf 2) = [] := hR 2 (by decide)
      refine Or.inl ⟨rfl, ?_⟩
      refine rq_less (sx 39 (congrArg some e2.1) (sub_nil _)) (List.sublist_append_right _ _) ?_
      exact rq_v (rv_field (k0 := 2) rfl (by kernel_rfl) rfl)
     ·
      intro vf pf hR
      have e3 : (vf 3) = .pointer (some ⟨b1, 0 + 0 + 2, none⟩) ∧ (pf 3) = [] := hR 3 (by decide)
      refine Or.inl ⟨rfl, ?_⟩
      refine rq_less (sx 40 (congrArg some e3.1) (sub_nil _)) (List.sublist_append_right _ _) ?_
      exact rq_v (rv_load rfl (by kernel_rfl) rfl (box_cell 3 rfl rfl))
     ·
      intro vf pf hR
      refine Or.inl ⟨rfl, ?_⟩
      refine rq_less (sx 5 rfl (sub_nil _)) (List.sublist_append_right _ _) ?_
      exact rq_v (rv_ev rfl)
     ·
      intro vf pf hR
      have e4 : (vf 4) = x.n.lv ∧ (pf 4) = [] := hR 4 (by decide)
      have e5 : (vf 5) = .int .i64 (i : Int) ∧ (pf 5) = [] := hR 5 (by decide)
      refine Or.inl ⟨rfl, ?_⟩
      refine rq_less (sx 41 (congrArg some e4.1) (sx 42 (congrArg some e5.1) (sub_nil _))) (List.sublist_append_right _ _) ?_
      exact rq_v (rv_index (s := 2) rfl Try.underlying35 (by kernel_rfl) rfl rfl (rd_old ((hr).n.lt.row)) (by omega) (by first | omega | (simp only [List.length_set]; omega)))
     ·
      intro vf pf hR
      have e6 : (vf 6) = elP x.n.lv (((i : Int)).toNat * 2) ∧ (pf 6) = [] := hR 6 (by decide)
      refine Or.inl ⟨rfl, ?_⟩
      refine rq_less (sx 43 (congrArg some e6.1) (sub_nil _)) (List.sublist_append_right _ _) ?_
      exact rq_v (rv_fieldEl (k0 := 0) rfl (by kernel_rfl) rfl (rd_old ((hr).n.lt.row)) (by first | omega | (simp only [List.length_set]; omega)))
     ·
      intro vf pf hR
      have e7 : (vf 7) = elP x.n.lv (((i : Int)).toNat * 2 + 0) ∧ (pf 7) = [] := hR 7 (by decide)
      refine Or.inl ⟨rfl, ?_⟩
      refine rq_less (sx 44 (congrArg some e7.1) (sub_nil _)) (List.sublist_append_right _ _) ?_
      exact rq_v (rv_loadEl (u := (x.n.ls.getD i lt0).iv) rfl (by kernel_rfl) rfl (rd_old ((hr).n.lt.row)) ((flat_at ltC 2 (fun _ => rfl) x.n.ls lt0 (show i < _ by first | omega | (simp only [List.length_set]; omega)) (by decide)).trans rfl))
     ·
      intro vf pf hR
      refine Or.inl ⟨rfl, ?_⟩
      refine rq_less (sx 6 rfl (sub_nil _)) (List.sublist_append_right _ _) ?_
      exact rq_v (rv_ev rfl)
     ·
      intro vf pf hR
      have e8 : (vf 8) = (x.n.ls.getD i lt0).iv ∧ (pf 8) = [] := hR 8 (by decide)
      have e9 : (vf 9) = .int .i64 (j : Int) ∧ (pf 9) = [] := hR 9 (by decide)
      refine Or.inl ⟨rfl, ?_⟩
      refine rq_less (sx 45 (congrArg some e8.1) (sx 46 (congrArg some e9.1) (sub_nil _))) (List.sublist_append_right _ _) ?_
      exact rq_v (rv_index (s := 1) rfl Try.underlying24 (by kernel_rfl) rfl rfl (rd_old ((hr).n.lt.at (d := lt0) (k := i) (by omega))) (by omega) (by first | omega | (simp only [List.length_set]; omega)))
     ·
      intro vf pf hR
      have e10 : (vf 10) = elP ((x.n.ls.getD i lt0).iv) (((j : Int)).toNat * 1) ∧ (pf 10) = [] := hR 10 (by decide)
      refine Or.inl ⟨rfl, ?_⟩
      refine rq_less (sx 47 (congrArg some e10.1) (sub_nil _)) (List.sublist_append_right _ _) ?_
      exact rq_v (rv_loadEl (u := .int .i64 (((x.n.ls.getD i lt0).xs).getD j 0)) rfl (by kernel_rfl) rfl (rd_old ((hr).n.lt.at (d := lt0) (k := i) (by omega))) (ints_at1 (show _ < ((x.n.ls.getD i lt0).xs).length by first | omega | (simp only [List.length_set]; omega))))
     ·
      intro vf pf hR
      refine Or.inl ⟨rfl, ?_⟩
      refine rq_less (sx 1 rfl (sub_nil _)) (List.sublist_append_right _ _) ?_
      exact rq_v (rv_field (k0 := 0) rfl (by kernel_rfl) rfl)
     ·
      intro vf pf hR
      have e12 : (vf 12) = .pointer (some ⟨b1, 0 + 0, none⟩) ∧ (pf 12) = [] := hR 12 (by decide)
      refine Or.inl ⟨rfl, ?_⟩
      refine rq_less (sx 49 (congrArg some e12.1) (sub_nil _)) (List.sublist_append_right _ _) ?_
      exact rq_v (rv_loadN (cs := [.int .i64 x.n.ins, x.n.sv, x.n.lv, x.n.ov]) rfl (by kernel_rfl) (by kernel_rfl) rfl rfl (box_part 3 rfl 0 rfl))
     ·
      intro vf pf hR
      have e13 : (vf 13) = .agg #[.int .i64 x.n.ins, x.n.sv, x.n.lv, x.n.ov] ∧ (pf 13) = [] := hR 13 (by decide)
      refine Or.inl ⟨rfl, ?_⟩
      refine rq_less (sx 50 (congrArg some e13.1) (sub_nil _)) (List.sublist_append_right _ _) ?_
      exact (rq_call (by kernel_rfl) rfl (fun w hm => ret_ans (l20First_ans x.n w (hr.n.below hm.bel) hok.n.sz)))
     ·
      intro vf pf hR
      refine Or.inl ⟨rfl, ?_⟩
      refine rq_less (sx 5 rfl (sub_nil _)) (List.sublist_append_right _ _) ?_
      exact rq_v (rv_ev rfl)
     ·
      intro vf pf hR
      have e14 : (vf 14) = .int .i64 x.n.fst ∧ (pf 14) = [] := hR 14 (by decide)
      have e15 : (vf 15) = .int .i64 (i : Int) ∧ (pf 15) = [] := hR 15 (by decide)
      refine Or.inl ⟨rfl, ?_⟩
      refine rq_less (sx 51 (congrArg some e14.1) (sx 52 (congrArg some e15.1) (sub_nil _))) (List.sublist_append_right _ _) ?_
      exact rq_v (rv_add rfl rfl rfl (by constructor <;> omega))
     ·
      intro vf pf hR
      refine Or.inl ⟨rfl, ?_⟩
      refine rq_less (sx 1 rfl (sub_nil _)) (List.sublist_append_right _ _) ?_
      exact rq_v (rv_field (k0 := 4) rfl (by kernel_rfl) rfl)
     ·
      intro vf pf hR
      have e17 : (vf 17) = .pointer (some ⟨b1, 0 + 4, none⟩) ∧ (pf 17) = [] := hR 17 (by decide)
      refine Or.inl ⟨rfl, ?_⟩
      refine rq_less (sx 54 (congrArg some e17.1) (sub_nil _)) (List.sublist_append_right _ _) ?_
      exact rq_v (rv_field (k0 := 0) rfl (by kernel_rfl) rfl)
     ·
      intro vf pf hR
      have e18 : (vf 18) = .pointer (some ⟨b1, 0 + 4 + 0, none⟩) ∧ (pf 18) = [] := hR 18 (by decide)
      refine Or.inl ⟨rfl, ?_⟩
      refine rq_less (sx 55 (congrArg some e18.1) (sub_nil _)) (List.sublist_append_right _ _) ?_
      exact rq_v (rv_load rfl (by kernel_rfl) rfl (box_cell 3 rfl rfl))
     ·
      intro vf pf hR
      refine Or.inl ⟨rfl, ?_⟩
      refine rq_less (sx 5 rfl (sub_nil _)) (List.sublist_append_right _ _) ?_
      exact rq_v (rv_ev rfl)
     ·
      intro vf pf hR
      have e19 : (vf 19) = x.pv ∧ (pf 19) = [] := hR 19 (by decide)
      have e20 : (vf 20) = .int .i64 (i : Int) ∧ (pf 20) = [] := hR 20 (by decide)
      refine Or.inl ⟨rfl, ?_⟩
      refine rq_less (sx 56 (congrArg some e19.1) (sx 57 (congrArg some e20.1) (sub_nil _))) (List.sublist_append_right _ _) ?_
      exact rq_v (rv_index (s := 1) rfl Try.underlying27 (by kernel_rfl) rfl rfl (rd_old ((hr).dl.row)) (by omega) (by first | omega | (simp only [List.length_set]; omega)))
     ·
      intro vf pf hR
      have e21 : (vf 21) = elP x.pv (((i : Int)).toNat * 1) ∧ (pf 21) = [] := hR 21 (by decide)
      refine Or.inl ⟨rfl, ?_⟩
      refine rq_less (sx 58 (congrArg some e21.1) (sub_nil _)) (List.sublist_append_right _ _) ?_
      exact rq_v (rv_loadEl (u := (x.dl.getD i ir0).v) rfl (by kernel_rfl) rfl (rd_old ((hr).dl.row)) (flat_one irC (fun r => r.v) (fun _ => rfl) x.dl ir0 (show i < _ by first | omega | (simp only [List.length_set]; omega))))
     ·
      intro vf pf hR
      refine Or.inl ⟨rfl, ?_⟩
      refine rq_less (sx 6 rfl (sub_nil _)) (List.sublist_append_right _ _) ?_
      exact rq_v (rv_ev rfl)
     ·
      intro vf pf hR
      have e22 : (vf 22) = (x.dl.getD i ir0).v ∧ (pf 22) = [] := hR 22 (by decide)
      have e23 : (vf 23) = .int .i64 (j : Int) ∧ (pf 23) = [] := hR 23 (by decide)
      refine Or.inl ⟨rfl, ?_⟩
      refine rq_less (sx 59 (congrArg some e22.1) (sx 60 (congrArg some e23.1) (sub_nil _))) (List.sublist_append_right _ _) ?_
      exact rq_v (rv_index (s := 1) rfl Try.underlying24 (by kernel_rfl) rfl rfl (rd_old ((hr).dl.at (d := ir0) (k := i) (by omega))) (by omega) (by first | omega | (simp only [List.length_set]; omega)))
     ·
      intro vf pf hR
      have e24 : (vf 24) = elP ((x.dl.getD i ir0).v) (((j : Int)).toNat * 1) ∧ (pf 24) = [] := hR 24 (by decide)
      refine Or.inl ⟨rfl, ?_⟩
      refine rq_less (sx 61 (congrArg some e24.1) (sub_nil _)) (List.sublist_append_right _ _) ?_
      exact rq_v (rv_loadEl (u := .int .i64 (((x.dl.getD i ir0).xs).getD j 0)) rfl (by kernel_rfl) rfl (rd_old ((hr).dl.at (d := ir0) (k := i) (by omega))) (ints_at1 (show _ < ((x.dl.getD i ir0).xs).length by first | omega | (simp only [List.length_set]; omega))))
     ·
      intro vf pf hR
      have e11 : (vf 11) = .int .i64 (((x.n.ls.getD i lt0).xs).getD j 0) ∧ (pf 11) = [] := hR 11 (by decide)
      have e16 : (vf 16) = .int .i64 (x.n.fst + (i : Int)) ∧ (pf 16) = [] := hR 16 (by decide)
      have e25 : (vf 25) = .int .i64 (((x.dl.getD i ir0).xs).getD j 0) ∧ (pf 25) = [] := hR 25 (by decide)
      refine Or.inl ⟨rfl, ?_⟩
      refine rq_less (sx 48 (congrArg some e11.1) (sx 53 (congrArg some e16.1) (sx 62 (congrArg some e25.1) (sub_nil _)))) (List.sublist_append_right _ _) ?_
      exact rq_v (rv_build (cs := #[.int .i64 (((x.n.ls.getD i lt0).xs).getD j 0), .int .i64 (x.n.fst + (i : Int)), .int .i64 (((x.dl.getD i ir0).xs).getD j 0)]) rfl rfl (by kernel_rfl))
     ·
      intro vf pf hR
      have e26 : (vf 26) = .agg #[.int .i64 (((x.n.ls.getD i lt0).xs).getD j 0), .int .i64 (x.n.fst + (i : Int)), .int .i64 (((x.dl.getD i ir0).xs).getD j 0)] ∧ (pf 26) = [] := hR 26 (by decide)
      refine Or.inl ⟨rfl, ?_⟩
      refine rq_less (sx 63 (congrArg some e26.1) (sub_nil _)) (List.sublist_append_right _ _) ?_
      exact rq_buildSlice (z := .agg #[.int .i64 0, .int .i64 0, .int .i64 0]) (s := 3) (cs := ([((x.n.ls.getD i lt0).xs).getD j 0, x.n.fst + (i : Int), ((x.dl.getD i ir0).xs).getD j 0].map (Value.int .i64))) rfl Try.underlying49 (by kernel_rfl) (by decide) rfl (by kernel_rfl) rfl
    ·
     intro vf pf hR
     have e1 : (vf 1) = u2 ∧ (pf 1) = [] := hR 1 (by decide)
     have e27 : IsRow_o 86 3 1 ([((x.n.ls.getD i lt0).xs).getD j 0, x.n.fst + (i : Int), ((x.dl.getD i ir0).xs).getD j 0].map (Value.int .i64)) (vf 27) (pf 27) := hR 27 (by decide)
     obtain ⟨g9, v27, p27⟩ := e27
     have q0 : (vf 0) = .pointer (some ⟨b4, 0 + 1, none⟩) ∧ (pf 0) = [] := hR 0 (by decide)
     have q1 : (vf 1) = u2 ∧ (pf 1) = [] := hR 1 (by decide)
     have q2 : (vf 2) = .pointer (some ⟨b1, 0 + 0, none⟩) ∧ (pf 2) = [] := hR 2 (by decide)
     have q3 : (vf 3) = .pointer (some ⟨b1, 0 + 0 + 2, none⟩) ∧ (pf 3) = [] := hR 3 (by decide)
     have q4 : (vf 4) = x.n.lv ∧ (pf 4) = [] := hR 4 (by decide)
     have q5 : (vf 5) = .int .i64 (i : Int) ∧ (pf 5) = [] := hR 5 (by decide)
     have q6 : (vf 6) = elP x.n.lv (((i : Int)).toNat * 2) ∧ (pf 6) = [] := hR 6 (by decide)
     have q7 : (vf 7) = elP x.n.lv (((i : Int)).toNat * 2 + 0) ∧ (pf 7) = [] := hR 7 (by decide)
     have q8 : (vf 8) = (x.n.ls.getD i lt0).iv ∧ (pf 8) = [] := hR 8 (by decide)
     have q9 : (vf 9) = .int .i64 (j : Int) ∧ (pf 9) = [] := hR 9 (by decide)
     have q10 : (vf 10) = elP ((x.n.ls.getD i lt0).iv) (((j : Int)).toNat * 1) ∧ (pf 10) = [] := hR 10 (by decide)
     have q11 : (vf 11) = .int .i64 (((x.n.ls.getD i lt0).xs).getD j 0) ∧ (pf 11) = [] := hR 11 (by decide)
     have q12 : (vf 12) = .pointer (some ⟨b1, 0 + 0, none⟩) ∧ (pf 12) = [] := hR 12 (by decide)
     have q13 : (vf 13) = .agg #[.int .i64 x.n.ins, x.n.sv, x.n.lv, x.n.ov] ∧ (pf 13) = [] := hR 13 (by decide)
     have q14 : (vf 14) = .int .i64 x.n.fst ∧ (pf 14) = [] := hR 14 (by decide)
     have q15 : (vf 15) = .int .i64 (i : Int) ∧ (pf 15) = [] := hR 15 (by decide)
     have q16 : (vf 16) = .int .i64 (x.n.fst + (i : Int)) ∧ (pf 16) = [] := hR 16 (by decide)
     have q17 : (vf 17) = .pointer (some ⟨b1, 0 + 4, none⟩) ∧ (pf 17) = [] := hR 17 (by decide)
     have q18 : (vf 18) = .pointer (some ⟨b1, 0 + 4 + 0, none⟩) ∧ (pf 18) = [] := hR 18 (by decide)
     have q19 : (vf 19) = x.pv ∧ (pf 19) = [] := hR 19 (by decide)
     have q20 : (vf 20) = .int .i64 (i : Int) ∧ (pf 20) = [] := hR 20 (by decide)
     have q21 : (vf 21) = elP x.pv (((i : Int)).toNat * 1) ∧ (pf 21) = [] := hR 21 (by decide)
     have q22 : (vf 22) = (x.dl.getD i ir0).v ∧ (pf 22) = [] := hR 22 (by decide)
     have q23 : (vf 23) = .int .i64 (j : Int) ∧ (pf 23) = [] := hR 23 (by decide)
     have q24 : (vf 24) = elP ((x.dl.getD i ir0).v) (((j : Int)).toNat * 1) ∧ (pf 24) = [] := hR 24 (by decide)
     have q25 : (vf 25) = .int .i64 (((x.dl.getD i ir0).xs).getD j 0) ∧ (pf 25) = [] := hR 25 (by decide)
     have q26 : (vf 26) = .agg #[.int .i64 (((x.n.ls.getD i lt0).xs).getD j 0), .int .i64 (x.n.fst + (i : Int)), .int .i64 (((x.dl.getD i ir0).xs).getD j 0)] ∧ (pf 26) = [] := hR 26 (by decide)
     refine hl_less (l' := [rowE 86 3 (.slice (some ⟨g9, 0, none⟩) 1 1) 1 ([((x.n.ls.getD i lt0).xs).getD j 0, x.n.fst + (i : Int), ((x.dl.getD i ir0).xs).getD j 0].map (Value.int .i64)), rowE 86 3 u2 ys.length (ys.flatMap arcC), boxE b4 #[.int .i64 (x.n.cnt + (nS x 0 : Int)), u2] 51, boxE b2 #[.int .i64 0, .slice none 0 0] 51, boxE b1 #[.int .i64 x.n.ins, x.n.sv, x.n.lv, x.n.ov, x.pv, x.qv, x.kv, x.av, x.bv, .int .i64 x.oi, .int .i64 x.ni] 40]) (sx 0 rfl (sx 1 rfl (sx 2 rfl (sx 3 rfl (sx 4 rfl (sx 5 rfl (sx 6 rfl (sx 11 rfl (sx 22 rfl (sx 34 rfl (sx 38 (congrArg some e1.1) (sx 64 (congrArg some v27) (sub_nil _))))))))))))) (by first | (simp only [p27, v27, q0.2, q1.2, q2.2, q3.2, q4.2, q5.2, q6.2, q7.2, q8.2, q9.2, q10.2, q11.2, q12.2, q13.2, q14.2, q15.2, q16.2, q17.2, q18.2, q19.2, q20.2, q21.2, q22.2, q23.2, q24.2, q25.2, q26.2, List.flatMap_cons, List.flatMap_nil, List.append_nil, List.nil_append, List.cons_append]; exact List.Sublist.refl _) | simp [p27, v27, q0.2, q1.2, q2.2, q3.2, q4.2, q5.2, q6.2, q7.2, q8.2, q9.2, q10.2, q11.2, q12.2, q13.2, q14.2, q15.2, q16.2, q17.2, q18.2, q19.2, q20.2, q21.2, q22.2, q23.2, q24.2, q25.2, q26.2]) ?_
     simp only [List.drop_succ_cons, List.drop_zero]
     refine hl_append (i := 1) (z := .agg #[.int .i64 0, .int .i64 0, .int .i64 0]) (bytes := 24) (n' := (ys ++ [Arc.mk ((x.n.ls.getD i lt0).xs.getD j 0) (x.n.fst + (i : Int)) ((x.dl.getD i ir0).xs.getD j 0)]).length) (xs' := ((ys ++ [Arc.mk ((x.n.ls.getD i lt0).xs.getD j 0) (x.n.fst + (i : Int)) ((x.dl.getD i ir0).xs.getD j 0)]).flatMap arcC)) (L := fun v10 => [rowE 86 3 (.slice (some ⟨g9, 0, none⟩) 1 1) 1 ([((x.n.ls.getD i lt0).xs).getD j 0, x.n.fst + (i : Int), ((x.dl.getD i ir0).xs).getD j 0].map (Value.int .i64)), rowE 86 3 v10 ((ys ++ [Arc.mk ((x.n.ls.getD i lt0).xs.getD j 0) (x.n.fst + (i : Int)) ((x.dl.getD i ir0).xs.getD j 0)]).length) ((ys ++ [Arc.mk ((x.n.ls.getD i lt0).xs.getD j 0) (x.n.fst + (i : Int)) ((x.dl.getD i ir0).xs.getD j 0)]).flatMap arcC), boxE b4 #[.int .i64 (x.n.cnt + (nS x 0 : Int)), u2] 51, boxE b2 #[.int .i64 0, .slice none 0 0] 51, boxE b1 #[.int .i64 x.n.ins, x.n.sv, x.n.lv, x.n.ov, x.pv, x.qv, x.kv, x.av, x.bv, .int .i64 x.oi, .int .i64 x.ni] 40]) rfl rfl rfl rfl Try.underlying49 (by kernel_rfl) (by kernel_rfl) rfl rfl rfl (rd_row 0 rfl) (ints_one _) (by first | omega | (simp only [List.length_append, List.length_cons, List.length_nil]; omega)) (len_app ys [Arc.mk ((x.n.ls.getD i lt0).xs.getD j 0) (x.n.fst + (i : Int)) ((x.dl.getD i ir0).xs.getD j 0)]) (flat_app1 arcC ys (Arc.mk ((x.n.ls.getD i lt0).xs.getD j 0) (x.n.fst + (i : Int)) ((x.dl.getD i ir0).xs.getD j 0)) _ rfl) (fun _ => rfl) ?_
     intro v10
     refine hl_v rfl rfl rfl (rv_field (k0 := 1) rfl (by kernel_rfl) rfl) ?_
     refine hl_one (i := 1) rfl (fun ho11 => ?_)
     refine hl_storeBox (i := 2) (l' := [rowE 86 3 (.slice (some ⟨g9, 0, none⟩) 1 1) 1 ([((x.n.ls.getD i lt0).xs).getD j 0, x.n.fst + (i : Int), ((x.dl.getD i ir0).xs).getD j 0].map (Value.int .i64)), rowE 86 3 v10 ((ys ++ [Arc.mk ((x.n.ls.getD i lt0).xs.getD j 0) (x.n.fst + (i : Int)) ((x.dl.getD i ir0).xs.getD j 0)]).length) ((ys ++ [Arc.mk ((x.n.ls.getD i lt0).xs.getD j 0) (x.n.fst + (i : Int)) ((x.dl.getD i ir0).xs.getD j 0)]).flatMap arcC), boxE b4 #[.int .i64 (x.n.cnt + (nS x 0 : Int)), v10] 51, boxE b2 #[.int .i64 0, .slice none 0 0] 51, boxE b1 #[.int .i64 x.n.ins, x.n.sv, x.n.lv, x.n.ov, x.pv, x.qv, x.kv, x.av, x.bv, .int .i64 x.oi, .int .i64 x.ni] 40]) rfl rfl rfl (by kernel_rfl) rfl rfl ho11 rfl rfl rfl ?_
     refine hl_less (sx 0 rfl (sx 1 rfl (sx 2 rfl (sx 3 rfl (sx 4 rfl (sx 5 rfl (sx 6 rfl (sx 11 rfl (sx 22 rfl (sx 34 rfl (sub_nil _))))))))))) (.refl _) ?_
     refine hl_nil ?_
     refine hq_block_normal ?_
     refine hq_then ?_
     refine hc_region ?_
     refine hl_v rfl rfl rfl (rv_ev rfl) ?_
     refine hl_v rfl rfl rfl (rv_add rfl rfl rfl (by constructor <;> omega)) ?_
     have hx4 : (x.n.ls.getD i lt0).xs.length ≤ 4 := (hok.n.lt i (by omega)).1.1
     have hdi : (x.dl.getD i ir0).xs.length = (x.n.ls.getD i lt0).xs.length := by have := (hok.dl i (by omega)).1; omega
     refine hl_v rfl rfl rfl (rv_ev rfl) ?_
     refine hl_less (sx 0 rfl (sx 1 rfl (sx 2 rfl (sx 3 rfl (sx 4 rfl (sx 5 rfl (sx 6 rfl (sx 11 rfl (sx 22 rfl (sx 34 rfl (sub_nil _))))))))))) (.refl _) ?_
     refine hl_nil ?_
     exact hq_round3 (j + 1) v10 (ys ++ [Arc.mk ((x.n.ls.getD i lt0).xs.getD j 0) (x.n.fst + (i : Int)) ((x.dl.getD i ir0).xs.getD j 0)]) ⟨by omega, by rw [arcI_succ, hy]⟩ (by omega) (sx 0 rfl (sx 1 rfl (sx 2 rfl (sx 3 rfl (sx 4 rfl (sx 5 rfl (sx 6 rfl (sx 11 rfl (sx 22 rfl (sub_nil _)))))))))) ((.cons _ (.cons_cons _ (.cons_cons _ (.cons_cons _ (.cons_cons _ .slnil))))))
   ·
    refine hl_less (sx 0 rfl (sx 1 rfl (sx 2 rfl (sx 3 rfl (sx 4 rfl (sx 5 rfl (sx 6 rfl (sx 11 rfl (sx 22 rfl (sx 34 rfl (sub_nil _))))))))))) (.refl _) ?_
    refine hl_nil ?_
    refine hq_then ?_
    refine hc_false rfl ?_
    refine hc_exit ?_
    refine hq_then_exit ?_
    refine hq_then_exit ?_
    refine hq_block_exit ?_
    refine hq_block_normal ?_
    refine hq_then ?_
    refine hc_region ?_
    refine hl_v rfl rfl rfl (rv_ev rfl) ?_
    refine hl_v rfl rfl rfl (rv_add rfl rfl rfl (by constructor <;> omega)) ?_
    refine hl_v rfl rfl rfl (rv_ev rfl) ?_
    refine hl_less (sx 0 rfl (sx 1 rfl (sx 2 rfl (sx 3 rfl (sx 4 rfl (sx 5 rfl (sx 6 rfl (sx 11 rfl (sx 22 rfl (sx 34 rfl (sub_nil _))))))))))) (.refl _) ?_
    refine hl_nil ?_
    exact hq_round3 (i + 1) u2 ys ⟨by omega, by rw [hy, show j = (x.n.ls.getD i lt0).xs.length by omega]; rfl⟩ (by omega) (sx 0 rfl (sx 1 rfl (sx 2 rfl (sx 3 rfl (sx 4 rfl (sx 5 rfl (sx 11 rfl (sub_nil _)))))))) ((.cons_cons _ (.cons_cons _ (.cons_cons _ (.cons_cons _ .slnil)))))
  ·
   refine hl_less (sx 0 rfl (sx 1 rfl (sx 2 rfl (sx 3 rfl (sx 4 rfl (sx 5 rfl (sx 11 rfl (sx 22 rfl (sub_nil _))))))))) (.refl _) ?_
   refine hl_nil ?_
   refine hq_then ?_
   refine hc_false rfl ?_
   refine hc_exit ?_
   refine hq_then_exit ?_
   refine hq_then_exit ?_
   refine hq_block_exit ?_
   refine hq_then ?_
   refine hc_seq ?_
   refine hc_seq ?_
   refine hc_region ?_
   refine hl_v rfl rfl rfl (rv_ev rfl) ?_
   refine hl_less (sx 0 rfl (sx 1 rfl (sx 2 rfl (sx 3 rfl (sx 4 rfl (sx 5 rfl (sx 7 rfl (sx 11 rfl (sx 22 rfl (sub_nil _)))))))))) (.refl _) ?_
   refine hl_nil ?_
   refine hq_then ?_
   refine hc_block ?_
   refine hc_loop3 (α := Nat) (β := Value) (γ := List Arc) (fun k u3 vs => [rowE 86 3 u3 vs.length (vs.flatMap arcC), boxE b4 #[.int .i64 (x.n.cnt + (nS x k : Int)), u3] 51, boxE b2 #[.int .i64 0, .slice none 0 0] 51, boxE b1 #[.int .i64 x.n.ins, x.n.sv, x.n.lv, x.n.ov, x.pv, x.qv, x.kv, x.av, x.bv, .int .i64 x.oi, .int .i64 x.ni] 40]) (fun k u3 vs => [(0, .agg #[.int .i64 x.n.ins, x.n.sv, x.n.lv, x.n.ov, x.pv, x.qv, x.kv, x.av, x.bv, .int .i64 x.oi, .int .i64 x.ni]), (1, .pointer (some ⟨b1, 0, none⟩)), (2, .pointer (some ⟨b2, 0, none⟩)), (3, .bool false), (4, .pointer (some ⟨b4, 0, none⟩)), (7, .int .i64 (k : Int)), (11, .bool false), (22, .bool false)]) (fun k u3 vs => k ≤ x.n.ss.length ∧ vs = arcS x k) (fun k u3 vs => x.n.ss.length - k) 0 _ zs ⟨Nat.zero_le _, by rw [hz, show i = x.n.ls.length by omega]; rfl⟩ (sx 0 rfl (sx 1 rfl (sx 2 rfl (sx 3 rfl (sx 4 rfl (sx 7 rfl (sx 11 rfl (sx 22 rfl (sub_nil _))))))))) ((.cons_cons _ (.cons_cons _ (.cons_cons _ (.cons_cons _ .slnil))))) ?_
   intro k u3 vs hi12
   obtain ⟨hk, hv⟩ := hi12
   have hvl : vs.length ≤ 1600 + nS x k := by rw [hv, arcS_len]; have := arcL_le hok.n x.n.ls.length (Nat.le_refl _); omega
   have hnk := nS_le hok.n k (by omega)
   refine hc_seq ?_
   refine hc_seq ?_
   refine hc_region ?_
   refine hl_v rfl rfl rfl (rv_ev rfl) ?_
   refine hl_v rfl rfl rfl (rv_field (k0 := 0) rfl (by kernel_rfl) rfl) ?_
   refine hl_v rfl rfl rfl (rv_field (k0 := 1) rfl (by kernel_rfl) rfl) ?_
   refine hl_v rfl rfl rfl (rv_load rfl (by kernel_rfl) rfl (box_cell 3 rfl rfl)) ?_
   refine hl_v rfl rfl rfl (rv_len rfl Try.underlying34 rfl (rd_old ((hr).n.sq.row))) ?_
   refine hl_lss rfl rfl rfl rfl rfl rfl (fun h13 => ?_) (fun h13 => ?_)
   ·
    refine hl_less (sx 0 rfl (sx 1 rfl (sx 2 rfl (sx 3 rfl (sx 4 rfl (sx 7 rfl (sx 11 rfl (sx 22 rfl (sx 72 rfl (sub_nil _)))))))))) (.refl _) ?_
    refine hl_nil ?_
    refine hq_then ?_
    refine hc_true rfl ?_
    refine hc_skip ?_
    refine hq_then ?_
    refine hc_seq ?_
    refine hc_block ?_
    refine hc_seq ?_
    refine hc_region ?_
    have hx5 := (hok.n.sq k (by omega)).1.len
    have hdk : (x.ds.getD k ir0).xs.length = (x.n.ss.getD k sq0).xs.length := by have := (hok.ds k (by omega)).1; omega
    refine hl_v rfl rfl rfl (rv_ev rfl) ?_
    refine hl_less (sx 0 rfl (sx 1 rfl (sx 2 rfl (sx 3 rfl (sx 4 rfl (sx 7 rfl (sx 8 rfl (sx 11 rfl (sx 22 rfl (sx 72 rfl (sub_nil _))))))))))) (.refl _) ?_
    refine hl_nil ?_
    refine hq_then ?_
    refine hc_block ?_
    refine hc_loop3 (α := Nat) (β := Value) (γ := List Arc) (fun q u4 ws => [rowE 86 3 u4 ws.length (ws.flatMap arcC), boxE b4 #[.int .i64 (x.n.cnt + ((nS x k + q : Nat) : Int)), u4] 51, boxE b2 #[.int .i64 0, .slice none 0 0] 51, boxE b1 #[.int .i64 x.n.ins, x.n.sv, x.n.lv, x.n.ov, x.pv, x.qv, x.kv, x.av, x.bv, .int .i64 x.oi, .int .i64 x.ni] 40]) (fun q u4 ws => [(0, .agg #[.int .i64 x.n.ins, x.n.sv, x.n.lv, x.n.ov, x.pv, x.qv, x.kv, x.av, x.bv, .int .i64 x.oi, .int .i64 x.ni]), (1, .pointer (some ⟨b1, 0, none⟩)), (2, .pointer (some ⟨b2, 0, none⟩)), (3, .bool false), (4, .pointer (some ⟨b4, 0, none⟩)), (7, .int .i64 (k : Int)), (8, .int .i64 (q : Int)), (11, .bool false), (22, .bool false), (72, .bool true)]) (fun q u4 ws => q ≤ (x.n.ss.getD k sq0).xs.length ∧ ws = arcT x k q) (fun q u4 ws => (x.n.ss.getD k sq0).xs.length - q) 0 _ vs ⟨Nat.zero_le _, by rw [hv, arcT_zero]⟩ (sx 0 rfl (sx 1 rfl (sx 2 rfl (sx 3 rfl (sx 4 rfl (sx 7 rfl (sx 8 rfl (sx 11 rfl (sx 22 rfl (sx 72 rfl (sub_nil _))))))))))) ((.cons_cons _ (.cons_cons _ (.cons_cons _ (.cons_cons _ .slnil))))) ?_
    intro q u4 ws hi14
    obtain ⟨hq, hw⟩ := hi14
    have hwl : ws.length ≤ 1600 + nS x k + q := by rw [hw, arcT_len, ← hv]; omega
    refine hc_seq ?_
    refine hc_seq ?_
    refine hc_region ?_
    refine hl_v rfl rfl rfl (rv_ev rfl) ?_
    refine hl_v rfl rfl rfl (rv_field (k0 := 0) rfl (by kernel_rfl) rfl) ?_
    refine hl_v rfl rfl rfl (rv_field (k0 := 1) rfl (by kernel_rfl) rfl) ?_
    refine hl_v rfl rfl rfl (rv_load rfl (by kernel_rfl) rfl (box_cell 3 rfl rfl)) ?_
    refine hl_v rfl rfl rfl (rv_ev rfl) ?_
    refine hl_v rfl rfl rfl (rv_index (s := 3) rfl Try.underlying34 (by kernel_rfl) rfl rfl (rd_old ((hr).n.sq.row)) (by omega) (by first | omega | (simp only [List.length_set]; omega))) ?_
    refine hl_v rfl rfl rfl (rv_fieldEl (k0 := 2) rfl (by kernel_rfl) rfl (rd_old ((hr).n.sq.row)) (by first | omega | (simp only [List.length_set]; omega))) ?_
    refine hl_v rfl rfl rfl (rv_loadEl (u := (x.n.ss.getD k sq0).iv) rfl (by kernel_rfl) rfl (rd_old ((hr).n.sq.row)) ((flat_at sqC 3 (fun _ => rfl) x.n.ss sq0 (show k < _ by first | omega | (simp only [List.length_set]; omega)) (by decide)).trans rfl)) ?_
    refine hl_v rfl rfl rfl (rv_len rfl Try.underlying24 rfl (rd_old ((hr).n.sq.at (d := sq0) (k := k) (by omega)))) ?_
    refine hl_lss rfl rfl rfl rfl rfl rfl (fun h15 => ?_) (fun h15 => ?_)
    ·
     refine hl_less (sx 0 rfl (sx 1 rfl (sx 2 rfl (sx 3 rfl (sx 4 rfl (sx 7 rfl (sx 8 rfl (sx 11 rfl (sx 22 rfl (sx 72 rfl (sx 84 rfl (sub_nil _)))))))))))) (.refl _) ?_
     refine hl_nil ?_
     refine hq_then ?_
     refine hc_true rfl ?_
     refine hc_skip ?_
     refine hq_then ?_
     refine hc_seq ?_
     refine hc_block ?_
     refine hc_seq ?_
     refine hc_draw (by kernel_rfl) 25 [0, 1, 2, 3, 4, 5, 6, 7, 8, 9, 10, 11, 12, 13, 14, 15, 16, 17, 18, 19, 20, 21, 22, 23, 24] (List.take 25 _) (List.drop 25 _) [[], [0], [], [2], [3], [], [4, 5], [6], [7], [], [8, 9], [10], [], [12], [], [14], [15], [], [16, 17], [18], [], [19, 20], [21], [11, 13, 22], [23]] [87, 88, 89, 90, 91, 92, 93, 94, 95, 96, 97, 98, 99, 100, 101, 102, 103, 104, 105, 106, 107, 108, 109, 110, 111] (fun i_ vs_ v_ p_ => match i_ with | 0 => v_ = .pointer (some ⟨b4, 0 + 1, none⟩) ∧ p_ = [] | 1 => v_ = u4 ∧ p_ = [] | 2 => v_ = .pointer (some ⟨b1, 0 + 0, none⟩) ∧ p_ = [] | 3 => v_ = .pointer (some ⟨b1, 0 + 0 + 1, none⟩) ∧ p_ = [] | 4 => v_ = x.n.sv ∧ p_ = [] | 5 => v_ = .int .i64 (k : Int) ∧ p_ = [] | 6 => v_ = elP x.n.sv (((k : Int)).toNat * 3) ∧ p_ = [] | 7 => v_ = elP x.n.sv (((k : Int)).toNat * 3 + 2) ∧ p_ = [] | 8 => v_ = (x.n.ss.getD k sq0).iv ∧ p_ = [] | 9 => v_ = .int .i64 (q : Int) ∧ p_ = [] | 10 => v_ = elP ((x.n.ss.getD k sq0).iv) (((q : Int)).toNat * 1) ∧ p_ = [] | 11 => v_ = .int .i64 (((x.n.ss.getD k sq0).xs).getD q 0) ∧ p_ = [] | 12 => v_ = .pointer (some ⟨b4, 0 + 0, none⟩) ∧ p_ = [] | 13 => v_ = .int .i64 (x.n.cnt + ((nS x k + q : Nat) : Int)) ∧ p_ = [] | 14 => v_ = .pointer (some ⟨b1, 0 + 4, none⟩) ∧ p_ = [] | 15 => v_ = .pointer (some ⟨b1, 0 + 4 + 1, none⟩) ∧ p_ = [] | 16 => v_ = x.qv ∧ p_ = [] | 17 => v_ = .int .i64 (k : Int) ∧ p_ = [] | 18 => v_ = elP x.qv (((k : Int)).toNat * 1) ∧ p_ = [] | 19 => v_ = (x.ds.getD k ir0).v ∧ p_ = [] | 20 => v_ = .int .i64 (q : Int) ∧ p_ = [] | 21 => v_ = elP ((x.ds.getD k ir0).v) (((q : Int)).toNat * 1) ∧ p_ = [] | 22 => v_ = .int .i64 (((x.ds.getD k ir0).xs).getD q 0) ∧ p_ = [] | 23 => v_ = .agg #[.int .i64 (((x.n.ss.getD k sq0).xs).getD q 0), .int .i64 (x.n.cnt + ((nS x k + q : Nat) : Int)), .int .i64 (((x.ds.getD k ir0).xs).getD q 0)] ∧ p_ = [] | 24 => IsRow_o 86 3 1 ([((x.n.ss.getD k sq0).xs).getD q 0, x.n.cnt + ((nS x k + q : Nat) : Int), ((x.ds.getD k ir0).xs).getD q 0].map (Value.int .i64)) v_ p_ | _ => True) (List.take_append_drop 25 _).symm (by kernel_rfl) (by kernel_rfl) rfl rfl ?_ ?_
     ·
      refine ⟨?_, ?_, ?_, ?_, ?_, ?_, ?_, ?_, ?_, ?_, ?_, ?_, ?_, ?_, ?_, ?_, ?_, ?_, ?_, ?_, ?_, ?_, ?_, ?_, ?_, trivial⟩
      ·
       intro vf pf hR
       refine Or.inl ⟨rfl, ?_⟩
       refine rq_less (sx 4 rfl (sub_nil _)) (List.sublist_append_right _ _) ?_
       exact rq_v (rv_field (k0 := 1) rfl (by kernel_rfl) rfl)
      ·
       intro vf pf hR
       have e0 : (vf 0) = .pointer (some ⟨b4, 0 + 1, none⟩) ∧ (pf 0) = [] := hR 0 (by decide)
       refine Or.inl ⟨rfl, ?_⟩
       refine rq_less (sx 87 (congrArg some e0.1) (sub_nil _)) (List.sublist_append_right _ _) ?_
       exact rq_v (rv_load rfl (by kernel_rfl) rfl (box_cell 1 rfl rfl))
      ·
       intro vf pf hR
       refine Or.inl ⟨rfl, ?_⟩
       refine rq_less (sx 1 rfl (sub_nil _)) (List.sublist_append_right _ _) ?_
       exact rq_v (rv_field (k0 := 0) rfl (by kernel_rfl) rfl)
      ·
       intro vf pf hR
       have e2 : (vf 2) = .pointer (some ⟨b1, 0 + 0, none⟩) ∧ (pf 2) = [] := hR 2 (by decide)
       refine Or.inl ⟨rfl, ?_⟩
       refine rq_less (sx 89 (congrArg some e2.1) (sub_nil _)) (List.sublist_append_right _ _) ?_
       exact rq_v (rv_field (k0 := 1) rfl (by kernel_rfl) rfl)
      ·
       intro vf pf hR
       have e3 : (vf 3) = .pointer (some ⟨b1, 0 + 0 + 1, none⟩) ∧ (pf 3) = [] := hR 3 (by decide)
       refine Or.inl ⟨rfl, ?_⟩
       refine rq_less (sx 90 (congrArg some e3.1) (sub_nil _)) (List.sublist_append_right _ _) ?_
       exact rq_v (rv_load rfl (by kernel_rfl) rfl (box_cell 3 rfl rfl))
      ·
       intro vf pf hR
       refine Or.inl ⟨rfl, ?_⟩
       refine rq_less (sx 7 rfl (sub_nil _)) (List.sublist_append_right _ _) ?_
       exact rq_v (rv_ev rfl)
      ·
       intro vf pf hR
       have e4 : (vf 4) = x.n.sv ∧ (pf 4) = [] := hR 4 (by decide)
       have e5 : (vf 5) = .int .i64 (k : Int) ∧ (pf 5) = [] := hR 5 (by decide)
       refine Or.inl ⟨rfl, ?_⟩
       refine rq_less (sx 91 (congrArg some e4.1) (sx 92 (congrArg some e5.1) (sub_nil _))) (List.sublist_append_right _ _) ?_
       exact rq_v (rv_index (s := 3) rfl Try.underlying34 (by kernel_rfl) rfl rfl (rd_old ((hr).n.sq.row)) (by omega) (by first | omega | (simp only [List.length_set]; omega)))
      ·
       intro vf pf hR
       have e6 : (vf 6) = elP x.n.sv (((k : Int)).toNat * 3) ∧ (pf 6) = [] := hR 6 (by decide)
       refine Or.inl ⟨rfl, ?_⟩
       refine rq_less (sx 93 (congrArg some e6.1) (sub_nil _)) (List.sublist_append_right _ _) ?_
       exact rq_v (rv_fieldEl (k0 := 2) rfl (by kernel_rfl) rfl (rd_old ((hr).n.sq.row)) (by first | omega | (simp only [List.length_set]; omega)))
      ·
       intro vf pf hR
       have e7 : (vf 7) = elP x.n.sv (((k : Int)).toNat * 3 + 2) ∧ (pf 7) = [] := hR 7 (by decide)
       refine Or.inl ⟨rfl, ?_⟩
       refine rq_less (sx 94 (congrArg some e7.1) (sub_nil _)) (List.sublist_append_right _ _) ?_
       exact rq_v (rv_loadEl (u := (x.n.ss.getD k sq0).iv) rfl (by kernel_rfl) rfl (rd_old ((hr).n.sq.row)) ((flat_at sqC 3 (fun _ => rfl) x.n.ss sq0 (show k < _ by first | omega | (simp only [List.length_set]; omega)) (by decide)).trans rfl))
      ·
       intro vf pf hR
       refine Or.inl ⟨rfl, ?_⟩
       refine rq_less (sx 8 rfl (sub_nil _)) (List.sublist_append_right _ _) ?_
       exact rq_v (rv_ev rfl)
      ·
       intro vf pf hR
       have e8 : (vf 8) = (x.n.ss.getD k sq0).iv ∧ (pf 8) = [] := hR 8 (by decide)
       have e9 : (vf 9) = .int .i64 (q : Int) ∧ (pf 9) = [] := hR 9 (by decide)
       refine Or.inl ⟨rfl, ?_⟩
       refine rq_less (sx 95 (congrArg some e8.1) (sx 96 (congrArg some e9.1) (sub_nil _))) (List.sublist_append_right _ _) ?_
       exact rq_v (rv_index (s := 1) rfl Try.underlying24 (by kernel_rfl) rfl rfl (rd_old ((hr).n.sq.at (d := sq0) (k := k) (by omega))) (by omega) (by first | omega | (simp only [List.length_set]; omega)))
      ·
       intro vf pf hR
       have e10 : (vf 10) = elP ((x.n.ss.getD k sq0).iv) (((q : Int)).toNat * 1) ∧ (pf 10) = [] := hR 10 (by decide)
       refine Or.inl ⟨rfl, ?_⟩
       refine rq_less (sx 97 (congrArg some e10.1) (sub_nil _)) (List.sublist_append_right _ _) ?_
       exact rq_v (rv_loadEl (u := .int .i64 (((x.n.ss.getD k sq0).xs).getD q 0)) rfl (by kernel_rfl) rfl (rd_old ((hr).n.sq.at (d := sq0) (k := k) (by omega))) (ints_at1 (show _ < ((x.n.ss.getD k sq0).xs).length by first | omega | (simp only [List.length_set]; omega))))
      ·
       intro vf pf hR
       refine Or.inl ⟨rfl, ?_⟩
       refine rq_less (sx 4 rfl (sub_nil _)) (List.sublist_append_right _ _) ?_
       exact rq_v (rv_field (k0 := 0) rfl (by kernel_rfl) rfl)
      ·
       intro vf pf hR
       have e12 : (vf 12) = .pointer (some ⟨b4, 0 + 0, none⟩) ∧ (pf 12) = [] := hR 12 (by decide)
       refine Or.inl ⟨rfl, ?_⟩
       refine rq_less (sx 99 (congrArg some e12.1) (sub_nil _)) (List.sublist_append_right _ _) ?_
       exact rq_v (rv_load rfl (by kernel_rfl) rfl (box_cell 1 rfl rfl))
      ·
       intro vf pf hR
       refine Or.inl ⟨rfl, ?_⟩
       refine rq_less (sx 1 rfl (sub_nil _)) (List.sublist_append_right _ _) ?_
       exact rq_v (rv_field (k0 := 4) rfl (by kernel_rfl) rfl)
      ·
       intro vf pf hR
       have e14 : (vf 14) = .pointer (some ⟨b1, 0 + 4, none⟩) ∧ (pf 14) = [] := hR 14 (by decide)
       refine Or.inl ⟨rfl, ?_⟩
       refine rq_less (sx 101 (congrArg some e14.1) (sub_nil _)) (List.sublist_append_right _ _) ?_
       exact rq_v (rv_field (k0 := 1) rfl (by kernel_rfl) rfl)
      ·
       intro vf pf hR
       have e15 : (vf 15) = .pointer (some ⟨b1, 0 + 4 + 1, none⟩) ∧ (pf 15) = [] := hR 15 (by decide)
       refine Or.inl ⟨rfl, ?_⟩
       refine rq_less (sx 102 (congrArg some e15.1) (sub_nil _)) (List.sublist_append_right _ _) ?_
       exact rq_v (rv_load rfl (by kernel_rfl) rfl (box_cell 3 rfl rfl))
      ·
       intro vf pf hR
       refine Or.inl ⟨rfl, ?_⟩
       refine rq_less (sx 7 rfl (sub_nil _)) (List.sublist_append_right _ _) ?_
       exact rq_v (rv_ev rfl)
      ·
       intro vf pf hR
       have e16 : (vf 16) = x.qv ∧ (pf 16) = [] := hR 16 (by decide)
       have e17 : (vf 17) = .int .i64 (k : Int) ∧ (pf 17) = [] := hR 17 (by decide)
       refine Or.inl ⟨rfl, ?_⟩
       refine rq_less (sx 103 (congrArg some e16.1) (sx 104 (congrArg some e17.1) (sub_nil _))) (List.sublist_append_right _ _) ?_
       exact rq_v (rv_index (s := 1) rfl Try.underlying27 (by kernel_rfl) rfl rfl (rd_old ((hr).ds.row)) (by omega) (by first | omega | (simp only [List.length_set]; omega)))
      ·
       intro vf pf hR
       have e18 : (vf 18) = elP x.qv (((k : Int)).toNat * 1) ∧ (pf 18) = [] := hR 18 (by decide)
       refine Or.inl ⟨rfl, ?_⟩
       refine rq_less (sx 105 (congrArg some e18.1) (sub_nil _)) (List.sublist_append_right _ _) ?_
       exact rq_v (rv_loadEl (u := (x.ds.getD k ir0).v) rfl (by kernel_rfl) rfl (rd_old ((hr).ds.row)) (flat_one irC (fun r => r.v) (fun _ => rfl) x.ds ir0 (show k < _ by first | omega | (simp only [List.length_set]; omega))))
      ·
       intro vf pf hR
       refine Or.inl ⟨rfl, ?_⟩
       refine rq_less (sx 8 rfl (sub_nil _)) (List.sublist_append_right _ _) ?_
       exact rq_v (rv_ev rfl)
      ·
       intro vf pf hR
       have e19 : (vf 19) = (x.ds.getD k ir0).v ∧ (pf 19) = [] := hR 19 (by decide)
       have e20 : (vf 20) = .int .i64 (q : Int) ∧ (pf 20) = [] := hR 20 (by decide)
       refine Or.inl ⟨rfl, ?_⟩
       refine rq_less (sx 106 (congrArg some e19.1) (sx 107 (congrArg some e20.1) (sub_nil _))) (List.sublist_append_right _ _) ?_
       exact rq_v (rv_index (s := 1) rfl Try.underlying24 (by kernel_rfl) rfl rfl (rd_old ((hr).ds.at (d := ir0) (k := k) (by omega))) (by omega) (by first | omega | (simp only [List.length_set]; omega)))
      ·
       intro vf pf hR
       have e21 : (vf 21) = elP ((x.ds.getD k ir0).v) (((q : Int)).toNat * 1) ∧ (pf 21) = [] := hR 21 (by decide)
       refine Or.inl ⟨rfl, ?_⟩
       refine rq_less (sx 108 (congrArg some e21.1) (sub_nil _)) (List.sublist_append_right _ _) ?_
       exact rq_v (rv_loadEl (u := .int .i64 (((x.ds.getD k ir0).xs).getD q 0)) rfl (by kernel_rfl) rfl (rd_old ((hr).ds.at (d := ir0) (k := k) (by omega))) (ints_at1 (show _ < ((x.ds.getD k ir0).xs).length by first | omega | (simp only [List.length_set]; omega))))
      ·
       intro vf pf hR
       have e11 : (vf 11) = .int .i64 (((x.n.ss.getD k sq0).xs).getD q 0) ∧ (pf 11) = [] := hR 11 (by decide)
       have e13 : (vf 13) = .int .i64 (x.n.cnt + ((nS x k + q : Nat) : Int)) ∧ (pf 13) = [] := hR 13 (by decide)
       have e22 : (vf 22) = .int .i64 (((x.ds.getD k ir0).xs).getD q 0) ∧ (pf 22) = [] := hR 22 (by decide)
       refine Or.inl ⟨rfl, ?_⟩
       refine rq_less (sx 98 (congrArg some e11.1) (sx 100 (congrArg some e13.1) (sx 109 (congrArg some e22.1) (sub_nil _)))) (List.sublist_append_right _ _) ?_
       exact rq_v (rv_build (cs := #[.int .i64 (((x.n.ss.getD k sq0).xs).getD q 0), .int .i64 (x.n.cnt + ((nS x k + q : Nat) : Int)), .int .i64 (((x.ds.getD k ir0).xs).getD q 0)]) rfl rfl (by kernel_rfl))
      ·
       intro vf pf hR
       have e23 : (vf 23) = .agg #[.int .i64 (((x.n.ss.getD k sq0).xs).getD q 0), .int .i64 (x.n.cnt + ((nS x k + q : Nat) : Int)), .int .i64 (((x.ds.getD k ir0).xs).getD q 0)] ∧ (pf 23) = [] := hR 23 (by decide)
       refine Or.inl ⟨rfl, ?_⟩
       refine rq_less (sx 110 (congrArg some e23.1) (sub_nil _)) (List.sublist_append_right _ _) ?_
       exact rq_buildSlice (z := .agg #[.int .i64 0, .int .i64 0, .int .i64 0]) (s := 3) (cs := ([((x.n.ss.getD k sq0).xs).getD q 0, x.n.cnt + ((nS x k + q : Nat) : Int), ((x.ds.getD k ir0).xs).getD q 0].map (Value.int .i64))) rfl Try.underlying49 (by kernel_rfl) (by decide) rfl (by kernel_rfl) rfl
     ·
      intro vf pf hR
      have e1 : (vf 1) = u4 ∧ (pf 1) = [] := hR 1 (by decide)
      have e24 : IsRow_o 86 3 1 ([((x.n.ss.getD k sq0).xs).getD q 0, x.n.cnt + ((nS x k + q : Nat) : Int), ((x.ds.getD k ir0).xs).getD q 0].map (Value.int .i64)) (vf 24) (pf 24) := hR 24 (by decide)
      obtain ⟨g16, v24, p24⟩ := e24
      have q0 : (vf 0) = .pointer (some ⟨b4, 0 + 1, none⟩) ∧ (pf 0) = [] := hR 0 (by decide)
      have q1 : (vf 1) = u4 ∧ (pf 1) = [] := hR 1 (by decide)
      have q2 : (vf 2) = .pointer (some ⟨b1, 0 + 0, none⟩) ∧ (pf 2) = [] := hR 2 (by decide)
      have q3 : (vf 3) = .pointer (some ⟨b1, 0 + 0 + 1, none⟩) ∧ (pf 3) = [] := hR 3 (by decide)
      have q4 : (vf 4) = x.n.sv ∧ (pf 4) = [] := hR 4 (by decide)
      have q5 : (vf 5) = .int .i64 (k : Int) ∧ (pf 5) = [] := hR 5 (by decide)
      have q6 : (vf 6) = elP x.n.sv (((k : Int)).toNat * 3) ∧ (pf 6) = [] := hR 6 (by decide)
      have q7 : (vf 7) = elP x.n.sv (((k : Int)).toNat * 3 + 2) ∧ (pf 7) = [] := hR 7 (by decide)
      have q8 : (vf 8) = (x.n.ss.getD k sq0).iv ∧ (pf 8) = [] := hR 8 (by decide)
      have q9 : (vf 9) = .int .i64 (q : Int) ∧ (pf 9) = [] := hR 9 (by decide)
      have q10 : (vf 10) = elP ((x.n.ss.getD k sq0).iv) (((q : Int)).toNat * 1) ∧ (pf 10) = [] := hR 10 (by decide)
      have q11 : (vf 11) = .int .i64 (((x.n.ss.getD k sq0).xs).getD q 0) ∧ (pf 11) = [] := hR 11 (by decide)
      have q12 : (vf 12) = .pointer (some ⟨b4, 0 + 0, none⟩) ∧ (pf 12) = [] := hR 12 (by decide)
      have q13 : (vf 13) = .int .i64 (x.n.cnt + ((nS x k + q : Nat) : Int)) ∧ (pf 13) = [] := hR 13 (by decide)
      have q14 : (vf 14) = .pointer (some ⟨b1, 0 + 4, none⟩) ∧ (pf 14) = [] := hR 14 (by decide)
      have q15 : (vf 15) = .pointer (some ⟨b1, 0 + 4 + 1, none⟩) ∧ (pf 15) = [] := hR 15 (by decide)
      have q16 : (vf 16) = x.qv ∧ (pf 16) = [] := hR 16 (by decide)
      have q17 : (vf 17) = .int .i64 (k : Int) ∧ (pf 17) = [] := hR 17 (by decide)
      have q18 : (vf 18) = elP x.qv (((k : Int)).toNat * 1) ∧ (pf 18) = [] := hR 18 (by decide)
      have q19 : (vf 19) = (x.ds.getD k ir0).v ∧ (pf 19) = [] := hR 19 (by decide)
      have q20 : (vf 20) = .int .i64 (q : Int) ∧ (pf 20) = [] := hR 20 (by decide)
      have q21 : (vf 21) = elP ((x.ds.getD k ir0).v) (((q : Int)).toNat * 1) ∧ (pf 21) = [] := hR 21 (by decide)
      have q22 : (vf 22) = .int .i64 (((x.ds.getD k ir0).xs).getD q 0) ∧ (pf 22) = [] := hR 22 (by decide)
      have q23 : (vf 23) = .agg #[.int .i64 (((x.n.ss.getD k sq0).xs).getD q 0), .int .i64 (x.n.cnt + ((nS x k + q : Nat) : Int)), .int .i64 (((x.ds.getD k ir0).xs).getD q 0)] ∧ (pf 23) = [] := hR 23 (by decide)
      refine hl_less (l' := [rowE 86 3 (.slice (some ⟨g16, 0, none⟩) 1 1) 1 ([((x.n.ss.getD k sq0).xs).getD q 0, x.n.cnt + ((nS x k + q : Nat) : Int), ((x.ds.getD k ir0).xs).getD q 0].map (Value.int .i64)), rowE 86 3 u4 ws.length (ws.flatMap arcC), boxE b4 #[.int .i64 (x.n.cnt + ((nS x k + q : Nat) : Int)), u4] 51, boxE b2 #[.int .i64 0, .slice none 0 0] 51, boxE b1 #[.int .i64 x.n.ins, x.n.sv, x.n.lv, x.n.ov, x.pv, x.qv, x.kv, x.av, x.bv, .int .i64 x.oi, .int .i64 x.ni] 40]) (sx 0 rfl (sx 1 rfl (sx 2 rfl (sx 3 rfl (sx 4 rfl (sx 7 rfl (sx 8 rfl (sx 11 rfl (sx 22 rfl (sx 72 rfl (sx 84 rfl (sx 88 (congrArg some e1.1) (sx 111 (congrArg some v24) (sub_nil _)))))))))))))) (by first | (simp only [p24, v24, q0.2, q1.2, q2.2, q3.2, q4.2, q5.2, q6.2, q7.2, q8.2, q9.2, q10.2, q11.2, q12.2, q13.2, q14.2, q15.2, q16.2, q17.2, q18.2, q19.2, q20.2, q21.2, q22.2, q23.2, List.flatMap_cons, List.flatMap_nil, List.append_nil, List.nil_append, List.cons_append]; exact List.Sublist.refl _) | simp [p24, v24, q0.2, q1.2, q2.2, q3.2, q4.2, q5.2, q6.2, q7.2, q8.2, q9.2, q10.2, q11.2, q12.2, q13.2, q14.2, q15.2, q16.2, q17.2, q18.2, q19.2, q20.2, q21.2, q22.2, q23.2]) ?_
      simp only [List.drop_succ_cons, List.drop_zero]
      refine hl_append (i := 1) (z := .agg #[.int .i64 0, .int .i64 0, .int .i64 0]) (bytes := 24) (n' := (ws ++ [Arc.mk ((x.n.ss.getD k sq0).xs.getD q 0) (x.n.cnt + ((nS x k + q : Nat) : Int)) ((x.ds.getD k ir0).xs.getD q 0)]).length) (xs' := ((ws ++ [Arc.mk ((x.n.ss.getD k sq0).xs.getD q 0) (x.n.cnt + ((nS x k + q : Nat) : Int)) ((x.ds.getD k ir0).xs.getD q 0)]).flatMap arcC)) (L := fun v17 => [rowE 86 3 (.slice (some ⟨g16, 0, none⟩) 1 1) 1 ([((x.n.ss.getD k sq0).xs).getD q 0, x.n.cnt + ((nS x k + q : Nat) : Int), ((x.ds.getD k ir0).xs).getD q 0].map (Value.int .i64)), rowE 86 3 v17 ((ws ++ [Arc.mk ((x.n.ss.getD k sq0).xs.getD q 0) (x.n.cnt + ((nS x k + q : Nat) : Int)) ((x.ds.getD k ir0).xs.getD q 0)]).length) ((ws ++ [Arc.mk ((x.n.ss.getD k sq0).xs.getD q 0) (x.n.cnt + ((nS x k + q : Nat) : Int)) ((x.ds.getD k ir0).xs.getD q 0)]).flatMap arcC), boxE b4 #[.int .i64 (x.n.cnt + ((nS x k + q : Nat) : Int)), u4] 51, boxE b2 #[.int .i64 0, .slice none 0 0] 51, boxE b1 #[.int .i64 x.n.ins, x.n.sv, x.n.lv, x.n.ov, x.pv, x.qv, x.kv, x.av, x.bv, .int .i64 x.oi, .int .i64 x.ni] 40]) rfl rfl rfl rfl Try.underlying49 (by kernel_rfl) (by kernel_rfl) rfl rfl rfl (rd_row 0 rfl) (ints_one _) (by first | omega | (simp only [List.length_append, List.length_cons, List.length_nil]; omega)) (len_app ws [Arc.mk ((x.n.ss.getD k sq0).xs.getD q 0) (x.n.cnt + ((nS x k + q : Nat) : Int)) ((x.ds.getD k ir0).xs.getD q 0)]) (flat_app1 arcC ws (Arc.mk ((x.n.ss.getD k sq0).xs.getD q 0) (x.n.cnt + ((nS x k + q : Nat) : Int)) ((x.ds.getD k ir0).xs.getD q 0)) _ rfl) (fun _ => rfl) ?_
      intro v17
      refine hl_v rfl rfl rfl (rv_field (k0 := 1) rfl (by kernel_rfl) rfl) ?_
      refine hl_one (i := 1) rfl (fun ho18 => ?_)
      refine hl_storeBox (i := 2) (l' := [rowE 86 3 (.slice (some ⟨g16, 0, none⟩) 1 1) 1 ([((x.n.ss.getD k sq0).xs).getD q 0, x.n.cnt + ((nS x k + q : Nat) : Int), ((x.ds.getD k ir0).xs).getD q 0].map (Value.int .i64)), rowE 86 3 v17 ((ws ++ [Arc.mk ((x.n.ss.getD k sq0).xs.getD q 0) (x.n.cnt + ((nS x k + q : Nat) : Int)) ((x.ds.getD k ir0).xs.getD q 0)]).length) ((ws ++ [Arc.mk ((x.n.ss.getD k sq0).xs.getD q 0) (x.n.cnt + ((nS x k + q : Nat) : Int)) ((x.ds.getD k ir0).xs.getD q 0)]).flatMap arcC), boxE b4 #[.int .i64 (x.n.cnt + ((nS x k + q : Nat) : Int)), v17] 51, boxE b2 #[.int .i64 0, .slice none 0 0] 51, boxE b1 #[.int .i64 x.n.ins, x.n.sv, x.n.lv, x.n.ov, x.pv, x.qv, x.kv, x.av, x.bv, .int .i64 x.oi, .int .i64 x.ni] 40]) rfl rfl rfl (by kernel_rfl) rfl rfl ho18 rfl rfl rfl ?_
      refine hl_less (sx 0 rfl (sx 1 rfl (sx 2 rfl (sx 3 rfl (sx 4 rfl (sx 7 rfl (sx 8 rfl (sx 11 rfl (sx 22 rfl (sx 72 rfl (sx 84 rfl (sub_nil _)))))))))))) (.refl _) ?_
      refine hl_nil ?_
      refine hq_then ?_
      refine hc_region ?_
      refine hl_v rfl rfl rfl (rv_field (k0 := 0) rfl (by kernel_rfl) rfl) ?_
      refine hl_v rfl rfl rfl (rv_load rfl (by kernel_rfl) rfl (box_cell 2 rfl rfl)) ?_
      refine hl_v rfl rfl rfl (rv_add rfl rfl rfl (by constructor <;> omega)) ?_
      refine hl_v rfl rfl rfl (rv_field (k0 := 0) rfl (by kernel_rfl) rfl) ?_
      refine hl_storeBox (i := 2) (l' := [rowE 86 3 (.slice (some ⟨g16, 0, none⟩) 1 1) 1 ([((x.n.ss.getD k sq0).xs).getD q 0, x.n.cnt + ((nS x k + q : Nat) : Int), ((x.ds.getD k ir0).xs).getD q 0].map (Value.int .i64)), rowE 86 3 v17 ((ws ++ [Arc.mk ((x.n.ss.getD k sq0).xs.getD q 0) (x.n.cnt + ((nS x k + q : Nat) : Int)) ((x.ds.getD k ir0).xs.getD q 0)]).length) ((ws ++ [Arc.mk ((x.n.ss.getD k sq0).xs.getD q 0) (x.n.cnt + ((nS x k + q : Nat) : Int)) ((x.ds.getD k ir0).xs.getD q 0)]).flatMap arcC), boxE b4 #[.int .i64 ((x.n.cnt + ((nS x k + q : Nat) : Int)) + 1), v17] 51, boxE b2 #[.int .i64 0, .slice none 0 0] 51, boxE b1 #[.int .i64 x.n.ins, x.n.sv, x.n.lv, x.n.ov, x.pv, x.qv, x.kv, x.av, x.bv, .int .i64 x.oi, .int .i64 x.ni] 40]) rfl rfl rfl (by kernel_rfl) rfl rfl rfl rfl rfl rfl ?_
      refine hl_less (sx 0 rfl (sx 1 rfl (sx 2 rfl (sx 3 rfl (sx 4 rfl (sx 7 rfl (sx 8 rfl (sx 11 rfl (sx 22 rfl (sx 72 rfl (sx 84 rfl (sub_nil _)))))))))))) (.refl _) ?_
      refine hl_nil ?_
      refine hq_block_normal ?_
      refine hq_then ?_
      refine hc_region ?_
      refine hl_v rfl rfl rfl (rv_ev rfl) ?_
      refine hl_v rfl rfl rfl (rv_add rfl rfl rfl (by constructor <;> omega)) ?_
      have hx5 := (hok.n.sq k (by omega)).1.len
      have hdk : (x.ds.getD k ir0).xs.length = (x.n.ss.getD k sq0).xs.length := by have := (hok.ds k (by omega)).1; omega
      refine hl_v rfl rfl rfl (rv_ev rfl) ?_
      refine hl_less (sx 0 rfl (sx 1 rfl (sx 2 rfl (sx 3 rfl (sx 4 rfl (sx 7 rfl (sx 8 rfl (sx 11 rfl (sx 22 rfl (sx 72 rfl (sx 84 rfl (sub_nil _)))))))))))) (.refl _) ?_
      refine hl_nil ?_
      rw [show (x.n.cnt + ((nS x k + q : Nat) : Int)) + 1 = x.n.cnt + ((nS x k + (q + 1) : Nat) : Int) by omega]
      exact hq_round3 (q + 1) v17 (ws ++ [Arc.mk ((x.n.ss.getD k sq0).xs.getD q 0) (x.n.cnt + ((nS x k + q : Nat) : Int)) ((x.ds.getD k ir0).xs.getD q 0)]) ⟨by omega, by rw [arcT_succ, hw]; congr 2; (try simp only [Arc.mk.injEq, and_true, true_and]); (try omega)⟩ (by omega) (sx 0 rfl (sx 1 rfl (sx 2 rfl (sx 3 rfl (sx 4 rfl (sx 7 rfl (sx 8 rfl (sx 11 rfl (sx 22 rfl (sx 72 rfl (sub_nil _))))))))))) ((.cons _ (.cons_cons _ (.cons_cons _ (.cons_cons _ (.cons_cons _ .slnil))))))
    ·
     refine hl_less (sx 0 rfl (sx 1 rfl (sx 2 rfl (sx 3 rfl (sx 4 rfl (sx 7 rfl (sx 8 rfl (sx 11 rfl (sx 22 rfl (sx 72 rfl (sx 84 rfl (sub_nil _)))))))))))) (.refl _) ?_
     refine hl_nil ?_
     refine hq_then ?_
     refine hc_false rfl ?_
     refine hc_exit ?_
     refine hq_then_exit ?_
     refine hq_then_exit ?_
     refine hq_block_exit ?_
     refine hq_block_normal ?_
     refine hq_then ?_
     refine hc_region ?_
     refine hl_v rfl rfl rfl (rv_ev rfl) ?_
     refine hl_v rfl rfl rfl (rv_add rfl rfl rfl (by constructor <;> omega)) ?_
     refine hl_v rfl rfl rfl (rv_ev rfl) ?_
     refine hl_less (sx 0 rfl (sx 1 rfl (sx 2 rfl (sx 3 rfl (sx 4 rfl (sx 7 rfl (sx 8 rfl (sx 11 rfl (sx 22 rfl (sx 72 rfl (sx 84 rfl (sub_nil _)))))))))))) (.refl _) ?_
     refine hl_nil ?_
     have hqe : nS x k + q = nS x (k + 1) := by show _ = nS x k + (x.n.ss.getD k sq0).xs.length; omega
     rw [hqe]
     exact hq_round3 (k + 1) u4 ws ⟨by omega, by rw [hw, show q = (x.n.ss.getD k sq0).xs.length by omega]; rfl⟩ (by omega) (sx 0 rfl (sx 1 rfl (sx 2 rfl (sx 3 rfl (sx 4 rfl (sx 7 rfl (sx 11 rfl (sx 22 rfl (sub_nil _))))))))) ((.cons_cons _ (.cons_cons _ (.cons_cons _ (.cons_cons _ .slnil)))))
   ·
    refine hl_less (sx 0 rfl (sx 1 rfl (sx 2 rfl (sx 3 rfl (sx 4 rfl (sx 7 rfl (sx 11 rfl (sx 22 rfl (sx 72 rfl (sub_nil _)))))))))) (.refl _) ?_
    refine hl_nil ?_
    refine hq_then ?_
    refine hc_false rfl ?_
    refine hc_exit ?_
    refine hq_then_exit ?_
    refine hq_then_exit ?_
    refine hq_block_exit ?_
    refine hq_then ?_
    refine hc_seq ?_
    refine hc_region ?_
    refine hl_v rfl rfl rfl (rv_loadN (cs := [.int .i64 (x.n.cnt + (nS x k : Int)), u3]) rfl (by kernel_rfl) (by kernel_rfl) rfl rfl (box_part 1 rfl 0 rfl)) ?_
    refine hl_one (i := 0) rfl (fun ho19 => ?_)
    refine hl_storeBoxN (i := 2) (off := 0) (us := [.int .i64 (x.n.cnt + (nS x k : Int)), u3])  (l' := [rowE 86 3 u3 vs.length (vs.flatMap arcC), boxE b4 #[.int .i64 (x.n.cnt + (nS x k : Int)), u3] 51, boxE b2 #[.int .i64 (x.n.cnt + (nS x k : Int)), u3] 51, boxE b1 #[.int .i64 x.n.ins, x.n.sv, x.n.lv, x.n.ov, x.pv, x.qv, x.kv, x.av, x.bv, .int .i64 x.oi, .int .i64 x.ni] 40]) rfl rfl rfl (by kernel_rfl) rfl rfl rfl (all_cons rfl (all_cons ho19 all_nil)) rfl rfl rfl ?_
    refine hl_v rfl rfl rfl (rv_ev rfl) ?_
    refine hl_less (sx 0 rfl (sx 1 rfl (sx 2 rfl (sx 3 rfl (sx 4 rfl (sx 7 rfl (sx 11 rfl (sx 22 rfl (sx 72 rfl (sub_nil _)))))))))) (.refl _) ?_
    refine hl_nil ?_
    refine hq_then ?_
    refine hc_ret ?_
    have hke : k = x.n.ss.length := by omega
    have hR1 : vs = arcR x := by unfold arcR; rw [if_pos (pB_yes hok), hv, hke]
    have hR2 : x.n.cnt + (nS x k : Int) = nodR x := by unfold nodR; rw [if_pos (pB_yes hok), hke]
    refine hq_oneT (i := 0) rfl (fun hoA => ?_)
    exact hq_retM (rs := [.cell 2 51, .tmp 3]) (vs := [.agg #[.int .i64 (x.n.cnt + (nS x k : Int)), u3], .bool true]) (post := [rowE 86 3 u3 vs.length (vs.flatMap arcC)]) rfl ⟨⟨b2, 0, [.int .i64 (x.n.cnt + (nS x k : Int)), u3], rfl, rfl, by kernel_rfl, by kernel_rfl, box_part 2 rfl 0 rfl⟩, rfl, trivial⟩ rfl ((.cons_cons _ (.cons _ (.cons _ (.cons _ .slnil))))) ⟨_, by rw [← hR2, pB_yes hok]; rfl, by rw [← hR1], hoA⟩
 ·
  have hno := of_pBn h3
  refine hl_v rfl rfl rfl (rv_ev rfl) ?_
  refine hl_less (sx 0 rfl (sx 1 rfl (sx 2 rfl (sx 3 rfl (sx 11 rfl (sub_nil _)))))) (.refl _) ?_
  refine hl_nil ?_
  refine hq_then ?_
  refine hc_true rfl ?_
  refine hc_seq ?_
  refine hc_region ?_
  refine hl_v rfl rfl rfl (rv_build (cs := #[.int .i64 0, .slice none 0 0]) rfl rfl (by kernel_rfl)) ?_
  refine hl_storeBoxN (i := 0) (off := 0) (us := [.int .i64 0, .slice none 0 0])  (l' := [boxE b2 #[.int .i64 0, .slice none 0 0] 51, boxE b1 #[.int .i64 x.n.ins, x.n.sv, x.n.lv, x.n.ov, x.pv, x.qv, x.kv, x.av, x.bv, .int .i64 x.oi, .int .i64 x.ni] 40]) rfl rfl rfl (by kernel_rfl) rfl rfl rfl (all_cons rfl (all_cons rfl all_nil)) rfl rfl rfl ?_
  refine hl_v rfl rfl rfl (rv_ev rfl) ?_
  refine hl_less (sx 0 rfl (sx 1 rfl (sx 2 rfl (sx 3 rfl (sx 11 rfl (sub_nil _)))))) (.refl _) ?_
  refine hl_nil ?_
  refine hq_then ?_
  refine hc_ret ?_
  refine hq_then_ret ?_
  refine hq_conv [rowE 86 3 (.slice none 0 0) (([] : List Arc).length) (([] : List Arc).flatMap arcC), boxE b2 #[.int .i64 0, .slice none 0 0] 51, boxE b1 #[.int .i64 x.n.ins, x.n.sv, x.n.lv, x.n.ov, x.pv, x.qv, x.kv, x.av, x.bv, .int .i64 x.oi, .int .i64 x.ni] 40] (fun w hm => hm.nilRow 86 3) ?_
  have hR1 : arcR x = [] := by unfold arcR; rw [pB_no hno]; rfl
  have hR2 : nodR x = 0 := by unfold nodR; rw [pB_no hno]; rfl
  exact hq_retM (rs := [.cell 2 51, .tmp 3]) (vs := [.agg #[.int .i64 0, .slice none 0 0], .bool false]) (post := [rowE 86 3 (.slice none 0 0) (([] : List Arc).length) (([] : List Arc).flatMap arcC)]) rfl ⟨⟨b2, 0, [.int .i64 0, .slice none 0 0], rfl, rfl, by kernel_rfl, by kernel_rfl, box_part 1 rfl 0 rfl⟩, rfl, trivial⟩ rfl ((.cons_cons _ (.cons _ (.cons _ .slnil)))) ⟨_, by rw [hR2, pB_no hno]; rfl, by rw [hR1], rfl⟩
open Go.RowKit
/-- a list and zeros behind it -/
def fzT (C : Nat) (vs : List Int) : List Int := vs ++ List.replicate (C - vs.length) 0
theorem fz_len {C : Nat} {vs : List Int} (h : vs.length ≤ C) : (fzT C vs).length = C := by simp [fzT]; omega
theorem fz_all {C : Nat} {vs : List Int} (h : vs.length = C) : fzT C vs = vs := by unfold fzT; rw [h, Nat.sub_self]; simp
theorem fz_set {C : Nat} {vs : List Int} {x : Int} {j : Nat} (hj : j = vs.length) (h : vs.length < C) : (fzT C vs).set j x = fzT C (vs ++ [x]) := by
  subst hj
  unfold fzT
  rw [List.set_append_right _ _ (Nat.le_refl _), Nat.sub_self, List.length_append, List.length_singleton, show C - vs.length = (C - (vs.length + 1)) + 1 by omega, List.replicate_succ, List.set_cons_zero]
  simp
theorem fz_one {C : Nat} (h : 1 ≤ C) : List.replicate C (0 : Int) = fzT C [0] := by
  unfold fzT
  obtain ⟨c, rfl⟩ : ∃ c, C = c + 1 := ⟨C - 1, by omega⟩
  simp [List.replicate_succ]
open Go.RowKit
open Go.RowKit
open Go.RowKit
theorem del_start {n : Int} {gs : List Arc} (hg : GOk n gs) (lg : Bool) (s : Int) (k : Nat) (hk : (k : Int) = s) : (intoL gs k).foldl (stepD lg (delL lg gs s k)) 0 = 0 :=
  fold_skip _ _ (fun a ha => by
    have ho := into_ok hg ha
    rw [del_at lg gs s k _ (by omega), Dl_lt hg lg s _ (by omega)]; omega)
theorem del_node {n : Int} {gs : List Arc} (hg : GOk n gs) (lg : Bool) (s : Int) (k : Nat) {b b0 : Int} (hb0 : b0 = if (k : Int) = s then 0 else -1) (hb : b = (intoL gs k).foldl (stepD lg (delL lg gs s k)) b0) : b = Dl lg gs s k := by
  rw [hb, hb0, Dl_def]
  by_cases h : (k : Int) = s
  · rw [if_pos h, if_pos h]; exact del_start hg lg s k h
  · rw [if_neg h, if_neg h]
set_option maxHeartbeats 4000000 in
set_option maxRecDepth 100000 in
theorem l36Delays_ret (n : Int) (gs : List Arc) (v : Value) (s : Int) (w : World) (hg : GOk n gs) (hv : RdsW w v 3 gs.length (gs.flatMap arcC)) (hs : 0 ≤ s ∧ s < n) :
  Calls Try.prog 63 #[.agg #[.int .i64 n, v], .int .i64 s, .bool false] w (Ret w (fun v' post => post = [rowE 3 1 v' (delL true gs s n.toNat).length ((delL true gs s n.toNat).map (Value.int .i64))])) := by
 obtain ⟨hn0, hn1, hgl, -⟩ := id hg
 have hnn : (n.toNat : Int) = n := by omega
 refine calls_hc (N := 114) (args := [.agg #[.int .i64 n, v], .int .i64 s, .bool false]) Try.func63 rfl rfl ?_
 refine hc_less _ (sx 0 rfl (sx 1 rfl (sx 2 rfl (sub_nil _)))) (.refl _) ?_
 refine hc_seq ?_
 refine hc_region ?_
 refine hl_box rfl rfl rfl (rq_box rfl rfl) ?_
 intro b1
 refine hl_v rfl rfl rfl (rv_ev rfl) ?_
 refine hl_less (sx 0 rfl (sx 1 rfl (sx 2 rfl (sx 3 rfl (sx 6 rfl (sub_nil _)))))) (.refl _) ?_
 refine hl_nil ?_
 refine hq_then ?_
 refine hc_seq ?_
 refine hc_region ?_
 refine hl_row rfl rfl rfl (rq_slice0 (s := 1) rfl Try.underlying24 (by kernel_rfl)) ?_
 intro g2
 refine hl_v rfl rfl rfl (rv_ev rfl) ?_
 refine hl_less (sx 0 rfl (sx 1 rfl (sx 2 rfl (sx 3 rfl (sx 6 rfl (sx 7 rfl (sub_nil _))))))) (.refl _) ?_
 refine hl_nil ?_
 refine hq_then ?_
 refine hc_seq ?_
 refine hc_region ?_
 refine hl_v rfl rfl rfl (rv_field (k0 := 0) rfl (by kernel_rfl) rfl) ?_
 refine hl_v rfl rfl rfl (rv_load rfl (by kernel_rfl) rfl (box_cell 1 rfl rfl)) ?_
 refine hl_row rfl rfl rfl (rq_make (z := .slice none 0 0) (s := 1) (bytes := 24) (n := (List.replicate (n).toNat row0).length) (cs := ((List.replicate (n).toNat row0).flatMap rowC)) rfl Try.underlying111 (by kernel_rfl) (by decide) rfl rfl (by first | (rw [List.length_replicate]; done) | (rw [List.length_replicate]; omega)) (by first | (rw [List.length_replicate]; done) | (rw [List.length_replicate]; omega)) (by rw [List.length_replicate]; omega) (made_flat rowC 1 (fun _ => rfl) row0 _ rfl (n).toNat)) ?_
 intro g3
 refine hl_v rfl rfl rfl (rv_ev rfl) ?_
 refine hl_less (sx 0 rfl (sx 1 rfl (sx 2 rfl (sx 3 rfl (sx 6 rfl (sx 7 rfl (sx 8 rfl (sub_nil _)))))))) (.refl _) ?_
 refine hl_nil ?_
 refine hq_then ?_
 refine hc_seq ?_
 refine hc_seq ?_
 refine hc_region ?_
 refine hl_v rfl rfl rfl (rv_ev rfl) ?_
 refine hl_less (sx 0 rfl (sx 1 rfl (sx 2 rfl (sx 3 rfl (sx 6 rfl (sx 7 rfl (sx 8 rfl (sx 9 rfl (sub_nil _))))))))) (.refl _) ?_
 refine hl_nil ?_
 refine hq_then ?_
 refine hc_block ?_
 refine hc_conv [bigE ((List.replicate n.toNat row0).map aPart), rowE 49 1 (.slice (some ⟨g3, 0, none⟩) ((List.replicate (n).toNat row0).length) ((List.replicate (n).toNat row0).length)) ((List.replicate (n).toNat row0).length) ((List.replicate (n).toNat row0).flatMap rowC), rowE 3 1 (.slice (some ⟨g2, 0, none⟩) 0 0) 0 ([]), boxE b1 #[.int .i64 n, v] 51] (fun w hm => by have h2 := (hm.bigNil 86 3 n.toNat).big; rw [show List.replicate n.toNat (rowE 86 3 (.slice none 0 0) 0 []) = (List.replicate n.toNat row0).map aPart by rw [List.map_replicate]; rfl] at h2; exact h2) ?_
 refine hc_loop2 (α := Nat) (β := List ARow) (fun j rs => [bigE (rs.map aPart), rowE 49 1 (.slice (some ⟨g3, 0, none⟩) ((List.replicate (n).toNat row0).length) ((List.replicate (n).toNat row0).length)) rs.length (rs.flatMap rowC), rowE 3 1 (.slice (some ⟨g2, 0, none⟩) 0 0) 0 ([]), boxE b1 #[.int .i64 n, v] 51]) (fun j rs => [(0, .agg #[.int .i64 n, v]), (1, .int .i64 s), (2, .bool false), (3, .pointer (some ⟨b1, 0, none⟩)), (6, .slice none 0 0), (7, .slice (some ⟨g2, 0, none⟩) 0 0), (8, .slice (some ⟨g3, 0, none⟩) ((List.replicate (n).toNat row0).length) ((List.replicate (n).toNat row0).length)), (9, .int .i64 (j : Int))]) (fun j rs => j ≤ gs.length ∧ IntoOk (gs.take j) n rs) (fun j rs => gs.length - j) 0 _ ⟨by omega, by simp, fun k hk => by rw [List.getD_eq_getElem?_getD, List.getElem?_replicate]; simp only [List.length_replicate] at hk; rw [if_pos hk]; rfl⟩ (sx 0 rfl (sx 1 rfl (sx 2 rfl (sx 3 rfl (sx 6 rfl (sx 7 rfl (sx 8 rfl (sx 9 rfl (sub_nil _))))))))) ((.cons_cons _ (.cons_cons _ (.cons_cons _ (.cons_cons _ .slnil))))) ?_
 intro j rs hi4
 obtain ⟨hj, hri⟩ := hi4
 have hrl := hri.1
 refine hc_seq ?_
 refine hc_seq ?_
 refine hc_region ?_
 refine hl_v rfl rfl rfl (rv_ev rfl) ?_
 refine hl_v rfl rfl rfl (rv_field (k0 := 1) rfl (by kernel_rfl) rfl) ?_
 refine hl_v rfl rfl rfl (rv_load rfl (by kernel_rfl) rfl (box_cell 3 rfl rfl)) ?_
 refine hl_v rfl rfl rfl (rv_len rfl Try.underlying49 rfl (rd_old hv)) ?_
 refine hl_lss rfl rfl rfl rfl rfl rfl (fun h5 => ?_) (fun h5 => ?_)
 ·
  refine hl_less (sx 0 rfl (sx 1 rfl (sx 2 rfl (sx 3 rfl (sx 6 rfl (sx 7 rfl (sx 8 rfl (sx 9 rfl (sx 23 rfl (sub_nil _)))))))))) (.refl _) ?_
  refine hl_nil ?_
  refine hq_then ?_
  refine hc_true rfl ?_
  refine hc_skip ?_
  refine hq_then ?_
  refine hc_seq ?_
  refine hc_block ?_
  have haj := hg.at (i := j) (by omega)
  have hfl : (rs.getD (((gs.getD j arc0).t).toNat) row0).ar.length ≤ 2000 := by rw [hri.2 (((gs.getD j arc0).t).toNat) (by omega)]; have := into_len (gs.take j) (((gs.getD j arc0).t).toNat); rw [List.length_take] at this; omega
  refine hc_conv [rowE 86 3 ((rs.getD (((gs.getD j arc0).t).toNat) row0).v) (((rs.getD (((gs.getD j arc0).t).toNat) row0).ar).length) (((rs.getD (((gs.getD j arc0).t).toNat) row0).ar).flatMap arcC), bigE ((rs.map aPart).eraseIdx (((gs.getD j arc0).t).toNat)), rowE 49 1 (.slice (some ⟨g3, 0, none⟩) ((List.replicate (n).toNat row0).length) ((List.replicate (n).toNat row0).length)) rs.length (rs.flatMap rowC), rowE 3 1 (.slice (some ⟨g2, 0, none⟩) 0 0) 0 ([]), boxE b1 #[.int .i64 n, v] 51] (conv_focus (j := (((gs.getD j arc0).t).toNat)) (by rw [List.getElem?_map, getD_at (d := row0) (by rw [hri.1]; omega)]; rfl)) ?_
  refine hc_draw3 (l := [bigE ((rs.map aPart).eraseIdx (((gs.getD j arc0).t).toNat)), rowE 49 1 (.slice (some ⟨g3, 0, none⟩) ((List.replicate (n).toNat row0).length) ((List.replicate (n).toNat row0).length)) rs.length (rs.flatMap rowC), rowE 3 1 (.slice (some ⟨g2, 0, none⟩) 0 0) 0 ([]), boxE b1 #[.int .i64 n, v] 51]) (by kernel_rfl) 23 [0, 1, 2, 3, 4, 5, 6, 7, 8, 9, 10, 11, 12, 13, 14, 15, 16, 17, 18, 19, 20, 21, 22] (List.take 23 _) (List.drop 23 _) [[], [], [1], [], [2, 3], [4], [5], [], [], [8], [], [9, 10], [11], [12], [7, 13], [14], [], [16], [], [17, 18], [19], [20], [15, 21]] [some 26, some 27, some 28, some 29, some 30, some 31, some 32, some 33, some 34, some 35, some 36, some 37, some 38, some 39, some 40, some 41, some 42, some 43, some 44, some 45, some 46, some 47, some 48] (fun i_ vs_ v_ p_ => match i_ with | 0 => v_ = .slice (some ⟨g3, 0, none⟩) ((List.replicate (n).toNat row0).length) ((List.replicate (n).toNat row0).length) ∧ p_ = [] | 1 => v_ = .pointer (some ⟨b1, 0 + 1, none⟩) ∧ p_ = [] | 2 => v_ = v ∧ p_ = [] | 3 => v_ = .int .i64 (j : Int) ∧ p_ = [] | 4 => v_ = elP v (((j : Int)).toNat * 3) ∧ p_ = [] | 5 => v_ = elP v (((j : Int)).toNat * 3 + 1) ∧ p_ = [] | 6 => v_ = .int .i64 ((gs.getD j arc0).t) ∧ p_ = [] | 7 => v_ = .slice (some ⟨g3, 0, none⟩) ((List.replicate (n).toNat row0).length) ((List.replicate (n).toNat row0).length) ∧ p_ = [] | 8 => v_ = .pointer (some ⟨b1, 0 + 1, none⟩) ∧ p_ = [] | 9 => v_ = v ∧ p_ = [] | 10 => v_ = .int .i64 (j : Int) ∧ p_ = [] | 11 => v_ = elP v (((j : Int)).toNat * 3) ∧ p_ = [] | 12 => v_ = elP v (((j : Int)).toNat * 3 + 1) ∧ p_ = [] | 13 => v_ = .int .i64 ((gs.getD j arc0).t) ∧ p_ = [] | 14 => v_ = elP (.slice (some ⟨g3, 0, none⟩) ((List.replicate (n).toNat row0).length) ((List.replicate (n).toNat row0).length)) (((gs.getD j arc0).t).toNat * 1) ∧ p_ = [] | 15 => v_ = (rs.getD (((gs.getD j arc0).t).toNat) row0).v ∧ p_ = [] | 16 => v_ = .pointer (some ⟨b1, 0 + 1, none⟩) ∧ p_ = [] | 17 => v_ = v ∧ p_ = [] | 18 => v_ = .int .i64 (j : Int) ∧ p_ = [] | 19 => v_ = elP v (((j : Int)).toNat * 3) ∧ p_ = [] | 20 => v_ = .agg #[.int .i64 ((gs.getD j arc0).f), .int .i64 ((gs.getD j arc0).t), .int .i64 ((gs.getD j arc0).d)] ∧ p_ = [] | 21 => IsRow_o 86 3 1 ([(gs.getD j arc0).f, (gs.getD j arc0).t, (gs.getD j arc0).d].map (Value.int .i64)) v_ p_ | 22 => (∃ pm_, p_ = [pm_] ∧ (fun u_ p_ => p_ = rowE 86 3 u_ ((((rs.getD (((gs.getD j arc0).t).toNat) row0).ar) ++ [gs.getD j arc0]).length) ((((rs.getD (((gs.getD j arc0).t).toNat) row0).ar) ++ [gs.getD j arc0]).flatMap arcC)) v_ pm_) | _ => True) [[], [], [1], [], [2, 3], [4], [5], [], [], [8], [], [9, 10], [11], [12], [7, 13], [14], [], [16], [], [17, 18], [19], [20], [15, 21]] [none, none, none, none, none, none, none, none, none, none, none, none, none, none, none, none, none, none, none, none, none, none, some 25] [[rowE 86 3 ((rs.getD (((gs.getD j arc0).t).toNat) row0).v) (((rs.getD (((gs.getD j arc0).t).toNat) row0).ar).length) (((rs.getD (((gs.getD j arc0).t).toNat) row0).ar).flatMap arcC)]] [0, 1, 2, 3, 4, 5, 6, 7, 8, 9, 10, 11, 12, 13, 14, 15, 16, 17, 18, 19, 20, 21, 22] 25 (List.take_append_drop 23 _).symm (by kernel_rfl) (by kernel_rfl) (by kernel_rfl) rfl rfl ?_ ?_
  ·
   refine ⟨?_, ?_, ?_, ?_, ?_, ?_, ?_, ?_, ?_, ?_, ?_, ?_, ?_, ?_, ?_, ?_, ?_, ?_, ?_, ?_, ?_, ?_, ?_, trivial⟩
   ·
    intro vf pf hmu hR
    refine Or.inl ⟨rfl, ?_⟩
    show RunQ _ _ _ (([] : List Nat).flatMap pf ++ _) (envOf3 _ vf [] ++ _) _ _
    refine rq_less (sx 8 rfl (sub_nil _)) (List.sublist_append_right _ _) ?_
    exact rq_v (rv_ev rfl)
   ·
    intro vf pf hmu hR
    refine Or.inl ⟨rfl, ?_⟩
    show RunQ _ _ _ (([] : List Nat).flatMap pf ++ _) (envOf3 _ vf [] ++ _) _ _
    refine rq_less (sx 3 rfl (sub_nil _)) (List.sublist_append_right _ _) ?_
    exact rq_v (rv_field (k0 := 1) rfl (by kernel_rfl) rfl)
   ·
    intro vf pf hmu hR
    have e1 : (vf 1) = .pointer (some ⟨b1, 0 + 1, none⟩) ∧ (pf 1) = [] := hR 1 (by decide)
    refine Or.inl ⟨rfl, ?_⟩
    show RunQ _ _ _ (([1] : List Nat).flatMap pf ++ _) (envOf3 _ vf [1] ++ _) _ _
    refine rq_less (sx 27 (congrArg some e1.1) (sub_nil _)) (List.sublist_append_right _ _) ?_
    exact rq_v (rv_load rfl (by kernel_rfl) rfl (box_cell 3 rfl rfl))
   ·
    intro vf pf hmu hR
    refine Or.inl ⟨rfl, ?_⟩
    show RunQ _ _ _ (([] : List Nat).flatMap pf ++ _) (envOf3 _ vf [] ++ _) _ _
    refine rq_less (sx 9 rfl (sub_nil _)) (List.sublist_append_right _ _) ?_
    exact rq_v (rv_ev rfl)
   ·
    intro vf pf hmu hR
    have e2 : (vf 2) = v ∧ (pf 2) = [] := hR 2 (by decide)
    have e3 : (vf 3) = .int .i64 (j : Int) ∧ (pf 3) = [] := hR 3 (by decide)
    refine Or.inl ⟨rfl, ?_⟩
    show RunQ _ _ _ (([2, 3] : List Nat).flatMap pf ++ _) (envOf3 _ vf [2, 3] ++ _) _ _
    refine rq_less (sx 28 (congrArg some e2.1) (sx 29 (congrArg some e3.1) (sub_nil _))) (List.sublist_append_right _ _) ?_
    exact rq_v (rv_index (s := 3) rfl Try.underlying49 (by kernel_rfl) rfl rfl (rd_old hv) (by omega) (by first | omega | (simp only [List.length_set]; omega)))
   ·
    intro vf pf hmu hR
    have e4 : (vf 4) = elP v (((j : Int)).toNat * 3) ∧ (pf 4) = [] := hR 4 (by decide)
    refine Or.inl ⟨rfl, ?_⟩
    show RunQ _ _ _ (([4] : List Nat).flatMap pf ++ _) (envOf3 _ vf [4] ++ _) _ _
    refine rq_less (sx 30 (congrArg some e4.1) (sub_nil _)) (List.sublist_append_right _ _) ?_
    exact rq_v (rv_fieldEl (k0 := 1) rfl (by kernel_rfl) rfl (rd_old hv) (by first | omega | (simp only [List.length_set]; omega)))
   ·
    intro vf pf hmu hR
    have e5 : (vf 5) = elP v (((j : Int)).toNat * 3 + 1) ∧ (pf 5) = [] := hR 5 (by decide)
    refine Or.inl ⟨rfl, ?_⟩
    show RunQ _ _ _ (([5] : List Nat).flatMap pf ++ _) (envOf3 _ vf [5] ++ _) _ _
    refine rq_less (sx 31 (congrArg some e5.1) (sub_nil _)) (List.sublist_append_right _ _) ?_
    exact rq_v (rv_loadEl (u := .int .i64 ((gs.getD j arc0).t)) rfl (by kernel_rfl) rfl (rd_old hv) ((flat_at arcC 3 (fun _ => rfl) gs arc0 (show j < _ by first | omega | (simp only [List.length_set]; omega)) (by decide)).trans rfl))
   ·
    intro vf pf hmu hR
    refine Or.inl ⟨rfl, ?_⟩
    show RunQ _ _ _ (([] : List Nat).flatMap pf ++ _) (envOf3 _ vf [] ++ _) _ _
    refine rq_less (sx 8 rfl (sub_nil _)) (List.sublist_append_right _ _) ?_
    exact rq_v (rv_ev rfl)
   ·
    intro vf pf hmu hR
    refine Or.inl ⟨rfl, ?_⟩
    show RunQ _ _ _ (([] : List Nat).flatMap pf ++ _) (envOf3 _ vf [] ++ _) _ _
    refine rq_less (sx 3 rfl (sub_nil _)) (List.sublist_append_right _ _) ?_
    exact rq_v (rv_field (k0 := 1) rfl (by kernel_rfl) rfl)
   ·
    intro vf pf hmu hR
    have e8 : (vf 8) = .pointer (some ⟨b1, 0 + 1, none⟩) ∧ (pf 8) = [] := hR 8 (by decide)
    refine Or.inl ⟨rfl, ?_⟩
    show RunQ _ _ _ (([8] : List Nat).flatMap pf ++ _) (envOf3 _ vf [8] ++ _) _ _
    refine rq_less (sx 34 (congrArg some e8.1) (sub_nil _)) (List.sublist_append_right _ _) ?_
    exact rq_v (rv_load rfl (by kernel_rfl) rfl (box_cell 3 rfl rfl))
   ·
    intro vf pf hmu hR
    refine Or.inl ⟨rfl, ?_⟩
    show RunQ _ _ _ (([] : List Nat).flatMap pf ++ _) (envOf3 _ vf [] ++ _) _ _
    refine rq_less (sx 9 rfl (sub_nil _)) (List.sublist_append_right _ _) ?_
    exact rq_v (rv_ev rfl)
   ·
    intro vf pf hmu hR
    have e9 : (vf 9) = v ∧ (pf 9) = [] := hR 9 (by decide)
    have e10 : (vf 10) = .int .i64 (j : Int) ∧ (pf 10) = [] := hR 10 (by decide)
    refine Or.inl ⟨rfl, ?_⟩
    show RunQ _ _ _ (([9, 10] : List Nat).flatMap pf ++ _) (envOf3 _ vf [9, 10] ++ _) _ _
    refine rq_less (sx 35 (congrArg some e9.1) (sx 36 (congrArg some e10.1) (sub_nil _))) (List.sublist_append_right _ _) ?_
    exact rq_v (rv_index (s := 3) rfl Try.underlying49 (by kernel_rfl) rfl rfl (rd_old hv) (by omega) (by first | omega | (simp only [List.length_set]; omega)))
   ·
    intro vf pf hmu hR
    have e11 : (vf 11) = elP v (((j : Int)).toNat * 3) ∧ (pf 11) = [] := hR 11 (by decide)
    refine Or.inl ⟨rfl, ?_⟩
    show RunQ _ _ _ (([11] : List Nat).flatMap pf ++ _) (envOf3 _ vf [11] ++ _) _ _
    refine rq_less (sx 37 (congrArg some e11.1) (sub_nil _)) (List.sublist_append_right _ _) ?_
    exact rq_v (rv_fieldEl (k0 := 1) rfl (by kernel_rfl) rfl (rd_old hv) (by first | omega | (simp only [List.length_set]; omega)))
   ·
    intro vf pf hmu hR
    have e12 : (vf 12) = elP v (((j : Int)).toNat * 3 + 1) ∧ (pf 12) = [] := hR 12 (by decide)
    refine Or.inl ⟨rfl, ?_⟩
    show RunQ _ _ _ (([12] : List Nat).flatMap pf ++ _) (envOf3 _ vf [12] ++ _) _ _
    refine rq_less (sx 38 (congrArg some e12.1) (sub_nil _)) (List.sublist_append_right _ _) ?_
    exact rq_v (rv_loadEl (u := .int .i64 ((gs.getD j arc0).t)) rfl (by kernel_rfl) rfl (rd_old hv) ((flat_at arcC 3 (fun _ => rfl) gs arc0 (show j < _ by first | omega | (simp only [List.length_set]; omega)) (by decide)).trans rfl))
   ·
    intro vf pf hmu hR
    have e7 : (vf 7) = .slice (some ⟨g3, 0, none⟩) ((List.replicate (n).toNat row0).length) ((List.replicate (n).toNat row0).length) ∧ (pf 7) = [] := hR 7 (by decide)
    have e13 : (vf 13) = .int .i64 ((gs.getD j arc0).t) ∧ (pf 13) = [] := hR 13 (by decide)
    refine Or.inl ⟨rfl, ?_⟩
    show RunQ _ _ _ (([7, 13] : List Nat).flatMap pf ++ _) (envOf3 _ vf [7, 13] ++ _) _ _
    refine rq_less (sx 33 (congrArg some e7.1) (sx 39 (congrArg some e13.1) (sub_nil _))) (List.sublist_append_right _ _) ?_
    exact rq_v (rv_index (s := 1) rfl Try.underlying111 (by kernel_rfl) rfl rfl (rd_row 1 rfl) (by omega) (by first | omega | (simp only [List.length_set]; omega)))
   ·
    intro vf pf hmu hR
    have e14 : (vf 14) = elP (.slice (some ⟨g3, 0, none⟩) ((List.replicate (n).toNat row0).length) ((List.replicate (n).toNat row0).length)) (((gs.getD j arc0).t).toNat * 1) ∧ (pf 14) = [] := hR 14 (by decide)
    refine Or.inl ⟨rfl, ?_⟩
    show RunQ _ _ _ (([14] : List Nat).flatMap pf ++ _) (envOf3 _ vf [14] ++ _) _ _
    refine rq_less (sx 40 (congrArg some e14.1) (sub_nil _)) (List.sublist_append_right _ _) ?_
    exact rq_v (rv_loadEl (u := (rs.getD (((gs.getD j arc0).t).toNat) row0).v) rfl (by kernel_rfl) rfl (rd_row 1 rfl) (flat_one rowC (fun r => r.v) (fun _ => rfl) rs row0 (show ((gs.getD j arc0).t).toNat < _ by first | omega | (simp only [List.length_set]; omega))))
   ·
    intro vf pf hmu hR
    refine Or.inl ⟨rfl, ?_⟩
    show RunQ _ _ _ (([] : List Nat).flatMap pf ++ _) (envOf3 _ vf [] ++ _) _ _
    refine rq_less (sx 3 rfl (sub_nil _)) (List.sublist_append_right _ _) ?_
    exact rq_v (rv_field (k0 := 1) rfl (by kernel_rfl) rfl)
   ·
    intro vf pf hmu hR
    have e16 : (vf 16) = .pointer (some ⟨b1, 0 + 1, none⟩) ∧ (pf 16) = [] := hR 16 (by decide)
    refine Or.inl ⟨rfl, ?_⟩
    show RunQ _ _ _ (([16] : List Nat).flatMap pf ++ _) (envOf3 _ vf [16] ++ _) _ _
    refine rq_less (sx 42 (congrArg some e16.1) (sub_nil _)) (List.sublist_append_right _ _) ?_
    exact rq_v (rv_load rfl (by kernel_rfl) rfl (box_cell 3 rfl rfl))
   ·
    intro vf pf hmu hR
    refine Or.inl ⟨rfl, ?_⟩
    show RunQ _ _ _ (([] : List Nat).flatMap pf ++ _) (envOf3 _ vf [] ++ _) _ _
    refine rq_less (sx 9 rfl (sub_nil _)) (List.sublist_append_right _ _) ?_
    exact rq_v (rv_ev rfl)
   ·
    intro vf pf hmu hR
    have e17 : (vf 17) = v ∧ (pf 17) = [] := hR 17 (by decide)
    have e18 : (vf 18) = .int .i64 (j : Int) ∧ (pf 18) = [] := hR 18 (by decide)
    refine Or.inl ⟨rfl, ?_⟩
    show RunQ _ _ _ (([17, 18] : List Nat).flatMap pf ++ _) (envOf3 _ vf [17, 18] ++ _) _ _
    refine rq_less (sx 43 (congrArg some e17.1) (sx 44 (congrArg some e18.1) (sub_nil _))) (List.sublist_append_right _ _) ?_
    exact rq_v (rv_index (s := 3) rfl Try.underlying49 (by kernel_rfl) rfl rfl (rd_old hv) (by omega) (by first | omega | (simp only [List.length_set]; omega)))
   ·
    intro vf pf hmu hR
    have e19 : (vf 19) = elP v (((j : Int)).toNat * 3) ∧ (pf 19) = [] := hR 19 (by decide)
    refine Or.inl ⟨rfl, ?_⟩
    show RunQ _ _ _ (([19] : List Nat).flatMap pf ++ _) (envOf3 _ vf [19] ++ _) _ _
    refine rq_less (sx 45 (congrArg some e19.1) (sub_nil _)) (List.sublist_append_right _ _) ?_
    exact rq_v (rv_loadElN (us := [.int .i64 ((gs.getD j arc0).f), .int .i64 ((gs.getD j arc0).t), .int .i64 ((gs.getD j arc0).d)]) rfl (by kernel_rfl) (by kernel_rfl) rfl (rd_old hv) (by omega) rfl (flat_atN arcC 3 (fun _ => rfl) gs arc0 (show j < _ by first | omega | (simp only [List.length_set]; omega)) rfl))
   ·
    intro vf pf hmu hR
    have e20 : (vf 20) = .agg #[.int .i64 ((gs.getD j arc0).f), .int .i64 ((gs.getD j arc0).t), .int .i64 ((gs.getD j arc0).d)] ∧ (pf 20) = [] := hR 20 (by decide)
    refine Or.inl ⟨rfl, ?_⟩
    show RunQ _ _ _ (([20] : List Nat).flatMap pf ++ _) (envOf3 _ vf [20] ++ _) _ _
    refine rq_less (sx 46 (congrArg some e20.1) (sub_nil _)) (List.sublist_append_right _ _) ?_
    exact rq_buildSlice (z := .agg #[.int .i64 0, .int .i64 0, .int .i64 0]) (s := 3) (cs := ([(gs.getD j arc0).f, (gs.getD j arc0).t, (gs.getD j arc0).d].map (Value.int .i64))) rfl Try.underlying49 (by kernel_rfl) (by decide) rfl (by kernel_rfl) rfl
   ·
    intro vf pf hmu hR
    have e15 : (vf 15) = (rs.getD (((gs.getD j arc0).t).toNat) row0).v ∧ (pf 15) = [] := hR 15 (by decide)
    have e21 : IsRow_o 86 3 1 ([(gs.getD j arc0).f, (gs.getD j arc0).t, (gs.getD j arc0).d].map (Value.int .i64)) (vf 21) (pf 21) := hR 21 (by decide)
    obtain ⟨g6, v21, p21⟩ := e21
    refine Or.inl ⟨rfl, ?_⟩
    show RunM _ _ _ (pf 25) (([15, 21] : List Nat).flatMap pf ++ _) (envOf3 _ vf [15, 21] ++ _) _ _
    have hmu0 : pf 25 = [rowE 86 3 ((rs.getD (((gs.getD j arc0).t).toNat) row0).v) (((rs.getD (((gs.getD j arc0).t).toNat) row0).ar).length) (((rs.getD (((gs.getD j arc0).t).toNat) row0).ar).flatMap arcC)] := hmu 0 (show 0 < 1 by omega)
    rw [hmu0]
    refine rm_less (X' := [rowE 86 3 (.slice (some ⟨g6, 0, none⟩) 1 1) 1 ([(gs.getD j arc0).f, (gs.getD j arc0).t, (gs.getD j arc0).d].map (Value.int .i64)), bigE ((rs.map aPart).eraseIdx (((gs.getD j arc0).t).toNat)), rowE 49 1 (.slice (some ⟨g3, 0, none⟩) ((List.replicate (n).toNat row0).length) ((List.replicate (n).toNat row0).length)) rs.length (rs.flatMap rowC), rowE 3 1 (.slice (some ⟨g2, 0, none⟩) 0 0) 0 ([]), boxE b1 #[.int .i64 n, v] 51]) (sx 41 (congrArg some e15.1) (sx 47 (congrArg some v21) (sub_nil _))) (by first | (simp only [p21, v21, e15.2, List.flatMap_cons, List.flatMap_nil, List.append_nil, List.nil_append, List.cons_append]; exact List.Sublist.refl _) | simp [p21, v21, e15.2]) ?_
    exact rm_append (d := 0) (z := .agg #[.int .i64 0, .int .i64 0, .int .i64 0]) (bytes := 24) (n' := (((rs.getD (((gs.getD j arc0).t).toNat) row0).ar) ++ [gs.getD j arc0]).length) (xs' := ((((rs.getD (((gs.getD j arc0).t).toNat) row0).ar) ++ [gs.getD j arc0]).flatMap arcC)) rfl Try.underlying49 (by kernel_rfl) (by kernel_rfl) rfl rfl (rd_row 0 rfl) (ints_one _) (by first | omega | (simp only [List.length_append, List.length_cons, List.length_nil]; omega)) (len_app ((rs.getD (((gs.getD j arc0).t).toNat) row0).ar) [gs.getD j arc0]) (flat_app1 arcC ((rs.getD (((gs.getD j arc0).t).toNat) row0).ar) (gs.getD j arc0) _ rfl)
  ·
   intro vf pf hmu hR
   have e0 : (vf 0) = .slice (some ⟨g3, 0, none⟩) ((List.replicate (n).toNat row0).length) ((List.replicate (n).toNat row0).length) ∧ (pf 0) = [] := hR 0 (by decide)
   have e6 : (vf 6) = .int .i64 ((gs.getD j arc0).t) ∧ (pf 6) = [] := hR 6 (by decide)
   have e21 : IsRow_o 86 3 1 ([(gs.getD j arc0).f, (gs.getD j arc0).t, (gs.getD j arc0).d].map (Value.int .i64)) (vf 21) (pf 21) := hR 21 (by decide)
   obtain ⟨g6, v21, p21⟩ := e21
   have e22 : (∃ pm_, (pf 22) = [pm_] ∧ (fun u_ p_ => p_ = rowE 86 3 u_ ((((rs.getD (((gs.getD j arc0).t).toNat) row0).ar) ++ [gs.getD j arc0]).length) ((((rs.getD (((gs.getD j arc0).t).toNat) row0).ar) ++ [gs.getD j arc0]).flatMap arcC)) (vf 22) pm_) := hR 22 (by decide)
   obtain ⟨p8, p22, hR9⟩ := e22
   obtain ⟨v7, v22⟩ : ∃ x, vf 22 = x := ⟨_, rfl⟩
   rw [v22] at hR9
   subst hR9
   have q0 : (vf 0) = .slice (some ⟨g3, 0, none⟩) ((List.replicate (n).toNat row0).length) ((List.replicate (n).toNat row0).length) ∧ (pf 0) = [] := hR 0 (by decide)
   have q1 : (vf 1) = .pointer (some ⟨b1, 0 + 1, none⟩) ∧ (pf 1) = [] := hR 1 (by decide)
   have q2 : (vf 2) = v ∧ (pf 2) = [] := hR 2 (by decide)
   have q3 : (vf 3) = .int .i64 (j : Int) ∧ (pf 3) = [] := hR 3 (by decide)
   have q4 : (vf 4) = elP v (((j : Int)).toNat * 3) ∧ (pf 4) = [] := hR 4 (by decide)
   have q5 : (vf 5) = elP v (((j : Int)).toNat * 3 + 1) ∧ (pf 5) = [] := hR 5 (by decide)
   have q6 : (vf 6) = .int .i64 ((gs.getD j arc0).t) ∧ (pf 6) = [] := hR 6 (by decide)
   have q7 : (vf 7) = .slice (some ⟨g3, 0, none⟩) ((List.replicate (n).toNat row0).length) ((List.replicate (n).toNat row0).length) ∧ (pf 7) = [] := hR 7 (by decide)
   have q8 : (vf 8) = .pointer (some ⟨b1, 0 + 1, none⟩) ∧ (pf 8) = [] := hR 8 (by decide)
   have q9 : (vf 9) = v ∧ (pf 9) = [] := hR 9 (by decide)
   have q10 : (vf 10) = .int .i64 (j : Int) ∧ (pf 10) = [] := hR 10 (by decide)
   have q11 : (vf 11) = elP v (((j : Int)).toNat * 3) ∧ (pf 11) = [] := hR 11 (by decide)
   have q12 : (vf 12) = elP v (((j : Int)).toNat * 3 + 1) ∧ (pf 12) = [] := hR 12 (by decide)
   have q13 : (vf 13) = .int .i64 ((gs.getD j arc0).t) ∧ (pf 13) = [] := hR 13 (by decide)
   have q14 : (vf 14) = elP (.slice (some ⟨g3, 0, none⟩) ((List.replicate (n).toNat row0).length) ((List.replicate (n).toNat row0).length)) (((gs.getD j arc0).t).toNat * 1) ∧ (pf 14) = [] := hR 14 (by decide)
   have q15 : (vf 15) = (rs.getD (((gs.getD j arc0).t).toNat) row0).v ∧ (pf 15) = [] := hR 15 (by decide)
   have q16 : (vf 16) = .pointer (some ⟨b1, 0 + 1, none⟩) ∧ (pf 16) = [] := hR 16 (by decide)
   have q17 : (vf 17) = v ∧ (pf 17) = [] := hR 17 (by decide)
   have q18 : (vf 18) = .int .i64 (j : Int) ∧ (pf 18) = [] := hR 18 (by decide)
   have q19 : (vf 19) = elP v (((j : Int)).toNat * 3) ∧ (pf 19) = [] := hR 19 (by decide)
   have q20 : (vf 20) = .agg #[.int .i64 ((gs.getD j arc0).f), .int .i64 ((gs.getD j arc0).t), .int .i64 ((gs.getD j arc0).d)] ∧ (pf 20) = [] := hR 20 (by decide)
   refine hl_less (l' := [rowE 86 3 (.slice (some ⟨g6, 0, none⟩) 1 1) 1 ([(gs.getD j arc0).f, (gs.getD j arc0).t, (gs.getD j arc0).d].map (Value.int .i64)), rowE 86 3 v7 ((((rs.getD (((gs.getD j arc0).t).toNat) row0).ar) ++ [gs.getD j arc0]).length) ((((rs.getD (((gs.getD j arc0).t).toNat) row0).ar) ++ [gs.getD j arc0]).flatMap arcC), bigE ((rs.map aPart).eraseIdx (((gs.getD j arc0).t).toNat)), rowE 49 1 (.slice (some ⟨g3, 0, none⟩) ((List.replicate (n).toNat row0).length) ((List.replicate (n).toNat row0).length)) rs.length (rs.flatMap rowC), rowE 3 1 (.slice (some ⟨g2, 0, none⟩) 0 0) 0 ([]), boxE b1 #[.int .i64 n, v] 51]) (sx 0 rfl (sx 1 rfl (sx 2 rfl (sx 3 rfl (sx 6 rfl (sx 7 rfl (sx 8 rfl (sx 9 rfl (sx 23 rfl (sx 26 (congrArg some e0.1) (sx 32 (congrArg some e6.1) (sx 48 (congrArg some v22) (sub_nil _))))))))))))) (by first | (simp only [p21, v21, p22, v22, q0.2, q1.2, q2.2, q3.2, q4.2, q5.2, q6.2, q7.2, q8.2, q9.2, q10.2, q11.2, q12.2, q13.2, q14.2, q15.2, q16.2, q17.2, q18.2, q19.2, q20.2, List.flatMap_cons, List.flatMap_nil, List.append_nil, List.nil_append, List.cons_append]; exact List.Sublist.refl _) | simp [p21, v21, p22, v22, q0.2, q1.2, q2.2, q3.2, q4.2, q5.2, q6.2, q7.2, q8.2, q9.2, q10.2, q11.2, q12.2, q13.2, q14.2, q15.2, q16.2, q17.2, q18.2, q19.2, q20.2]) ?_
   simp only [List.drop_succ_cons, List.drop_zero]
   refine hl_v rfl rfl rfl (rv_index (s := 1) rfl Try.underlying111 (by kernel_rfl) rfl rfl (rd_row 3 rfl) (by omega) (by first | omega | (simp only [List.length_set]; omega))) ?_
   refine hl_one (i := 1) rfl (fun ho10 => ?_)
   refine hl_storeEl (i := 3) (n' := (rs.set (((gs.getD j arc0).t).toNat) { rs.getD (((gs.getD j arc0).t).toNat) row0 with v := v7 }).length) (xs' := ((rs.set (((gs.getD j arc0).t).toNat) { rs.getD (((gs.getD j arc0).t).toNat) row0 with v := v7 }).flatMap rowC)) (l' := [rowE 86 3 (.slice (some ⟨g6, 0, none⟩) 1 1) 1 ([(gs.getD j arc0).f, (gs.getD j arc0).t, (gs.getD j arc0).d].map (Value.int .i64)), rowE 86 3 v7 ((((rs.getD (((gs.getD j arc0).t).toNat) row0).ar) ++ [gs.getD j arc0]).length) ((((rs.getD (((gs.getD j arc0).t).toNat) row0).ar) ++ [gs.getD j arc0]).flatMap arcC), bigE ((rs.map aPart).eraseIdx (((gs.getD j arc0).t).toNat)), rowE 49 1 (.slice (some ⟨g3, 0, none⟩) ((List.replicate (n).toNat row0).length) ((List.replicate (n).toNat row0).length)) ((rs.set (((gs.getD j arc0).t).toNat) { rs.getD (((gs.getD j arc0).t).toNat) row0 with v := v7 }).length) ((rs.set (((gs.getD j arc0).t).toNat) { rs.getD (((gs.getD j arc0).t).toNat) row0 with v := v7 }).flatMap rowC), rowE 3 1 (.slice (some ⟨g2, 0, none⟩) 0 0) 0 ([]), boxE b1 #[.int .i64 n, v] 51]) rfl rfl rfl (by kernel_rfl) rfl rfl ho10 rfl (by first | omega | (simp only [List.length_set]; omega)) List.length_set.symm (flat_set1 rowC (fun r => r.v) (fun _ => rfl) _ ({ rs.getD (((gs.getD j arc0).t).toNat) row0 with v := v7 }) rfl) rfl ?_
   refine hl_less (sx 0 rfl (sx 1 rfl (sx 2 rfl (sx 3 rfl (sx 6 rfl (sx 7 rfl (sx 8 rfl (sx 9 rfl (sx 23 rfl (sub_nil _)))))))))) (.refl _) ?_
   refine hl_nil ?_
   refine hq_block_normal ?_
   refine hq_then ?_
   refine hc_region ?_
   refine hl_v rfl rfl rfl (rv_ev rfl) ?_
   refine hl_v rfl rfl rfl (rv_add rfl rfl rfl (by constructor <;> omega)) ?_
   refine hl_v rfl rfl rfl (rv_ev rfl) ?_
   refine hl_less (sx 0 rfl (sx 1 rfl (sx 2 rfl (sx 3 rfl (sx 6 rfl (sx 7 rfl (sx 8 rfl (sx 9 rfl (sx 23 rfl (sub_nil _)))))))))) (.refl _) ?_
   refine hl_nil ?_
   have hs2 : (rs.set (((gs.getD j arc0).t).toNat) { rs.getD (((gs.getD j arc0).t).toNat) row0 with v := v7 }).flatMap rowC = (rs.set (((gs.getD j arc0).t).toNat) (ARow.mk v7 ((rs.getD (((gs.getD j arc0).t).toNat) row0).ar ++ [gs.getD j arc0]))).flatMap rowC := set_flat _ _ _ _ _ rfl
   have hs3 : (rs.set (((gs.getD j arc0).t).toNat) { rs.getD (((gs.getD j arc0).t).toNat) row0 with v := v7 }).length = (rs.set (((gs.getD j arc0).t).toNat) (ARow.mk v7 ((rs.getD (((gs.getD j arc0).t).toNat) row0).ar ++ [gs.getD j arc0]))).length := by simp only [List.length_set]
   refine hq_conv [rowE 86 3 v7 ((((rs.getD (((gs.getD j arc0).t).toNat) row0).ar) ++ [gs.getD j arc0]).length) ((((rs.getD (((gs.getD j arc0).t).toNat) row0).ar) ++ [gs.getD j arc0]).flatMap arcC), bigE ((rs.map aPart).eraseIdx (((gs.getD j arc0).t).toNat)), rowE 86 3 (.slice (some ⟨g6, 0, none⟩) 1 1) 1 ([(gs.getD j arc0).f, (gs.getD j arc0).t, (gs.getD j arc0).d].map (Value.int .i64)), rowE 49 1 (.slice (some ⟨g3, 0, none⟩) ((List.replicate (n).toNat row0).length) ((List.replicate (n).toNat row0).length)) ((rs.set (((gs.getD j arc0).t).toNat) { rs.getD (((gs.getD j arc0).t).toNat) row0 with v := v7 }).length) ((rs.set (((gs.getD j arc0).t).toNat) { rs.getD (((gs.getD j arc0).t).toNat) row0 with v := v7 }).flatMap rowC), rowE 3 1 (.slice (some ⟨g2, 0, none⟩) 0 0) 0 ([]), boxE b1 #[.int .i64 n, v] 51] (conv_pick (src := [rowE 86 3 (.slice (some ⟨g6, 0, none⟩) 1 1) 1 ([(gs.getD j arc0).f, (gs.getD j arc0).t, (gs.getD j arc0).d].map (Value.int .i64)), rowE 86 3 v7 ((((rs.getD (((gs.getD j arc0).t).toNat) row0).ar) ++ [gs.getD j arc0]).length) ((((rs.getD (((gs.getD j arc0).t).toNat) row0).ar) ++ [gs.getD j arc0]).flatMap arcC), bigE ((rs.map aPart).eraseIdx (((gs.getD j arc0).t).toNat)), rowE 49 1 (.slice (some ⟨g3, 0, none⟩) ((List.replicate (n).toNat row0).length) ((List.replicate (n).toNat row0).length)) ((rs.set (((gs.getD j arc0).t).toNat) { rs.getD (((gs.getD j arc0).t).toNat) row0 with v := v7 }).length) ((rs.set (((gs.getD j arc0).t).toNat) { rs.getD (((gs.getD j arc0).t).toNat) row0 with v := v7 }).flatMap rowC), rowE 3 1 (.slice (some ⟨g2, 0, none⟩) 0 0) 0 ([]), boxE b1 #[.int .i64 n, v] 51]) (dst := [rowE 86 3 v7 ((((rs.getD (((gs.getD j arc0).t).toNat) row0).ar) ++ [gs.getD j arc0]).length) ((((rs.getD (((gs.getD j arc0).t).toNat) row0).ar) ++ [gs.getD j arc0]).flatMap arcC), bigE ((rs.map aPart).eraseIdx (((gs.getD j arc0).t).toNat)), rowE 86 3 (.slice (some ⟨g6, 0, none⟩) 1 1) 1 ([(gs.getD j arc0).f, (gs.getD j arc0).t, (gs.getD j arc0).d].map (Value.int .i64)), rowE 49 1 (.slice (some ⟨g3, 0, none⟩) ((List.replicate (n).toNat row0).length) ((List.replicate (n).toNat row0).length)) ((rs.set (((gs.getD j arc0).t).toNat) { rs.getD (((gs.getD j arc0).t).toNat) row0 with v := v7 }).length) ((rs.set (((gs.getD j arc0).t).toNat) { rs.getD (((gs.getD j arc0).t).toNat) row0 with v := v7 }).flatMap rowC), rowE 3 1 (.slice (some ⟨g2, 0, none⟩) 0 0) 0 ([]), boxE b1 #[.int .i64 n, v] 51]) (l := []) [1, 2, 0, 3, 4, 5] (by decide) rfl) ?_
   refine hq_conv [bigE ((rs.set (((gs.getD j arc0).t).toNat) (ARow.mk v7 ((rs.getD (((gs.getD j arc0).t).toNat) row0).ar ++ [gs.getD j arc0]))).map aPart), rowE 86 3 (.slice (some ⟨g6, 0, none⟩) 1 1) 1 ([(gs.getD j arc0).f, (gs.getD j arc0).t, (gs.getD j arc0).d].map (Value.int .i64)), rowE 49 1 (.slice (some ⟨g3, 0, none⟩) ((List.replicate (n).toNat row0).length) ((List.replicate (n).toNat row0).length)) ((rs.set (((gs.getD j arc0).t).toNat) { rs.getD (((gs.getD j arc0).t).toNat) row0 with v := v7 }).length) ((rs.set (((gs.getD j arc0).t).toNat) { rs.getD (((gs.getD j arc0).t).toNat) row0 with v := v7 }).flatMap rowC), rowE 3 1 (.slice (some ⟨g2, 0, none⟩) 0 0) 0 ([]), boxE b1 #[.int .i64 n, v] 51] (fun w hm => by have h2 := conv_unfocus (p' := aPart (ARow.mk v7 ((rs.getD (((gs.getD j arc0).t).toNat) row0).ar ++ [gs.getD j arc0]))) (ps := rs.map aPart) (j := (((gs.getD j arc0).t).toNat)) (by rw [List.length_map, hri.1]; omega) w hm; rw [← List.map_set] at h2; exact h2) ?_
   refine hq_conv [bigE ((rs.set (((gs.getD j arc0).t).toNat) (ARow.mk v7 ((rs.getD (((gs.getD j arc0).t).toNat) row0).ar ++ [gs.getD j arc0]))).map aPart), rowE 86 3 (.slice (some ⟨g6, 0, none⟩) 1 1) 1 ([(gs.getD j arc0).f, (gs.getD j arc0).t, (gs.getD j arc0).d].map (Value.int .i64)), rowE 49 1 (.slice (some ⟨g3, 0, none⟩) ((List.replicate (n).toNat row0).length) ((List.replicate (n).toNat row0).length)) ((rs.set (((gs.getD j arc0).t).toNat) (ARow.mk v7 ((rs.getD (((gs.getD j arc0).t).toNat) row0).ar ++ [gs.getD j arc0]))).length) ((rs.set (((gs.getD j arc0).t).toNat) (ARow.mk v7 ((rs.getD (((gs.getD j arc0).t).toNat) row0).ar ++ [gs.getD j arc0]))).flatMap rowC), rowE 3 1 (.slice (some ⟨g2, 0, none⟩) 0 0) 0 ([]), boxE b1 #[.int .i64 n, v] 51] (fun w hm => by rw [← hs2, ← hs3]; exact hm) ?_
   exact hq_round2 (j + 1) (rs.set (((gs.getD j arc0).t).toNat) (ARow.mk v7 ((rs.getD (((gs.getD j arc0).t).toNat) row0).ar ++ [gs.getD j arc0]))) ⟨by omega, into_step hg (by omega) hri⟩ (by omega) (sx 0 rfl (sx 1 rfl (sx 2 rfl (sx 3 rfl (sx 6 rfl (sx 7 rfl (sx 8 rfl (sx 9 rfl (sub_nil _))))))))) ((.cons_cons _ (.cons _ (.cons_cons _ (.cons_cons _ (.cons_cons _ .slnil))))))
 ·
  refine hl_less (sx 0 rfl (sx 1 rfl (sx 2 rfl (sx 3 rfl (sx 6 rfl (sx 7 rfl (sx 8 rfl (sx 9 rfl (sx 23 rfl (sub_nil _)))))))))) (.refl _) ?_
  refine hl_nil ?_
  refine hq_then ?_
  refine hc_false rfl ?_
  refine hc_exit ?_
  refine hq_then_exit ?_
  refine hq_then_exit ?_
  refine hq_block_exit ?_
  refine hq_then ?_
  refine hc_seq ?_
  refine hc_seq ?_
  refine hc_region ?_
  refine hl_conv [bigE (rs.map aPart), rowE 49 1 (.slice (some ⟨g3, 0, none⟩) ((List.replicate (n).toNat row0).length) ((List.replicate (n).toNat row0).length)) rs.length (rs.flatMap rowC), rowE 3 1 (.slice (some ⟨g2, 0, none⟩) 0 0) 0 ([]), boxE b1 #[.int .i64 n, v] 51] (conv_pick (src := [bigE (rs.map aPart), rowE 49 1 (.slice (some ⟨g3, 0, none⟩) ((List.replicate (n).toNat row0).length) ((List.replicate (n).toNat row0).length)) rs.length (rs.flatMap rowC), rowE 3 1 (.slice (some ⟨g2, 0, none⟩) 0 0) 0 ([]), boxE b1 #[.int .i64 n, v] 51]) (dst := [bigE (rs.map aPart), rowE 49 1 (.slice (some ⟨g3, 0, none⟩) ((List.replicate (n).toNat row0).length) ((List.replicate (n).toNat row0).length)) rs.length (rs.flatMap rowC), rowE 3 1 (.slice (some ⟨g2, 0, none⟩) 0 0) 0 ([]), boxE b1 #[.int .i64 n, v] 51]) (l := []) [0, 1, 2, 3] (by decide) rfl) ?_
  refine hl_conv [intoE (.slice (some ⟨g3, 0, none⟩) ((List.replicate (n).toNat row0).length) ((List.replicate (n).toNat row0).length)) rs, rowE 3 1 (.slice (some ⟨g2, 0, none⟩) 0 0) 0 ([]), boxE b1 #[.int .i64 n, v] 51] (conv_big (ps := [bigE (rs.map aPart), rowE 49 1 (.slice (some ⟨g3, 0, none⟩) ((List.replicate (n).toNat row0).length) ((List.replicate (n).toNat row0).length)) rs.length (rs.flatMap rowC)])) ?_
  have hjn : j = gs.length := by omega
  rw [hjn, List.take_length] at hri
  have hlen2 : ∀ k, k < rs.length → (rs.getD k row0).ar.length ≤ 2000 := fun k hk => by rw [hri.2 k hk]; have := into_len gs k; omega
  refine hl_v rfl rfl rfl (rv_ev rfl) ?_
  refine hl_less (sx 0 rfl (sx 1 rfl (sx 2 rfl (sx 3 rfl (sx 6 rfl (sx 7 rfl (sx 8 rfl (sx 9 rfl (sx 10 rfl (sx 23 rfl (sub_nil _))))))))))) (.refl _) ?_
  refine hl_nil ?_
  refine hq_then ?_
  refine hc_block ?_
  refine hc_loop3 (α := Nat) (β := Value) (γ := List Int) (fun k u zs => [intoE (.slice (some ⟨g3, 0, none⟩) ((List.replicate (n).toNat row0).length) ((List.replicate (n).toNat row0).length)) rs, rowE 3 1 u zs.length (zs.map (Value.int .i64)), boxE b1 #[.int .i64 n, v] 51]) (fun k u zs => [(0, .agg #[.int .i64 n, v]), (1, .int .i64 s), (2, .bool false), (3, .pointer (some ⟨b1, 0, none⟩)), (6, .slice none 0 0), (7, u), (8, .slice (some ⟨g3, 0, none⟩) ((List.replicate (n).toNat row0).length) ((List.replicate (n).toNat row0).length)), (9, .int .i64 (j : Int)), (10, .int .i64 (k : Int)), (23, .bool false)]) (fun k u zs => k ≤ rs.length ∧ zs = delL true gs s k) (fun k u zs => rs.length - k) 0 _ [] ⟨by omega, rfl⟩ (sx 0 rfl (sx 1 rfl (sx 2 rfl (sx 3 rfl (sx 6 rfl (sx 7 rfl (sx 8 rfl (sx 9 rfl (sx 10 rfl (sx 23 rfl (sub_nil _))))))))))) ((.cons_cons _ (.cons_cons _ (.cons_cons _ .slnil)))) ?_
  intro k u zs hi11
  obtain ⟨hk, hz⟩ := hi11
  have hzl : zs.length = k := by rw [hz, del_len]
  refine hc_seq ?_
  refine hc_seq ?_
  refine hc_region ?_
  refine hl_v rfl rfl rfl (rv_ev rfl) ?_
  refine hl_v rfl rfl rfl (rv_field (k0 := 0) rfl (by kernel_rfl) rfl) ?_
  refine hl_v rfl rfl rfl (rv_load rfl (by kernel_rfl) rfl (box_cell 2 rfl rfl)) ?_
  refine hl_lss rfl rfl rfl rfl rfl rfl (fun h12 => ?_) (fun h12 => ?_)
  ·
   refine hl_less (sx 0 rfl (sx 1 rfl (sx 2 rfl (sx 3 rfl (sx 6 rfl (sx 7 rfl (sx 8 rfl (sx 9 rfl (sx 10 rfl (sx 23 rfl (sx 53 rfl (sub_nil _)))))))))))) (.refl _) ?_
   refine hl_nil ?_
   refine hq_then ?_
   refine hc_true rfl ?_
   refine hc_skip ?_
   refine hq_then ?_
   refine hc_seq ?_
   refine hc_block ?_
   refine hc_seq ?_
   refine hc_region ?_
   refine hl_v rfl rfl rfl (rv_ev rfl) ?_
   refine hl_less (sx 0 rfl (sx 1 rfl (sx 2 rfl (sx 3 rfl (sx 6 rfl (sx 7 rfl (sx 8 rfl (sx 9 rfl (sx 10 rfl (sx 11 rfl (sx 23 rfl (sx 53 rfl (sub_nil _))))))))))))) (.refl _) ?_
   refine hl_nil ?_
   refine hq_then ?_
   refine hc_meet1 (α := Int) (fun b0 => [intoE (.slice (some ⟨g3, 0, none⟩) ((List.replicate (n).toNat row0).length) ((List.replicate (n).toNat row0).length)) rs, rowE 3 1 u zs.length (zs.map (Value.int .i64)), boxE b1 #[.int .i64 n, v] 51]) (fun b0 => [(0, .agg #[.int .i64 n, v]), (1, .int .i64 s), (2, .bool false), (3, .pointer (some ⟨b1, 0, none⟩)), (6, .slice none 0 0), (7, u), (8, .slice (some ⟨g3, 0, none⟩) ((List.replicate (n).toNat row0).length) ((List.replicate (n).toNat row0).length)), (9, .int .i64 (j : Int)), (10, .int .i64 (k : Int)), (11, .int .i64 b0), (23, .bool false), (53, .bool true)]) (fun b0 => b0 = if (k : Int) = s then 0 else -1) ?_ ?_
   ·
    refine hc_seq ?_
    refine hc_region ?_
    refine hl_v rfl rfl rfl (rv_ev rfl) ?_
    refine hl_v rfl rfl rfl (rv_ev rfl) ?_
    refine hl_eql rfl rfl rfl rfl rfl rfl (fun h13 => ?_) (fun h13 => ?_)
    ·
     refine hl_less (sx 0 rfl (sx 1 rfl (sx 2 rfl (sx 3 rfl (sx 6 rfl (sx 7 rfl (sx 8 rfl (sx 9 rfl (sx 10 rfl (sx 11 rfl (sx 23 rfl (sx 53 rfl (sx 58 rfl (sub_nil _)))))))))))))) (.refl _) ?_
     refine hl_nil ?_
     refine hq_then ?_
     refine hc_true rfl ?_
     refine hc_region ?_
     refine hl_v rfl rfl rfl (rv_ev rfl) ?_
     refine hl_less (sx 0 rfl (sx 1 rfl (sx 2 rfl (sx 3 rfl (sx 6 rfl (sx 7 rfl (sx 8 rfl (sx 9 rfl (sx 10 rfl (sx 11 rfl (sx 23 rfl (sx 53 rfl (sx 58 rfl (sub_nil _)))))))))))))) (.refl _) ?_
     refine hl_nil ?_
     exact hq_meet1 0 (by rw [if_pos (by assumption)]) (sx 0 rfl (sx 1 rfl (sx 2 rfl (sx 3 rfl (sx 6 rfl (sx 7 rfl (sx 8 rfl (sx 9 rfl (sx 10 rfl (sx 11 rfl (sx 23 rfl (sx 53 rfl (sub_nil _))))))))))))) ((.cons_cons _ (.cons_cons _ (.cons_cons _ .slnil))))
    ·
     refine hl_less (sx 0 rfl (sx 1 rfl (sx 2 rfl (sx 3 rfl (sx 6 rfl (sx 7 rfl (sx 8 rfl (sx 9 rfl (sx 10 rfl (sx 11 rfl (sx 23 rfl (sx 53 rfl (sx 58 rfl (sub_nil _)))))))))))))) (.refl _) ?_
     refine hl_nil ?_
     refine hq_then ?_
     refine hc_false rfl ?_
     refine hc_skip ?_
     exact hq_meet1 (-1) (by rw [if_neg (by assumption)]) (sx 0 rfl (sx 1 rfl (sx 2 rfl (sx 3 rfl (sx 6 rfl (sx 7 rfl (sx 8 rfl (sx 9 rfl (sx 10 rfl (sx 11 rfl (sx 23 rfl (sx 53 rfl (sub_nil _))))))))))))) ((.cons_cons _ (.cons_cons _ (.cons_cons _ .slnil))))
   intro b0 hm14
   have hb0 := hm14
   have hb0r : -1 ≤ b0 ∧ b0 ≤ 0 := by rw [hb0]; split <;> omega
   refine hc_seq ?_
   refine hc_seq ?_
   refine hc_region ?_
   refine hl_v rfl rfl rfl (rv_ev rfl) ?_
   refine hl_less (sx 0 rfl (sx 1 rfl (sx 2 rfl (sx 3 rfl (sx 6 rfl (sx 7 rfl (sx 8 rfl (sx 9 rfl (sx 10 rfl (sx 11 rfl (sx 12 rfl (sx 23 rfl (sx 53 rfl (sub_nil _)))))))))))))) (.refl _) ?_
   refine hl_nil ?_
   refine hq_then ?_
   refine hc_block ?_
   refine hc_loop2 (α := Nat) (β := Int) (fun m b => [intoE (.slice (some ⟨g3, 0, none⟩) ((List.replicate (n).toNat row0).length) ((List.replicate (n).toNat row0).length)) rs, rowE 3 1 u zs.length (zs.map (Value.int .i64)), boxE b1 #[.int .i64 n, v] 51]) (fun m b => [(0, .agg #[.int .i64 n, v]), (1, .int .i64 s), (2, .bool false), (3, .pointer (some ⟨b1, 0, none⟩)), (6, .slice none 0 0), (7, u), (8, .slice (some ⟨g3, 0, none⟩) ((List.replicate (n).toNat row0).length) ((List.replicate (n).toNat row0).length)), (9, .int .i64 (j : Int)), (10, .int .i64 (k : Int)), (11, .int .i64 b), (12, .int .i64 (m : Int)), (23, .bool false), (53, .bool true)]) (fun m b => m ≤ (rs.getD k row0).ar.length ∧ b = ((rs.getD k row0).ar.take m).foldl (stepD true (delL true gs s k)) b0 ∧ -1 ≤ b ∧ b ≤ 100 * (k : Int)) (fun m b => (rs.getD k row0).ar.length - m) 0 b0 ⟨by omega, rfl, by omega, by omega⟩ (sx 0 rfl (sx 1 rfl (sx 2 rfl (sx 3 rfl (sx 6 rfl (sx 7 rfl (sx 8 rfl (sx 9 rfl (sx 10 rfl (sx 11 rfl (sx 12 rfl (sx 23 rfl (sx 53 rfl (sub_nil _)))))))))))))) ((.cons_cons _ (.cons_cons _ (.cons_cons _ .slnil)))) ?_
   intro m b hi15
   obtain ⟨hm, hb, hbl, hbh⟩ := hi15
   refine hc_seq ?_
   refine hc_seq ?_
   refine hc_region ?_
   have hl2 := hlen2 k (by omega)
   refine hl_v rfl rfl rfl (rv_ev rfl) ?_
   refine hl_v rfl rfl rfl (rv_ev rfl) ?_
   refine hl_v rfl rfl rfl (rv_ev rfl) ?_
   refine hl_v rfl rfl rfl (rv_index (s := 1) rfl Try.underlying111 (by kernel_rfl) rfl rfl (fun w hm => (into_rds (v := .slice (some ⟨g3, 0, none⟩) ((List.replicate (n).toNat row0).length) ((List.replicate (n).toNat row0).length)) (rs := rs) 0 rfl w hm).row) (by omega) (by first | omega | (simp only [List.length_set]; omega))) ?_
   refine hl_v rfl rfl rfl (rv_loadEl (u := (rs.getD k row0).v) rfl (by kernel_rfl) rfl (fun w hm => (into_rds (v := .slice (some ⟨g3, 0, none⟩) ((List.replicate (n).toNat row0).length) ((List.replicate (n).toNat row0).length)) (rs := rs) 0 rfl w hm).row) (flat_one rowC (fun r => r.v) (fun _ => rfl) rs row0 (show k < _ by first | omega | (simp only [List.length_set]; omega)))) ?_
   refine hl_v rfl rfl rfl (rv_len rfl Try.underlying49 rfl (fun w hm => (into_rds (v := .slice (some ⟨g3, 0, none⟩) ((List.replicate (n).toNat row0).length) ((List.replicate (n).toNat row0).length)) (rs := rs) 0 rfl w hm).at (k := k) (by omega))) ?_
   refine hl_lss rfl rfl rfl rfl rfl rfl (fun h16 => ?_) (fun h16 => ?_)
   ·
    refine hl_less (sx 0 rfl (sx 1 rfl (sx 2 rfl (sx 3 rfl (sx 6 rfl (sx 7 rfl (sx 8 rfl (sx 9 rfl (sx 10 rfl (sx 11 rfl (sx 12 rfl (sx 23 rfl (sx 53 rfl (sx 65 rfl (sub_nil _))))))))))))))) (.refl _) ?_
    refine hl_nil ?_
    refine hq_then ?_
    refine hc_true rfl ?_
    refine hc_skip ?_
    refine hq_then ?_
    refine hc_seq ?_
    refine hc_block ?_
    refine hc_seq ?_
    refine hc_region ?_
    refine hl_v rfl rfl rfl (rv_ev rfl) ?_
    refine hl_v rfl rfl rfl (rv_ev rfl) ?_
    refine hl_v rfl rfl rfl (rv_index (s := 1) rfl Try.underlying111 (by kernel_rfl) rfl rfl (fun w hm => (into_rds (v := .slice (some ⟨g3, 0, none⟩) ((List.replicate (n).toNat row0).length) ((List.replicate (n).toNat row0).length)) (rs := rs) 0 rfl w hm).row) (by omega) (by first | omega | (simp only [List.length_set]; omega))) ?_
    refine hl_v rfl rfl rfl (rv_loadEl (u := (rs.getD k row0).v) rfl (by kernel_rfl) rfl (fun w hm => (into_rds (v := .slice (some ⟨g3, 0, none⟩) ((List.replicate (n).toNat row0).length) ((List.replicate (n).toNat row0).length)) (rs := rs) 0 rfl w hm).row) (flat_one rowC (fun r => r.v) (fun _ => rfl) rs row0 (show k < _ by first | omega | (simp only [List.length_set]; omega)))) ?_
    refine hl_v rfl rfl rfl (rv_ev rfl) ?_
    refine hl_v rfl rfl rfl (rv_index (s := 3) rfl Try.underlying49 (by kernel_rfl) rfl rfl (fun w hm => (into_rds (v := .slice (some ⟨g3, 0, none⟩) ((List.replicate (n).toNat row0).length) ((List.replicate (n).toNat row0).length)) (rs := rs) 0 rfl w hm).at (k := k) (by omega)) (by omega) (by first | omega | (simp only [List.length_set]; omega))) ?_
    refine hl_v rfl rfl rfl (rv_loadElN (us := [.int .i64 ((((rs.getD k row0).ar).getD m arc0).f), .int .i64 ((((rs.getD k row0).ar).getD m arc0).t), .int .i64 ((((rs.getD k row0).ar).getD m arc0).d)]) rfl (by kernel_rfl) (by kernel_rfl) rfl (fun w hm => (into_rds (v := .slice (some ⟨g3, 0, none⟩) ((List.replicate (n).toNat row0).length) ((List.replicate (n).toNat row0).length)) (rs := rs) 0 rfl w hm).at (k := k) (by omega)) (by omega) rfl (flat_atN arcC 3 (fun _ => rfl) ((rs.getD k row0).ar) arc0 (show m < _ by first | omega | (simp only [List.length_set]; omega)) rfl)) ?_
    refine hl_box rfl rfl rfl (rq_alloc (z := .agg #[.int .i64 0, .int .i64 0, .int .i64 0]) rfl (by kernel_rfl)) ?_
    intro b17
    refine hl_storeBoxN (i := 0) (off := 0) (us := [.int .i64 ((((rs.getD k row0).ar).getD m arc0).f), .int .i64 ((((rs.getD k row0).ar).getD m arc0).t), .int .i64 ((((rs.getD k row0).ar).getD m arc0).d)])  (l' := [boxE b17 #[.int .i64 ((((rs.getD k row0).ar).getD m arc0).f), .int .i64 ((((rs.getD k row0).ar).getD m arc0).t), .int .i64 ((((rs.getD k row0).ar).getD m arc0).d)] 86, intoE (.slice (some ⟨g3, 0, none⟩) ((List.replicate (n).toNat row0).length) ((List.replicate (n).toNat row0).length)) rs, rowE 3 1 u zs.length (zs.map (Value.int .i64)), boxE b1 #[.int .i64 n, v] 51]) rfl rfl rfl (by kernel_rfl) rfl rfl rfl (all_cons rfl (all_cons rfl (all_cons rfl all_nil))) rfl rfl rfl ?_
    refine hl_less (sx 0 rfl (sx 1 rfl (sx 2 rfl (sx 3 rfl (sx 6 rfl (sx 7 rfl (sx 8 rfl (sx 9 rfl (sx 10 rfl (sx 11 rfl (sx 12 rfl (sx 13 rfl (sx 23 rfl (sx 53 rfl (sx 65 rfl (sub_nil _)))))))))))))))) (.refl _) ?_
    refine hl_nil ?_
    refine hq_then ?_
    refine hc_seq ?_
    refine hc_seq ?_
    refine hc_region ?_
    have hin : (rs.getD k row0).ar = intoL gs k := hri.2 k (by omega)
    have hea : 0 ≤ ((rs.getD k row0).ar.getD m arc0).f ∧ ((rs.getD k row0).ar.getD m arc0).f < k ∧ 0 ≤ ((rs.getD k row0).ar.getD m arc0).d ∧ ((rs.getD k row0).ar.getD m arc0).d ≤ 100 := by rw [hin]; exact into_at hg (by rw [← hin]; omega)
    have hlow : zs.getD (((rs.getD k row0).ar.getD m arc0).f).toNat 0 = Dl true gs s (((rs.getD k row0).ar.getD m arc0).f).toNat := by rw [hz]; exact del_at true gs s k _ (by omega)
    have hlow2 : (delL true gs s k).getD (((rs.getD k row0).ar.getD m arc0).f).toNat 0 = Dl true gs s (((rs.getD k row0).ar.getD m arc0).f).toNat := del_at true gs s k _ (by omega)
    have hdb := Dl_bnd hg true s (((rs.getD k row0).ar.getD m arc0).f).toNat
    refine hl_v rfl rfl rfl (rv_ev rfl) ?_
    refine hl_v rfl rfl rfl (rv_field (k0 := 0) rfl (by kernel_rfl) rfl) ?_
    refine hl_v rfl rfl rfl (rv_load rfl (by kernel_rfl) rfl (box_cell 0 rfl rfl)) ?_
    refine hl_v rfl rfl rfl (rv_index (s := 1) rfl Try.underlying24 (by kernel_rfl) rfl rfl (rd_row 2 rfl) (by omega) (by first | omega | (simp only [List.length_set]; omega))) ?_
    refine hl_v rfl rfl rfl (rv_loadEl (u := .int .i64 (zs.getD (((((rs.getD k row0).ar).getD m arc0).f).toNat) 0)) rfl (by kernel_rfl) rfl (rd_row 2 rfl) (ints_at1 (show _ < zs.length by first | omega | (simp only [List.length_set]; omega)))) ?_
    refine hl_lss rfl rfl rfl rfl rfl rfl (fun h18 => ?_) (fun h18 => ?_)
    ·
     refine hl_less (sx 0 rfl (sx 1 rfl (sx 2 rfl (sx 3 rfl (sx 6 rfl (sx 7 rfl (sx 8 rfl (sx 9 rfl (sx 10 rfl (sx 11 rfl (sx 12 rfl (sx 13 rfl (sx 23 rfl (sx 53 rfl (sx 65 rfl (sx 80 rfl (sub_nil _))))))))))))))))) (.refl _) ?_
     refine hl_nil ?_
     refine hq_then ?_
     refine hc_true rfl ?_
     refine hc_exit ?_
     refine hq_then_exit ?_
     refine hq_block_exit ?_
     refine hq_then ?_
     refine hc_region ?_
     refine hl_v rfl rfl rfl (rv_ev rfl) ?_
     refine hl_v rfl rfl rfl (rv_add rfl rfl rfl (by constructor <;> omega)) ?_
     refine hl_v rfl rfl rfl (rv_ev rfl) ?_
     refine hl_less (sx 0 rfl (sx 1 rfl (sx 2 rfl (sx 3 rfl (sx 6 rfl (sx 7 rfl (sx 8 rfl (sx 9 rfl (sx 10 rfl (sx 11 rfl (sx 12 rfl (sx 13 rfl (sx 23 rfl (sx 53 rfl (sx 65 rfl (sx 80 rfl (sub_nil _))))))))))))))))) (.refl _) ?_
     refine hl_nil ?_
     exact hq_round2 (m + 1) b ⟨by omega, by rw [take_snoc arc0 (by omega), List.foldl_append, ← hb]; show _ = stepD true (delL true gs s k) b ((rs.getD k row0).ar.getD m arc0); first | rw [st_skip (by rw [hlow2]; omega)] | rw [st_noT (by rw [hlow2]; omega) (by omega) (by rw [hlow2]; omega)], by omega, by omega⟩ (by omega) (sx 0 rfl (sx 1 rfl (sx 2 rfl (sx 3 rfl (sx 6 rfl (sx 7 rfl (sx 8 rfl (sx 9 rfl (sx 10 rfl (sx 11 rfl (sx 12 rfl (sx 23 rfl (sx 53 rfl (sub_nil _)))))))))))))) ((.cons _ (.cons_cons _ (.cons_cons _ (.cons_cons _ .slnil)))))
    ·
     refine hl_less (sx 0 rfl (sx 1 rfl (sx 2 rfl (sx 3 rfl (sx 6 rfl (sx 7 rfl (sx 8 rfl (sx 9 rfl (sx 10 rfl (sx 11 rfl (sx 12 rfl (sx 13 rfl (sx 23 rfl (sx 53 rfl (sx 65 rfl (sx 80 rfl (sub_nil _))))))))))))))))) (.refl _) ?_
     refine hl_nil ?_
     refine hq_then ?_
     refine hc_false rfl ?_
     refine hc_skip ?_
     refine hq_then ?_
     refine hc_seq ?_
     refine hc_draw (by kernel_rfl) 8 [0, 1, 2, 3, 4, 5, 6, 7] (List.take 8 _) (List.drop 8 _) [[], [], [1], [0, 2], [3], [], [5], [4, 6]] [81, 82, 83, 84, 85, 86, 87, 88] (fun i_ vs_ v_ p_ => match i_ with | 0 => v_ = u ∧ p_ = [] | 1 => v_ = .pointer (some ⟨b17, 0 + 0, none⟩) ∧ p_ = [] | 2 => v_ = .int .i64 ((((rs.getD k row0).ar).getD m arc0).f) ∧ p_ = [] | 3 => v_ = elP u (((((rs.getD k row0).ar).getD m arc0).f).toNat * 1) ∧ p_ = [] | 4 => v_ = .int .i64 (zs.getD (((((rs.getD k row0).ar).getD m arc0).f).toNat) 0) ∧ p_ = [] | 5 => v_ = .pointer (some ⟨b17, 0 + 2, none⟩) ∧ p_ = [] | 6 => v_ = .int .i64 ((((rs.getD k row0).ar).getD m arc0).d) ∧ p_ = [] | 7 => v_ = .int .i64 ((zs.getD (((((rs.getD k row0).ar).getD m arc0).f).toNat) 0) + ((((rs.getD k row0).ar).getD m arc0).d)) ∧ p_ = [] | _ => True) (List.take_append_drop 8 _).symm (by kernel_rfl) (by kernel_rfl) rfl rfl ?_ ?_
     ·
      refine ⟨?_, ?_, ?_, ?_, ?_, ?_, ?_, ?_, trivial⟩
      ·
       intro vf pf hR
       refine Or.inl ⟨rfl, ?_⟩
       refine rq_less (sx 7 rfl (sub_nil _)) (List.sublist_append_right _ _) ?_
       exact rq_v (rv_ev rfl)
      ·
       intro vf pf hR
       refine Or.inl ⟨rfl, ?_⟩
       refine rq_less (sx 13 rfl (sub_nil _)) (List.sublist_append_right _ _) ?_
       exact rq_v (rv_field (k0 := 0) rfl (by kernel_rfl) rfl)
      ·
       intro vf pf hR
       have e1 : (vf 1) = .pointer (some ⟨b17, 0 + 0, none⟩) ∧ (pf 1) = [] := hR 1 (by decide)
       refine Or.inl ⟨rfl, ?_⟩
       refine rq_less (sx 82 (congrArg some e1.1) (sub_nil _)) (List.sublist_append_right _ _) ?_
       exact rq_v (rv_load rfl (by kernel_rfl) rfl (box_cell 0 rfl rfl))
      ·
       intro vf pf hR
       have e0 : (vf 0) = u ∧ (pf 0) = [] := hR 0 (by decide)
       have e2 : (vf 2) = .int .i64 ((((rs.getD k row0).ar).getD m arc0).f) ∧ (pf 2) = [] := hR 2 (by decide)
       refine Or.inl ⟨rfl, ?_⟩
       refine rq_less (sx 81 (congrArg some e0.1) (sx 83 (congrArg some e2.1) (sub_nil _))) (List.sublist_append_right _ _) ?_
       exact rq_v (rv_index (s := 1) rfl Try.underlying24 (by kernel_rfl) rfl rfl (rd_row 2 rfl) (by omega) (by first | omega | (simp only [List.length_set]; omega)))
      ·
       intro vf pf hR
       have e3 : (vf 3) = elP u (((((rs.getD k row0).ar).getD m arc0).f).toNat * 1) ∧ (pf 3) = [] := hR 3 (by decide)
       refine Or.inl ⟨rfl, ?_⟩
       refine rq_less (sx 84 (congrArg some e3.1) (sub_nil _)) (List.sublist_append_right _ _) ?_
       exact rq_v (rv_loadEl (u := .int .i64 (zs.getD (((((rs.getD k row0).ar).getD m arc0).f).toNat) 0)) rfl (by kernel_rfl) rfl (rd_row 2 rfl) (ints_at1 (show _ < zs.length by first | omega | (simp only [List.length_set]; omega))))
      ·
       intro vf pf hR
       refine Or.inl ⟨rfl, ?_⟩
       refine rq_less (sx 13 rfl (sub_nil _)) (List.sublist_append_right _ _) ?_
       exact rq_v (rv_field (k0 := 2) rfl (by kernel_rfl) rfl)
      ·
       intro vf pf hR
       have e5 : (vf 5) = .pointer (some ⟨b17, 0 + 2, none⟩) ∧ (pf 5) = [] := hR 5 (by decide)
       refine Or.inl ⟨rfl, ?_⟩
       refine rq_less (sx 86 (congrArg some e5.1) (sub_nil _)) (List.sublist_append_right _ _) ?_
       exact rq_v (rv_load rfl (by kernel_rfl) rfl (box_cell 0 rfl rfl))
      ·
       intro vf pf hR
       have e4 : (vf 4) = .int .i64 (zs.getD (((((rs.getD k row0).ar).getD m arc0).f).toNat) 0) ∧ (pf 4) = [] := hR 4 (by decide)
       have e6 : (vf 6) = .int .i64 ((((rs.getD k row0).ar).getD m arc0).d) ∧ (pf 6) = [] := hR 6 (by decide)
       refine Or.inl ⟨rfl, ?_⟩
       refine rq_less (sx 85 (congrArg some e4.1) (sx 87 (congrArg some e6.1) (sub_nil _))) (List.sublist_append_right _ _) ?_
       exact rq_v (rv_add rfl rfl rfl (by constructor <;> omega))
     ·
      intro vf pf hR
      have e7 : (vf 7) = .int .i64 ((zs.getD (((((rs.getD k row0).ar).getD m arc0).f).toNat) 0) + ((((rs.getD k row0).ar).getD m arc0).d)) ∧ (pf 7) = [] := hR 7 (by decide)
      refine hl_less (l' := [boxE b17 #[.int .i64 ((((rs.getD k row0).ar).getD m arc0).f), .int .i64 ((((rs.getD k row0).ar).getD m arc0).t), .int .i64 ((((rs.getD k row0).ar).getD m arc0).d)] 86, intoE (.slice (some ⟨g3, 0, none⟩) ((List.replicate (n).toNat row0).length) ((List.replicate (n).toNat row0).length)) rs, rowE 3 1 u zs.length (zs.map (Value.int .i64)), boxE b1 #[.int .i64 n, v] 51]) (sx 0 rfl (sx 1 rfl (sx 2 rfl (sx 3 rfl (sx 6 rfl (sx 7 rfl (sx 8 rfl (sx 9 rfl (sx 10 rfl (sx 11 rfl (sx 12 rfl (sx 13 rfl (sx 23 rfl (sx 53 rfl (sx 65 rfl (sx 80 rfl (sx 88 (congrArg some e7.1) (sub_nil _)))))))))))))))))) (List.sublist_append_right _ _) ?_
      simp only [List.drop_succ_cons, List.drop_zero]
      refine hl_v rfl rfl rfl (rv_ev rfl) ?_
      refine hl_less (sx 0 rfl (sx 1 rfl (sx 2 rfl (sx 3 rfl (sx 6 rfl (sx 7 rfl (sx 8 rfl (sx 9 rfl (sx 10 rfl (sx 11 rfl (sx 12 rfl (sx 13 rfl (sx 14 rfl (sx 23 rfl (sx 53 rfl (sx 65 rfl (sx 80 rfl (sub_nil _)))))))))))))))))) (.refl _) ?_
      refine hl_nil ?_
      refine hq_then ?_
      refine hc_seq ?_
      refine hc_region ?_
      refine hl_v rfl rfl rfl (rv_ev rfl) ?_
      refine hl_lss rfl rfl rfl rfl rfl rfl (fun h19 => ?_) (fun h19 => ?_)
      ·
       refine hl_v rfl rfl rfl (rv_ev rfl) ?_
       refine hl_skip rfl rfl rfl ?_
       refine hl_skip rfl rfl rfl ?_
       refine hl_skip rfl rfl rfl ?_
       refine hl_skip rfl rfl rfl ?_
       refine hl_skip rfl rfl rfl ?_
       refine hl_skip rfl rfl rfl ?_
       refine hl_v rfl rfl rfl (rv_ev rfl) ?_
       refine hl_v rfl rfl rfl (rv_ev rfl) ?_
       refine hl_skip rfl rfl rfl ?_
       refine hl_skip rfl rfl rfl ?_
       refine hl_skip rfl rfl rfl ?_
       refine hl_skip rfl rfl rfl ?_
       refine hl_skip rfl rfl rfl ?_
       refine hl_skip rfl rfl rfl ?_
       refine hl_skip rfl rfl rfl ?_
       refine hl_v rfl rfl rfl (rv_ev rfl) ?_
       refine hl_less (sx 0 rfl (sx 1 rfl (sx 2 rfl (sx 3 rfl (sx 6 rfl (sx 7 rfl (sx 8 rfl (sx 9 rfl (sx 10 rfl (sx 11 rfl (sx 12 rfl (sx 13 rfl (sx 14 rfl (sx 23 rfl (sx 53 rfl (sx 65 rfl (sx 80 rfl (sx 107 rfl (sub_nil _))))))))))))))))))) (.refl _) ?_
       refine hl_nil ?_
       refine hq_then ?_
       refine hc_true rfl ?_
       refine hc_region ?_
       refine hl_v rfl rfl rfl (rv_ev rfl) ?_
       refine hl_v rfl rfl rfl (rv_ev rfl) ?_
       refine hl_less (sx 0 rfl (sx 1 rfl (sx 2 rfl (sx 3 rfl (sx 6 rfl (sx 7 rfl (sx 8 rfl (sx 9 rfl (sx 10 rfl (sx 11 rfl (sx 12 rfl (sx 13 rfl (sx 14 rfl (sx 23 rfl (sx 53 rfl (sx 65 rfl (sx 80 rfl (sx 107 rfl (sub_nil _))))))))))))))))))) (.refl _) ?_
       refine hl_nil ?_
       refine hq_block_normal ?_
       refine hq_then ?_
       refine hc_region ?_
       refine hl_v rfl rfl rfl (rv_ev rfl) ?_
       refine hl_v rfl rfl rfl (rv_add rfl rfl rfl (by constructor <;> omega)) ?_
       refine hl_v rfl rfl rfl (rv_ev rfl) ?_
       refine hl_less (sx 0 rfl (sx 1 rfl (sx 2 rfl (sx 3 rfl (sx 6 rfl (sx 7 rfl (sx 8 rfl (sx 9 rfl (sx 10 rfl (sx 11 rfl (sx 12 rfl (sx 13 rfl (sx 14 rfl (sx 23 rfl (sx 53 rfl (sx 65 rfl (sx 80 rfl (sx 107 rfl (sub_nil _))))))))))))))))))) (.refl _) ?_
       refine hl_nil ?_
       exact hq_round2 (m + 1) (Dl true gs s (((rs.getD k row0).ar.getD m arc0).f).toNat + ((rs.getD k row0).ar.getD m arc0).d) ⟨by omega, by rw [take_snoc arc0 (by omega), List.foldl_append, ← hb]; show _ = stepD true (delL true gs s k) b ((rs.getD k row0).ar.getD m arc0); rw [st_set (by rw [hlow2]; omega) (by rw [hlow2]; first | exact .inl (by omega) | exact .inr (.inl ⟨rfl, by omega⟩)), hlow2], by omega, by omega⟩ (by omega) (sx 0 rfl (sx 1 rfl (sx 2 rfl (sx 3 rfl (sx 6 rfl (sx 7 rfl (sx 8 rfl (sx 9 rfl (sx 10 rfl (sx 11 (by rw [hlow]; rfl) (sx 12 rfl (sx 23 rfl (sx 53 rfl (sub_nil _)))))))))))))) ((.cons _ (.cons_cons _ (.cons_cons _ (.cons_cons _ .slnil)))))
      ·
       refine hl_v rfl rfl rfl (rv_ev rfl) ?_
       refine hl_v rfl rfl rfl (rv_ev rfl) ?_
       refine hl_v rfl rfl rfl (rv_ev rfl) ?_
       refine hl_skip rfl rfl rfl ?_
       refine hl_skip rfl rfl rfl ?_
       refine hl_skip rfl rfl rfl ?_
       refine hl_v rfl rfl rfl (rv_ev rfl) ?_
       refine hl_v rfl rfl rfl (rv_ev rfl) ?_
       refine hl_v rfl rfl rfl (rv_ev rfl) ?_
       refine hl_v rfl rfl rfl (rv_ev rfl) ?_
       refine hl_v rfl rfl rfl (rv_ev rfl) ?_
       refine hl_v rfl rfl rfl (rv_ev rfl) ?_
       refine hl_v rfl rfl rfl (rv_ev rfl) ?_
       refine hl_v rfl rfl rfl (rv_ev rfl) ?_
       refine hl_gtr rfl rfl rfl rfl rfl rfl (fun h20 => ?_) (fun h20 => ?_)
       ·
        refine hl_v rfl rfl rfl (rv_ev rfl) ?_
        refine hl_v rfl rfl rfl (rv_ev rfl) ?_
        refine hl_less (sx 0 rfl (sx 1 rfl (sx 2 rfl (sx 3 rfl (sx 6 rfl (sx 7 rfl (sx 8 rfl (sx 9 rfl (sx 10 rfl (sx 11 rfl (sx 12 rfl (sx 13 rfl (sx 14 rfl (sx 23 rfl (sx 53 rfl (sx 65 rfl (sx 80 rfl (sx 107 rfl (sub_nil _))))))))))))))))))) (.refl _) ?_
        refine hl_nil ?_
        refine hq_then ?_
        refine hc_true rfl ?_
        refine hc_region ?_
        refine hl_v rfl rfl rfl (rv_ev rfl) ?_
        refine hl_v rfl rfl rfl (rv_ev rfl) ?_
        refine hl_less (sx 0 rfl (sx 1 rfl (sx 2 rfl (sx 3 rfl (sx 6 rfl (sx 7 rfl (sx 8 rfl (sx 9 rfl (sx 10 rfl (sx 11 rfl (sx 12 rfl (sx 13 rfl (sx 14 rfl (sx 23 rfl (sx 53 rfl (sx 65 rfl (sx 80 rfl (sx 107 rfl (sub_nil _))))))))))))))))))) (.refl _) ?_
        refine hl_nil ?_
        refine hq_block_normal ?_
        refine hq_then ?_
        refine hc_region ?_
        refine hl_v rfl rfl rfl (rv_ev rfl) ?_
        refine hl_v rfl rfl rfl (rv_add rfl rfl rfl (by constructor <;> omega)) ?_
        refine hl_v rfl rfl rfl (rv_ev rfl) ?_
        refine hl_less (sx 0 rfl (sx 1 rfl (sx 2 rfl (sx 3 rfl (sx 6 rfl (sx 7 rfl (sx 8 rfl (sx 9 rfl (sx 10 rfl (sx 11 rfl (sx 12 rfl (sx 13 rfl (sx 14 rfl (sx 23 rfl (sx 53 rfl (sx 65 rfl (sx 80 rfl (sx 107 rfl (sub_nil _))))))))))))))))))) (.refl _) ?_
        refine hl_nil ?_
        exact hq_round2 (m + 1) (Dl true gs s (((rs.getD k row0).ar.getD m arc0).f).toNat + ((rs.getD k row0).ar.getD m arc0).d) ⟨by omega, by rw [take_snoc arc0 (by omega), List.foldl_append, ← hb]; show _ = stepD true (delL true gs s k) b ((rs.getD k row0).ar.getD m arc0); rw [st_set (by rw [hlow2]; omega) (by rw [hlow2]; first | exact .inl (by omega) | exact .inr (.inl ⟨rfl, by omega⟩)), hlow2], by omega, by omega⟩ (by omega) (sx 0 rfl (sx 1 rfl (sx 2 rfl (sx 3 rfl (sx 6 rfl (sx 7 rfl (sx 8 rfl (sx 9 rfl (sx 10 rfl (sx 11 (by rw [hlow]; rfl) (sx 12 rfl (sx 23 rfl (sx 53 rfl (sub_nil _)))))))))))))) ((.cons _ (.cons_cons _ (.cons_cons _ (.cons_cons _ .slnil)))))
       ·
        refine hl_v rfl rfl rfl (rv_ev rfl) ?_
        refine hl_v rfl rfl rfl (rv_ev rfl) ?_
        refine hl_less (sx 0 rfl (sx 1 rfl (sx 2 rfl (sx 3 rfl (sx 6 rfl (sx 7 rfl (sx 8 rfl (sx 9 rfl (sx 10 rfl (sx 11 rfl (sx 12 rfl (sx 13 rfl (sx 14 rfl (sx 23 rfl (sx 53 rfl (sx 65 rfl (sx 80 rfl (sx 107 rfl (sub_nil _))))))))))))))))))) (.refl _) ?_
        refine hl_nil ?_
        refine hq_then ?_
        refine hc_false rfl ?_
        refine hc_skip ?_
        refine hq_block_normal ?_
        refine hq_then ?_
        refine hc_region ?_
        refine hl_v rfl rfl rfl (rv_ev rfl) ?_
        refine hl_v rfl rfl rfl (rv_add rfl rfl rfl (by constructor <;> omega)) ?_
        refine hl_v rfl rfl rfl (rv_ev rfl) ?_
        refine hl_less (sx 0 rfl (sx 1 rfl (sx 2 rfl (sx 3 rfl (sx 6 rfl (sx 7 rfl (sx 8 rfl (sx 9 rfl (sx 10 rfl (sx 11 rfl (sx 12 rfl (sx 13 rfl (sx 14 rfl (sx 23 rfl (sx 53 rfl (sx 65 rfl (sx 80 rfl (sx 107 rfl (sub_nil _))))))))))))))))))) (.refl _) ?_
        refine hl_nil ?_
        exact hq_round2 (m + 1) b ⟨by omega, by rw [take_snoc arc0 (by omega), List.foldl_append, ← hb]; show _ = stepD true (delL true gs s k) b ((rs.getD k row0).ar.getD m arc0); first | rw [st_skip (by rw [hlow2]; omega)] | rw [st_noT (by rw [hlow2]; omega) (by omega) (by rw [hlow2]; omega)], by omega, by omega⟩ (by omega) (sx 0 rfl (sx 1 rfl (sx 2 rfl (sx 3 rfl (sx 6 rfl (sx 7 rfl (sx 8 rfl (sx 9 rfl (sx 10 rfl (sx 11 rfl (sx 12 rfl (sx 23 rfl (sx 53 rfl (sub_nil _)))))))))))))) ((.cons _ (.cons_cons _ (.cons_cons _ (.cons_cons _ .slnil)))))
   ·
    refine hl_less (sx 0 rfl (sx 1 rfl (sx 2 rfl (sx 3 rfl (sx 6 rfl (sx 7 rfl (sx 8 rfl (sx 9 rfl (sx 10 rfl (sx 11 rfl (sx 12 rfl (sx 23 rfl (sx 53 rfl (sx 65 rfl (sub_nil _))))))))))))))) (.refl _) ?_
    refine hl_nil ?_
    refine hq_then ?_
    refine hc_false rfl ?_
    refine hc_exit ?_
    refine hq_then_exit ?_
    refine hq_then_exit ?_
    refine hq_block_exit ?_
    refine hq_then ?_
    refine hc_region ?_
    refine hl_v rfl rfl rfl (rv_ev rfl) ?_
    refine hl_v rfl rfl rfl (rv_ev rfl) ?_
    refine hl_row rfl rfl rfl (rq_buildSlice (z := .int .i64 0) (s := 1) (cs := ([b].map (Value.int .i64))) rfl Try.underlying24 (by kernel_rfl) (by decide) rfl (by kernel_rfl) rfl) ?_
    intro g21
    refine hl_append (i := 2) (z := .int .i64 0) (bytes := 8) (n' := (zs ++ ([b])).length) (xs' := ((zs ++ ([b])).map (Value.int .i64))) (L := fun v22 => [rowE 3 1 (.slice (some ⟨g21, 0, none⟩) 1 1) 1 ([b].map (Value.int .i64)), intoE (.slice (some ⟨g3, 0, none⟩) ((List.replicate (n).toNat row0).length) ((List.replicate (n).toNat row0).length)) rs, rowE 3 1 v22 ((zs ++ ([b])).length) ((zs ++ ([b])).map (Value.int .i64)), boxE b1 #[.int .i64 n, v] 51]) rfl rfl rfl rfl Try.underlying24 (by kernel_rfl) (by kernel_rfl) rfl rfl rfl (rd_row 0 rfl) (ints_one _) (by first | omega | (simp; omega)) (len_app zs ([b])) (ints_app zs ([b])) (fun _ => rfl) ?_
    intro v22
    refine hl_v rfl rfl rfl (rv_ev rfl) ?_
    refine hl_less (sx 0 rfl (sx 1 rfl (sx 2 rfl (sx 3 rfl (sx 6 rfl (sx 7 rfl (sx 8 rfl (sx 9 rfl (sx 10 rfl (sx 11 rfl (sx 12 rfl (sx 23 rfl (sx 53 rfl (sx 65 rfl (sub_nil _))))))))))))))) (.refl _) ?_
    refine hl_nil ?_
    refine hq_block_normal ?_
    refine hq_then ?_
    refine hc_region ?_
    refine hl_v rfl rfl rfl (rv_ev rfl) ?_
    refine hl_v rfl rfl rfl (rv_add rfl rfl rfl (by constructor <;> omega)) ?_
    refine hl_v rfl rfl rfl (rv_ev rfl) ?_
    refine hl_less (sx 0 rfl (sx 1 rfl (sx 2 rfl (sx 3 rfl (sx 6 rfl (sx 7 rfl (sx 8 rfl (sx 9 rfl (sx 10 rfl (sx 11 rfl (sx 12 rfl (sx 23 rfl (sx 53 rfl (sx 65 rfl (sub_nil _))))))))))))))) (.refl _) ?_
    refine hl_nil ?_
    exact hq_round3 (k + 1) v22 (zs ++ ([b])) ⟨by omega, by rw [hz, delL, ← show b = nodeD true (delL true gs s k) s k (intoL gs k) from del_node hg true s k hb0 (by rw [hb, show m = (rs.getD k row0).ar.length by omega, List.take_length, hri.2 k (by omega)])]⟩ (by omega) (sx 0 rfl (sx 1 rfl (sx 2 rfl (sx 3 rfl (sx 6 rfl (sx 7 rfl (sx 8 rfl (sx 9 rfl (sx 10 rfl (sx 23 rfl (sub_nil _))))))))))) ((.cons _ (.cons_cons _ (.cons_cons _ (.cons_cons _ .slnil)))))
  ·
   refine hl_less (sx 0 rfl (sx 1 rfl (sx 2 rfl (sx 3 rfl (sx 6 rfl (sx 7 rfl (sx 8 rfl (sx 9 rfl (sx 10 rfl (sx 23 rfl (sx 53 rfl (sub_nil _)))))))))))) (.refl _) ?_
   refine hl_nil ?_
   refine hq_then ?_
   refine hc_false rfl ?_
   refine hc_exit ?_
   refine hq_then_exit ?_
   refine hq_then_exit ?_
   refine hq_block_exit ?_
   refine hq_then ?_
   refine hc_seq ?_
   refine hc_region ?_
   refine hl_v rfl rfl rfl (rv_ev rfl) ?_
   refine hl_v rfl rfl rfl (rv_ev rfl) ?_
   refine hl_less (sx 0 rfl (sx 1 rfl (sx 2 rfl (sx 3 rfl (sx 6 rfl (sx 7 rfl (sx 8 rfl (sx 9 rfl (sx 10 rfl (sx 23 rfl (sx 53 rfl (sub_nil _)))))))))))) (.refl _) ?_
   refine hl_nil ?_
   refine hq_then ?_
   refine hc_ret ?_
   have hke : k = n.toNat := by omega
   exact hq_retR (post := [rowE 3 1 u zs.length (zs.map (Value.int .i64))]) rfl rfl ((.cons _ (.cons_cons _ (.cons _ .slnil)))) (by rw [hz, hke])
def mx (a b : Int) : Int := if a < b then b else a
theorem mx_le (a b : Int) : a ≤ mx a b ∧ b ≤ mx a b ∧ (mx a b = a ∨ mx a b = b) := by unfold mx; split <;> omega
def lutS (x : Td) (o : List Int) (r : List Bl) (i : Nat) : Nat → Int × Bool
  | 0 => (0, false)
  | j + 1 => if (r.getD ((x.n.ls.getD i lt0).xs.getD j 0).toNat bl0).b = true then (mx (lutS x o r i j).1 (o.getD ((x.n.ls.getD i lt0).xs.getD j 0).toNat 0 + (x.dl.getD i ir0).xs.getD j 0), true) else lutS x o r i j
def stp (x : Td) (o : List Int) (r : List Bl) (m : Nat) : Int × Bool :=
  if m = 0 then (0, false) else if (m : Int) ≤ x.n.ins then (0, true) else if (m : Int) < x.n.fst then (x.ks.getD ((m : Int) - 1 - x.n.ins).toNat 0, true) else lutS x o r ((m : Int) - x.n.fst).toNat (x.n.ls.getD ((m : Int) - x.n.fst).toNat lt0).xs.length
def sL (x : Td) : Nat → List Int × List Bl
  | 0 => ([], [])
  | m + 1 => ((sL x m).1 ++ [(stp x (sL x m).1 (sL x m).2 m).1], (sL x m).2 ++ [⟨(stp x (sL x m).1 (sL x m).2 m).2⟩])
theorem sL_succ (x : Td) (m : Nat) : sL x (m + 1) = ((sL x m).1 ++ [(stp x (sL x m).1 (sL x m).2 m).1], (sL x m).2 ++ [⟨(stp x (sL x m).1 (sL x m).2 m).2⟩]) := rfl
theorem sL_len (x : Td) : ∀ m, (sL x m).1.length = m ∧ (sL x m).2.length = m
  | 0 => ⟨rfl, rfl⟩
  | m + 1 => by have := sL_len x m; unfold sL; simp [this.1, this.2]
theorem sL_pre (x : Td) : ∀ m k, k < m → (sL x m).1.getD k 0 = (stp x (sL x k).1 (sL x k).2 k).1 ∧ ((sL x m).2.getD k bl0).b = (stp x (sL x k).1 (sL x k).2 k).2
  | 0, k, h => by omega
  | m + 1, k, h => by
    obtain ⟨l1, l2⟩ := sL_len x m
    rw [sL_succ]
    by_cases e : k < m
    · rw [getD_left (by omega), getD_left (by omega)]; exact sL_pre x m k e
    · obtain rfl : k = m := by omega
      constructor
      · show ((sL x k).1 ++ [_]).getD k 0 = _; rw [getD_right (by omega), l1, Nat.sub_self]; rfl
      · show (((sL x k).2 ++ [_]).getD k bl0).b = _; rw [getD_right (by omega), l2, Nat.sub_self]; rfl
/-- the greatest sum -/
def MaxV (ps : List Pt) (D : Int → Nat → Int) (k : Nat) (v : Int) : Prop := (∀ p ∈ ps, 0 ≤ D p.n k → p.s + D p.n k ≤ v) ∧ 0 ≤ v ∧ (v = 0 ∨ ∃ p ∈ ps, 0 ≤ D p.n k ∧ v = p.s + D p.n k)
theorem MaxV.uniq {ps : List Pt} {D : Int → Nat → Int} {k : Nat} {v w : Int} (h1 : MaxV ps D k v) (h2 : MaxV ps D k w) : v = w := by
  obtain ⟨a1, a2, a3⟩ := h1
  obtain ⟨b1, b2, b3⟩ := h2
  have hvw : v ≤ w := by
    rcases a3 with e | ⟨p, hp, hd, e⟩
    · omega
    · have := b1 p hp hd; omega
  have hwv : w ≤ v := by
    rcases b3 with e | ⟨p, hp, hd, e⟩
    · omega
    · have := a1 p hp hd; omega
  omega
def accF (D : Int → Nat → Int) (q : Nat) (ps : List Pt) : Int := ps.foldl (fun a p => if 0 ≤ D p.n q then mx a (p.s + D p.n q) else a) 0
theorem acc_snoc (D : Int → Nat → Int) (q : Nat) (ps : List Pt) (p : Pt) : accF D q (ps ++ [p]) = if 0 ≤ D p.n q then mx (accF D q ps) (p.s + D p.n q) else accF D q ps := by unfold accF; rw [List.foldl_append]; rfl
theorem acc_max (D : Int → Nat → Int) (q : Nat) : ∀ (k : Nat) (ps : List Pt), k ≤ ps.length → MaxV (ps.take k) D q (accF D q (ps.take k))
  | 0, ps, _ => ⟨fun p hp => by simp at hp, Int.le_refl _, .inl rfl⟩
  | k + 1, ps, h => by
    obtain ⟨a, b, c⟩ := acc_max D q k ps (by omega)
    rw [take_snocG pt0 (by omega), acc_snoc]
    by_cases hd : 0 ≤ D (ps.getD k pt0).n q
    · rw [if_pos hd]
      obtain ⟨m1, m2, m3⟩ := mx_le (accF D q (ps.take k)) ((ps.getD k pt0).s + D (ps.getD k pt0).n q)
      refine ⟨fun p hp h0 => ?_, by omega, ?_⟩
      · rcases List.mem_append.1 hp with hp | hp
        · have := a p hp h0; omega
        · rw [List.mem_singleton] at hp; subst hp; omega
      · rcases m3 with e | e
        · rcases c with c | ⟨p, hp, h0, c⟩
          · left; omega
          · right; exact ⟨p, List.mem_append_left _ hp, h0, by omega⟩
        · right; exact ⟨_, List.mem_append_right _ (List.mem_singleton.2 rfl), hd, e⟩
    · rw [if_neg hd]
      refine ⟨fun p hp h0 => ?_, b, ?_⟩
      · rcases List.mem_append.1 hp with hp | hp
        · exact a p hp h0
        · rw [List.mem_singleton] at hp; subst hp; exact absurd h0 hd
      · rcases c with c | ⟨p, hp, h0, c⟩
        · left; exact c
        · right; exact ⟨p, List.mem_append_left _ hp, h0, c⟩
/-- a fold of longest delays over some arcs -/
theorem fold_maxS {out : List Int} : ∀ (l : List Arc) (b : Int), (∀ a ∈ l, 0 ≤ a.d) → -1 ≤ b →
    (b ≤ l.foldl (stepD true out) b) ∧ (∀ a ∈ l, 0 ≤ out.getD a.f.toNat 0 → out.getD a.f.toNat 0 + a.d ≤ l.foldl (stepD true out) b) ∧ (l.foldl (stepD true out) b = b ∨ ∃ a ∈ l, 0 ≤ out.getD a.f.toNat 0 ∧ l.foldl (stepD true out) b = out.getD a.f.toNat 0 + a.d)
  | [], b, _, _ => And.intro (Int.le_refl _) (And.intro (fun a ha => absurd ha List.not_mem_nil) (Or.inl rfl))
  | a :: l, b, hd, hb => by
    have hda : 0 ≤ a.d := hd a List.mem_cons_self
    have hs : stepD true out b a = if out.getD a.f.toNat 0 < 0 then b else if b < out.getD a.f.toNat 0 + a.d then out.getD a.f.toNat 0 + a.d else b := by
      unfold stepD
      by_cases h1 : out.getD a.f.toNat 0 < 0
      · rw [if_pos h1, if_pos h1]
      · rw [if_neg h1, if_neg h1]
        by_cases h2 : b < out.getD a.f.toNat 0 + a.d
        · rw [if_pos (.inr (.inl ⟨rfl, h2⟩)), if_pos h2]
        · rw [if_neg h2, if_neg (by rintro (h | ⟨-, h⟩ | ⟨h, -⟩); omega; exact h2 h; cases h)]
    have hb2 : b ≤ stepD true out b a ∧ -1 ≤ stepD true out b a := by rw [hs]; constructor <;> (split <;> (try split) <;> omega)
    obtain ⟨i1, i2, i3⟩ := fold_maxS (out := out) l (stepD true out b a) (fun c hc => hd c (List.mem_cons_of_mem _ hc)) hb2.2
    rw [List.foldl_cons]
    refine ⟨by omega, fun c hc h0 => ?_, ?_⟩
    · rcases List.mem_cons.1 hc with rfl | hc
      · have : out.getD c.f.toNat 0 + c.d ≤ stepD true out b c := by rw [hs, if_neg (by omega)]; split <;> omega
        omega
      · exact i2 c hc h0
    · rcases i3 with e | ⟨c, hc, h0, e⟩
      · by_cases h1 : out.getD a.f.toNat 0 < 0
        · left; rw [e, hs, if_pos h1]
        · by_cases h2 : b < out.getD a.f.toNat 0 + a.d
          · right; exact ⟨a, List.mem_cons_self, by omega, by rw [e, hs, if_neg h1, if_pos h2]⟩
          · left; rw [e, hs, if_neg h1, if_neg h2]
      · right; exact ⟨c, List.mem_cons_of_mem _ hc, h0, e⟩
theorem into_app (u v : List Arc) (k : Nat) : intoL (u ++ v) k = intoL u k ++ intoL v k := List.filter_append ..
theorem into_none {u : List Arc} {k : Nat} (h : ∀ a ∈ u, a.t ≠ (k : Int)) : intoL u k = [] := by
  unfold intoL; rw [List.filter_eq_nil_iff]; intro a ha; simpa using h a ha
theorem into_same {u : List Arc} {k : Nat} (h : ∀ a ∈ u, a.t = (k : Int)) : intoL u k = u := by
  unfold intoL; rw [List.filter_eq_self]; intro a ha; simpa using h a ha
def blkI (x : Td) (i : Nat) : List Arc := (List.range (x.n.ls.getD i lt0).xs.length).map (fun j => ⟨(x.n.ls.getD i lt0).xs.getD j 0, x.n.fst + i, (x.dl.getD i ir0).xs.getD j 0⟩)
theorem blk_t {x : Td} {i : Nat} {a : Arc} (h : a ∈ blkI x i) : a.t = x.n.fst + i := by
  unfold blkI at h; obtain ⟨j, -, rfl⟩ := List.mem_map.1 h; rfl
theorem into_arcL (x : Td) (h0 : 0 ≤ x.n.fst) (i : Nat) : ∀ m, intoL (arcL x m) (x.n.fst + i).toNat = if i < m then blkI x i else []
  | 0 => rfl
  | m + 1 => by
    have e : (((x.n.fst + i).toNat : Nat) : Int) = x.n.fst + i := by omega
    show intoL (arcL x m ++ blkI x m) _ = _
    rw [into_app, into_arcL x h0 i m]
    by_cases h1 : i = m
    · subst h1
      rw [if_neg (by omega), if_pos (by omega), into_same (fun a ha => by rw [e]; exact blk_t ha), List.nil_append]
    · rw [into_none (u := blkI x m) (fun a ha => by rw [e, blk_t ha]; omega), List.append_nil]
      by_cases h2 : i < m
      · rw [if_pos h2, if_pos (by omega)]
      · rw [if_neg h2, if_neg (by omega)]
theorem arcL_t {x : Td} : ∀ {m : Nat} {a : Arc}, a ∈ arcL x m → x.n.fst ≤ a.t ∧ a.t < x.n.fst + m
  | 0, a, h => by cases h
  | m + 1, a, h => by
    rcases List.mem_append.1 (show a ∈ arcL x m ++ blkI x m from h) with h | h
    · have := arcL_t h; omega
    · have := blk_t h; omega
theorem into_arcS (x : Td) {k : Nat} (hk : (k : Int) < x.n.cnt) : ∀ m, intoL (arcS x m) k = intoL (arcL x x.n.ls.length) k
  | 0 => rfl
  | m + 1 => by
    unfold arcS
    rw [into_app, into_arcS x hk m, into_none (u := List.map _ _) (fun a ha => by
      obtain ⟨j, -, rfl⟩ := List.mem_map.1 ha
      show x.n.cnt + (nS x m : Int) + j ≠ k; omega), List.append_nil]
theorem lau_mem {x : Td} {K : Nat} {p : Pt} : p ∈ lauB x K ↔ (∃ q : Nat, q < x.n.ins.toNat ∧ p = ⟨1 + q, 0⟩) ∨ (∃ q : Nat, q < K ∧ p = ⟨1 + x.n.ins + q, x.ks.getD q 0⟩) := by
  unfold lauB lauA
  rw [List.mem_append, List.mem_map, List.mem_map]
  constructor
  · rintro (⟨q, hq, rfl⟩ | ⟨q, hq, rfl⟩)
    · exact .inl ⟨q, List.mem_range.1 hq, rfl⟩
    · exact .inr ⟨q, List.mem_range.1 hq, rfl⟩
  · rintro (⟨q, hq, rfl⟩ | ⟨q, hq, rfl⟩)
    · exact .inl ⟨q, List.mem_range.2 hq, rfl⟩
    · exact .inr ⟨q, List.mem_range.2 hq, rfl⟩
abbrev gsX (x : Td) : List Arc := arcS x x.n.ss.length
abbrev psX (x : Td) : List Pt := lauB x x.ks.length
abbrev DX (x : Td) : Int → Nat → Int := fun s k => Dl true (gsX x) s k
theorem ps_rng {x : Td} (h : TdOk x) {p : Pt} (hp : p ∈ psX x) : 1 ≤ p.n ∧ p.n < x.n.fst ∧ 0 ≤ p.s := by
  have hb := h.bnd
  have hf : x.n.fst = 1 + x.n.ins + x.n.ss.length := rfl
  have h0 := hb.i
  rcases lau_mem.1 hp with ⟨q, hq, rfl⟩ | ⟨q, hq, rfl⟩
  · exact ⟨by show (1 : Int) ≤ 1 + q; omega, by show (1 : Int) + q < _; omega, Int.le_refl _⟩
  · have := h.k.2 q hq
    have := hb.k
    exact ⟨by show (1 : Int) ≤ 1 + x.n.ins + q; omega, by show 1 + x.n.ins + (q : Int) < _; omega, by show 0 ≤ x.ks.getD q 0; omega⟩
theorem leaf_D {x : Td} (h : TdOk x) (s : Int) {k : Nat} (hk : (k : Int) < x.n.fst) : DX x s k = if (k : Int) = s then 0 else -1 := by
  have hb := h.bnd.i
  have hf : x.n.fst = 1 + x.n.ins + x.n.ss.length := rfl
  have hc : x.n.cnt = x.n.fst + x.n.ls.length := rfl
  show Dl true (gsX x) s k = _
  rw [Dl_def, into_arcS x (by omega), into_none (fun a ha => by have := arcL_t ha; omega)]; rfl
theorem gok_x {x : Td} (h : TdOk x) : GOk (x.n.cnt + nS x x.n.ss.length) (gsX x) := by
  have hb := h.bnd
  have hi := hb.i
  have hf : x.n.fst = 1 + x.n.ins + x.n.ss.length := rfl
  have hc : x.n.cnt = x.n.fst + x.n.ls.length := rfl
  have h1 := nS_le h.n x.n.ss.length (Nat.le_refl _)
  have h2 := arcL_le h.n x.n.ls.length (Nat.le_refl _)
  have hs := hb.s
  have hl := hb.l
  have blk : ∀ m, m ≤ x.n.ls.length → ∀ a ∈ arcL x m, ArcOk x.n.cnt a := by
    intro m
    induction m with
    | zero => intro _ a ha; cases ha
    | succ m ih =>
      intro hm a ha
      rcases List.mem_append.1 (show a ∈ arcL x m ++ blkI x m from ha) with ha | ha
      · exact ih (by omega) a ha
      · unfold blkI at ha
        obtain ⟨j, hj, rfl⟩ := List.mem_map.1 ha
        have hj' := List.mem_range.1 hj
        have a1 := (h.n.lt m (by omega)).1.2 j hj'
        have a2 := (h.dl m (by omega)).2 j (by have := (h.dl m (by omega)).1; omega)
        exact ⟨⟨a1.1, a1.2⟩, by show x.n.fst + (m : Int) < _; omega, a2.1, a2.2⟩
  have seq : ∀ m, m ≤ x.n.ss.length → ∀ a ∈ arcS x m, ArcOk (x.n.cnt + nS x m) a := by
    intro m
    induction m with
    | zero => intro _ a ha; have := blk _ (Nat.le_refl _) a ha; exact ⟨this.1, by have := this.2.1; show a.t < x.n.cnt + ((0 : Nat) : Int); omega, this.2.2⟩
    | succ m ih =>
      intro hm a ha
      unfold arcS at ha
      rcases List.mem_append.1 ha with ha | ha
      · have := ih (by omega) a ha
        exact ⟨this.1, by have := this.2.1; show a.t < x.n.cnt + ((nS x m + (x.n.ss.getD m sq0).xs.length : Nat) : Int); omega, this.2.2⟩
      · obtain ⟨j, hj, rfl⟩ := List.mem_map.1 ha
        have hj' := List.mem_range.1 hj
        have a1 := (h.n.sq m (by omega)).2 j hj'
        have a2 := (h.ds m (by omega)).2 j (by have := (h.ds m (by omega)).1; omega)
        exact ⟨⟨a1.1, by show (x.n.ss.getD m sq0).xs.getD j 0 < x.n.cnt + (nS x m : Int) + j; omega⟩, by show x.n.cnt + (nS x m : Int) + j < x.n.cnt + ((nS x m + (x.n.ss.getD m sq0).xs.length : Nat) : Int); omega, a2.1, a2.2⟩
  exact ⟨by omega, by omega, by rw [arcS_len]; omega, seq _ (Nat.le_refl _)⟩
theorem lutS_max (x : Td) (o : List Int) (r : List Bl) (i : Nat) (hd : ∀ j, j < (x.n.ls.getD i lt0).xs.length → 0 ≤ (x.dl.getD i ir0).xs.getD j 0) (ho : ∀ q, 0 ≤ o.getD q 0) : ∀ k, k ≤ (x.n.ls.getD i lt0).xs.length →
    (∀ j, j < k → (r.getD ((x.n.ls.getD i lt0).xs.getD j 0).toNat bl0).b = true → o.getD ((x.n.ls.getD i lt0).xs.getD j 0).toNat 0 + (x.dl.getD i ir0).xs.getD j 0 ≤ (lutS x o r i k).1) ∧ 0 ≤ (lutS x o r i k).1 ∧
    ((lutS x o r i k).1 = 0 ∨ ∃ j, j < k ∧ (r.getD ((x.n.ls.getD i lt0).xs.getD j 0).toNat bl0).b = true ∧ (lutS x o r i k).1 = o.getD ((x.n.ls.getD i lt0).xs.getD j 0).toNat 0 + (x.dl.getD i ir0).xs.getD j 0) ∧
    ((lutS x o r i k).2 = true ↔ ∃ j, j < k ∧ (r.getD ((x.n.ls.getD i lt0).xs.getD j 0).toNat bl0).b = true)
  | 0, _ => ⟨fun j hj => absurd hj (by omega), Int.le_refl _, Or.inl rfl, Iff.intro (fun h => absurd h Bool.false_ne_true) (fun ⟨j, hj, _⟩ => absurd hj (by omega))⟩
  | k + 1, hk => by
    obtain ⟨a, b, c, d⟩ := lutS_max x o r i hd ho k (by omega)
    unfold lutS
    by_cases hr : (r.getD ((x.n.ls.getD i lt0).xs.getD k 0).toNat bl0).b = true
    · rw [if_pos hr]
      obtain ⟨m1, m2, m3⟩ := mx_le (lutS x o r i k).1 (o.getD ((x.n.ls.getD i lt0).xs.getD k 0).toNat 0 + (x.dl.getD i ir0).xs.getD k 0)
      have h1 := hd k (by omega)
      have h2 := ho ((x.n.ls.getD i lt0).xs.getD k 0).toNat
      refine ⟨fun j hj hrj => ?_, by show 0 ≤ mx _ _; omega, ?_, ⟨fun _ => ⟨k, by omega, hr⟩, fun _ => rfl⟩⟩
      · show _ ≤ mx _ _
        by_cases e : j = k
        · subst e; exact m2
        · have := a j (by omega) hrj; omega
      · show mx _ _ = 0 ∨ ∃ j, _ ∧ _ ∧ mx _ _ = _
        rcases m3 with e | e
        · rcases c with c | ⟨j, hj, hrj, c⟩
          · left; rw [e]; exact c
          · right; exact ⟨j, by omega, hrj, by rw [e]; exact c⟩
        · right; exact ⟨k, by omega, hr, e⟩
    · rw [if_neg hr]
      refine ⟨fun j hj hrj => ?_, b, ?_, ?_⟩
      · by_cases e : j = k
        · subst e; exact absurd hrj hr
        · exact a j (by omega) hrj
      · rcases c with c | ⟨j, hj, hrj, c⟩
        · left; exact c
        · right; exact ⟨j, by omega, hrj, c⟩
      · rw [d]
        constructor
        · rintro ⟨j, hj, hrj⟩; exact ⟨j, by omega, hrj⟩
        · rintro ⟨j, hj, hrj⟩
          by_cases e : j = k
          · subst e; exact absurd hrj hr
          · exact ⟨j, by omega, hrj⟩
theorem settle_max {x : Td} (h : TdOk x) : ∀ (N k : Nat), k < N → (k : Int) < x.n.cnt → MaxV (psX x) (DX x) k (stp x (sL x k).1 (sL x k).2 k).1 ∧ ((stp x (sL x k).1 (sL x k).2 k).2 = true ↔ ∃ p ∈ psX x, 0 ≤ DX x p.n k)
  | 0, k, hN, _ => by omega
  | N + 1, k, hN, hk => by
    have hb := h.bnd
    have hi := hb.i
    have hf : x.n.fst = 1 + x.n.ins + x.n.ss.length := rfl
    have hc : x.n.cnt = x.n.fst + x.n.ls.length := rfl
    by_cases hleaf : (k : Int) < x.n.fst
    · have hD : ∀ s, DX x s k = if (k : Int) = s then 0 else -1 := fun s => leaf_D h s hleaf
      have hpk : ∀ p ∈ psX x, 0 ≤ DX x p.n k → p.n = k ∧ DX x p.n k = 0 := fun p hp h0 => by
        rw [hD] at h0 ⊢
        by_cases e : (k : Int) = p.n
        · rw [if_pos e]; exact ⟨e.symm, rfl⟩
        · rw [if_neg e] at h0; omega
      unfold stp
      by_cases h0 : k = 0
      · rw [if_pos h0]
        have hno : ∀ p ∈ psX x, ¬ 0 ≤ DX x p.n k := fun p hp h9 => by have := (hpk p hp h9).1; have := (ps_rng h hp).1; omega
        exact ⟨⟨fun p hp h9 => absurd h9 (hno p hp), Int.le_refl _, .inl rfl⟩, ⟨fun h9 => absurd h9 Bool.false_ne_true, fun ⟨p, hp, h9⟩ => absurd h9 (hno p hp)⟩⟩
      · rw [if_neg h0]
        by_cases h1 : (k : Int) ≤ x.n.ins
        · rw [if_pos h1]
          have hmem : (⟨k, 0⟩ : Pt) ∈ psX x := lau_mem.2 (.inl ⟨k - 1, by omega, by rw [show (1 : Int) + ((k - 1 : Nat) : Int) = k by omega]⟩)
          have hdk : 0 ≤ DX x (k : Int) k := by rw [hD, if_pos rfl]; exact Int.le_refl _
          refine ⟨⟨fun p hp h9 => ?_, Int.le_refl _, .inl rfl⟩, ⟨fun _ => ⟨_, hmem, hdk⟩, fun _ => rfl⟩⟩
          obtain ⟨e1, e2⟩ := hpk p hp h9
          rw [e2]
          rcases lau_mem.1 hp with ⟨q, hq, rfl⟩ | ⟨q, hq, rfl⟩
          · exact Int.le_refl _
          · exfalso; have e3 : 1 + x.n.ins + (q : Int) = k := e1; omega
        · rw [if_neg h1, if_pos hleaf]
          have hq0 : ((k : Int) - 1 - x.n.ins).toNat < x.ks.length := by have := hb.k; omega
          have hmem : (⟨k, x.ks.getD ((k : Int) - 1 - x.n.ins).toNat 0⟩ : Pt) ∈ psX x := lau_mem.2 (.inr ⟨((k : Int) - 1 - x.n.ins).toNat, hq0, by rw [show 1 + x.n.ins + ((((k : Int) - 1 - x.n.ins).toNat : Nat) : Int) = k by omega]⟩)
          have hdk : DX x (k : Int) k = 0 := by rw [hD, if_pos rfl]
          have hs0 := (h.k.2 _ hq0).1
          refine ⟨⟨fun p hp h9 => ?_, hs0, .inr ⟨_, hmem, by show 0 ≤ DX x (k : Int) k; omega, by show _ = _ + DX x (k : Int) k; rw [hdk]; exact (Int.add_zero _).symm⟩⟩, ⟨fun _ => ⟨_, hmem, by show 0 ≤ DX x (k : Int) k; omega⟩, fun _ => rfl⟩⟩
          obtain ⟨e1, e2⟩ := hpk p hp h9
          rw [e2]
          rcases lau_mem.1 hp with ⟨q, hq, rfl⟩ | ⟨q, hq, rfl⟩
          · exfalso; have e3 : 1 + (q : Int) = k := e1; omega
          · have e3 : 1 + x.n.ins + (q : Int) = k := e1
            show x.ks.getD q 0 + 0 ≤ _
            rw [show ((k : Int) - 1 - x.n.ins).toNat = q by omega]; omega
    · obtain ⟨i, hik⟩ : ∃ i : Nat, (k : Int) = x.n.fst + i := ⟨((k : Int) - x.n.fst).toNat, by omega⟩
      have hil : i < x.n.ls.length := by omega
      have hki : k = (x.n.fst + i).toNat := by omega
      have hlt := h.n.lt i hil
      have hdl := h.dl i hil
      have hX : ∀ j, j < (x.n.ls.getD i lt0).xs.length → 0 ≤ (x.n.ls.getD i lt0).xs.getD j 0 ∧ (x.n.ls.getD i lt0).xs.getD j 0 < x.n.fst + i := fun j hj => hlt.1.2 j hj
      have hd : ∀ j, j < (x.n.ls.getD i lt0).xs.length → 0 ≤ (x.dl.getD i ir0).xs.getD j 0 := fun j hj => (hdl.2 j (by have := hdl.1; omega)).1
      have IH : ∀ j, j < (x.n.ls.getD i lt0).xs.length → MaxV (psX x) (DX x) ((x.n.ls.getD i lt0).xs.getD j 0).toNat ((sL x k).1.getD ((x.n.ls.getD i lt0).xs.getD j 0).toNat 0) ∧ (((sL x k).2.getD ((x.n.ls.getD i lt0).xs.getD j 0).toNat bl0).b = true ↔ ∃ p ∈ psX x, 0 ≤ DX x p.n ((x.n.ls.getD i lt0).xs.getD j 0).toNat) := fun j hj => by
        have := hX j hj
        obtain ⟨e1, e2⟩ := sL_pre x k ((x.n.ls.getD i lt0).xs.getD j 0).toNat (by omega)
        rw [e1, e2]
        exact settle_max h N _ (by omega) (by omega)
      have ho : ∀ q, 0 ≤ (sL x k).1.getD q 0 := fun q => by
        by_cases hq : q < k
        · rw [(sL_pre x k q hq).1]; exact (settle_max h N q (by omega) (by omega)).1.2.1
        · rw [List.getD_eq_getElem?_getD, List.getElem?_eq_none (by have := (sL_len x k).1; omega)]; exact Int.le_refl _
      have hst : stp x (sL x k).1 (sL x k).2 k = lutS x (sL x k).1 (sL x k).2 i (x.n.ls.getD i lt0).xs.length := by
        unfold stp
        rw [if_neg (by omega), if_neg (by omega), if_neg hleaf, show ((k : Int) - x.n.fst).toNat = i by omega]
      obtain ⟨a, b, c, d⟩ := lutS_max x (sL x k).1 (sL x k).2 i hd ho _ (Nat.le_refl _)
      rw [hst]
      -- a point's delay at the table
      have hDk : ∀ p ∈ psX x, (∀ j, j < (x.n.ls.getD i lt0).xs.length → 0 ≤ DX x p.n ((x.n.ls.getD i lt0).xs.getD j 0).toNat → DX x p.n ((x.n.ls.getD i lt0).xs.getD j 0).toNat + (x.dl.getD i ir0).xs.getD j 0 ≤ DX x p.n k) ∧
          (0 ≤ DX x p.n k → ∃ j, j < (x.n.ls.getD i lt0).xs.length ∧ 0 ≤ DX x p.n ((x.n.ls.getD i lt0).xs.getD j 0).toNat ∧ DX x p.n k = DX x p.n ((x.n.ls.getD i lt0).xs.getD j 0).toNat + (x.dl.getD i ir0).xs.getD j 0) := fun p hp => by
        have hpr := ps_rng h hp
        have hE : DX x p.n k = (blkI x i).foldl (stepD true (delL true (gsX x) p.n k)) (-1) := by
          show Dl true (gsX x) p.n k = _
          rw [Dl_def, if_neg (by omega), into_arcS x hk, hki, into_arcL x (by omega) i, if_pos hil]
        have hat : ∀ j, j < (x.n.ls.getD i lt0).xs.length → (delL true (gsX x) p.n k).getD ((x.n.ls.getD i lt0).xs.getD j 0).toNat 0 = DX x p.n ((x.n.ls.getD i lt0).xs.getD j 0).toNat := fun j hj => by
          have := hX j hj; exact del_at true (gsX x) p.n k _ (by omega)
        obtain ⟨f1, f2, f3⟩ := fold_maxS (out := delL true (gsX x) p.n k) (blkI x i) (-1) (fun q hq => by unfold blkI at hq; obtain ⟨j, hj, rfl⟩ := List.mem_map.1 hq; exact hd j (List.mem_range.1 hj)) (Int.le_refl _)
        rw [← hE] at f1 f2 f3
        refine ⟨fun j hj h9 => ?_, fun h9 => ?_⟩
        · have := f2 ⟨(x.n.ls.getD i lt0).xs.getD j 0, x.n.fst + i, (x.dl.getD i ir0).xs.getD j 0⟩ (by unfold blkI; exact List.mem_map.2 ⟨j, List.mem_range.2 hj, rfl⟩) (by rw [hat j hj]; exact h9)
          rw [hat j hj] at this; exact this
        · rcases f3 with e | ⟨q, hq, h8, e⟩
          · omega
          · unfold blkI at hq
            obtain ⟨j, hj, rfl⟩ := List.mem_map.1 hq
            have hj' := List.mem_range.1 hj
            exact ⟨j, hj', by rw [← hat j hj']; exact h8, by rw [← hat j hj']; exact e⟩
      have up : ∀ p ∈ psX x, 0 ≤ DX x p.n k → p.s + DX x p.n k ≤ (lutS x (sL x k).1 (sL x k).2 i (x.n.ls.getD i lt0).xs.length).1 := fun p hp h9 => by
        obtain ⟨j, hj, h8, e⟩ := (hDk p hp).2 h9
        have h7 := (IH j hj).1.1 p hp h8
        have h6 := a j hj ((IH j hj).2.2 ⟨p, hp, h8⟩)
        rw [e]; omega
      refine ⟨⟨up, b, ?_⟩, ?_⟩
      · rcases c with c | ⟨j, hj, hrj, c⟩
        · left; exact c
        · right
          obtain ⟨p0, hp0, hd0⟩ := (IH j hj).2.1 hrj
          obtain ⟨p, hp, h8, e⟩ : ∃ p ∈ psX x, 0 ≤ DX x p.n ((x.n.ls.getD i lt0).xs.getD j 0).toNat ∧ (sL x k).1.getD ((x.n.ls.getD i lt0).xs.getD j 0).toNat 0 = p.s + DX x p.n ((x.n.ls.getD i lt0).xs.getD j 0).toNat := by
            rcases (IH j hj).1.2.2 with e | e
            · have h7 := (IH j hj).1.1 p0 hp0 hd0
              have h6 := (ps_rng h hp0).2.2
              exact ⟨p0, hp0, hd0, by omega⟩
            · exact e
          have h5 := (hDk p hp).1 j hj h8
          have h4 := hd j hj
          have h3 := up p hp (by omega)
          exact ⟨p, hp, by omega, by omega⟩
      · rw [d]
        constructor
        · rintro ⟨j, hj, hrj⟩
          obtain ⟨p, hp, h8⟩ := (IH j hj).2.1 hrj
          have h5 := (hDk p hp).1 j hj h8
          have h4 := hd j hj
          exact ⟨p, hp, by omega⟩
        · rintro ⟨p, hp, h9⟩
          obtain ⟨j, hj, h8, -⟩ := (hDk p hp).2 h9
          exact ⟨j, hj, (IH j hj).2.2 ⟨p, hp, h8⟩⟩
/-- the settle times of both -/
def setL (x : Td) : List Int := (List.range x.n.cnt.toNat).map (fun q => accF (DX x) q (psX x))
theorem settle_eq {x : Td} (h : TdOk x) : (sL x x.n.cnt.toNat).1 = setL x := by
  have hb := h.bnd.i
  have hc : x.n.cnt = 1 + x.n.ins + x.n.ss.length + x.n.ls.length := rfl
  refine ext_getD (d := 0) (by rw [(sL_len x _).1]; simp [setL]) (fun q hq => ?_)
  rw [(sL_len x _).1] at hq
  rw [(sL_pre x _ q hq).1]
  have h1 := (settle_max h (q + 1) q (by omega) (by omega)).1
  have h2 := acc_max (DX x) q (psX x).length (psX x) (Nat.le_refl _)
  rw [List.take_length] at h2
  rw [h1.uniq h2]
  simp [setL, hq]
noncomputable def setR (x : Td) : List Int := if pB (TdOk x) = true then setL x else []
theorem gs_same {x y : Td} (h : Same x y) : gsX y = gsX x := by show arcS y y.n.ss.length = arcS x x.n.ss.length; rw [arcS_same h, map_len h.ss]
theorem ps_same {x y : Td} (h : Same x y) : psX y = psX x := by unfold psX lauB; rw [h.ins, h.ks]
theorem setR_same {x y : Td} (h : Same x y) : setR y = setR x := by
  unfold setR setL DX
  rw [pB_same h, ps_same h, gs_same h, h.cnt]
def fzB (C : Nat) (vs : List Bl) : List Bl := vs ++ List.replicate (C - vs.length) bl0
theorem fzB_len {C : Nat} {vs : List Bl} (h : vs.length ≤ C) : (fzB C vs).length = C := by simp [fzB]; omega
theorem fzB_set {C : Nat} {vs : List Bl} {x : Bl} {j : Nat} (hj : j = vs.length) (h : vs.length < C) : (fzB C vs).set j x = fzB C (vs ++ [x]) := by
  subst hj
  unfold fzB
  rw [List.set_append_right _ _ (Nat.le_refl _), Nat.sub_self, List.length_append, List.length_singleton, show C - vs.length = (C - (vs.length + 1)) + 1 by omega, List.replicate_succ, List.set_cons_zero]
  simp
theorem fz_zero {C : Nat} {vs : List Int} (h : vs.length < C) : fzT C (vs ++ [0]) = fzT C vs := by
  unfold fzT
  rw [List.length_append, List.length_singleton, show C - vs.length = (C - (vs.length + 1)) + 1 by omega, List.replicate_succ, List.append_assoc]; rfl
theorem fzB_zero {C : Nat} {vs : List Bl} (h : vs.length < C) : fzB C (vs ++ [⟨false⟩]) = fzB C vs := by
  unfold fzB
  rw [List.length_append, List.length_singleton, show C - vs.length = (C - (vs.length + 1)) + 1 by omega, List.replicate_succ, List.append_assoc]; rfl
theorem fz_reset {C : Nat} {vs : List Int} {a b : Int} {j : Nat} (hj : j = vs.length) (h : vs.length < C) : (fzT C (vs ++ [a])).set j b = fzT C (vs ++ [b]) := by
  subst hj
  unfold fzT
  rw [List.append_assoc, List.set_append_right _ _ (Nat.le_refl _), Nat.sub_self, List.length_append, List.length_append, List.append_assoc]; rfl
theorem fzB_reset {C : Nat} {vs : List Bl} {a b : Bl} {j : Nat} (hj : j = vs.length) (h : vs.length < C) : (fzB C (vs ++ [a])).set j b = fzB C (vs ++ [b]) := by
  subst hj
  unfold fzB
  rw [List.append_assoc, List.set_append_right _ _ (Nat.le_refl _), Nat.sub_self, List.length_append, List.length_append, List.append_assoc]; rfl
theorem sL_one (x : Td) : sL x 1 = ([0], [⟨false⟩]) := rfl
theorem st_first (x : Td) {C : Nat} (h : 1 ≤ C) : List.replicate C (0 : Int) = fzT C (sL x 1).1 ∧ List.replicate C bl0 = fzB C (sL x 1).2 := by
  rw [sL_one]
  refine ⟨fz_one h, ?_⟩
  have := fzB_zero (vs := []) (C := C) (by simp; omega)
  rw [List.nil_append] at this
  rw [this]; simp [fzB]
theorem st_in {x : Td} {m C : Nat} {zs : List Int} {bs : List Bl} (h0 : 1 ≤ m) (h1 : (m : Int) ≤ x.n.ins) (hC : m < C) (hz : zs = fzT C (sL x m).1) (hb : bs = fzB C (sL x m).2) : zs = fzT C (sL x (m + 1)).1 ∧ bs.set m ⟨true⟩ = fzB C (sL x (m + 1)).2 := by
  obtain ⟨l1, l2⟩ := sL_len x m
  have e : stp x (sL x m).1 (sL x m).2 m = (0, true) := by unfold stp; rw [if_neg (by omega), if_pos h1]
  rw [sL_succ, e]
  exact ⟨by show zs = fzT C ((sL x m).1 ++ [0]); rw [fz_zero (by omega)]; exact hz, by rw [hb]; exact fzB_set (by omega) (by omega)⟩
theorem st_seq {x : Td} {m C : Nat} {zs : List Int} {bs : List Bl} (h0 : ¬ (m : Int) ≤ x.n.ins) (hi : 0 ≤ x.n.ins) (h1 : (m : Int) < x.n.fst) (hC : m < C) (hz : zs = fzT C (sL x m).1) (hb : bs = fzB C (sL x m).2) :
    zs.set m (x.ks.getD ((m : Int) - 1 - x.n.ins).toNat 0) = fzT C (sL x (m + 1)).1 ∧ bs.set m ⟨true⟩ = fzB C (sL x (m + 1)).2 := by
  obtain ⟨l1, l2⟩ := sL_len x m
  have e : stp x (sL x m).1 (sL x m).2 m = (x.ks.getD ((m : Int) - 1 - x.n.ins).toNat 0, true) := by unfold stp; rw [if_neg (by omega), if_neg h0, if_pos h1]
  rw [sL_succ, e]
  exact ⟨by rw [hz]; exact fz_set (by omega) (by omega), by rw [hb]; exact fzB_set (by omega) (by omega)⟩
theorem st_lut {x : Td} {m C i : Nat} {zs : List Int} {bs : List Bl} (hi : 0 ≤ x.n.ins) (hm : (m : Int) - x.n.fst = i) (hz : zs = fzT C ((sL x m).1 ++ [(lutS x (sL x m).1 (sL x m).2 i (x.n.ls.getD i lt0).xs.length).1])) (hb : bs = fzB C ((sL x m).2 ++ [⟨(lutS x (sL x m).1 (sL x m).2 i (x.n.ls.getD i lt0).xs.length).2⟩])) :
    zs = fzT C (sL x (m + 1)).1 ∧ bs = fzB C (sL x (m + 1)).2 := by
  have hf : x.n.fst = 1 + x.n.ins + x.n.ss.length := rfl
  have e : stp x (sL x m).1 (sL x m).2 m = lutS x (sL x m).1 (sL x m).2 i (x.n.ls.getD i lt0).xs.length := by
    unfold stp; rw [if_neg (by omega), if_neg (by omega), if_neg (by omega), show ((m : Int) - x.n.fst).toNat = i by omega]
  rw [sL_succ, e]; exact ⟨hz, hb⟩
theorem lut_yes {x : Td} {o : List Int} {r : List Bl} {i j : Nat} (h : (r.getD ((x.n.ls.getD i lt0).xs.getD j 0).toNat bl0).b = true) : lutS x o r i (j + 1) = (mx (lutS x o r i j).1 (o.getD ((x.n.ls.getD i lt0).xs.getD j 0).toNat 0 + (x.dl.getD i ir0).xs.getD j 0), true) := if_pos h
theorem lut_no {x : Td} {o : List Int} {r : List Bl} {i j : Nat} (h : (r.getD ((x.n.ls.getD i lt0).xs.getD j 0).toNat bl0).b = false) : lutS x o r i (j + 1) = lutS x o r i j := if_neg (by rw [h]; decide)
theorem o_bnd {x : Td} (h : TdOk x) {m : Nat} (hm : (m : Int) ≤ x.n.cnt) {q : Nat} (hq : q < m) : 0 ≤ (sL x m).1.getD q 0 ∧ (sL x m).1.getD q 0 ≤ 100000 := by
  have hb := h.bnd
  have hi := hb.i
  have hs := hb.s
  have hl := hb.l
  have hc : x.n.cnt = 1 + x.n.ins + x.n.ss.length + x.n.ls.length := rfl
  rw [(sL_pre x m q hq).1]
  obtain ⟨a, b, c⟩ := (settle_max h (q + 1) q (by omega) (by omega)).1
  refine ⟨b, ?_⟩
  rcases c with c | ⟨p, hp, h0, c⟩
  · omega
  · have h1 := (Dl_rng (gok_x h) true p.n (q + 1) q (by omega)).2
    have h2 : p.s ≤ 50 := by
      rcases lau_mem.1 hp with ⟨t, ht, rfl⟩ | ⟨t, ht, rfl⟩
      · show (0 : Int) ≤ 50; decide
      · exact (h.k.2 t ht).2
    have h3 : DX x p.n q ≤ 100 * (q : Int) := h1
    omega
def accL (x : Td) (i k : Nat) : List Int := (List.range x.n.cnt.toNat).map (fun q => accF (DX x) q ((psX x).take (if q < k then i + 1 else i)))
theorem accL_len (x : Td) (i k : Nat) : (accL x i k).length = x.n.cnt.toNat := by simp [accL]
theorem accL_at (x : Td) (i k : Nat) {q : Nat} (h : q < x.n.cnt.toNat) : (accL x i k).getD q 0 = accF (DX x) q ((psX x).take (if q < k then i + 1 else i)) := by simp [accL, h]
theorem accL_start (x : Td) : List.replicate x.n.cnt.toNat (0 : Int) = accL x 0 0 := by
  refine ext_getD (d := 0) (by rw [accL_len]; simp) (fun q hq => ?_)
  rw [List.length_replicate] at hq
  rw [accL_at x 0 0 hq, if_neg (by omega)]
  simp [accF, hq]
theorem accL_next (x : Td) (i : Nat) : accL x i x.n.cnt.toNat = accL x (i + 1) 0 := by
  refine ext_getD (d := 0) (by rw [accL_len, accL_len]) (fun q hq => ?_)
  rw [accL_len] at hq
  rw [accL_at x i _ hq, accL_at x (i + 1) 0 hq, if_pos hq, if_neg (by omega)]
theorem accL_all (x : Td) : accL x (psX x).length 0 = setL x := by
  unfold accL setL
  congr 1; funext q
  rw [if_neg (by omega), List.take_length]
theorem acc_at (x : Td) {i k : Nat} (hi : i < (psX x).length) : accF (DX x) k ((psX x).take (i + 1)) = if 0 ≤ DX x ((psX x).getD i pt0).n k then mx (accF (DX x) k ((psX x).take i)) (((psX x).getD i pt0).s + DX x ((psX x).getD i pt0).n k) else accF (DX x) k ((psX x).take i) := by
  rw [take_snocG pt0 hi, acc_snoc]
theorem accL_yes {x : Td} {i k : Nat} (hi : i < (psX x).length) (hk : k < x.n.cnt.toNat) (hd : 0 ≤ DX x ((psX x).getD i pt0).n k) {v : Int} (hv : v = mx ((accL x i k).getD k 0) (((psX x).getD i pt0).s + DX x ((psX x).getD i pt0).n k)) : (accL x i k).set k v = accL x i (k + 1) := by
  subst hv
  refine ext_getD (d := 0) (by rw [List.length_set, accL_len, accL_len]) (fun q hq => ?_)
  rw [List.length_set, accL_len] at hq
  rw [accL_at x i (k + 1) hq]
  by_cases e : q = k
  · subst e
    rw [set_selfG (by rw [accL_len]; exact hq), accL_at x i q hq, if_neg (by omega), if_pos (by omega), acc_at x hi, if_pos hd]
  · rw [set_neG (fun h => e h.symm), accL_at x i k hq]
    by_cases h2 : q < k
    · rw [if_pos h2, if_pos (by omega)]
    · rw [if_neg h2, if_neg (by omega)]
theorem accL_no {x : Td} {i k : Nat} (hi : i < (psX x).length) (hd : ¬ 0 ≤ DX x ((psX x).getD i pt0).n k) : accL x i k = accL x i (k + 1) := by
  refine ext_getD (d := 0) (by rw [accL_len, accL_len]) (fun q hq => ?_)
  rw [accL_len] at hq
  rw [accL_at x i k hq, accL_at x i (k + 1) hq]
  by_cases e : q = k
  · subst e; rw [if_neg (by omega), if_pos (by omega), acc_at x hi, if_neg hd]
  · by_cases h2 : q < k
    · rw [if_pos h2, if_pos (by omega)]
    · rw [if_neg h2, if_neg (by omega)]
theorem nodR_ok {x : Td} (h : TdOk x) : nodR x = x.n.cnt + nS x x.n.ss.length := by unfold nodR; rw [if_pos (pB_yes h)]
theorem arcR_ok {x : Td} (h : TdOk x) : arcR x = gsX x := by unfold arcR; rw [if_pos (pB_yes h)]
theorem lauR_ok {x : Td} (h : TdOk x) : lauR x = psX x := by unfold lauR; rw [if_pos (pB_yes h)]
theorem setR_ok {x : Td} (h : TdOk x) : setR x = setL x := by unfold setR; rw [if_pos (pB_yes h)]
theorem setR_no {x : Td} (h : ¬ TdOk x) : setR x = [] := by unfold setR; rw [pB_no h]; rfl
theorem ps_at {x : Td} (h : TdOk x) {i : Nat} (hi : i < (psX x).length) : (1 ≤ ((psX x).getD i pt0).n ∧ ((psX x).getD i pt0).n < x.n.fst) ∧ 0 ≤ ((psX x).getD i pt0).s ∧ ((psX x).getD i pt0).s ≤ 50 := by
  have hm := getD_memX (l := psX x) (d := pt0) hi
  obtain ⟨a, b, c⟩ := ps_rng h hm
  refine ⟨⟨a, b⟩, c, ?_⟩
  rcases lau_mem.1 hm with ⟨t, ht, e⟩ | ⟨t, ht, e⟩
  · rw [e]; show (0 : Int) ≤ 50; decide
  · rw [e]; exact (h.k.2 t ht).2
end Go.Proofs.Ytceebbcoikgocaa
