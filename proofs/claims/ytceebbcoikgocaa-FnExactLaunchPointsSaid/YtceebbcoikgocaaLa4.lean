/- Texts of the law FnExactLaunchPoints, part 4: what it uses. -/
import Derived.Test.YtceebbcoikgocaaLa3
set_option linter.unusedVariables false
set_option linter.unusedSimpArgs false
namespace Go.Proofs.Ytceebbcoikgocaa
open Go.RowKit Go.ChangeShapes
open Go.RowKit
set_option maxHeartbeats 4000000 in
set_option maxRecDepth 100000 in
theorem specTimedOk_ans (x : Td) (w : World) (hr : RdsTd w x) :
  Calls Try.prog 11 #[.agg #[.int .i64 x.n.ins, x.n.sv, x.n.lv, x.n.ov, x.pv, x.qv, x.kv, x.av, x.bv, .int .i64 x.oi, .int .i64 x.ni]] w (Ans w (.bool (pB (TdOk x)))) := by
 have t1 := sml hr.ks
 have t2 := sml hr.ao
 have t3 := sml hr.bs
 have t4 := hr.dl.small
 have t5 := hr.ds.small
 have t6 := hr.n.sq.small
 have t7 := hr.n.lt.small
 have t8 := sml hr.n.ou
 have hcnt : x.n.cnt = 1 + x.n.ins + x.n.ss.length + x.n.ls.length := rfl
 have hfst : x.n.fst = 1 + x.n.ins + x.n.ss.length := rfl
 refine calls_hc (N := 99) (args := [.agg #[.int .i64 x.n.ins, x.n.sv, x.n.lv, x.n.ov, x.pv, x.qv, x.kv, x.av, x.bv, .int .i64 x.oi, .int .i64 x.ni]]) Try.func11 rfl rfl ?_
 refine hc_less _ (sx 0 rfl (sub_nil _)) (.refl _) ?_
 refine hc_seq ?_
 refine hc_region ?_
 refine hl_box rfl rfl rfl (rq_box rfl rfl) ?_
 intro b1
 refine hl_v rfl rfl rfl (rv_ev rfl) ?_
 refine hl_less (sx 0 rfl (sx 1 rfl (sx 2 rfl (sub_nil _)))) (.refl _) ?_
 refine hl_nil ?_
 refine hq_then ?_
 refine hc_seq ?_
 refine hc_seq ?_
 refine hc_region ?_
 refine hl_v rfl rfl rfl (rv_field (k0 := 0) rfl (by kernel_rfl) rfl) ?_
 refine hl_v rfl rfl rfl (rv_loadN (cs := [.int .i64 x.n.ins, x.n.sv, x.n.lv, x.n.ov]) rfl (by kernel_rfl) (by kernel_rfl) rfl rfl (box_part 0 rfl 0 rfl)) ?_
 refine hl_v rfl rfl rfl (rv_field (k0 := 7) rfl (by kernel_rfl) rfl) ?_
 refine hl_v rfl rfl rfl (rv_load rfl (by kernel_rfl) rfl (box_cell 0 rfl rfl)) ?_
 refine hl_callV rfl rfl rfl (rq_call (by kernel_rfl) rfl (fun w hm => ret_ans (specLutStateOk_ans x.n x.ao _ w (hr.n.below hm.bel) (hr.ao.below hm.bel)))) ?_
 refine hl_bool (fun h2 => ?_) (fun h2 => ?_)
 ·
  have hSao := of_pB h2
  refine hl_v rfl rfl rfl (rv_ev rfl) ?_
  refine hl_v rfl rfl rfl (rv_ev rfl) ?_
  refine hl_v rfl rfl rfl (rv_field (k0 := 0) rfl (by kernel_rfl) rfl) ?_
  refine hl_v rfl rfl rfl (rv_loadN (cs := [.int .i64 x.n.ins, x.n.sv, x.n.lv, x.n.ov]) rfl (by kernel_rfl) (by kernel_rfl) rfl rfl (box_part 0 rfl 0 rfl)) ?_
  refine hl_v rfl rfl rfl (rv_field (k0 := 8) rfl (by kernel_rfl) rfl) ?_
  refine hl_v rfl rfl rfl (rv_load rfl (by kernel_rfl) rfl (box_cell 0 rfl rfl)) ?_
  refine hl_callV rfl rfl rfl (rq_call (by kernel_rfl) rfl (fun w hm => ret_ans (specLutStateOk_ans x.n x.bs _ w (hr.n.below hm.bel) (hr.bs.below hm.bel)))) ?_
  refine hl_bool (fun h3 => ?_) (fun h3 => ?_)
  ·
   have hSbs := of_pB h3
   refine hl_v rfl rfl rfl (rv_ev rfl) ?_
   refine hl_v rfl rfl rfl (rv_ev rfl) ?_
   refine hl_v rfl rfl rfl (rv_ev rfl) ?_
   refine hl_v rfl rfl rfl (rv_field (k0 := 4) rfl (by kernel_rfl) rfl) ?_
   refine hl_v rfl rfl rfl (rv_field (k0 := 0) rfl (by kernel_rfl) rfl) ?_
   refine hl_v rfl rfl rfl (rv_load rfl (by kernel_rfl) rfl (box_cell 0 rfl rfl)) ?_
   refine hl_v rfl rfl rfl (rv_len rfl Try.underlying27 rfl (rd_old ((hr).dl.row))) ?_
   refine hl_v rfl rfl rfl (rv_field (k0 := 0) rfl (by kernel_rfl) rfl) ?_
   refine hl_v rfl rfl rfl (rv_field (k0 := 2) rfl (by kernel_rfl) rfl) ?_
   refine hl_v rfl rfl rfl (rv_load rfl (by kernel_rfl) rfl (box_cell 0 rfl rfl)) ?_
   refine hl_v rfl rfl rfl (rv_len rfl Try.underlying35 rfl (rd_old ((hr).n.lt.row))) ?_
   refine hl_neq rfl rfl rfl rfl rfl rfl (fun h4 => ?_) (fun h4 => ?_)
   ·
    refine hl_v rfl rfl rfl (rv_ev rfl) ?_
    refine hl_v rfl rfl rfl (rv_ev rfl) ?_
    refine hl_skip rfl rfl rfl ?_
    refine hl_skip rfl rfl rfl ?_
    refine hl_skip rfl rfl rfl ?_
    refine hl_skip rfl rfl rfl ?_
    refine hl_skip rfl rfl rfl ?_
    refine hl_skip rfl rfl rfl ?_
    refine hl_skip rfl rfl rfl ?_
    refine hl_skip rfl rfl rfl ?_
    refine hl_skip rfl rfl rfl ?_
    refine hl_v rfl rfl rfl (rv_ev rfl) ?_
    refine hl_v rfl rfl rfl (rv_ev rfl) ?_
    refine hl_skip rfl rfl rfl ?_
    refine hl_skip rfl rfl rfl ?_
    refine hl_skip rfl rfl rfl ?_
    refine hl_skip rfl rfl rfl ?_
    refine hl_skip rfl rfl rfl ?_
    refine hl_skip rfl rfl rfl ?_
    refine hl_skip rfl rfl rfl ?_
    refine hl_skip rfl rfl rfl ?_
    refine hl_v rfl rfl rfl (rv_ev rfl) ?_
    refine hl_less (sx 0 rfl (sx 1 rfl (sx 2 rfl (sx 50 rfl (sub_nil _))))) (.refl _) ?_
    refine hl_nil ?_
    refine hq_then ?_
    refine hc_true rfl ?_
    refine hc_seq ?_
    refine hc_region ?_
    refine hl_v rfl rfl rfl (rv_ev rfl) ?_
    refine hl_less (sx 0 rfl (sx 1 rfl (sx 2 rfl (sx 50 rfl (sub_nil _))))) (.refl _) ?_
    refine hl_nil ?_
    refine hq_then ?_
    refine hc_ret ?_
    refine hq_then_ret ?_
    exact hq_ans rfl rfl (congrArg _ (pB_no (fun hp => by first | (exact hSao ⟨hp.n, hp.a⟩) | (exact hSbs ⟨hp.n, hp.b⟩) | (exact hK hp.k) | (have h9 := hp.dn; omega) | (have h9 := hp.sn; omega) | (exact absurd (hp.dl i (by omega)) (by assumption)) | (exact absurd (hp.ds k (by omega)) (by assumption)))).symm)
   ·
    refine hl_v rfl rfl rfl (rv_ev rfl) ?_
    refine hl_v rfl rfl rfl (rv_ev rfl) ?_
    refine hl_v rfl rfl rfl (rv_field (k0 := 4) rfl (by kernel_rfl) rfl) ?_
    refine hl_v rfl rfl rfl (rv_field (k0 := 1) rfl (by kernel_rfl) rfl) ?_
    refine hl_v rfl rfl rfl (rv_load rfl (by kernel_rfl) rfl (box_cell 0 rfl rfl)) ?_
    refine hl_v rfl rfl rfl (rv_len rfl Try.underlying27 rfl (rd_old ((hr).ds.row))) ?_
    refine hl_v rfl rfl rfl (rv_field (k0 := 0) rfl (by kernel_rfl) rfl) ?_
    refine hl_v rfl rfl rfl (rv_field (k0 := 1) rfl (by kernel_rfl) rfl) ?_
    refine hl_v rfl rfl rfl (rv_load rfl (by kernel_rfl) rfl (box_cell 0 rfl rfl)) ?_
    refine hl_v rfl rfl rfl (rv_len rfl Try.underlying34 rfl (rd_old ((hr).n.sq.row))) ?_
    refine hl_neq rfl rfl rfl rfl rfl rfl (fun h5 => ?_) (fun h5 => ?_)
    ·
     refine hl_v rfl rfl rfl (rv_ev rfl) ?_
     refine hl_v rfl rfl rfl (rv_ev rfl) ?_
     refine hl_skip rfl rfl rfl ?_
     refine hl_skip rfl rfl rfl ?_
     refine hl_skip rfl rfl rfl ?_
     refine hl_skip rfl rfl rfl ?_
     refine hl_skip rfl rfl rfl ?_
     refine hl_skip rfl rfl rfl ?_
     refine hl_skip rfl rfl rfl ?_
     refine hl_skip rfl rfl rfl ?_
     refine hl_v rfl rfl rfl (rv_ev rfl) ?_
     refine hl_less (sx 0 rfl (sx 1 rfl (sx 2 rfl (sx 50 rfl (sub_nil _))))) (.refl _) ?_
     refine hl_nil ?_
     refine hq_then ?_
     refine hc_true rfl ?_
     refine hc_seq ?_
     refine hc_region ?_
     refine hl_v rfl rfl rfl (rv_ev rfl) ?_
     refine hl_less (sx 0 rfl (sx 1 rfl (sx 2 rfl (sx 50 rfl (sub_nil _))))) (.refl _) ?_
     refine hl_nil ?_
     refine hq_then ?_
     refine hc_ret ?_
     refine hq_then_ret ?_
     exact hq_ans rfl rfl (congrArg _ (pB_no (fun hp => by first | (exact hSao ⟨hp.n, hp.a⟩) | (exact hSbs ⟨hp.n, hp.b⟩) | (exact hK hp.k) | (have h9 := hp.dn; omega) | (have h9 := hp.sn; omega) | (exact absurd (hp.dl i (by omega)) (by assumption)) | (exact absurd (hp.ds k (by omega)) (by assumption)))).symm)
    ·
     refine hl_v rfl rfl rfl (rv_ev rfl) ?_
     refine hl_v rfl rfl rfl (rv_ev rfl) ?_
     refine hl_v rfl rfl rfl (rv_field (k0 := 6) rfl (by kernel_rfl) rfl) ?_
     refine hl_v rfl rfl rfl (rv_load rfl (by kernel_rfl) rfl (box_cell 0 rfl rfl)) ?_
     refine hl_v rfl rfl rfl (rv_field (k0 := 0) rfl (by kernel_rfl) rfl) ?_
     refine hl_v rfl rfl rfl (rv_field (k0 := 1) rfl (by kernel_rfl) rfl) ?_
     refine hl_v rfl rfl rfl (rv_load rfl (by kernel_rfl) rfl (box_cell 0 rfl rfl)) ?_
     refine hl_v rfl rfl rfl (rv_len rfl Try.underlying34 rfl (rd_old ((hr).n.sq.row))) ?_
     refine hl_callV rfl rfl rfl (rq_call (by kernel_rfl) rfl (fun w hm => ret_ans (l37List_ans x.ks (x.n.ss.length : Int) 50 _ w ((rd_old ((hr).ks)) w hm)))) ?_
     refine hl_bool (fun h6 => ?_) (fun h6 => ?_)
     ·
      have hK := of_pB h6
      refine hl_v rfl rfl rfl (rv_ev rfl) ?_
      refine hl_v rfl rfl rfl (rv_ev rfl) ?_
      refine hl_less (sx 0 rfl (sx 1 rfl (sx 2 rfl (sx 50 rfl (sub_nil _))))) (.refl _) ?_
      refine hl_nil ?_
      refine hq_then ?_
      refine hc_false rfl ?_
      refine hc_skip ?_
      refine hq_then ?_
      refine hc_seq ?_
      refine hc_seq ?_
      refine hc_region ?_
      refine hl_v rfl rfl rfl (rv_ev rfl) ?_
      refine hl_less (sx 0 rfl (sx 1 rfl (sx 2 rfl (sx 3 rfl (sx 50 rfl (sub_nil _)))))) (.refl _) ?_
      refine hl_nil ?_
      refine hq_then ?_
      refine hc_block ?_
      refine hc_loop1 (α := Nat) (fun i => [boxE b1 #[.int .i64 x.n.ins, x.n.sv, x.n.lv, x.n.ov, x.pv, x.qv, x.kv, x.av, x.bv, .int .i64 x.oi, .int .i64 x.ni] 40]) (fun i => [(0, .agg #[.int .i64 x.n.ins, x.n.sv, x.n.lv, x.n.ov, x.pv, x.qv, x.kv, x.av, x.bv, .int .i64 x.oi, .int .i64 x.ni]), (1, .pointer (some ⟨b1, 0, none⟩)), (2, .bool false), (3, .int .i64 (i : Int)), (50, .bool false)]) (fun i => i ≤ x.n.ls.length ∧ ∀ q, q < i → LiP (x.dl.getD q ir0).xs (x.n.ls.getD q lt0).xs.length 100) (fun i => x.n.ls.length - i) 0 ⟨Nat.zero_le _, fun q hq => absurd hq (by omega)⟩ (sx 0 rfl (sx 1 rfl (sx 2 rfl (sx 3 rfl (sx 50 rfl (sub_nil _)))))) ((.cons_cons _ .slnil)) ?_
      intro i hi7
      obtain ⟨hi, hq1⟩ := hi7
      refine hc_seq ?_
      refine hc_seq ?_
      refine hc_region ?_
      refine hl_v rfl rfl rfl (rv_ev rfl) ?_
      refine hl_v rfl rfl rfl (rv_field (k0 := 0) rfl (by kernel_rfl) rfl) ?_
      refine hl_v rfl rfl rfl (rv_field (k0 := 2) rfl (by kernel_rfl) rfl) ?_
      refine hl_v rfl rfl rfl (rv_load rfl (by kernel_rfl) rfl (box_cell 0 rfl rfl)) ?_
      refine hl_v rfl rfl rfl (rv_len rfl Try.underlying35 rfl (rd_old ((hr).n.lt.row))) ?_
      refine hl_lss rfl rfl rfl rfl rfl rfl (fun h8 => ?_) (fun h8 => ?_)
      ·
       refine hl_less (sx 0 rfl (sx 1 rfl (sx 2 rfl (sx 3 rfl (sx 50 rfl (sx 56 rfl (sub_nil _))))))) (.refl _) ?_
       refine hl_nil ?_
       refine hq_then ?_
       refine hc_true rfl ?_
       refine hc_skip ?_
       refine hq_then ?_
       refine hc_seq ?_
       refine hc_block ?_
       refine hc_seq ?_
       rcases Bool.eq_false_or_eq_true (pB (LiP ((x.dl.getD i ir0).xs) (((x.n.ls.getD i lt0).xs).length : Int) 100)) with hb9 | hb9
       ·
        have hb9p := of_pB hb9
        refine hc_draw (by kernel_rfl) 16 [0, 1, 2, 3, 4, 5, 6, 7, 8, 9, 10, 11, 12, 13, 14, 15] (List.take 16 _) (List.drop 16 _) [[], [0], [1], [], [2, 3], [4], [], [6], [7], [], [8, 9], [10], [11], [12], [5, 13], [14]] [59, 60, 61, 62, 63, 64, 65, 66, 67, 68, 69, 70, 71, 72, 73, 74] (fun i_ vs_ v_ p_ => match i_ with | 0 => v_ = .pointer (some ⟨b1, 0 + 4, none⟩) ∧ p_ = [] | 1 => v_ = .pointer (some ⟨b1, 0 + 4 + 0, none⟩) ∧ p_ = [] | 2 => v_ = x.pv ∧ p_ = [] | 3 => v_ = .int .i64 (i : Int) ∧ p_ = [] | 4 => v_ = elP x.pv (((i : Int)).toNat * 1) ∧ p_ = [] | 5 => v_ = (x.dl.getD i ir0).v ∧ p_ = [] | 6 => v_ = .pointer (some ⟨b1, 0 + 0, none⟩) ∧ p_ = [] | 7 => v_ = .pointer (some ⟨b1, 0 + 0 + 2, none⟩) ∧ p_ = [] | 8 => v_ = x.n.lv ∧ p_ = [] | 9 => v_ = .int .i64 (i : Int) ∧ p_ = [] | 10 => v_ = elP x.n.lv (((i : Int)).toNat * 2) ∧ p_ = [] | 11 => v_ = elP x.n.lv (((i : Int)).toNat * 2 + 0) ∧ p_ = [] | 12 => v_ = (x.n.ls.getD i lt0).iv ∧ p_ = [] | 13 => v_ = .int .i64 (((x.n.ls.getD i lt0).xs).length : Int) ∧ p_ = [] | 14 => v_ = .bool true ∧ p_ = [] | 15 => v_ = .bool false ∧ p_ = [] | _ => True) (List.take_append_drop 16 _).symm (by kernel_rfl) (by kernel_rfl) rfl rfl ?_ ?_
        ·
         refine ⟨?_, ?_, ?_, ?_, ?_, ?_, ?_, ?_, ?_, ?_, ?_, ?_, ?_, ?_, ?_, ?_, trivial⟩
         ·
          intro vf pf hR
          refine Or.inl ⟨rfl, ?_⟩
          refine rq_less (sx 1 rfl (sub_nil _)) (List.sublist_append_right _ _) ?_
          exact rq_v (rv_field (k0 := 4) rfl (by kernel_rfl) rfl)
         ·
          intro vf pf hR
          have e0 : (vf 0) = .pointer (some ⟨b1, 0 + 4, none⟩) ∧ (pf 0) = [] := hR 0 (by decide)
          refine Or.inl ⟨rfl, ?_⟩
          refine rq_less (sx 59 (congrArg some e0.1) (sub_nil _)) (List.sublist_append_right _ _) ?_
          exact rq_v (rv_field (k0 := 0) rfl (by kernel_rfl) rfl)
         ·
          intro vf pf hR
          have e1 : (vf 1) = .pointer (some ⟨b1, 0 + 4 + 0, none⟩) ∧ (pf 1) = [] := hR 1 (by decide)
          refine Or.inl ⟨rfl, ?_⟩
          refine rq_less (sx 60 (congrArg some e1.1) (sub_nil _)) (List.sublist_append_right _ _) ?_
          exact rq_v (rv_load rfl (by kernel_rfl) rfl (box_cell 0 rfl rfl))
         ·
          intro vf pf hR
          refine Or.inl ⟨rfl, ?_⟩
          refine rq_less (sx 3 rfl (sub_nil _)) (List.sublist_append_right _ _) ?_
          exact rq_v (rv_ev rfl)
         ·
          intro vf pf hR
          have e2 : (vf 2) = x.pv ∧ (pf 2) = [] := hR 2 (by decide)
          have e3 : (vf 3) = .int .i64 (i : Int) ∧ (pf 3) = [] := hR 3 (by decide)
          refine Or.inl ⟨rfl, ?_⟩
          refine rq_less (sx 61 (congrArg some e2.1) (sx 62 (congrArg some e3.1) (sub_nil _))) (List.sublist_append_right _ _) ?_
          exact rq_v (rv_index (s := 1) rfl Try.underlying27 (by kernel_rfl) rfl rfl (rd_old ((hr).dl.row)) (by omega) (by first | omega | (simp only [List.length_set]; omega)))
         ·
          intro vf pf hR
          have e4 : (vf 4) = elP x.pv (((i : Int)).toNat * 1) ∧ (pf 4) = [] := hR 4 (by decide)
          refine Or.inl ⟨rfl, ?_⟩
          refine rq_less (sx 63 (congrArg some e4.1) (sub_nil _)) (List.sublist_append_right _ _) ?_
          exact rq_v (rv_loadEl (u := (x.dl.getD i ir0).v) rfl (by kernel_rfl) rfl (rd_old ((hr).dl.row)) (flat_one irC (fun r => r.v) (fun _ => rfl) x.dl ir0 (show i < _ by first | omega | (simp only [List.length_set]; omega))))
         ·
          intro vf pf hR
          refine Or.inl ⟨rfl, ?_⟩
          refine rq_less (sx 1 rfl (sub_nil _)) (List.sublist_append_right _ _) ?_
          exact rq_v (rv_field (k0 := 0) rfl (by kernel_rfl) rfl)
         ·
          intro vf pf hR
          have e6 : (vf 6) = .pointer (some ⟨b1, 0 + 0, none⟩) ∧ (pf 6) = [] := hR 6 (by decide)
          refine Or.inl ⟨rfl, ?_⟩
          refine rq_less (sx 65 (congrArg some e6.1) (sub_nil _)) (List.sublist_append_right _ _) ?_
          exact rq_v (rv_field (k0 := 2) rfl (by kernel_rfl) rfl)
         ·
          intro vf pf hR
          have e7 : (vf 7) = .pointer (some ⟨b1, 0 + 0 + 2, none⟩) ∧ (pf 7) = [] := hR 7 (by decide)
          refine Or.inl ⟨rfl, ?_⟩
          refine rq_less (sx 66 (congrArg some e7.1) (sub_nil _)) (List.sublist_append_right _ _) ?_
          exact rq_v (rv_load rfl (by kernel_rfl) rfl (box_cell 0 rfl rfl))
         ·
          intro vf pf hR
          refine Or.inl ⟨rfl, ?_⟩
          refine rq_less (sx 3 rfl (sub_nil _)) (List.sublist_append_right _ _) ?_
          exact rq_v (rv_ev rfl)
         ·
          intro vf pf hR
          have e8 : (vf 8) = x.n.lv ∧ (pf 8) = [] := hR 8 (by decide)
          have e9 : (vf 9) = .int .i64 (i : Int) ∧ (pf 9) = [] := hR 9 (by decide)
          refine Or.inl ⟨rfl, ?_⟩
          refine rq_less (sx 67 (congrArg some e8.1) (sx 68 (congrArg some e9.1) (sub_nil _))) (List.sublist_append_right _ _) ?_
          exact rq_v (rv_index (s := 2) rfl Try.underlying35 (by kernel_rfl) rfl rfl (rd_old ((hr).n.lt.row)) (by omega) (by first | omega | (simp only [List.length_set]; omega)))
         ·
          intro vf pf hR
          have e10 : (vf 10) = elP x.n.lv (((i : Int)).toNat * 2) ∧ (pf 10) = [] := hR 10 (by decide)
          refine Or.inl ⟨rfl, ?_⟩
          refine rq_less (sx 69 (congrArg some e10.1) (sub_nil _)) (List.sublist_append_right _ _) ?_
          exact rq_v (rv_fieldEl (k0 := 0) rfl (by kernel_rfl) rfl (rd_old ((hr).n.lt.row)) (by first | omega | (simp only [List.length_set]; omega)))
         ·
          intro vf pf hR
          have e11 : (vf 11) = elP x.n.lv (((i : Int)).toNat * 2 + 0) ∧ (pf 11) = [] := hR 11 (by decide)
          refine Or.inl ⟨rfl, ?_⟩
          refine rq_less (sx 70 (congrArg some e11.1) (sub_nil _)) (List.sublist_append_right _ _) ?_
          exact rq_v (rv_loadEl (u := (x.n.ls.getD i lt0).iv) rfl (by kernel_rfl) rfl (rd_old ((hr).n.lt.row)) ((flat_at ltC 2 (fun _ => rfl) x.n.ls lt0 (show i < _ by first | omega | (simp only [List.length_set]; omega)) (by decide)).trans rfl))
         ·
          intro vf pf hR
          have e12 : (vf 12) = (x.n.ls.getD i lt0).iv ∧ (pf 12) = [] := hR 12 (by decide)
          refine Or.inl ⟨rfl, ?_⟩
          refine rq_less (sx 71 (congrArg some e12.1) (sub_nil _)) (List.sublist_append_right _ _) ?_
          exact rq_v (rv_len rfl Try.underlying24 rfl (rd_old ((hr).n.lt.at (d := lt0) (k := i) (by omega))))
         ·
          intro vf pf hR
          have e5 : (vf 5) = (x.dl.getD i ir0).v ∧ (pf 5) = [] := hR 5 (by decide)
          have e13 : (vf 13) = .int .i64 (((x.n.ls.getD i lt0).xs).length : Int) ∧ (pf 13) = [] := hR 13 (by decide)
          refine Or.inl ⟨rfl, ?_⟩
          refine rq_less (sx 64 (congrArg some e5.1) (sx 72 (congrArg some e13.1) (sub_nil _))) (List.sublist_append_right _ _) ?_
          exact rq_mono (rq_call (by kernel_rfl) rfl (fun w hm => ret_ans (l37List_ans ((x.dl.getD i ir0).xs) (((x.n.ls.getD i lt0).xs).length : Int) 100 _ w ((rd_old ((hr).dl.at (d := ir0) (k := i) (by omega))) w hm)))) (fun _ _ h => ⟨h.1.trans (congrArg Value.bool hb9), h.2⟩)
         ·
          intro vf pf hR
          have e14 : (vf 14) = .bool true ∧ (pf 14) = [] := hR 14 (by decide)
          refine Or.inl ⟨rfl, ?_⟩
          refine rq_less (sx 73 (congrArg some e14.1) (sub_nil _)) (List.sublist_append_right _ _) ?_
          exact rq_v (rv_ev rfl)
        ·
         intro vf pf hR
         have e15 : (vf 15) = .bool false ∧ (pf 15) = [] := hR 15 (by decide)
         refine hl_less (l' := [boxE b1 #[.int .i64 x.n.ins, x.n.sv, x.n.lv, x.n.ov, x.pv, x.qv, x.kv, x.av, x.bv, .int .i64 x.oi, .int .i64 x.ni] 40]) (sx 0 rfl (sx 1 rfl (sx 2 rfl (sx 3 rfl (sx 50 rfl (sx 56 rfl (sx 74 (congrArg some e15.1) (sub_nil _)))))))) (List.sublist_append_right _ _) ?_
         simp only [List.drop_succ_cons, List.drop_zero]
         refine hl_less (sx 0 rfl (sx 1 rfl (sx 2 rfl (sx 3 rfl (sx 50 rfl (sx 56 rfl (sx 74 rfl (sub_nil _)))))))) (.refl _) ?_
         refine hl_nil ?_
         refine hq_then ?_
         refine hc_false rfl ?_
         refine hc_skip ?_
         refine hq_block_normal ?_
         refine hq_then ?_
         refine hc_region ?_
         refine hl_v rfl rfl rfl (rv_ev rfl) ?_
         refine hl_v rfl rfl rfl (rv_add rfl rfl rfl (by constructor <;> omega)) ?_
         refine hl_v rfl rfl rfl (rv_ev rfl) ?_
         refine hl_less (sx 0 rfl (sx 1 rfl (sx 2 rfl (sx 3 rfl (sx 50 rfl (sx 56 rfl (sx 74 rfl (sub_nil _)))))))) (.refl _) ?_
         refine hl_nil ?_
         exact hq_round1 (i + 1) ⟨by omega, fun q hq9 => by by_cases e : q = i; (subst e; assumption); exact hq1 q (by omega)⟩ (by omega) (sx 0 rfl (sx 1 rfl (sx 2 rfl (sx 3 rfl (sx 50 rfl (sub_nil _)))))) ((.cons_cons _ .slnil))
       ·
        have hb9p := of_pBn hb9
        refine hc_draw (by kernel_rfl) 16 [0, 1, 2, 3, 4, 5, 6, 7, 8, 9, 10, 11, 12, 13, 14, 15] (List.take 16 _) (List.drop 16 _) [[], [0], [1], [], [2, 3], [4], [], [6], [7], [], [8, 9], [10], [11], [12], [5, 13], [14]] [59, 60, 61, 62, 63, 64, 65, 66, 67, 68, 69, 70, 71, 72, 73, 74] (fun i_ vs_ v_ p_ => match i_ with | 0 => v_ = .pointer (some ⟨b1, 0 + 4, none⟩) ∧ p_ = [] | 1 => v_ = .pointer (some ⟨b1, 0 + 4 + 0, none⟩) ∧ p_ = [] | 2 => v_ = x.pv ∧ p_ = [] | 3 => v_ = .int .i64 (i : Int) ∧ p_ = [] | 4 => v_ = elP x.pv (((i : Int)).toNat * 1) ∧ p_ = [] | 5 => v_ = (x.dl.getD i ir0).v ∧ p_ = [] | 6 => v_ = .pointer (some ⟨b1, 0 + 0, none⟩) ∧ p_ = [] | 7 => v_ = .pointer (some ⟨b1, 0 + 0 + 2, none⟩) ∧ p_ = [] | 8 => v_ = x.n.lv ∧ p_ = [] | 9 => v_ = .int .i64 (i : Int) ∧ p_ = [] | 10 => v_ = elP x.n.lv (((i : Int)).toNat * 2) ∧ p_ = [] | 11 => v_ = elP x.n.lv (((i : Int)).toNat * 2 + 0) ∧ p_ = [] | 12 => v_ = (x.n.ls.getD i lt0).iv ∧ p_ = [] | 13 => v_ = .int .i64 (((x.n.ls.getD i lt0).xs).length : Int) ∧ p_ = [] | 14 => v_ = .bool false ∧ p_ = [] | 15 => v_ = .bool true ∧ p_ = [] | _ => True) (List.take_append_drop 16 _).symm (by kernel_rfl) (by kernel_rfl) rfl rfl ?_ ?_
        ·
         refine ⟨?_, ?_, ?_, ?_, ?_, ?_, ?_, ?_, ?_, ?_, ?_, ?_, ?_, ?_, ?_, ?_, trivial⟩
         ·
          intro vf pf hR
          refine Or.inl ⟨rfl, ?_⟩
          refine rq_less (sx 1 rfl (sub_nil _)) (List.sublist_append_right _ _) ?_
          exact rq_v (rv_field (k0 := 4) rfl (by kernel_rfl) rfl)
         ·
          intro vf pf hR
          have e0 : (vf 0) = .pointer (some ⟨b1, 0 + 4, none⟩) ∧ (pf 0) = [] := hR 0 (by decide)
          refine Or.inl ⟨rfl, ?_⟩
          refine rq_less (sx 59 (congrArg some e0.1) (sub_nil _)) (List.sublist_append_right _ _) ?_
          exact rq_v (rv_field (k0 := 0) rfl (by kernel_rfl) rfl)
         ·
          intro vf pf hR
          have e1 : (vf 1) = .pointer (some ⟨b1, 0 + 4 + 0, none⟩) ∧ (pf 1) = [] := hR 1 (by decide)
          refine Or.inl ⟨rfl, ?_⟩
          refine rq_less (sx 60 (congrArg some e1.1) (sub_nil _)) (List.sublist_append_right _ _) ?_
          exact rq_v (rv_load rfl (by kernel_rfl) rfl (box_cell 0 rfl rfl))
         ·
          intro vf pf hR
          refine Or.inl ⟨rfl, ?_⟩
          refine rq_less (sx 3 rfl (sub_nil _)) (List.sublist_append_right _ _) ?_
          exact rq_v (rv_ev rfl)
         ·
          intro vf pf hR
          have e2 : (vf 2) = x.pv ∧ (pf 2) = [] := hR 2 (by decide)
          have e3 : (vf 3) = .int .i64 (i : Int) ∧ (pf 3) = [] := hR 3 (by decide)
          refine Or.inl ⟨rfl, ?_⟩
          refine rq_less (sx 61 (congrArg some e2.1) (sx 62 (congrArg some e3.1) (sub_nil _))) (List.sublist_append_right _ _) ?_
          exact rq_v (rv_index (s := 1) rfl Try.underlying27 (by kernel_rfl) rfl rfl (rd_old ((hr).dl.row)) (by omega) (by first | omega | (simp only [List.length_set]; omega)))
         ·
          intro vf pf hR
          have e4 : (vf 4) = elP x.pv (((i : Int)).toNat * 1) ∧ (pf 4) = [] := hR 4 (by decide)
          refine Or.inl ⟨rfl, ?_⟩
          refine rq_less (sx 63 (congrArg some e4.1) (sub_nil _)) (List.sublist_append_right _ _) ?_
          exact rq_v (rv_loadEl (u := (x.dl.getD i ir0).v) rfl (by kernel_rfl) rfl (rd_old ((hr).dl.row)) (flat_one irC (fun r => r.v) (fun _ => rfl) x.dl ir0 (show i < _ by first | omega | (simp only [List.length_set]; omega))))
         ·
          intro vf pf hR
          refine Or.inl ⟨rfl, ?_⟩
          refine rq_less (sx 1 rfl (sub_nil _)) (List.sublist_append_right _ _) ?_
          exact rq_v (rv_field (k0 := 0) rfl (by kernel_rfl) rfl)
         ·
          intro vf pf hR
          have e6 : (vf 6) = .pointer (some ⟨b1, 0 + 0, none⟩) ∧ (pf 6) = [] := hR 6 (by decide)
          refine Or.inl ⟨rfl, ?_⟩
          refine rq_less (sx 65 (congrArg some e6.1) (sub_nil _)) (List.sublist_append_right _ _) ?_
          exact rq_v (rv_field (k0 := 2) rfl (by kernel_rfl) rfl)
         ·
          intro vf pf hR
          have e7 : (vf 7) = .pointer (some ⟨b1, 0 + 0 + 2, none⟩) ∧ (pf 7) = [] := hR 7 (by decide)
          refine Or.inl ⟨rfl, ?_⟩
          refine rq_less (sx 66 (congrArg some e7.1) (sub_nil _)) (List.sublist_append_right _ _) ?_
          exact rq_v (rv_load rfl (by kernel_rfl) rfl (box_cell 0 rfl rfl))
         ·
          intro vf pf hR
          refine Or.inl ⟨rfl, ?_⟩
          refine rq_less (sx 3 rfl (sub_nil _)) (List.sublist_append_right _ _) ?_
          exact rq_v (rv_ev rfl)
         ·
          intro vf pf hR
          have e8 : (vf 8) = x.n.lv ∧ (pf 8) = [] := hR 8 (by decide)
          have e9 : (vf 9) = .int .i64 (i : Int) ∧ (pf 9) = [] := hR 9 (by decide)
          refine Or.inl ⟨rfl, ?_⟩
          refine rq_less (sx 67 (congrArg some e8.1) (sx 68 (congrArg some e9.1) (sub_nil _))) (List.sublist_append_right _ _) ?_
          exact rq_v (rv_index (s := 2) rfl Try.underlying35 (by kernel_rfl) rfl rfl (rd_old ((hr).n.lt.row)) (by omega) (by first | omega | (simp only [List.length_set]; omega)))
         ·
          intro vf pf hR
          have e10 : (vf 10) = elP x.n.lv (((i : Int)).toNat * 2) ∧ (pf 10) = [] := hR 10 (by decide)
          refine Or.inl ⟨rfl, ?_⟩
          refine rq_less (sx 69 (congrArg some e10.1) (sub_nil _)) (List.sublist_append_right _ _) ?_
          exact rq_v (rv_fieldEl (k0 := 0) rfl (by kernel_rfl) rfl (rd_old ((hr).n.lt.row)) (by first | omega | (simp only [List.length_set]; omega)))
         ·
          intro vf pf hR
          have e11 : (vf 11) = elP x.n.lv (((i : Int)).toNat * 2 + 0) ∧ (pf 11) = [] := hR 11 (by decide)
          refine Or.inl ⟨rfl, ?_⟩
          refine rq_less (sx 70 (congrArg some e11.1) (sub_nil _)) (List.sublist_append_right _ _) ?_
          exact rq_v (rv_loadEl (u := (x.n.ls.getD i lt0).iv) rfl (by kernel_rfl) rfl (rd_old ((hr).n.lt.row)) ((flat_at ltC 2 (fun _ => rfl) x.n.ls lt0 (show i < _ by first | omega | (simp only [List.length_set]; omega)) (by decide)).trans rfl))
         ·
          intro vf pf hR
          have e12 : (vf 12) = (x.n.ls.getD i lt0).iv ∧ (pf 12) = [] := hR 12 (by decide)
          refine Or.inl ⟨rfl, ?_⟩
          refine rq_less (sx 71 (congrArg some e12.1) (sub_nil _)) (List.sublist_append_right _ _) ?_
          exact rq_v (rv_len rfl Try.underlying24 rfl (rd_old ((hr).n.lt.at (d := lt0) (k := i) (by omega))))
         ·
          intro vf pf hR
          have e5 : (vf 5) = (x.dl.getD i ir0).v ∧ (pf 5) = [] := hR 5 (by decide)
          have e13 : (vf 13) = .int .i64 (((x.n.ls.getD i lt0).xs).length : Int) ∧ (pf 13) = [] := hR 13 (by decide)
          refine Or.inl ⟨rfl, ?_⟩
          refine rq_less (sx 64 (congrArg some e5.1) (sx 72 (congrArg some e13.1) (sub_nil _))) (List.sublist_append_right _ _) ?_
          exact rq_mono (rq_call (by kernel_rfl) rfl (fun w hm => ret_ans (l37List_ans ((x.dl.getD i ir0).xs) (((x.n.ls.getD i lt0).xs).length : Int) 100 _ w ((rd_old ((hr).dl.at (d := ir0) (k := i) (by omega))) w hm)))) (fun _ _ h => ⟨h.1.trans (congrArg Value.bool hb9), h.2⟩)
         ·
          intro vf pf hR
          have e14 : (vf 14) = .bool false ∧ (pf 14) = [] := hR 14 (by decide)
          refine Or.inl ⟨rfl, ?_⟩
          refine rq_less (sx 73 (congrArg some e14.1) (sub_nil _)) (List.sublist_append_right _ _) ?_
          exact rq_v (rv_ev rfl)
        ·
         intro vf pf hR
         have e15 : (vf 15) = .bool true ∧ (pf 15) = [] := hR 15 (by decide)
         refine hl_less (l' := [boxE b1 #[.int .i64 x.n.ins, x.n.sv, x.n.lv, x.n.ov, x.pv, x.qv, x.kv, x.av, x.bv, .int .i64 x.oi, .int .i64 x.ni] 40]) (sx 0 rfl (sx 1 rfl (sx 2 rfl (sx 3 rfl (sx 50 rfl (sx 56 rfl (sx 74 (congrArg some e15.1) (sub_nil _)))))))) (List.sublist_append_right _ _) ?_
         simp only [List.drop_succ_cons, List.drop_zero]
         refine hl_less (sx 0 rfl (sx 1 rfl (sx 2 rfl (sx 3 rfl (sx 50 rfl (sx 56 rfl (sx 74 rfl (sub_nil _)))))))) (.refl _) ?_
         refine hl_nil ?_
         refine hq_then ?_
         refine hc_true rfl ?_
         refine hc_seq ?_
         refine hc_region ?_
         refine hl_v rfl rfl rfl (rv_ev rfl) ?_
         refine hl_less (sx 0 rfl (sx 1 rfl (sx 2 rfl (sx 3 rfl (sx 50 rfl (sx 56 rfl (sx 74 rfl (sub_nil _)))))))) (.refl _) ?_
         refine hl_nil ?_
         refine hq_then ?_
         refine hc_ret ?_
         refine hq_block_ret ?_
         refine hq_then_ret ?_
         refine hq_then_ret ?_
         refine hq_block_ret ?_
         refine hq_then_ret ?_
         exact hq_ans rfl rfl (congrArg _ (pB_no (fun hp => by first | (exact hSao ⟨hp.n, hp.a⟩) | (exact hSbs ⟨hp.n, hp.b⟩) | (exact hK hp.k) | (have h9 := hp.dn; omega) | (have h9 := hp.sn; omega) | (exact absurd (hp.dl i (by omega)) (by assumption)) | (exact absurd (hp.ds k (by omega)) (by assumption)))).symm)
      ·
       refine hl_less (sx 0 rfl (sx 1 rfl (sx 2 rfl (sx 3 rfl (sx 50 rfl (sx 56 rfl (sub_nil _))))))) (.refl _) ?_
       refine hl_nil ?_
       refine hq_then ?_
       refine hc_false rfl ?_
       refine hc_exit ?_
       refine hq_then_exit ?_
       refine hq_then_exit ?_
       refine hq_block_exit ?_
       refine hq_then ?_
       refine hc_seq ?_
       refine hc_seq ?_
       refine hc_region ?_
       refine hl_v rfl rfl rfl (rv_ev rfl) ?_
       refine hl_less (sx 0 rfl (sx 1 rfl (sx 2 rfl (sx 3 rfl (sx 4 rfl (sx 50 rfl (sx 56 rfl (sub_nil _)))))))) (.refl _) ?_
       refine hl_nil ?_
       refine hq_then ?_
       refine hc_block ?_
       refine hc_loop1 (α := Nat) (fun k => [boxE b1 #[.int .i64 x.n.ins, x.n.sv, x.n.lv, x.n.ov, x.pv, x.qv, x.kv, x.av, x.bv, .int .i64 x.oi, .int .i64 x.ni] 40]) (fun k => [(0, .agg #[.int .i64 x.n.ins, x.n.sv, x.n.lv, x.n.ov, x.pv, x.qv, x.kv, x.av, x.bv, .int .i64 x.oi, .int .i64 x.ni]), (1, .pointer (some ⟨b1, 0, none⟩)), (2, .bool false), (4, .int .i64 (k : Int)), (50, .bool false), (56, .bool false)]) (fun k => k ≤ x.n.ss.length ∧ ∀ q, q < k → LiP (x.ds.getD q ir0).xs (x.n.ss.getD q sq0).xs.length 100) (fun k => x.n.ss.length - k) 0 ⟨Nat.zero_le _, fun q hq => absurd hq (by omega)⟩ (sx 0 rfl (sx 1 rfl (sx 2 rfl (sx 4 rfl (sx 50 rfl (sx 56 rfl (sub_nil _))))))) ((.cons_cons _ .slnil)) ?_
       intro k hi10
       obtain ⟨hk, hq2⟩ := hi10
       refine hc_seq ?_
       refine hc_seq ?_
       refine hc_region ?_
       refine hl_v rfl rfl rfl (rv_ev rfl) ?_
       refine hl_v rfl rfl rfl (rv_field (k0 := 0) rfl (by kernel_rfl) rfl) ?_
       refine hl_v rfl rfl rfl (rv_field (k0 := 1) rfl (by kernel_rfl) rfl) ?_
       refine hl_v rfl rfl rfl (rv_load rfl (by kernel_rfl) rfl (box_cell 0 rfl rfl)) ?_
       refine hl_v rfl rfl rfl (rv_len rfl Try.underlying34 rfl (rd_old ((hr).n.sq.row))) ?_
       refine hl_lss rfl rfl rfl rfl rfl rfl (fun h11 => ?_) (fun h11 => ?_)
       ·
        refine hl_less (sx 0 rfl (sx 1 rfl (sx 2 rfl (sx 4 rfl (sx 50 rfl (sx 56 rfl (sx 80 rfl (sub_nil _)))))))) (.refl _) ?_
        refine hl_nil ?_
        refine hq_then ?_
        refine hc_true rfl ?_
        refine hc_skip ?_
        refine hq_then ?_
        refine hc_seq ?_
        refine hc_block ?_
        refine hc_seq ?_
        rcases Bool.eq_false_or_eq_true (pB (LiP ((x.ds.getD k ir0).xs) (((x.n.ss.getD k sq0).xs).length : Int) 100)) with hb12 | hb12
        ·
         have hb12p := of_pB hb12
         refine hc_draw (by kernel_rfl) 16 [0, 1, 2, 3, 4, 5, 6, 7, 8, 9, 10, 11, 12, 13, 14, 15] (List.take 16 _) (List.drop 16 _) [[], [0], [1], [], [2, 3], [4], [], [6], [7], [], [8, 9], [10], [11], [12], [5, 13], [14]] [83, 84, 85, 86, 87, 88, 89, 90, 91, 92, 93, 94, 95, 96, 97, 98] (fun i_ vs_ v_ p_ => match i_ with | 0 => v_ = .pointer (some ⟨b1, 0 + 4, none⟩) ∧ p_ = [] | 1 => v_ = .pointer (some ⟨b1, 0 + 4 + 1, none⟩) ∧ p_ = [] | 2 => v_ = x.qv ∧ p_ = [] | 3 => v_ = .int .i64 (k : Int) ∧ p_ = [] | 4 => v_ = elP x.qv (((k : Int)).toNat * 1) ∧ p_ = [] | 5 => v_ = (x.ds.getD k ir0).v ∧ p_ = [] | 6 => v_ = .pointer (some ⟨b1, 0 + 0, none⟩) ∧ p_ = [] | 7 => v_ = .pointer (some ⟨b1, 0 + 0 + 1, none⟩) ∧ p_ = [] | 8 => v_ = x.n.sv ∧ p_ = [] | 9 => v_ = .int .i64 (k : Int) ∧ p_ = [] | 10 => v_ = elP x.n.sv (((k : Int)).toNat * 3) ∧ p_ = [] | 11 => v_ = elP x.n.sv (((k : Int)).toNat * 3 + 2) ∧ p_ = [] | 12 => v_ = (x.n.ss.getD k sq0).iv ∧ p_ = [] | 13 => v_ = .int .i64 (((x.n.ss.getD k sq0).xs).length : Int) ∧ p_ = [] | 14 => v_ = .bool true ∧ p_ = [] | 15 => v_ = .bool false ∧ p_ = [] | _ => True) (List.take_append_drop 16 _).symm (by kernel_rfl) (by kernel_rfl) rfl rfl ?_ ?_
         ·
          refine ⟨?_, ?_, ?_, ?_, ?_, ?_, ?_, ?_, ?_, ?_, ?_, ?_, ?_, ?_, ?_, ?_, trivial⟩
          ·
           intro vf pf hR
           refine Or.inl ⟨rfl, ?_⟩
           refine rq_less (sx 1 rfl (sub_nil _)) (List.sublist_append_right _ _) ?_
           exact rq_v (rv_field (k0 := 4) rfl (by kernel_rfl) rfl)
          ·
           intro vf pf hR
           have e0 : (vf 0) = .pointer (some ⟨b1, 0 + 4, none⟩) ∧ (pf 0) = [] := hR 0 (by decide)
           refine Or.inl ⟨rfl, ?_⟩
           refine rq_less (sx 83 (congrArg some e0.1) (sub_nil _)) (List.sublist_append_right _ _) ?_
           exact rq_v (rv_field (k0 := 1) rfl (by kernel_rfl) rfl)
          ·
           intro vf pf hR
           have e1 : (vf 1) = .pointer (some ⟨b1, 0 + 4 + 1, none⟩) ∧ (pf 1) = [] := hR 1 (by decide)
           refine Or.inl ⟨rfl, ?_⟩
           refine rq_less (sx 84 (congrArg some e1.1) (sub_nil _)) (List.sublist_append_right _ _) ?_
           exact rq_v (rv_load rfl (by kernel_rfl) rfl (box_cell 0 rfl rfl))
          ·
           intro vf pf hR
           refine Or.inl ⟨rfl, ?_⟩
           refine rq_less (sx 4 rfl (sub_nil _)) (List.sublist_append_right _ _) ?_
           exact rq_v (rv_ev rfl)
          ·
           intro vf pf hR
           have e2 : (vf 2) = x.qv ∧ (pf 2) = [] := hR 2 (by decide)
           have e3 : (vf 3) = .int .i64 (k : Int) ∧ (pf 3) = [] := hR 3 (by decide)
           refine Or.inl ⟨rfl, ?_⟩
           refine rq_less (sx 85 (congrArg some e2.1) (sx 86 (congrArg some e3.1) (sub_nil _))) (List.sublist_append_right _ _) ?_
           exact rq_v (rv_index (s := 1) rfl Try.underlying27 (by kernel_rfl) rfl rfl (rd_old ((hr).ds.row)) (by omega) (by first | omega | (simp only [List.length_set]; omega)))
          ·
           intro vf pf hR
           have e4 : (vf 4) = elP x.qv (((k : Int)).toNat * 1) ∧ (pf 4) = [] := hR 4 (by decide)
           refine Or.inl ⟨rfl, ?_⟩
           refine rq_less (sx 87 (congrArg some e4.1) (sub_nil _)) (List.sublist_append_right _ _) ?_
           exact rq_v (rv_loadEl (u := (x.ds.getD k ir0).v) rfl (by kernel_rfl) rfl (rd_old ((hr).ds.row)) (flat_one irC (fun r => r.v) (fun _ => rfl) x.ds ir0 (show k < _ by first | omega | (simp only [List.length_set]; omega))))
          ·
           intro vf pf hR
           refine Or.inl ⟨rfl, ?_⟩
           refine rq_less (sx 1 rfl (sub_nil _)) (List.sublist_append_right _ _) ?_
           exact rq_v (rv_field (k0 := 0) rfl (by kernel_rfl) rfl)
          ·
           intro vf pf hR
           have e6 : (vf 6) = .pointer (some ⟨b1, 0 + 0, none⟩) ∧ (pf 6) = [] := hR 6 (by decide)
           refine Or.inl ⟨rfl, ?_⟩
           refine rq_less (sx 89 (congrArg some e6.1) (sub_nil _)) (List.sublist_append_right _ _) ?_
           exact rq_v (rv_field (k0 := 1) rfl (by kernel_rfl) rfl)
          ·
           intro vf pf hR
           have e7 : (vf 7) = .pointer (some ⟨b1, 0 + 0 + 1, none⟩) ∧ (pf 7) = [] := hR 7 (by decide)
           refine Or.inl ⟨rfl, ?_⟩
           refine rq_less (sx 90 (congrArg some e7.1) (sub_nil _)) (List.sublist_append_right _ _) ?_
           exact rq_v (rv_load rfl (by kernel_rfl) rfl (box_cell 0 rfl rfl))
          ·
           intro vf pf hR
           refine Or.inl ⟨rfl, ?_⟩
           refine rq_less (sx 4 rfl (sub_nil _)) (List.sublist_append_right _ _) ?_
           exact rq_v (rv_ev rfl)
          ·
           intro vf pf hR
           have e8 : (vf 8) = x.n.sv ∧ (pf 8) = [] := hR 8 (by decide)
           have e9 : (vf 9) = .int .i64 (k : Int) ∧ (pf 9) = [] := hR 9 (by decide)
           refine Or.inl ⟨rfl, ?_⟩
           refine rq_less (sx 91 (congrArg some e8.1) (sx 92 (congrArg some e9.1) (sub_nil _))) (List.sublist_append_right _ _) ?_
           exact rq_v (rv_index (s := 3) rfl Try.underlying34 (by kernel_rfl) rfl rfl (rd_old ((hr).n.sq.row)) (by omega) (by first | omega | (simp only [List.length_set]; omega)))
          ·
           intro vf pf hR
           have e10 : (vf 10) = elP x.n.sv (((k : Int)).toNat * 3) ∧ (pf 10) = [] := hR 10 (by decide)
           refine Or.inl ⟨rfl, ?_⟩
           refine rq_less (sx 93 (congrArg some e10.1) (sub_nil _)) (List.sublist_append_right _ _) ?_
           exact rq_v (rv_fieldEl (k0 := 2) rfl (by kernel_rfl) rfl (rd_old ((hr).n.sq.row)) (by first | omega | (simp only [List.length_set]; omega)))
          ·
           intro vf pf hR
           have e11 : (vf 11) = elP x.n.sv (((k : Int)).toNat * 3 + 2) ∧ (pf 11) = [] := hR 11 (by decide)
           refine Or.inl ⟨rfl, ?_⟩
           refine rq_less (sx 94 (congrArg some e11.1) (sub_nil _)) (List.sublist_append_right _ _) ?_
           exact rq_v (rv_loadEl (u := (x.n.ss.getD k sq0).iv) rfl (by kernel_rfl) rfl (rd_old ((hr).n.sq.row)) ((flat_at sqC 3 (fun _ => rfl) x.n.ss sq0 (show k < _ by first | omega | (simp only [List.length_set]; omega)) (by decide)).trans rfl))
          ·
           intro vf pf hR
           have e12 : (vf 12) = (x.n.ss.getD k sq0).iv ∧ (pf 12) = [] := hR 12 (by decide)
           refine Or.inl ⟨rfl, ?_⟩
           refine rq_less (sx 95 (congrArg some e12.1) (sub_nil _)) (List.sublist_append_right _ _) ?_
           exact rq_v (rv_len rfl Try.underlying24 rfl (rd_old ((hr).n.sq.at (d := sq0) (k := k) (by omega))))
          ·
           intro vf pf hR
           have e5 : (vf 5) = (x.ds.getD k ir0).v ∧ (pf 5) = [] := hR 5 (by decide)
           have e13 : (vf 13) = .int .i64 (((x.n.ss.getD k sq0).xs).length : Int) ∧ (pf 13) = [] := hR 13 (by decide)
           refine Or.inl ⟨rfl, ?_⟩
           refine rq_less (sx 88 (congrArg some e5.1) (sx 96 (congrArg some e13.1) (sub_nil _))) (List.sublist_append_right _ _) ?_
           exact rq_mono (rq_call (by kernel_rfl) rfl (fun w hm => ret_ans (l37List_ans ((x.ds.getD k ir0).xs) (((x.n.ss.getD k sq0).xs).length : Int) 100 _ w ((rd_old ((hr).ds.at (d := ir0) (k := k) (by omega))) w hm)))) (fun _ _ h => ⟨h.1.trans (congrArg Value.bool hb12), h.2⟩)
          ·
           intro vf pf hR
           have e14 : (vf 14) = .bool true ∧ (pf 14) = [] := hR 14 (by decide)
           refine Or.inl ⟨rfl, ?_⟩
           refine rq_less (sx 97 (congrArg some e14.1) (sub_nil _)) (List.sublist_append_right _ _) ?_
           exact rq_v (rv_ev rfl)
         ·
          intro vf pf hR
          have e15 : (vf 15) = .bool false ∧ (pf 15) = [] := hR 15 (by decide)
          refine hl_less (l' := [boxE b1 #[.int .i64 x.n.ins, x.n.sv, x.n.lv, x.n.ov, x.pv, x.qv, x.kv, x.av, x.bv, .int .i64 x.oi, .int .i64 x.ni] 40]) (sx 0 rfl (sx 1 rfl (sx 2 rfl (sx 4 rfl (sx 50 rfl (sx 56 rfl (sx 80 rfl (sx 98 (congrArg some e15.1) (sub_nil _))))))))) (List.sublist_append_right _ _) ?_
          simp only [List.drop_succ_cons, List.drop_zero]
          refine hl_less (sx 0 rfl (sx 1 rfl (sx 2 rfl (sx 4 rfl (sx 50 rfl (sx 56 rfl (sx 80 rfl (sx 98 rfl (sub_nil _))))))))) (.refl _) ?_
          refine hl_nil ?_
          refine hq_then ?_
          refine hc_false rfl ?_
          refine hc_skip ?_
          refine hq_block_normal ?_
          refine hq_then ?_
          refine hc_region ?_
          refine hl_v rfl rfl rfl (rv_ev rfl) ?_
          refine hl_v rfl rfl rfl (rv_add rfl rfl rfl (by constructor <;> omega)) ?_
          refine hl_v rfl rfl rfl (rv_ev rfl) ?_
          refine hl_less (sx 0 rfl (sx 1 rfl (sx 2 rfl (sx 4 rfl (sx 50 rfl (sx 56 rfl (sx 80 rfl (sx 98 rfl (sub_nil _))))))))) (.refl _) ?_
          refine hl_nil ?_
          exact hq_round1 (k + 1) ⟨by omega, fun q hq9 => by by_cases e : q = k; (subst e; assumption); exact hq2 q (by omega)⟩ (by omega) (sx 0 rfl (sx 1 rfl (sx 2 rfl (sx 4 rfl (sx 50 rfl (sx 56 rfl (sub_nil _))))))) ((.cons_cons _ .slnil))
        ·
         have hb12p := of_pBn hb12
         refine hc_draw (by kernel_rfl) 16 [0, 1, 2, 3, 4, 5, 6, 7, 8, 9, 10, 11, 12, 13, 14, 15] (List.take 16 _) (List.drop 16 _) [[], [0], [1], [], [2, 3], [4], [], [6], [7], [], [8, 9], [10], [11], [12], [5, 13], [14]] [83, 84, 85, 86, 87, 88, 89, 90, 91, 92, 93, 94, 95, 96, 97, 98] (fun i_ vs_ v_ p_ => match i_ with | 0 => v_ = .pointer (some ⟨b1, 0 + 4, none⟩) ∧ p_ = [] | 1 => v_ = .pointer (some ⟨b1, 0 + 4 + 1, none⟩) ∧ p_ = [] | 2 => v_ = x.qv ∧ p_ = [] | 3 => v_ = .int .i64 (k : Int) ∧ p_ = [] | 4 => v_ = elP x.qv (((k : Int)).toNat * 1) ∧ p_ = [] | 5 => v_ = (x.ds.getD k ir0).v ∧ p_ = [] | 6 => v_ = .pointer (some ⟨b1, 0 + 0, none⟩) ∧ p_ = [] | 7 => v_ = .pointer (some ⟨b1, 0 + 0 + 1, none⟩) ∧ p_ = [] | 8 => v_ = x.n.sv ∧ p_ = [] | 9 => v_ = .int .i64 (k : Int) ∧ p_ = [] | 10 => v_ = elP x.n.sv (((k : Int)).toNat * 3) ∧ p_ = [] | 11 => v_ = elP x.n.sv (((k : Int)).toNat * 3 + 2) ∧ p_ = [] | 12 => v_ = (x.n.ss.getD k sq0).iv ∧ p_ = [] | 13 => v_ = .int .i64 (((x.n.ss.getD k sq0).xs).length : Int) ∧ p_ = [] | 14 => v_ = .bool false ∧ p_ = [] | 15 => v_ = .bool true ∧ p_ = [] | _ => True) (List.take_append_drop 16 _).symm (by kernel_rfl) (by kernel_rfl) rfl rfl ?_ ?_
         ·
          refine ⟨?_, ?_, ?_, ?_, ?_, ?_, ?_, ?_, ?_, ?_, ?_, ?_, ?_, ?_, ?_, ?_, trivial⟩
          ·
           intro vf pf hR
           refine Or.inl ⟨rfl, ?_⟩
           refine rq_less (sx 1 rfl (sub_nil _)) (List.sublist_append_right _ _) ?_
           exact rq_v (rv_field (k0 := 4) rfl (by kernel_rfl) rfl)
          ·
           intro vf pf hR
           have e0 : (vf 0) = .pointer (some ⟨b1, 0 + 4, none⟩) ∧ (pf 0) = [] := hR 0 (by decide)
           refine Or.inl ⟨rfl, ?_⟩
           refine rq_less (sx 83 (congrArg some e0.1) (sub_nil _)) (List.sublist_append_right _ _) ?_
           exact rq_v (rv_field (k0 := 1) rfl (by kernel_rfl) rfl)
          ·
           intro vf pf hR
           have e1 : (vf 1) = .pointer (some ⟨b1, 0 + 4 + 1, none⟩) ∧ (pf 1) = [] := hR 1 (by decide)
           refine Or.inl ⟨rfl, ?_⟩
           refine rq_less (sx 84 (congrArg some e1.1) (sub_nil _)) (List.sublist_append_right _ _) ?_
           exact rq_v (rv_load rfl (by kernel_rfl) rfl (box_cell 0 rfl rfl))
          ·
           intro vf pf hR
           refine Or.inl ⟨rfl, ?_⟩
           refine rq_less (sx 4 rfl (sub_nil _)) (List.sublist_append_right _ _) ?_
           exact rq_v (rv_ev rfl)
          ·
           intro vf pf hR
           have e2 : (vf 2) = x.qv ∧ (pf 2) = [] := hR 2 (by decide)
           have e3 : (vf 3) = .int .i64 (k : Int) ∧ (pf 3) = [] := hR 3 (by decide)
           refine Or.inl ⟨rfl, ?_⟩
           refine rq_less (sx 85 (congrArg some e2.1) (sx 86 (congrArg some e3.1) (sub_nil _))) (List.sublist_append_right _ _) ?_
           exact rq_v (rv_index (s := 1) rfl Try.underlying27 (by kernel_rfl) rfl rfl (rd_old ((hr).ds.row)) (by omega) (by first | omega | (simp only [List.length_set]; omega)))
          ·
           intro vf pf hR
           have e4 : (vf 4) = elP x.qv (((k : Int)).toNat * 1) ∧ (pf 4) = [] := hR 4 (by decide)
           refine Or.inl ⟨rfl, ?_⟩
           refine rq_less (sx 87 (congrArg some e4.1) (sub_nil _)) (List.sublist_append_right _ _) ?_
           exact rq_v (rv_loadEl (u := (x.ds.getD k ir0).v) rfl (by kernel_rfl) rfl (rd_old ((hr).ds.row)) (flat_one irC (fun r => r.v) (fun _ => rfl) x.ds ir0 (show k < _ by first | omega | (simp only [List.length_set]; omega))))
          ·
           intro vf pf hR
           refine Or.inl ⟨rfl, ?_⟩
           refine rq_less (sx 1 rfl (sub_nil _)) (List.sublist_append_right _ _) ?_
           exact rq_v (rv_field (k0 := 0) rfl (by kernel_rfl) rfl)
          ·
           intro vf pf hR
           have e6 : (vf 6) = .pointer (some ⟨b1, 0 + 0, none⟩) ∧ (pf 6) = [] := hR 6 (by decide)
           refine Or.inl ⟨rfl, ?_⟩
           refine rq_less (sx 89 (congrArg some e6.1) (sub_nil _)) (List.sublist_append_right _ _) ?_
           exact rq_v (rv_field (k0 := 1) rfl (by kernel_rfl) rfl)
          ·
           intro vf pf hR
           have e7 : (vf 7) = .pointer (some ⟨b1, 0 + 0 + 1, none⟩) ∧ (pf 7) = [] := hR 7 (by decide)
           refine Or.inl ⟨rfl, ?_⟩
           refine rq_less (sx 90 (congrArg some e7.1) (sub_nil _)) (List.sublist_append_right _ _) ?_
           exact rq_v (rv_load rfl (by kernel_rfl) rfl (box_cell 0 rfl rfl))
          ·
           intro vf pf hR
           refine Or.inl ⟨rfl, ?_⟩
           refine rq_less (sx 4 rfl (sub_nil _)) (List.sublist_append_right _ _) ?_
           exact rq_v (rv_ev rfl)
          ·
           intro vf pf hR
           have e8 : (vf 8) = x.n.sv ∧ (pf 8) = [] := hR 8 (by decide)
           have e9 : (vf 9) = .int .i64 (k : Int) ∧ (pf 9) = [] := hR 9 (by decide)
           refine Or.inl ⟨rfl, ?_⟩
           refine rq_less (sx 91 (congrArg some e8.1) (sx 92 (congrArg some e9.1) (sub_nil _))) (List.sublist_append_right _ _) ?_
           exact rq_v (rv_index (s := 3) rfl Try.underlying34 (by kernel_rfl) rfl rfl (rd_old ((hr).n.sq.row)) (by omega) (by first | omega | (simp only [List.length_set]; omega)))
          ·
           intro vf pf hR
           have e10 : (vf 10) = elP x.n.sv (((k : Int)).toNat * 3) ∧ (pf 10) = [] := hR 10 (by decide)
           refine Or.inl ⟨rfl, ?_⟩
           refine rq_less (sx 93 (congrArg some e10.1) (sub_nil _)) (List.sublist_append_right _ _) ?_
           exact rq_v (rv_fieldEl (k0 := 2) rfl (by kernel_rfl) rfl (rd_old ((hr).n.sq.row)) (by first | omega | (simp only [List.length_set]; omega)))
          ·
           intro vf pf hR
           have e11 : (vf 11) = elP x.n.sv (((k : Int)).toNat * 3 + 2) ∧ (pf 11) = [] := hR 11 (by decide)
           refine Or.inl ⟨rfl, ?_⟩
           refine rq_less (sx 94 (congrArg some e11.1) (sub_nil _)) (List.sublist_append_right _ _) ?_
           exact rq_v (rv_loadEl (u := (x.n.ss.getD k sq0).iv) rfl (by kernel_rfl) rfl (rd_old ((hr).n.sq.row)) ((flat_at sqC 3 (fun _ => rfl) x.n.ss sq0 (show k < _ by first | omega | (simp only [List.length_set]; omega)) (by decide)).trans rfl))
          ·
           intro vf pf hR
           have e12 : (vf 12) = (x.n.ss.getD k sq0).iv ∧ (pf 12) = [] := hR 12 (by decide)
           refine Or.inl ⟨rfl, ?_⟩
           refine rq_less (sx 95 (congrArg some e12.1) (sub_nil _)) (List.sublist_append_right _ _) ?_
           exact rq_v (rv_len rfl Try.underlying24 rfl (rd_old ((hr).n.sq.at (d := sq0) (k := k) (by omega))))
          ·
           intro vf pf hR
           have e5 : (vf 5) = (x.ds.getD k ir0).v ∧ (pf 5) = [] := hR 5 (by decide)
           have e13 : (vf 13) = .int .i64 (((x.n.ss.getD k sq0).xs).length : Int) ∧ (pf 13) = [] := hR 13 (by decide)
           refine Or.inl ⟨rfl, ?_⟩
           refine rq_less (sx 88 (congrArg some e5.1) (sx 96 (congrArg some e13.1) (sub_nil _))) (List.sublist_append_right _ _) ?_
           exact rq_mono (rq_call (by kernel_rfl) rfl (fun w hm => ret_ans (l37List_ans ((x.ds.getD k ir0).xs) (((x.n.ss.getD k sq0).xs).length : Int) 100 _ w ((rd_old ((hr).ds.at (d := ir0) (k := k) (by omega))) w hm)))) (fun _ _ h => ⟨h.1.trans (congrArg Value.bool hb12), h.2⟩)
          ·
           intro vf pf hR
           have e14 : (vf 14) = .bool false ∧ (pf 14) = [] := hR 14 (by decide)
           refine Or.inl ⟨rfl, ?_⟩
           refine rq_less (sx 97 (congrArg some e14.1) (sub_nil _)) (List.sublist_append_right _ _) ?_
           exact rq_v (rv_ev rfl)
         ·
          intro vf pf hR
          have e15 : (vf 15) = .bool true ∧ (pf 15) = [] := hR 15 (by decide)
          refine hl_less (l' := [boxE b1 #[.int .i64 x.n.ins, x.n.sv, x.n.lv, x.n.ov, x.pv, x.qv, x.kv, x.av, x.bv, .int .i64 x.oi, .int .i64 x.ni] 40]) (sx 0 rfl (sx 1 rfl (sx 2 rfl (sx 4 rfl (sx 50 rfl (sx 56 rfl (sx 80 rfl (sx 98 (congrArg some e15.1) (sub_nil _))))))))) (List.sublist_append_right _ _) ?_
          simp only [List.drop_succ_cons, List.drop_zero]
          refine hl_less (sx 0 rfl (sx 1 rfl (sx 2 rfl (sx 4 rfl (sx 50 rfl (sx 56 rfl (sx 80 rfl (sx 98 rfl (sub_nil _))))))))) (.refl _) ?_
          refine hl_nil ?_
          refine hq_then ?_
          refine hc_true rfl ?_
          refine hc_seq ?_
          refine hc_region ?_
          refine hl_v rfl rfl rfl (rv_ev rfl) ?_
          refine hl_less (sx 0 rfl (sx 1 rfl (sx 2 rfl (sx 4 rfl (sx 50 rfl (sx 56 rfl (sx 80 rfl (sx 98 rfl (sub_nil _))))))))) (.refl _) ?_
          refine hl_nil ?_
          refine hq_then ?_
          refine hc_ret ?_
          refine hq_block_ret ?_
          refine hq_then_ret ?_
          refine hq_then_ret ?_
          refine hq_block_ret ?_
          refine hq_then_ret ?_
          exact hq_ans rfl rfl (congrArg _ (pB_no (fun hp => by first | (exact hSao ⟨hp.n, hp.a⟩) | (exact hSbs ⟨hp.n, hp.b⟩) | (exact hK hp.k) | (have h9 := hp.dn; omega) | (have h9 := hp.sn; omega) | (exact absurd (hp.dl i (by omega)) (by assumption)) | (exact absurd (hp.ds k (by omega)) (by assumption)))).symm)
       ·
        refine hl_less (sx 0 rfl (sx 1 rfl (sx 2 rfl (sx 4 rfl (sx 50 rfl (sx 56 rfl (sx 80 rfl (sub_nil _)))))))) (.refl _) ?_
        refine hl_nil ?_
        refine hq_then ?_
        refine hc_false rfl ?_
        refine hc_exit ?_
        refine hq_then_exit ?_
        refine hq_then_exit ?_
        refine hq_block_exit ?_
        refine hq_then ?_
        refine hc_seq ?_
        refine hc_region ?_
        refine hl_v rfl rfl rfl (rv_ev rfl) ?_
        refine hl_less (sx 0 rfl (sx 1 rfl (sx 2 rfl (sx 4 rfl (sx 50 rfl (sx 56 rfl (sx 80 rfl (sub_nil _)))))))) (.refl _) ?_
        refine hl_nil ?_
        refine hq_then ?_
        refine hc_ret ?_
        exact hq_ans rfl rfl (congrArg _ (pB_yes ⟨hSao.ok, hSao.sp, hSbs.sp, hK, by omega, fun q hq => hq1 q (by omega), by omega, fun q hq => hq2 q (by omega)⟩).symm)
     ·
      have hK := of_pBn h6
      refine hl_v rfl rfl rfl (rv_ev rfl) ?_
      refine hl_v rfl rfl rfl (rv_ev rfl) ?_
      refine hl_less (sx 0 rfl (sx 1 rfl (sx 2 rfl (sx 50 rfl (sub_nil _))))) (.refl _) ?_
      refine hl_nil ?_
      refine hq_then ?_
      refine hc_true rfl ?_
      refine hc_seq ?_
      refine hc_region ?_
      refine hl_v rfl rfl rfl (rv_ev rfl) ?_
      refine hl_less (sx 0 rfl (sx 1 rfl (sx 2 rfl (sx 50 rfl (sub_nil _))))) (.refl _) ?_
      refine hl_nil ?_
      refine hq_then ?_
      refine hc_ret ?_
      refine hq_then_ret ?_
      exact hq_ans rfl rfl (congrArg _ (pB_no (fun hp => by first | (exact hSao ⟨hp.n, hp.a⟩) | (exact hSbs ⟨hp.n, hp.b⟩) | (exact hK hp.k) | (have h9 := hp.dn; omega) | (have h9 := hp.sn; omega) | (exact absurd (hp.dl i (by omega)) (by assumption)) | (exact absurd (hp.ds k (by omega)) (by assumption)))).symm)
  ·
   have hSbs := of_pBn h3
   refine hl_v rfl rfl rfl (rv_ev rfl) ?_
   refine hl_v rfl rfl rfl (rv_ev rfl) ?_
   refine hl_v rfl rfl rfl (rv_ev rfl) ?_
   refine hl_skip rfl rfl rfl ?_
   refine hl_skip rfl rfl rfl ?_
   refine hl_skip rfl rfl rfl ?_
   refine hl_skip rfl rfl rfl ?_
   refine hl_skip rfl rfl rfl ?_
   refine hl_skip rfl rfl rfl ?_
   refine hl_skip rfl rfl rfl ?_
   refine hl_skip rfl rfl rfl ?_
   refine hl_skip rfl rfl rfl ?_
   refine hl_v rfl rfl rfl (rv_ev rfl) ?_
   refine hl_v rfl rfl rfl (rv_ev rfl) ?_
   refine hl_skip rfl rfl rfl ?_
   refine hl_skip rfl rfl rfl ?_
   refine hl_skip rfl rfl rfl ?_
   refine hl_skip rfl rfl rfl ?_
   refine hl_skip rfl rfl rfl ?_
   refine hl_skip rfl rfl rfl ?_
   refine hl_skip rfl rfl rfl ?_
   refine hl_skip rfl rfl rfl ?_
   refine hl_skip rfl rfl rfl ?_
   refine hl_v rfl rfl rfl (rv_ev rfl) ?_
   refine hl_v rfl rfl rfl (rv_ev rfl) ?_
   refine hl_skip rfl rfl rfl ?_
   refine hl_skip rfl rfl rfl ?_
   refine hl_skip rfl rfl rfl ?_
   refine hl_skip rfl rfl rfl ?_
   refine hl_skip rfl rfl rfl ?_
   refine hl_skip rfl rfl rfl ?_
   refine hl_skip rfl rfl rfl ?_
   refine hl_skip rfl rfl rfl ?_
   refine hl_v rfl rfl rfl (rv_ev rfl) ?_
   refine hl_less (sx 0 rfl (sx 1 rfl (sx 2 rfl (sx 50 rfl (sub_nil _))))) (.refl _) ?_
   refine hl_nil ?_
   refine hq_then ?_
   refine hc_true rfl ?_
   refine hc_seq ?_
   refine hc_region ?_
   refine hl_v rfl rfl rfl (rv_ev rfl) ?_
   refine hl_less (sx 0 rfl (sx 1 rfl (sx 2 rfl (sx 50 rfl (sub_nil _))))) (.refl _) ?_
   refine hl_nil ?_
   refine hq_then ?_
   refine hc_ret ?_
   refine hq_then_ret ?_
   exact hq_ans rfl rfl (congrArg _ (pB_no (fun hp => by first | (exact hSao ⟨hp.n, hp.a⟩) | (exact hSbs ⟨hp.n, hp.b⟩) | (exact hK hp.k) | (have h9 := hp.dn; omega) | (have h9 := hp.sn; omega) | (exact absurd (hp.dl i (by omega)) (by assumption)) | (exact absurd (hp.ds k (by omega)) (by assumption)))).symm)
 ·
  have hSao := of_pBn h2
  refine hl_v rfl rfl rfl (rv_ev rfl) ?_
  refine hl_v rfl rfl rfl (rv_ev rfl) ?_
  refine hl_skip rfl rfl rfl ?_
  refine hl_skip rfl rfl rfl ?_
  refine hl_skip rfl rfl rfl ?_
  refine hl_skip rfl rfl rfl ?_
  refine hl_skip rfl rfl rfl ?_
  refine hl_skip rfl rfl rfl ?_
  refine hl_v rfl rfl rfl (rv_ev rfl) ?_
  refine hl_v rfl rfl rfl (rv_ev rfl) ?_
  refine hl_skip rfl rfl rfl ?_
  refine hl_skip rfl rfl rfl ?_
  refine hl_skip rfl rfl rfl ?_
  refine hl_skip rfl rfl rfl ?_
  refine hl_skip rfl rfl rfl ?_
  refine hl_skip rfl rfl rfl ?_
  refine hl_skip rfl rfl rfl ?_
  refine hl_skip rfl rfl rfl ?_
  refine hl_skip rfl rfl rfl ?_
  refine hl_v rfl rfl rfl (rv_ev rfl) ?_
  refine hl_v rfl rfl rfl (rv_ev rfl) ?_
  refine hl_skip rfl rfl rfl ?_
  refine hl_skip rfl rfl rfl ?_
  refine hl_skip rfl rfl rfl ?_
  refine hl_skip rfl rfl rfl ?_
  refine hl_skip rfl rfl rfl ?_
  refine hl_skip rfl rfl rfl ?_
  refine hl_skip rfl rfl rfl ?_
  refine hl_skip rfl rfl rfl ?_
  refine hl_skip rfl rfl rfl ?_
  refine hl_v rfl rfl rfl (rv_ev rfl) ?_
  refine hl_v rfl rfl rfl (rv_ev rfl) ?_
  refine hl_skip rfl rfl rfl ?_
  refine hl_skip rfl rfl rfl ?_
  refine hl_skip rfl rfl rfl ?_
  refine hl_skip rfl rfl rfl ?_
  refine hl_skip rfl rfl rfl ?_
  refine hl_skip rfl rfl rfl ?_
  refine hl_skip rfl rfl rfl ?_
  refine hl_skip rfl rfl rfl ?_
  refine hl_v rfl rfl rfl (rv_ev rfl) ?_
  refine hl_less (sx 0 rfl (sx 1 rfl (sx 2 rfl (sx 50 rfl (sub_nil _))))) (.refl _) ?_
  refine hl_nil ?_
  refine hq_then ?_
  refine hc_true rfl ?_
  refine hc_seq ?_
  refine hc_region ?_
  refine hl_v rfl rfl rfl (rv_ev rfl) ?_
  refine hl_less (sx 0 rfl (sx 1 rfl (sx 2 rfl (sx 50 rfl (sub_nil _))))) (.refl _) ?_
  refine hl_nil ?_
  refine hq_then ?_
  refine hc_ret ?_
  refine hq_then_ret ?_
  exact hq_ans rfl rfl (congrArg _ (pB_no (fun hp => by first | (exact hSao ⟨hp.n, hp.a⟩) | (exact hSbs ⟨hp.n, hp.b⟩) | (exact hK hp.k) | (have h9 := hp.dn; omega) | (have h9 := hp.sn; omega) | (exact absurd (hp.dl i (by omega)) (by assumption)) | (exact absurd (hp.ds k (by omega)) (by assumption)))).symm)
def lauA (k : Nat) : List Pt := (List.range k).map (fun (q : Nat) => ⟨1 + q, 0⟩)
def lauB (x : Td) (k : Nat) : List Pt := lauA x.n.ins.toNat ++ (List.range k).map (fun (q : Nat) => ⟨1 + x.n.ins + q, x.ks.getD q 0⟩)
theorem lauA_len (k : Nat) : (lauA k).length = k := by simp [lauA]
theorem lauB_len (x : Td) (k : Nat) : (lauB x k).length = x.n.ins.toNat + k := by simp [lauB, lauA]
theorem lauA_succ (k : Nat) : lauA (k + 1) = lauA k ++ [⟨1 + k, 0⟩] := by simp [lauA, List.range_succ]
theorem lauB_zero (x : Td) : lauB x 0 = lauA x.n.ins.toNat := by simp [lauB]
theorem lauB_succ (x : Td) (k : Nat) : lauB x (k + 1) = lauB x k ++ [⟨1 + x.n.ins + k, x.ks.getD k 0⟩] := by
  unfold lauB; rw [List.range_succ, List.map_append, List.append_assoc]; rfl
noncomputable def lauR (x : Td) : List Pt := if pB (TdOk x) = true then lauB x x.ks.length else []
theorem lauR_same {x y : Td} (h : Same x y) : lauR y = lauR x := by unfold lauR lauB; rw [pB_same h, h.ins, h.ks]
/-- what a valid timed net keeps -/
structure Bnd (x : Td) : Prop where
  i : 0 ≤ x.n.ins ∧ x.n.ins ≤ 20
  s : x.n.ss.length ≤ 12
  l : x.n.ls.length ≤ 400
  k : x.ks.length = x.n.ss.length
  a : x.ao.length = x.n.ss.length
  b : x.bs.length = x.n.ss.length
  d : x.dl.length = x.n.ls.length
  e : x.ds.length = x.n.ss.length
theorem TdOk.bnd {x : Td} (h : TdOk x) : Bnd x := ⟨h.n.sz.i, h.n.sz.s, h.n.sz.l, by have := h.k.1; omega, h.a.len, h.b.len, h.dn, h.sn⟩
set_option maxHeartbeats 4000000 in
set_option maxRecDepth 100000 in
theorem implLaunchPoints_ret (x : Td) (w : World) (hr : RdsTd w x) :
  Calls Try.prog 22 #[.agg #[.int .i64 x.n.ins, x.n.sv, x.n.lv, x.n.ov, x.pv, x.qv, x.kv, x.av, x.bv, .int .i64 x.oi, .int .i64 x.ni]] w (Ret w (fun v' post => post = [rowE 81 2 v' (lauR x).length ((lauR x).flatMap ptC)])) := by
 have t1 := sml hr.ks
 have t2 := sml hr.ao
 have t3 := sml hr.bs
 have t4 := hr.dl.small
 have t5 := hr.ds.small
 have t6 := hr.n.sq.small
 have t7 := hr.n.lt.small
 have t8 := sml hr.n.ou
 have hcnt : x.n.cnt = 1 + x.n.ins + x.n.ss.length + x.n.ls.length := rfl
 have hfst : x.n.fst = 1 + x.n.ins + x.n.ss.length := rfl
 refine calls_hc (N := 44) (args := [.agg #[.int .i64 x.n.ins, x.n.sv, x.n.lv, x.n.ov, x.pv, x.qv, x.kv, x.av, x.bv, .int .i64 x.oi, .int .i64 x.ni]]) Try.func22 rfl rfl ?_
 refine hc_less _ (sx 0 rfl (sub_nil _)) (.refl _) ?_
 refine hc_seq ?_
 refine hc_region ?_
 refine hl_box rfl rfl rfl (rq_box rfl rfl) ?_
 intro b1
 refine hl_nilRow 81 2 ?_
 refine hl_eqL (l' := [rowE 81 2 (.slice none 0 0) (([] : List Pt).length) (([] : List Pt).flatMap ptC), boxE b1 #[.int .i64 x.n.ins, x.n.sv, x.n.lv, x.n.ov, x.pv, x.qv, x.kv, x.av, x.bv, .int .i64 x.oi, .int .i64 x.ni] 40]) rfl ?_
 refine hl_v rfl rfl rfl (rv_ev rfl) ?_
 refine hl_less (sx 0 rfl (sx 1 rfl (sx 2 rfl (sub_nil _)))) (.refl _) ?_
 refine hl_nil ?_
 refine hq_then ?_
 refine hc_seq ?_
 refine hc_seq ?_
 refine hc_region ?_
 refine hl_v rfl rfl rfl (rv_loadN (cs := [.int .i64 x.n.ins, x.n.sv, x.n.lv, x.n.ov, x.pv, x.qv, x.kv, x.av, x.bv, .int .i64 x.oi, .int .i64 x.ni]) rfl (by kernel_rfl) (by kernel_rfl) rfl rfl (box_part 1 rfl 0 rfl)) ?_
 refine hl_callV rfl rfl rfl (rq_call (by kernel_rfl) rfl (fun w hm => ret_ans (implTimedOk_ans x w (hr.below hm.bel)))) ?_
 refine hl_bool (fun h3 => ?_) (fun h3 => ?_)
 ·
  have hok := of_pB h3
  obtain ⟨ci, cs_, cl, ck, ca, cb, cd, ce⟩ := hok.bnd
  have hi0 := ci.1
  have hi1 := ci.2
  refine hl_v rfl rfl rfl (rv_ev rfl) ?_
  refine hl_less (sx 0 rfl (sx 1 rfl (sx 2 rfl (sx 9 rfl (sub_nil _))))) (.refl _) ?_
  refine hl_nil ?_
  refine hq_then ?_
  refine hc_false rfl ?_
  refine hc_skip ?_
  refine hq_then ?_
  refine hc_seq ?_
  refine hc_region ?_
  refine hl_nilRow 81 2 ?_
  refine hl_eqL (l' := [rowE 81 2 (.slice none 0 0) (([] : List Pt).length) (([] : List Pt).flatMap ptC), rowE 81 2 (.slice none 0 0) (([] : List Pt).length) (([] : List Pt).flatMap ptC), boxE b1 #[.int .i64 x.n.ins, x.n.sv, x.n.lv, x.n.ov, x.pv, x.qv, x.kv, x.av, x.bv, .int .i64 x.oi, .int .i64 x.ni] 40]) rfl ?_
  refine hl_v rfl rfl rfl (rv_ev rfl) ?_
  refine hl_less (sx 0 rfl (sx 1 rfl (sx 2 rfl (sx 3 rfl (sx 9 rfl (sub_nil _)))))) (.refl _) ?_
  refine hl_nil ?_
  refine hq_then ?_
  refine hc_seq ?_
  refine hc_seq ?_
  refine hc_region ?_
  refine hl_v rfl rfl rfl (rv_ev rfl) ?_
  refine hl_less (sx 0 rfl (sx 1 rfl (sx 2 rfl (sx 3 rfl (sx 4 rfl (sx 9 rfl (sub_nil _))))))) (.refl _) ?_
  refine hl_nil ?_
  refine hq_then ?_
  refine hc_block ?_
  refine hc_loop3 (α := Nat) (β := Value) (γ := List Pt) (fun k u zs => [rowE 81 2 u zs.length (zs.flatMap ptC), rowE 81 2 (.slice none 0 0) (([] : List Pt).length) (([] : List Pt).flatMap ptC), boxE b1 #[.int .i64 x.n.ins, x.n.sv, x.n.lv, x.n.ov, x.pv, x.qv, x.kv, x.av, x.bv, .int .i64 x.oi, .int .i64 x.ni] 40]) (fun k u zs => [(0, .agg #[.int .i64 x.n.ins, x.n.sv, x.n.lv, x.n.ov, x.pv, x.qv, x.kv, x.av, x.bv, .int .i64 x.oi, .int .i64 x.ni]), (1, .pointer (some ⟨b1, 0, none⟩)), (2, .slice none 0 0), (3, u), (4, .int .i64 (k : Int)), (9, .bool false)]) (fun k u zs => (k : Int) ≤ x.n.ins ∧ zs = lauA k) (fun k u zs => x.n.ins.toNat - k) 0 _ [] ⟨by omega, rfl⟩ (sx 0 rfl (sx 1 rfl (sx 2 rfl (sx 3 rfl (sx 4 rfl (sx 9 rfl (sub_nil _))))))) ((.cons_cons _ (.cons_cons _ (.cons_cons _ .slnil)))) ?_
  intro k u zs hi5
  obtain ⟨hk, hz⟩ := hi5
  have hzl : zs.length = k := by rw [hz]; exact lauA_len k
  refine hc_seq ?_
  refine hc_seq ?_
  refine hc_region ?_
  refine hl_v rfl rfl rfl (rv_ev rfl) ?_
  refine hl_v rfl rfl rfl (rv_field (k0 := 0) rfl (by kernel_rfl) rfl) ?_
  refine hl_v rfl rfl rfl (rv_field (k0 := 0) rfl (by kernel_rfl) rfl) ?_
  refine hl_v rfl rfl rfl (rv_load rfl (by kernel_rfl) rfl (box_cell 2 rfl rfl)) ?_
  refine hl_lss rfl rfl rfl rfl rfl rfl (fun h6 => ?_) (fun h6 => ?_)
  ·
   refine hl_less (sx 0 rfl (sx 1 rfl (sx 2 rfl (sx 3 rfl (sx 4 rfl (sx 9 rfl (sx 14 rfl (sub_nil _)))))))) (.refl _) ?_
   refine hl_nil ?_
   refine hq_then ?_
   refine hc_true rfl ?_
   refine hc_skip ?_
   refine hq_then ?_
   refine hc_seq ?_
   refine hc_block ?_
   refine hc_region ?_
   refine hl_v rfl rfl rfl (rv_ev rfl) ?_
   refine hl_v rfl rfl rfl (rv_ev rfl) ?_
   refine hl_v rfl rfl rfl (rv_add rfl rfl rfl (by constructor <;> omega)) ?_
   refine hl_v rfl rfl rfl (rv_build (cs := #[.int .i64 (1 + (k : Int)), .int .i64 0]) rfl rfl (by kernel_rfl)) ?_
   refine hl_row rfl rfl rfl (rq_buildSlice (z := .agg #[.int .i64 0, .int .i64 0]) (s := 2) (cs := ([1 + (k : Int), 0].map (Value.int .i64))) rfl Try.underlying44 (by kernel_rfl) (by decide) rfl (by kernel_rfl) rfl) ?_
   intro g7
   refine hl_append (i := 1) (z := .agg #[.int .i64 0, .int .i64 0]) (bytes := 16) (n' := (zs ++ [Pt.mk (1 + (k : Int)) 0]).length) (xs' := ((zs ++ [Pt.mk (1 + (k : Int)) 0]).flatMap ptC)) (L := fun v8 => [rowE 81 2 (.slice (some ⟨g7, 0, none⟩) 1 1) 1 ([1 + (k : Int), 0].map (Value.int .i64)), rowE 81 2 v8 ((zs ++ [Pt.mk (1 + (k : Int)) 0]).length) ((zs ++ [Pt.mk (1 + (k : Int)) 0]).flatMap ptC), rowE 81 2 (.slice none 0 0) (([] : List Pt).length) (([] : List Pt).flatMap ptC), boxE b1 #[.int .i64 x.n.ins, x.n.sv, x.n.lv, x.n.ov, x.pv, x.qv, x.kv, x.av, x.bv, .int .i64 x.oi, .int .i64 x.ni] 40]) rfl rfl rfl rfl Try.underlying44 (by kernel_rfl) (by kernel_rfl) rfl rfl rfl (rd_row 0 rfl) (ints_one _) (by first | omega | (simp only [List.length_append, List.length_cons, List.length_nil]; omega)) (len_app zs [Pt.mk (1 + (k : Int)) 0]) (flat_app1 ptC zs (Pt.mk (1 + (k : Int)) 0) _ rfl) (fun _ => rfl) ?_
   intro v8
   refine hl_v rfl rfl rfl (rv_ev rfl) ?_
   refine hl_less (sx 0 rfl (sx 1 rfl (sx 2 rfl (sx 3 rfl (sx 4 rfl (sx 9 rfl (sx 14 rfl (sub_nil _)))))))) (.refl _) ?_
   refine hl_nil ?_
   refine hq_block_normal ?_
   refine hq_then ?_
   refine hc_region ?_
   refine hl_v rfl rfl rfl (rv_ev rfl) ?_
   refine hl_v rfl rfl rfl (rv_add rfl rfl rfl (by constructor <;> omega)) ?_
   refine hl_v rfl rfl rfl (rv_ev rfl) ?_
   refine hl_less (sx 0 rfl (sx 1 rfl (sx 2 rfl (sx 3 rfl (sx 4 rfl (sx 9 rfl (sx 14 rfl (sub_nil _)))))))) (.refl _) ?_
   refine hl_nil ?_
   exact hq_round3 (k + 1) v8 (zs ++ [Pt.mk (1 + (k : Int)) 0]) ⟨by omega, by rw [lauA_succ, hz]⟩ (by omega) (sx 0 rfl (sx 1 rfl (sx 2 rfl (sx 3 rfl (sx 4 rfl (sx 9 rfl (sub_nil _))))))) ((.cons _ (.cons_cons _ (.cons_cons _ (.cons_cons _ .slnil)))))
  ·
   refine hl_less (sx 0 rfl (sx 1 rfl (sx 2 rfl (sx 3 rfl (sx 4 rfl (sx 9 rfl (sx 14 rfl (sub_nil _)))))))) (.refl _) ?_
   refine hl_nil ?_
   refine hq_then ?_
   refine hc_false rfl ?_
   refine hc_exit ?_
   refine hq_then_exit ?_
   refine hq_then_exit ?_
   refine hq_block_exit ?_
   refine hq_then ?_
   refine hc_seq ?_
   refine hc_seq ?_
   refine hc_region ?_
   refine hl_v rfl rfl rfl (rv_field (k0 := 6) rfl (by kernel_rfl) rfl) ?_
   refine hl_v rfl rfl rfl (rv_load rfl (by kernel_rfl) rfl (box_cell 2 rfl rfl)) ?_
   refine hl_v rfl rfl rfl (rv_len rfl Try.underlying24 rfl (rd_old ((hr).ks))) ?_
   refine hl_v rfl rfl rfl (rv_ev rfl) ?_
   refine hl_less (sx 0 rfl (sx 1 rfl (sx 2 rfl (sx 3 rfl (sx 4 rfl (sx 9 rfl (sx 14 rfl (sx 24 rfl (sx 25 rfl (sx 26 rfl (sub_nil _))))))))))) (.refl _) ?_
   refine hl_nil ?_
   refine hq_then ?_
   refine hc_block ?_
   refine hc_loop3 (α := Nat) (β := Value) (γ := List Pt) (fun j u2 ys => [rowE 81 2 u2 ys.length (ys.flatMap ptC), rowE 81 2 (.slice none 0 0) (([] : List Pt).length) (([] : List Pt).flatMap ptC), boxE b1 #[.int .i64 x.n.ins, x.n.sv, x.n.lv, x.n.ov, x.pv, x.qv, x.kv, x.av, x.bv, .int .i64 x.oi, .int .i64 x.ni] 40]) (fun j u2 ys => [(0, .agg #[.int .i64 x.n.ins, x.n.sv, x.n.lv, x.n.ov, x.pv, x.qv, x.kv, x.av, x.bv, .int .i64 x.oi, .int .i64 x.ni]), (1, .pointer (some ⟨b1, 0, none⟩)), (2, .slice none 0 0), (3, u2), (9, .bool false), (14, .bool false), (24, x.kv), (25, .int .i64 (x.ks.length : Int)), (26, .int .i64 (j : Int))]) (fun j u2 ys => j ≤ x.ks.length ∧ ys = lauB x j) (fun j u2 ys => x.ks.length - j) 0 _ zs ⟨Nat.zero_le _, by rw [lauB_zero, hz, show k = x.n.ins.toNat by omega]⟩ (sx 0 rfl (sx 1 rfl (sx 2 rfl (sx 3 rfl (sx 9 rfl (sx 14 rfl (sx 24 rfl (sx 25 rfl (sx 26 rfl (sub_nil _)))))))))) ((.cons_cons _ (.cons_cons _ (.cons_cons _ .slnil)))) ?_
   intro j u2 ys hi9
   obtain ⟨hj, hy⟩ := hi9
   have hyl : ys.length = x.n.ins.toNat + j := by rw [hy]; exact lauB_len x j
   refine hc_seq ?_
   refine hc_region ?_
   refine hl_lss rfl rfl rfl rfl rfl rfl (fun h10 => ?_) (fun h10 => ?_)
   ·
    refine hl_less (sx 0 rfl (sx 1 rfl (sx 2 rfl (sx 3 rfl (sx 9 rfl (sx 14 rfl (sx 24 rfl (sx 25 rfl (sx 26 rfl (sx 27 rfl (sub_nil _))))))))))) (.refl _) ?_
    refine hl_nil ?_
    refine hq_then ?_
    refine hc_seq ?_
    refine hc_true rfl ?_
    refine hc_skip ?_
    refine hq_then ?_
    refine hc_seq ?_
    refine hc_block ?_
    refine hc_seq ?_
    refine hc_region ?_
    refine hl_v rfl rfl rfl (rv_ev rfl) ?_
    refine hl_v rfl rfl rfl (rv_index (s := 1) rfl Try.underlying24 (by kernel_rfl) rfl rfl (rd_old ((hr).ks)) (by omega) (by first | omega | (simp only [List.length_set]; omega))) ?_
    refine hl_v rfl rfl rfl (rv_loadEl (u := .int .i64 (x.ks.getD j 0)) rfl (by kernel_rfl) rfl (rd_old ((hr).ks)) (ints_at1 (show _ < x.ks.length by first | omega | (simp only [List.length_set]; omega)))) ?_
    refine hl_v rfl rfl rfl (rv_ev rfl) ?_
    refine hl_v rfl rfl rfl (rv_ev rfl) ?_
    refine hl_less (sx 0 rfl (sx 1 rfl (sx 2 rfl (sx 3 rfl (sx 5 rfl (sx 6 rfl (sx 9 rfl (sx 14 rfl (sx 24 rfl (sx 25 rfl (sx 26 rfl (sx 27 rfl (sub_nil _))))))))))))) (.refl _) ?_
    refine hl_nil ?_
    refine hq_then ?_
    refine hc_region ?_
    refine hl_v rfl rfl rfl (rv_ev rfl) ?_
    refine hl_v rfl rfl rfl (rv_field (k0 := 0) rfl (by kernel_rfl) rfl) ?_
    refine hl_v rfl rfl rfl (rv_field (k0 := 0) rfl (by kernel_rfl) rfl) ?_
    refine hl_v rfl rfl rfl (rv_load rfl (by kernel_rfl) rfl (box_cell 2 rfl rfl)) ?_
    refine hl_v rfl rfl rfl (rv_add rfl rfl rfl (by constructor <;> omega)) ?_
    refine hl_v rfl rfl rfl (rv_ev rfl) ?_
    refine hl_v rfl rfl rfl (rv_add rfl rfl rfl (by constructor <;> omega)) ?_
    refine hl_v rfl rfl rfl (rv_ev rfl) ?_
    refine hl_v rfl rfl rfl (rv_build (cs := #[.int .i64 ((1 + x.n.ins) + (j : Int)), .int .i64 (x.ks.getD j 0)]) rfl rfl (by kernel_rfl)) ?_
    refine hl_row rfl rfl rfl (rq_buildSlice (z := .agg #[.int .i64 0, .int .i64 0]) (s := 2) (cs := ([(1 + x.n.ins) + (j : Int), x.ks.getD j 0].map (Value.int .i64))) rfl Try.underlying44 (by kernel_rfl) (by decide) rfl (by kernel_rfl) rfl) ?_
    intro g11
    refine hl_append (i := 1) (z := .agg #[.int .i64 0, .int .i64 0]) (bytes := 16) (n' := (ys ++ [Pt.mk ((1 + x.n.ins) + (j : Int)) (x.ks.getD j 0)]).length) (xs' := ((ys ++ [Pt.mk ((1 + x.n.ins) + (j : Int)) (x.ks.getD j 0)]).flatMap ptC)) (L := fun v12 => [rowE 81 2 (.slice (some ⟨g11, 0, none⟩) 1 1) 1 ([(1 + x.n.ins) + (j : Int), x.ks.getD j 0].map (Value.int .i64)), rowE 81 2 v12 ((ys ++ [Pt.mk ((1 + x.n.ins) + (j : Int)) (x.ks.getD j 0)]).length) ((ys ++ [Pt.mk ((1 + x.n.ins) + (j : Int)) (x.ks.getD j 0)]).flatMap ptC), rowE 81 2 (.slice none 0 0) (([] : List Pt).length) (([] : List Pt).flatMap ptC), boxE b1 #[.int .i64 x.n.ins, x.n.sv, x.n.lv, x.n.ov, x.pv, x.qv, x.kv, x.av, x.bv, .int .i64 x.oi, .int .i64 x.ni] 40]) rfl rfl rfl rfl Try.underlying44 (by kernel_rfl) (by kernel_rfl) rfl rfl rfl (rd_row 0 rfl) (ints_one _) (by first | omega | (simp only [List.length_append, List.length_cons, List.length_nil]; omega)) (len_app ys [Pt.mk ((1 + x.n.ins) + (j : Int)) (x.ks.getD j 0)]) (flat_app1 ptC ys (Pt.mk ((1 + x.n.ins) + (j : Int)) (x.ks.getD j 0)) _ rfl) (fun _ => rfl) ?_
    intro v12
    refine hl_v rfl rfl rfl (rv_ev rfl) ?_
    refine hl_less (sx 0 rfl (sx 1 rfl (sx 2 rfl (sx 3 rfl (sx 5 rfl (sx 6 rfl (sx 9 rfl (sx 14 rfl (sx 24 rfl (sx 25 rfl (sx 26 rfl (sx 27 rfl (sub_nil _))))))))))))) (.refl _) ?_
    refine hl_nil ?_
    refine hq_block_normal ?_
    refine hq_then ?_
    refine hc_region ?_
    refine hl_v rfl rfl rfl (rv_add rfl rfl rfl (by constructor <;> omega)) ?_
    refine hl_v rfl rfl rfl (rv_ev rfl) ?_
    refine hl_less (sx 0 rfl (sx 1 rfl (sx 2 rfl (sx 3 rfl (sx 5 rfl (sx 6 rfl (sx 9 rfl (sx 14 rfl (sx 24 rfl (sx 25 rfl (sx 26 rfl (sx 27 rfl (sub_nil _))))))))))))) (.refl _) ?_
    refine hl_nil ?_
    exact hq_round3 (j + 1) v12 (ys ++ [Pt.mk ((1 + x.n.ins) + (j : Int)) (x.ks.getD j 0)]) ⟨by omega, by rw [lauB_succ, hy]⟩ (by omega) (sx 0 rfl (sx 1 rfl (sx 2 rfl (sx 3 rfl (sx 9 rfl (sx 14 rfl (sx 24 rfl (sx 25 rfl (sx 26 rfl (sub_nil _)))))))))) ((.cons _ (.cons_cons _ (.cons_cons _ (.cons_cons _ .slnil)))))
   ·
    refine hl_less (sx 0 rfl (sx 1 rfl (sx 2 rfl (sx 3 rfl (sx 9 rfl (sx 14 rfl (sx 24 rfl (sx 25 rfl (sx 26 rfl (sx 27 rfl (sub_nil _))))))))))) (.refl _) ?_
    refine hl_nil ?_
    refine hq_then ?_
    refine hc_seq ?_
    refine hc_false rfl ?_
    refine hc_exit ?_
    refine hq_then_exit ?_
    refine hq_then_exit ?_
    refine hq_block_exit ?_
    refine hq_then ?_
    refine hc_seq ?_
    refine hc_region ?_
    refine hl_v rfl rfl rfl (rv_ev rfl) ?_
    refine hl_v rfl rfl rfl (rv_ev rfl) ?_
    refine hl_less (sx 0 rfl (sx 1 rfl (sx 2 rfl (sx 3 rfl (sx 9 rfl (sx 14 rfl (sx 24 rfl (sx 25 rfl (sx 26 rfl (sx 27 rfl (sub_nil _))))))))))) (.refl _) ?_
    refine hl_nil ?_
    refine hq_then ?_
    refine hc_ret ?_
    have hE : ys = lauR x := by unfold lauR; rw [if_pos (pB_yes hok), hy, show j = x.ks.length by omega]
    exact hq_retR (post := [rowE 81 2 u2 ys.length (ys.flatMap ptC)]) rfl rfl ((.cons_cons _ (.cons _ (.cons _ .slnil)))) (by rw [← hE] <;> rfl)
 ·
  have hno := of_pBn h3
  refine hl_v rfl rfl rfl (rv_ev rfl) ?_
  refine hl_less (sx 0 rfl (sx 1 rfl (sx 2 rfl (sx 9 rfl (sub_nil _))))) (.refl _) ?_
  refine hl_nil ?_
  refine hq_then ?_
  refine hc_true rfl ?_
  refine hc_seq ?_
  refine hc_region ?_
  refine hl_nilRow 81 2 ?_
  refine hl_eqL (l' := [rowE 81 2 (.slice none 0 0) (([] : List Pt).length) (([] : List Pt).flatMap ptC), rowE 81 2 (.slice none 0 0) (([] : List Pt).length) (([] : List Pt).flatMap ptC), boxE b1 #[.int .i64 x.n.ins, x.n.sv, x.n.lv, x.n.ov, x.pv, x.qv, x.kv, x.av, x.bv, .int .i64 x.oi, .int .i64 x.ni] 40]) rfl ?_
  refine hl_v rfl rfl rfl (rv_ev rfl) ?_
  refine hl_less (sx 0 rfl (sx 1 rfl (sx 2 rfl (sx 9 rfl (sub_nil _))))) (.refl _) ?_
  refine hl_nil ?_
  refine hq_then ?_
  refine hc_ret ?_
  refine hq_then_ret ?_
  have hE : (([] : List Pt)) = lauR x := by unfold lauR; rw [pB_no hno]; rfl
  exact hq_retR (post := [rowE 81 2 (.slice none 0 0) (([] : List Pt).length) (([] : List Pt).flatMap ptC)]) rfl rfl ((.cons_cons _ (.cons _ (.cons _ .slnil)))) (by rw [← hE] <;> rfl)
set_option maxHeartbeats 4000000 in
set_option maxRecDepth 100000 in
theorem specLaunchPoints_ret (x : Td) (w : World) (hr : RdsTd w x) :
  Calls Try.prog 21 #[.agg #[.int .i64 x.n.ins, x.n.sv, x.n.lv, x.n.ov, x.pv, x.qv, x.kv, x.av, x.bv, .int .i64 x.oi, .int .i64 x.ni]] w (Ret w (fun v' post => post = [rowE 81 2 v' (lauR x).length ((lauR x).flatMap ptC)])) := by
 have t1 := sml hr.ks
 have t2 := sml hr.ao
 have t3 := sml hr.bs
 have t4 := hr.dl.small
 have t5 := hr.ds.small
 have t6 := hr.n.sq.small
 have t7 := hr.n.lt.small
 have t8 := sml hr.n.ou
 have hcnt : x.n.cnt = 1 + x.n.ins + x.n.ss.length + x.n.ls.length := rfl
 have hfst : x.n.fst = 1 + x.n.ins + x.n.ss.length := rfl
 refine calls_hc (N := 47) (args := [.agg #[.int .i64 x.n.ins, x.n.sv, x.n.lv, x.n.ov, x.pv, x.qv, x.kv, x.av, x.bv, .int .i64 x.oi, .int .i64 x.ni]]) Try.func21 rfl rfl ?_
 refine hc_less _ (sx 0 rfl (sub_nil _)) (.refl _) ?_
 refine hc_seq ?_
 refine hc_region ?_
 refine hl_box rfl rfl rfl (rq_box rfl rfl) ?_
 intro b1
 refine hl_nilRow 81 2 ?_
 refine hl_eqL (l' := [rowE 81 2 (.slice none 0 0) (([] : List Pt).length) (([] : List Pt).flatMap ptC), boxE b1 #[.int .i64 x.n.ins, x.n.sv, x.n.lv, x.n.ov, x.pv, x.qv, x.kv, x.av, x.bv, .int .i64 x.oi, .int .i64 x.ni] 40]) rfl ?_
 refine hl_v rfl rfl rfl (rv_ev rfl) ?_
 refine hl_less (sx 0 rfl (sx 1 rfl (sx 2 rfl (sub_nil _)))) (.refl _) ?_
 refine hl_nil ?_
 refine hq_then ?_
 refine hc_seq ?_
 refine hc_region ?_
 refine hl_row rfl rfl rfl (rq_slice0 (s := 2) rfl Try.underlying44 (by kernel_rfl)) ?_
 intro g3
 refine hl_v rfl rfl rfl (rv_ev rfl) ?_
 refine hl_less (sx 0 rfl (sx 1 rfl (sx 2 rfl (sx 3 rfl (sub_nil _))))) (.refl _) ?_
 refine hl_nil ?_
 refine hq_then ?_
 refine hc_seq ?_
 refine hc_seq ?_
 refine hc_region ?_
 refine hl_v rfl rfl rfl (rv_loadN (cs := [.int .i64 x.n.ins, x.n.sv, x.n.lv, x.n.ov, x.pv, x.qv, x.kv, x.av, x.bv, .int .i64 x.oi, .int .i64 x.ni]) rfl (by kernel_rfl) (by kernel_rfl) rfl rfl (box_part 2 rfl 0 rfl)) ?_
 refine hl_callV rfl rfl rfl (rq_call (by kernel_rfl) rfl (fun w hm => ret_ans (specTimedOk_ans x w (hr.below hm.bel)))) ?_
 refine hl_bool (fun h4 => ?_) (fun h4 => ?_)
 ·
  have hok := of_pB h4
  obtain ⟨ci, cs_, cl, ck, ca, cb, cd, ce⟩ := hok.bnd
  have hi0 := ci.1
  have hi1 := ci.2
  refine hl_v rfl rfl rfl (rv_ev rfl) ?_
  refine hl_less (sx 0 rfl (sx 1 rfl (sx 2 rfl (sx 3 rfl (sx 9 rfl (sub_nil _)))))) (.refl _) ?_
  refine hl_nil ?_
  refine hq_then ?_
  refine hc_false rfl ?_
  refine hc_skip ?_
  refine hq_then ?_
  refine hc_seq ?_
  refine hc_seq ?_
  refine hc_region ?_
  refine hl_v rfl rfl rfl (rv_ev rfl) ?_
  refine hl_less (sx 0 rfl (sx 1 rfl (sx 2 rfl (sx 3 rfl (sx 4 rfl (sx 9 rfl (sub_nil _))))))) (.refl _) ?_
  refine hl_nil ?_
  refine hq_then ?_
  refine hc_block ?_
  refine hc_loop3 (α := Nat) (β := Value) (γ := List Pt) (fun k u zs => [rowE 81 2 u zs.length (zs.flatMap ptC), rowE 81 2 (.slice none 0 0) (([] : List Pt).length) (([] : List Pt).flatMap ptC), boxE b1 #[.int .i64 x.n.ins, x.n.sv, x.n.lv, x.n.ov, x.pv, x.qv, x.kv, x.av, x.bv, .int .i64 x.oi, .int .i64 x.ni] 40]) (fun k u zs => [(0, .agg #[.int .i64 x.n.ins, x.n.sv, x.n.lv, x.n.ov, x.pv, x.qv, x.kv, x.av, x.bv, .int .i64 x.oi, .int .i64 x.ni]), (1, .pointer (some ⟨b1, 0, none⟩)), (2, .slice none 0 0), (3, u), (4, .int .i64 (k : Int)), (9, .bool false)]) (fun k u zs => (k : Int) ≤ x.n.ins ∧ zs = lauA k) (fun k u zs => x.n.ins.toNat - k) 0 _ [] ⟨by omega, rfl⟩ (sx 0 rfl (sx 1 rfl (sx 2 rfl (sx 3 rfl (sx 4 rfl (sx 9 rfl (sub_nil _))))))) ((.cons_cons _ (.cons_cons _ (.cons_cons _ .slnil)))) ?_
  intro k u zs hi5
  obtain ⟨hk, hz⟩ := hi5
  have hzl : zs.length = k := by rw [hz]; exact lauA_len k
  refine hc_seq ?_
  refine hc_seq ?_
  refine hc_region ?_
  refine hl_v rfl rfl rfl (rv_ev rfl) ?_
  refine hl_v rfl rfl rfl (rv_field (k0 := 0) rfl (by kernel_rfl) rfl) ?_
  refine hl_v rfl rfl rfl (rv_field (k0 := 0) rfl (by kernel_rfl) rfl) ?_
  refine hl_v rfl rfl rfl (rv_load rfl (by kernel_rfl) rfl (box_cell 2 rfl rfl)) ?_
  refine hl_lss rfl rfl rfl rfl rfl rfl (fun h6 => ?_) (fun h6 => ?_)
  ·
   refine hl_less (sx 0 rfl (sx 1 rfl (sx 2 rfl (sx 3 rfl (sx 4 rfl (sx 9 rfl (sx 15 rfl (sub_nil _)))))))) (.refl _) ?_
   refine hl_nil ?_
   refine hq_then ?_
   refine hc_true rfl ?_
   refine hc_skip ?_
   refine hq_then ?_
   refine hc_seq ?_
   refine hc_block ?_
   refine hc_region ?_
   refine hl_v rfl rfl rfl (rv_ev rfl) ?_
   refine hl_v rfl rfl rfl (rv_ev rfl) ?_
   refine hl_v rfl rfl rfl (rv_add rfl rfl rfl (by constructor <;> omega)) ?_
   refine hl_v rfl rfl rfl (rv_build (cs := #[.int .i64 (1 + (k : Int)), .int .i64 0]) rfl rfl (by kernel_rfl)) ?_
   refine hl_row rfl rfl rfl (rq_buildSlice (z := .agg #[.int .i64 0, .int .i64 0]) (s := 2) (cs := ([1 + (k : Int), 0].map (Value.int .i64))) rfl Try.underlying44 (by kernel_rfl) (by decide) rfl (by kernel_rfl) rfl) ?_
   intro g7
   refine hl_append (i := 1) (z := .agg #[.int .i64 0, .int .i64 0]) (bytes := 16) (n' := (zs ++ [Pt.mk (1 + (k : Int)) 0]).length) (xs' := ((zs ++ [Pt.mk (1 + (k : Int)) 0]).flatMap ptC)) (L := fun v8 => [rowE 81 2 (.slice (some ⟨g7, 0, none⟩) 1 1) 1 ([1 + (k : Int), 0].map (Value.int .i64)), rowE 81 2 v8 ((zs ++ [Pt.mk (1 + (k : Int)) 0]).length) ((zs ++ [Pt.mk (1 + (k : Int)) 0]).flatMap ptC), rowE 81 2 (.slice none 0 0) (([] : List Pt).length) (([] : List Pt).flatMap ptC), boxE b1 #[.int .i64 x.n.ins, x.n.sv, x.n.lv, x.n.ov, x.pv, x.qv, x.kv, x.av, x.bv, .int .i64 x.oi, .int .i64 x.ni] 40]) rfl rfl rfl rfl Try.underlying44 (by kernel_rfl) (by kernel_rfl) rfl rfl rfl (rd_row 0 rfl) (ints_one _) (by first | omega | (simp only [List.length_append, List.length_cons, List.length_nil]; omega)) (len_app zs [Pt.mk (1 + (k : Int)) 0]) (flat_app1 ptC zs (Pt.mk (1 + (k : Int)) 0) _ rfl) (fun _ => rfl) ?_
   intro v8
   refine hl_v rfl rfl rfl (rv_ev rfl) ?_
   refine hl_less (sx 0 rfl (sx 1 rfl (sx 2 rfl (sx 3 rfl (sx 4 rfl (sx 9 rfl (sx 15 rfl (sub_nil _)))))))) (.refl _) ?_
   refine hl_nil ?_
   refine hq_block_normal ?_
   refine hq_then ?_
   refine hc_region ?_
   refine hl_v rfl rfl rfl (rv_ev rfl) ?_
   refine hl_v rfl rfl rfl (rv_add rfl rfl rfl (by constructor <;> omega)) ?_
   refine hl_v rfl rfl rfl (rv_ev rfl) ?_
   refine hl_less (sx 0 rfl (sx 1 rfl (sx 2 rfl (sx 3 rfl (sx 4 rfl (sx 9 rfl (sx 15 rfl (sub_nil _)))))))) (.refl _) ?_
   refine hl_nil ?_
   exact hq_round3 (k + 1) v8 (zs ++ [Pt.mk (1 + (k : Int)) 0]) ⟨by omega, by rw [lauA_succ, hz]⟩ (by omega) (sx 0 rfl (sx 1 rfl (sx 2 rfl (sx 3 rfl (sx 4 rfl (sx 9 rfl (sub_nil _))))))) ((.cons _ (.cons_cons _ (.cons_cons _ (.cons_cons _ .slnil)))))
  ·
   refine hl_less (sx 0 rfl (sx 1 rfl (sx 2 rfl (sx 3 rfl (sx 4 rfl (sx 9 rfl (sx 15 rfl (sub_nil _)))))))) (.refl _) ?_
   refine hl_nil ?_
   refine hq_then ?_
   refine hc_false rfl ?_
   refine hc_exit ?_
   refine hq_then_exit ?_
   refine hq_then_exit ?_
   refine hq_block_exit ?_
   refine hq_then ?_
   refine hc_seq ?_
   refine hc_seq ?_
   refine hc_region ?_
   refine hl_v rfl rfl rfl (rv_ev rfl) ?_
   refine hl_less (sx 0 rfl (sx 1 rfl (sx 2 rfl (sx 3 rfl (sx 4 rfl (sx 5 rfl (sx 9 rfl (sx 15 rfl (sub_nil _))))))))) (.refl _) ?_
   refine hl_nil ?_
   refine hq_then ?_
   refine hc_block ?_
   refine hc_loop3 (α := Nat) (β := Value) (γ := List Pt) (fun j u2 ys => [rowE 81 2 u2 ys.length (ys.flatMap ptC), rowE 81 2 (.slice none 0 0) (([] : List Pt).length) (([] : List Pt).flatMap ptC), boxE b1 #[.int .i64 x.n.ins, x.n.sv, x.n.lv, x.n.ov, x.pv, x.qv, x.kv, x.av, x.bv, .int .i64 x.oi, .int .i64 x.ni] 40]) (fun j u2 ys => [(0, .agg #[.int .i64 x.n.ins, x.n.sv, x.n.lv, x.n.ov, x.pv, x.qv, x.kv, x.av, x.bv, .int .i64 x.oi, .int .i64 x.ni]), (1, .pointer (some ⟨b1, 0, none⟩)), (2, .slice none 0 0), (3, u2), (5, .int .i64 (j : Int)), (9, .bool false), (15, .bool false)]) (fun j u2 ys => j ≤ x.ks.length ∧ ys = lauB x j) (fun j u2 ys => x.ks.length - j) 0 _ zs ⟨Nat.zero_le _, by rw [lauB_zero, hz, show k = x.n.ins.toNat by omega]⟩ (sx 0 rfl (sx 1 rfl (sx 2 rfl (sx 3 rfl (sx 5 rfl (sx 9 rfl (sx 15 rfl (sub_nil _)))))))) ((.cons_cons _ (.cons_cons _ (.cons_cons _ .slnil)))) ?_
   intro j u2 ys hi9
   obtain ⟨hj, hy⟩ := hi9
   have hyl : ys.length = x.n.ins.toNat + j := by rw [hy]; exact lauB_len x j
   refine hc_seq ?_
   refine hc_seq ?_
   refine hc_region ?_
   refine hl_v rfl rfl rfl (rv_ev rfl) ?_
   refine hl_v rfl rfl rfl (rv_field (k0 := 6) rfl (by kernel_rfl) rfl) ?_
   refine hl_v rfl rfl rfl (rv_load rfl (by kernel_rfl) rfl (box_cell 2 rfl rfl)) ?_
   refine hl_v rfl rfl rfl (rv_len rfl Try.underlying24 rfl (rd_old ((hr).ks))) ?_
   refine hl_lss rfl rfl rfl rfl rfl rfl (fun h10 => ?_) (fun h10 => ?_)
   ·
    refine hl_less (sx 0 rfl (sx 1 rfl (sx 2 rfl (sx 3 rfl (sx 5 rfl (sx 9 rfl (sx 15 rfl (sx 28 rfl (sub_nil _))))))))) (.refl _) ?_
    refine hl_nil ?_
    refine hq_then ?_
    refine hc_true rfl ?_
    refine hc_skip ?_
    refine hq_then ?_
    refine hc_seq ?_
    refine hc_block ?_
    refine hc_draw (by kernel_rfl) 14 [0, 1, 2, 3, 4, 5, 6, 7, 8, 9, 10, 11, 12, 13] (List.take 14 _) (List.drop 14 _) [[], [], [1], [2], [3], [], [4, 5], [], [7], [], [8, 9], [10], [6, 11], [12]] [31, 32, 33, 34, 35, 36, 37, 38, 39, 40, 41, 42, 43, 44] (fun i_ vs_ v_ p_ => match i_ with | 0 => v_ = u2 ∧ p_ = [] | 1 => v_ = .pointer (some ⟨b1, 0 + 0, none⟩) ∧ p_ = [] | 2 => v_ = .pointer (some ⟨b1, 0 + 0 + 0, none⟩) ∧ p_ = [] | 3 => v_ = .int .i64 x.n.ins ∧ p_ = [] | 4 => v_ = .int .i64 (1 + x.n.ins) ∧ p_ = [] | 5 => v_ = .int .i64 (j : Int) ∧ p_ = [] | 6 => v_ = .int .i64 ((1 + x.n.ins) + (j : Int)) ∧ p_ = [] | 7 => v_ = .pointer (some ⟨b1, 0 + 6, none⟩) ∧ p_ = [] | 8 => v_ = x.kv ∧ p_ = [] | 9 => v_ = .int .i64 (j : Int) ∧ p_ = [] | 10 => v_ = elP x.kv (((j : Int)).toNat * 1) ∧ p_ = [] | 11 => v_ = .int .i64 (x.ks.getD j 0) ∧ p_ = [] | 12 => v_ = .agg #[.int .i64 ((1 + x.n.ins) + (j : Int)), .int .i64 (x.ks.getD j 0)] ∧ p_ = [] | 13 => IsRow_o 81 2 1 ([(1 + x.n.ins) + (j : Int), x.ks.getD j 0].map (Value.int .i64)) v_ p_ | _ => True) (List.take_append_drop 14 _).symm (by kernel_rfl) (by kernel_rfl) rfl rfl ?_ ?_
    ·
     refine ⟨?_, ?_, ?_, ?_, ?_, ?_, ?_, ?_, ?_, ?_, ?_, ?_, ?_, ?_, trivial⟩
     ·
      intro vf pf hR
      refine Or.inl ⟨rfl, ?_⟩
      refine rq_less (sx 3 rfl (sub_nil _)) (List.sublist_append_right _ _) ?_
      exact rq_v (rv_ev rfl)
     ·
      intro vf pf hR
      refine Or.inl ⟨rfl, ?_⟩
      refine rq_less (sx 1 rfl (sub_nil _)) (List.sublist_append_right _ _) ?_
      exact rq_v (rv_field (k0 := 0) rfl (by kernel_rfl) rfl)
     ·
      intro vf pf hR
      have e1 : (vf 1) = .pointer (some ⟨b1, 0 + 0, none⟩) ∧ (pf 1) = [] := hR 1 (by decide)
      refine Or.inl ⟨rfl, ?_⟩
      refine rq_less (sx 32 (congrArg some e1.1) (sub_nil _)) (List.sublist_append_right _ _) ?_
      exact rq_v (rv_field (k0 := 0) rfl (by kernel_rfl) rfl)
     ·
      intro vf pf hR
      have e2 : (vf 2) = .pointer (some ⟨b1, 0 + 0 + 0, none⟩) ∧ (pf 2) = [] := hR 2 (by decide)
      refine Or.inl ⟨rfl, ?_⟩
      refine rq_less (sx 33 (congrArg some e2.1) (sub_nil _)) (List.sublist_append_right _ _) ?_
      exact rq_v (rv_load rfl (by kernel_rfl) rfl (box_cell 2 rfl rfl))
     ·
      intro vf pf hR
      have e3 : (vf 3) = .int .i64 x.n.ins ∧ (pf 3) = [] := hR 3 (by decide)
      refine Or.inl ⟨rfl, ?_⟩
      refine rq_less (sx 34 (congrArg some e3.1) (sub_nil _)) (List.sublist_append_right _ _) ?_
      exact rq_v (rv_add rfl rfl rfl (by constructor <;> omega))
     ·
      intro vf pf hR
      refine Or.inl ⟨rfl, ?_⟩
      refine rq_less (sx 5 rfl (sub_nil _)) (List.sublist_append_right _ _) ?_
      exact rq_v (rv_ev rfl)
     ·
      intro vf pf hR
      have e4 : (vf 4) = .int .i64 (1 + x.n.ins) ∧ (pf 4) = [] := hR 4 (by decide)
      have e5 : (vf 5) = .int .i64 (j : Int) ∧ (pf 5) = [] := hR 5 (by decide)
      refine Or.inl ⟨rfl, ?_⟩
      refine rq_less (sx 35 (congrArg some e4.1) (sx 36 (congrArg some e5.1) (sub_nil _))) (List.sublist_append_right _ _) ?_
      exact rq_v (rv_add rfl rfl rfl (by constructor <;> omega))
     ·
      intro vf pf hR
      refine Or.inl ⟨rfl, ?_⟩
      refine rq_less (sx 1 rfl (sub_nil _)) (List.sublist_append_right _ _) ?_
      exact rq_v (rv_field (k0 := 6) rfl (by kernel_rfl) rfl)
     ·
      intro vf pf hR
      have e7 : (vf 7) = .pointer (some ⟨b1, 0 + 6, none⟩) ∧ (pf 7) = [] := hR 7 (by decide)
      refine Or.inl ⟨rfl, ?_⟩
      refine rq_less (sx 38 (congrArg some e7.1) (sub_nil _)) (List.sublist_append_right _ _) ?_
      exact rq_v (rv_load rfl (by kernel_rfl) rfl (box_cell 2 rfl rfl))
     ·
      intro vf pf hR
      refine Or.inl ⟨rfl, ?_⟩
      refine rq_less (sx 5 rfl (sub_nil _)) (List.sublist_append_right _ _) ?_
      exact rq_v (rv_ev rfl)
     ·
      intro vf pf hR
      have e8 : (vf 8) = x.kv ∧ (pf 8) = [] := hR 8 (by decide)
      have e9 : (vf 9) = .int .i64 (j : Int) ∧ (pf 9) = [] := hR 9 (by decide)
      refine Or.inl ⟨rfl, ?_⟩
      refine rq_less (sx 39 (congrArg some e8.1) (sx 40 (congrArg some e9.1) (sub_nil _))) (List.sublist_append_right _ _) ?_
      exact rq_v (rv_index (s := 1) rfl Try.underlying24 (by kernel_rfl) rfl rfl (rd_old ((hr).ks)) (by omega) (by first | omega | (simp only [List.length_set]; omega)))
     ·
      intro vf pf hR
      have e10 : (vf 10) = elP x.kv (((j : Int)).toNat * 1) ∧ (pf 10) = [] := hR 10 (by decide)
      refine Or.inl ⟨rfl, ?_⟩
      refine rq_less (sx 41 (congrArg some e10.1) (sub_nil _)) (List.sublist_append_right _ _) ?_
      exact rq_v (rv_loadEl (u := .int .i64 (x.ks.getD j 0)) rfl (by kernel_rfl) rfl (rd_old ((hr).ks)) (ints_at1 (show _ < x.ks.length by first | omega | (simp only [List.length_set]; omega))))
     ·
      intro vf pf hR
      have e6 : (vf 6) = .int .i64 ((1 + x.n.ins) + (j : Int)) ∧ (pf 6) = [] := hR 6 (by decide)
      have e11 : (vf 11) = .int .i64 (x.ks.getD j 0) ∧ (pf 11) = [] := hR 11 (by decide)
      refine Or.inl ⟨rfl, ?_⟩
      refine rq_less (sx 37 (congrArg some e6.1) (sx 42 (congrArg some e11.1) (sub_nil _))) (List.sublist_append_right _ _) ?_
      exact rq_v (rv_build (cs := #[.int .i64 ((1 + x.n.ins) + (j : Int)), .int .i64 (x.ks.getD j 0)]) rfl rfl (by kernel_rfl))
     ·
      intro vf pf hR
      have e12 : (vf 12) = .agg #[.int .i64 ((1 + x.n.ins) + (j : Int)), .int .i64 (x.ks.getD j 0)] ∧ (pf 12) = [] := hR 12 (by decide)
      refine Or.inl ⟨rfl, ?_⟩
      refine rq_less (sx 43 (congrArg some e12.1) (sub_nil _)) (List.sublist_append_right _ _) ?_
      exact rq_buildSlice (z := .agg #[.int .i64 0, .int .i64 0]) (s := 2) (cs := ([(1 + x.n.ins) + (j : Int), x.ks.getD j 0].map (Value.int .i64))) rfl Try.underlying44 (by kernel_rfl) (by decide) rfl (by kernel_rfl) rfl
    ·
     intro vf pf hR
     have e0 : (vf 0) = u2 ∧ (pf 0) = [] := hR 0 (by decide)
     have e13 : IsRow_o 81 2 1 ([(1 + x.n.ins) + (j : Int), x.ks.getD j 0].map (Value.int .i64)) (vf 13) (pf 13) := hR 13 (by decide)
     obtain ⟨g11, v13, p13⟩ := e13
     have q0 : (vf 0) = u2 ∧ (pf 0) = [] := hR 0 (by decide)
     have q1 : (vf 1) = .pointer (some ⟨b1, 0 + 0, none⟩) ∧ (pf 1) = [] := hR 1 (by decide)
     have q2 : (vf 2) = .pointer (some ⟨b1, 0 + 0 + 0, none⟩) ∧ (pf 2) = [] := hR 2 (by decide)
     have q3 : (vf 3) = .int .i64 x.n.ins ∧ (pf 3) = [] := hR 3 (by decide)
     have q4 : (vf 4) = .int .i64 (1 + x.n.ins) ∧ (pf 4) = [] := hR 4 (by decide)
     have q5 : (vf 5) = .int .i64 (j : Int) ∧ (pf 5) = [] := hR 5 (by decide)
     have q6 : (vf 6) = .int .i64 ((1 + x.n.ins) + (j : Int)) ∧ (pf 6) = [] := hR 6 (by decide)
     have q7 : (vf 7) = .pointer (some ⟨b1, 0 + 6, none⟩) ∧ (pf 7) = [] := hR 7 (by decide)
     have q8 : (vf 8) = x.kv ∧ (pf 8) = [] := hR 8 (by decide)
     have q9 : (vf 9) = .int .i64 (j : Int) ∧ (pf 9) = [] := hR 9 (by decide)
     have q10 : (vf 10) = elP x.kv (((j : Int)).toNat * 1) ∧ (pf 10) = [] := hR 10 (by decide)
     have q11 : (vf 11) = .int .i64 (x.ks.getD j 0) ∧ (pf 11) = [] := hR 11 (by decide)
     have q12 : (vf 12) = .agg #[.int .i64 ((1 + x.n.ins) + (j : Int)), .int .i64 (x.ks.getD j 0)] ∧ (pf 12) = [] := hR 12 (by decide)
     refine hl_less (l' := [rowE 81 2 (.slice (some ⟨g11, 0, none⟩) 1 1) 1 ([(1 + x.n.ins) + (j : Int), x.ks.getD j 0].map (Value.int .i64)), rowE 81 2 u2 ys.length (ys.flatMap ptC), rowE 81 2 (.slice none 0 0) (([] : List Pt).length) (([] : List Pt).flatMap ptC), boxE b1 #[.int .i64 x.n.ins, x.n.sv, x.n.lv, x.n.ov, x.pv, x.qv, x.kv, x.av, x.bv, .int .i64 x.oi, .int .i64 x.ni] 40]) (sx 0 rfl (sx 1 rfl (sx 2 rfl (sx 3 rfl (sx 5 rfl (sx 9 rfl (sx 15 rfl (sx 28 rfl (sx 31 (congrArg some e0.1) (sx 44 (congrArg some v13) (sub_nil _))))))))))) (by first | (simp only [p13, v13, q0.2, q1.2, q2.2, q3.2, q4.2, q5.2, q6.2, q7.2, q8.2, q9.2, q10.2, q11.2, q12.2, List.flatMap_cons, List.flatMap_nil, List.append_nil, List.nil_append, List.cons_append]; exact List.Sublist.refl _) | simp [p13, v13, q0.2, q1.2, q2.2, q3.2, q4.2, q5.2, q6.2, q7.2, q8.2, q9.2, q10.2, q11.2, q12.2]) ?_
     simp only [List.drop_succ_cons, List.drop_zero]
     refine hl_append (i := 1) (z := .agg #[.int .i64 0, .int .i64 0]) (bytes := 16) (n' := (ys ++ [Pt.mk ((1 + x.n.ins) + (j : Int)) (x.ks.getD j 0)]).length) (xs' := ((ys ++ [Pt.mk ((1 + x.n.ins) + (j : Int)) (x.ks.getD j 0)]).flatMap ptC)) (L := fun v12 => [rowE 81 2 (.slice (some ⟨g11, 0, none⟩) 1 1) 1 ([(1 + x.n.ins) + (j : Int), x.ks.getD j 0].map (Value.int .i64)), rowE 81 2 v12 ((ys ++ [Pt.mk ((1 + x.n.ins) + (j : Int)) (x.ks.getD j 0)]).length) ((ys ++ [Pt.mk ((1 + x.n.ins) + (j : Int)) (x.ks.getD j 0)]).flatMap ptC), rowE 81 2 (.slice none 0 0) (([] : List Pt).length) (([] : List Pt).flatMap ptC), boxE b1 #[.int .i64 x.n.ins, x.n.sv, x.n.lv, x.n.ov, x.pv, x.qv, x.kv, x.av, x.bv, .int .i64 x.oi, .int .i64 x.ni] 40]) rfl rfl rfl rfl Try.underlying44 (by kernel_rfl) (by kernel_rfl) rfl rfl rfl (rd_row 0 rfl) (ints_one _) (by first | omega | (simp only [List.length_append, List.length_cons, List.length_nil]; omega)) (len_app ys [Pt.mk ((1 + x.n.ins) + (j : Int)) (x.ks.getD j 0)]) (flat_app1 ptC ys (Pt.mk ((1 + x.n.ins) + (j : Int)) (x.ks.getD j 0)) _ rfl) (fun _ => rfl) ?_
     intro v12
     refine hl_v rfl rfl rfl (rv_ev rfl) ?_
     refine hl_less (sx 0 rfl (sx 1 rfl (sx 2 rfl (sx 3 rfl (sx 5 rfl (sx 9 rfl (sx 15 rfl (sx 28 rfl (sub_nil _))))))))) (.refl _) ?_
     refine hl_nil ?_
     refine hq_block_normal ?_
     refine hq_then ?_
     refine hc_region ?_
     refine hl_v rfl rfl rfl (rv_ev rfl) ?_
     refine hl_v rfl rfl rfl (rv_add rfl rfl rfl (by constructor <;> omega)) ?_
     refine hl_v rfl rfl rfl (rv_ev rfl) ?_
     refine hl_less (sx 0 rfl (sx 1 rfl (sx 2 rfl (sx 3 rfl (sx 5 rfl (sx 9 rfl (sx 15 rfl (sx 28 rfl (sub_nil _))))))))) (.refl _) ?_
     refine hl_nil ?_
     exact hq_round3 (j + 1) v12 (ys ++ [Pt.mk ((1 + x.n.ins) + (j : Int)) (x.ks.getD j 0)]) ⟨by omega, by rw [lauB_succ, hy]⟩ (by omega) (sx 0 rfl (sx 1 rfl (sx 2 rfl (sx 3 rfl (sx 5 rfl (sx 9 rfl (sx 15 rfl (sub_nil _)))))))) ((.cons _ (.cons_cons _ (.cons_cons _ (.cons_cons _ .slnil)))))
   ·
    refine hl_less (sx 0 rfl (sx 1 rfl (sx 2 rfl (sx 3 rfl (sx 5 rfl (sx 9 rfl (sx 15 rfl (sx 28 rfl (sub_nil _))))))))) (.refl _) ?_
    refine hl_nil ?_
    refine hq_then ?_
    refine hc_false rfl ?_
    refine hc_exit ?_
    refine hq_then_exit ?_
    refine hq_then_exit ?_
    refine hq_block_exit ?_
    refine hq_then ?_
    refine hc_seq ?_
    refine hc_region ?_
    refine hl_v rfl rfl rfl (rv_ev rfl) ?_
    refine hl_v rfl rfl rfl (rv_ev rfl) ?_
    refine hl_less (sx 0 rfl (sx 1 rfl (sx 2 rfl (sx 3 rfl (sx 5 rfl (sx 9 rfl (sx 15 rfl (sx 28 rfl (sub_nil _))))))))) (.refl _) ?_
    refine hl_nil ?_
    refine hq_then ?_
    refine hc_ret ?_
    have hE : ys = lauR x := by unfold lauR; rw [if_pos (pB_yes hok), hy, show j = x.ks.length by omega]
    exact hq_retR (post := [rowE 81 2 u2 ys.length (ys.flatMap ptC)]) rfl rfl ((.cons_cons _ (.cons _ (.cons _ .slnil)))) (by rw [← hE] <;> rfl)
 ·
  have hno := of_pBn h4
  refine hl_v rfl rfl rfl (rv_ev rfl) ?_
  refine hl_less (sx 0 rfl (sx 1 rfl (sx 2 rfl (sx 3 rfl (sx 9 rfl (sub_nil _)))))) (.refl _) ?_
  refine hl_nil ?_
  refine hq_then ?_
  refine hc_true rfl ?_
  refine hc_seq ?_
  refine hc_region ?_
  refine hl_v rfl rfl rfl (rv_ev rfl) ?_
  refine hl_v rfl rfl rfl (rv_ev rfl) ?_
  refine hl_less (sx 0 rfl (sx 1 rfl (sx 2 rfl (sx 3 rfl (sx 9 rfl (sub_nil _)))))) (.refl _) ?_
  refine hl_nil ?_
  refine hq_then ?_
  refine hc_ret ?_
  refine hq_then_ret ?_
  have hE : (([] : List Pt)) = lauR x := by unfold lauR; rw [pB_no hno]; rfl
  exact hq_retR (post := [rowE 81 2 (.slice (some ⟨g3, 0, none⟩) 0 0) 0 ([])]) rfl rfl ((.cons_cons _ (.cons _ (.cons _ .slnil)))) (by rw [← hE] <;> rfl)
open Go.RowKit
open Go.RowKit
theorem lauR_le (x : Td) : (lauR x).length ≤ 100 := by
  unfold lauR
  by_cases h : TdOk x
  · rw [if_pos (pB_yes h), lauB_len]; have := h.bnd.k; have := h.bnd.i; have := h.bnd.s; omega
  · rw [pB_no h]; simp
set_option maxHeartbeats 4000000 in
set_option maxRecDepth 100000 in
theorem walk_FnExactLaunchPoints (x : Td) (w : World) (hr : RdsTd w x) :
  Calls Try.prog 5 #[.agg #[.int .i64 x.n.ins, x.n.sv, x.n.lv, x.n.ov, x.pv, x.qv, x.kv, x.av, x.bv, .int .i64 x.oi, .int .i64 x.ni]] w (Ans w (.bool true)) := by
 refine calls_hc (N := 69) (args := [.agg #[.int .i64 x.n.ins, x.n.sv, x.n.lv, x.n.ov, x.pv, x.qv, x.kv, x.av, x.bv, .int .i64 x.oi, .int .i64 x.ni]]) Try.func5 rfl rfl ?_
 refine hc_less _ (sx 0 rfl (sub_nil _)) (.refl _) ?_
 refine hc_seq ?_
 refine hc_region ?_
 refine hl_box rfl rfl rfl (rq_box rfl rfl) ?_
 intro b1
 refine hl_v rfl rfl rfl (rv_ev rfl) ?_
 refine hl_less (sx 0 rfl (sx 1 rfl (sx 2 rfl (sub_nil _)))) (.refl _) ?_
 refine hl_nil ?_
 refine hq_then ?_
 refine hc_seq ?_
 refine hc_region ?_
 refine hl_v rfl rfl rfl (rv_ev rfl) ?_
 refine hl_less (sx 0 rfl (sx 1 rfl (sx 2 rfl (sx 3 rfl (sub_nil _))))) (.refl _) ?_
 refine hl_nil ?_
 refine hq_then ?_
 refine hc_seq ?_
 refine hc_region ?_
 refine hl_v rfl rfl rfl (rv_loadN (cs := [.int .i64 x.n.ins, x.n.sv, x.n.lv, x.n.ov, x.pv, x.qv, x.kv, x.av, x.bv, .int .i64 x.oi, .int .i64 x.ni]) rfl (by kernel_rfl) (by kernel_rfl) rfl rfl (box_part 0 rfl 0 rfl)) ?_
 refine hl_v rfl rfl rfl (rv_ev rfl) ?_
 refine hl_q rfl rfl rfl (rq_call (by kernel_rfl) rfl (fun w hm => szTimed_ret x 1048576 w (hr.below hm.bel) (by omega))) ?_
 intro v2 p3 hR4
 obtain ⟨rfl, rhR4, rfl, hszx⟩ := hR4
 refine hl_v rfl rfl rfl (rv_ev rfl) ?_
 refine hl_less (sx 0 rfl (sx 1 rfl (sx 2 rfl (sx 3 rfl (sub_nil _))))) (.refl _) ?_
 refine hl_nil ?_
 refine hq_then ?_
 refine hc_seq ?_
 refine hc_seq ?_
 refine hc_region ?_
 refine hl_v rfl rfl rfl (rv_ev rfl) ?_
 refine hl_lss rfl rfl rfl rfl rfl rfl (fun h5 => ?_) (fun h5 => ?_)
 ·
  refine hl_less (sx 0 rfl (sx 1 rfl (sx 2 rfl (sx 3 rfl (sx 15 rfl (sub_nil _)))))) (.refl _) ?_
  refine hl_nil ?_
  refine hq_then ?_
  refine hc_true rfl ?_
  refine hc_seq ?_
  refine hc_region ?_
  refine hl_v rfl rfl rfl (rv_ev rfl) ?_
  refine hl_less (sx 0 rfl (sx 1 rfl (sx 2 rfl (sx 3 rfl (sx 15 rfl (sub_nil _)))))) (.refl _) ?_
  refine hl_nil ?_
  refine hq_then ?_
  refine hc_ret ?_
  refine hq_then_ret ?_
  exact hq_ans rfl rfl rfl
 ·
  refine hl_less (sx 0 rfl (sx 1 rfl (sx 2 rfl (sx 3 rfl (sx 15 rfl (sub_nil _)))))) (.refl _) ?_
  refine hl_nil ?_
  refine hq_then ?_
  refine hc_false rfl ?_
  refine hc_skip ?_
  refine hq_then ?_
  refine hc_seq ?_
  refine hc_region ?_
  have hz := hszx (by omega)
  have hrl := lauR_le x
  refine hl_v rfl rfl rfl (rv_loadN (cs := [.int .i64 x.n.ins, x.n.sv, x.n.lv, x.n.ov, x.pv, x.qv, x.kv, x.av, x.bv, .int .i64 x.oi, .int .i64 x.ni]) rfl (by kernel_rfl) (by kernel_rfl) rfl rfl (box_part 0 rfl 0 rfl)) ?_
  refine hl_q rfl rfl rfl (rq_call (by kernel_rfl) rfl (fun w hm => toTimed_ret x w (hr.below hm.bel) hz)) ?_
  intro v6 p7 hR8
  obtain ⟨yhR8, rfl, rfl, hshR8, hohR8⟩ := hR8
  have hzhR8 := hz.same hshR8
  refine hl_q rfl rfl rfl (rq_call (by kernel_rfl) rfl (fun w hm => by have h9 := specLaunchPoints_ret yhR8 w (td_rds 0 rfl w hm); rw [lauR_same hshR8] at h9; exact h9)) ?_
  intro v9 p10 hR11
  subst hR11
  refine hl_v rfl rfl rfl (rv_ev rfl) ?_
  refine hl_less (sx 0 rfl (sx 1 rfl (sx 2 rfl (sx 3 rfl (sx 4 rfl (sx 15 rfl (sub_nil _))))))) (.refl _) ?_
  refine hl_nil ?_
  refine hq_then ?_
  refine hc_seq ?_
  refine hc_region ?_
  refine hl_v rfl rfl rfl (rv_loadN (cs := [.int .i64 x.n.ins, x.n.sv, x.n.lv, x.n.ov, x.pv, x.qv, x.kv, x.av, x.bv, .int .i64 x.oi, .int .i64 x.ni]) rfl (by kernel_rfl) (by kernel_rfl) rfl rfl (box_part 2 rfl 0 rfl)) ?_
  refine hl_q rfl rfl rfl (rq_call (by kernel_rfl) rfl (fun w hm => toTimed_ret x w (hr.below hm.bel) hz)) ?_
  intro v12 p13 hR14
  obtain ⟨yhR14, rfl, rfl, hshR14, hohR14⟩ := hR14
  have hzhR14 := hz.same hshR14
  refine hl_box rfl rfl rfl (rq_alloc (z := .agg #[.int .i64 0, .slice none 0 0, .slice none 0 0, .slice none 0 0, .slice none 0 0, .slice none 0 0, .slice none 0 0, .slice none 0 0, .slice none 0 0, .int .i64 0, .int .i64 0]) rfl (by kernel_rfl)) ?_
  intro b15
  refine hl_storeBoxN (i := 0) (off := 0) (us := [.int .i64 yhR14.n.ins, yhR14.n.sv, yhR14.n.lv, yhR14.n.ov, yhR14.pv, yhR14.qv, yhR14.kv, yhR14.av, yhR14.bv, .int .i64 yhR14.oi, .int .i64 yhR14.ni]) (cs' := #[.int .i64 yhR14.n.ins, yhR14.n.sv, yhR14.n.lv, yhR14.n.ov, yhR14.pv, yhR14.qv, yhR14.kv, yhR14.av, yhR14.bv, .int .i64 yhR14.oi, .int .i64 yhR14.ni]) (l' := [boxE b15 #[.int .i64 yhR14.n.ins, yhR14.n.sv, yhR14.n.lv, yhR14.n.ov, yhR14.pv, yhR14.qv, yhR14.kv, yhR14.av, yhR14.bv, .int .i64 yhR14.oi, .int .i64 yhR14.ni] 40, tdE yhR14, rowE 81 2 v9 ((lauR x).length) ((lauR x).flatMap ptC), tdE yhR8, boxE b1 #[.int .i64 x.n.ins, x.n.sv, x.n.lv, x.n.ov, x.pv, x.qv, x.kv, x.av, x.bv, .int .i64 x.oi, .int .i64 x.ni] 31]) rfl rfl rfl (by kernel_rfl) rfl rfl rfl (all_cons rfl (all_cons hohR14.sv (all_cons hohR14.lv (all_cons hohR14.ov (all_cons hohR14.pv (all_cons hohR14.qv (all_cons hohR14.kv (all_cons hohR14.av (all_cons hohR14.bv (all_cons rfl (all_cons rfl all_nil))))))))))) rfl (by kernel_rfl) rfl ?_
  refine hl_less (sx 0 rfl (sx 1 rfl (sx 2 rfl (sx 3 rfl (sx 4 rfl (sx 5 rfl (sx 15 rfl (sub_nil _)))))))) (.refl _) ?_
  refine hl_nil ?_
  refine hq_then ?_
  refine hc_seq ?_
  refine hc_region ?_
  refine hl_v rfl rfl rfl (rv_loadN (cs := [.int .i64 yhR14.n.ins, yhR14.n.sv, yhR14.n.lv, yhR14.n.ov, yhR14.pv, yhR14.qv, yhR14.kv, yhR14.av, yhR14.bv, .int .i64 yhR14.oi, .int .i64 yhR14.ni]) rfl (by kernel_rfl) (by kernel_rfl) rfl rfl (box_part 0 rfl 0 rfl)) ?_
  refine hl_q rfl rfl rfl (rq_call (by kernel_rfl) rfl (fun w hm => by have h9 := implLaunchPoints_ret yhR14 w (td_rds 1 rfl w hm); rw [lauR_same hshR14] at h9; exact h9)) ?_
  intro v16 p17 hR18
  subst hR18
  refine hl_v rfl rfl rfl (rv_ev rfl) ?_
  refine hl_less (sx 0 rfl (sx 1 rfl (sx 2 rfl (sx 3 rfl (sx 4 rfl (sx 5 rfl (sx 6 rfl (sx 15 rfl (sub_nil _))))))))) (.refl _) ?_
  refine hl_nil ?_
  refine hq_then ?_
  refine hc_seq ?_
  refine hc_seq ?_
  refine hc_region ?_
  refine hl_v rfl rfl rfl (rv_ev rfl) ?_
  refine hl_v rfl rfl rfl (rv_ev rfl) ?_
  refine hl_callV rfl rfl rfl (rq_call (by kernel_rfl) rfl (fun w hm => ret_ans (eqPointS_yes (lauR x) _ _ w ((rd_row 0 rfl) w hm) ((rd_row 3 rfl) w hm)))) ?_
  refine hl_v rfl rfl rfl (rv_ev rfl) ?_
  refine hl_less (sx 0 rfl (sx 1 rfl (sx 2 rfl (sx 3 rfl (sx 4 rfl (sx 5 rfl (sx 6 rfl (sx 15 rfl (sx 26 rfl (sub_nil _)))))))))) (.refl _) ?_
  refine hl_nil ?_
  refine hq_then ?_
  refine hc_false rfl ?_
  refine hc_skip ?_
  refine hq_then ?_
  refine hc_seq ?_
  refine hc_seq ?_
  refine hc_draw (by kernel_rfl) 5 [0, 1, 2, 3, 4] (List.take 5 _) (List.drop 5 _) [[], [], [1], [0, 2], [2, 3]] [27, 28, 29, 30, 31] (fun i_ vs_ v_ p_ => match i_ with | 0 => v_ = .agg #[.int .i64 yhR14.n.ins, yhR14.n.sv, yhR14.n.lv, yhR14.n.ov, yhR14.pv, yhR14.qv, yhR14.kv, yhR14.av, yhR14.bv, .int .i64 yhR14.oi, .int .i64 yhR14.ni] ∧ p_ = [] | 1 => v_ = .agg #[.int .i64 x.n.ins, x.n.sv, x.n.lv, x.n.ov, x.pv, x.qv, x.kv, x.av, x.bv, .int .i64 x.oi, .int .i64 x.ni] ∧ p_ = [] | 2 => (fun v_ p_ => ∃ y : Td, v_ = y.agg ∧ p_ = [tdE y] ∧ Same x y ∧ OneTd y) v_ p_ | 3 => v_ = .bool true ∧ p_ = [] | 4 => v_ = .bool false ∧ p_ = [] | _ => True) (List.take_append_drop 5 _).symm (by kernel_rfl) (by kernel_rfl) rfl rfl ?_ ?_
  ·
   refine ⟨?_, ?_, ?_, ?_, ?_, trivial⟩
   ·
    intro vf pf hR
    refine Or.inl ⟨rfl, ?_⟩
    refine rq_less (sx 5 rfl (sub_nil _)) (List.sublist_append_right _ _) ?_
    exact rq_v (rv_loadN (cs := [.int .i64 yhR14.n.ins, yhR14.n.sv, yhR14.n.lv, yhR14.n.ov, yhR14.pv, yhR14.qv, yhR14.kv, yhR14.av, yhR14.bv, .int .i64 yhR14.oi, .int .i64 yhR14.ni]) rfl (by kernel_rfl) (by kernel_rfl) rfl rfl (box_part 1 rfl 0 rfl))
   ·
    intro vf pf hR
    refine Or.inl ⟨rfl, ?_⟩
    refine rq_less (sx 1 rfl (sub_nil _)) (List.sublist_append_right _ _) ?_
    exact rq_v (rv_loadN (cs := [.int .i64 x.n.ins, x.n.sv, x.n.lv, x.n.ov, x.pv, x.qv, x.kv, x.av, x.bv, .int .i64 x.oi, .int .i64 x.ni]) rfl (by kernel_rfl) (by kernel_rfl) rfl rfl (box_part 5 rfl 0 rfl))
   ·
    intro vf pf hR
    have e1 : (vf 1) = .agg #[.int .i64 x.n.ins, x.n.sv, x.n.lv, x.n.ov, x.pv, x.qv, x.kv, x.av, x.bv, .int .i64 x.oi, .int .i64 x.ni] ∧ (pf 1) = [] := hR 1 (by decide)
    refine Or.inl ⟨rfl, ?_⟩
    refine rq_less (sx 28 (congrArg some e1.1) (sub_nil _)) (List.sublist_append_right _ _) ?_
    exact rq_call (by kernel_rfl) rfl (fun w hm => toTimed_ret x w (hr.below hm.bel) hz)
   ·
    intro vf pf hR
    have e0 : (vf 0) = .agg #[.int .i64 yhR14.n.ins, yhR14.n.sv, yhR14.n.lv, yhR14.n.ov, yhR14.pv, yhR14.qv, yhR14.kv, yhR14.av, yhR14.bv, .int .i64 yhR14.oi, .int .i64 yhR14.ni] ∧ (pf 0) = [] := hR 0 (by decide)
    have e2 : (fun v_ p_ => ∃ y : Td, v_ = y.agg ∧ p_ = [tdE y] ∧ Same x y ∧ OneTd y) (vf 2) (pf 2) := hR 2 (by decide)
    obtain ⟨v19, v2⟩ : ∃ x, vf 2 = x := ⟨_, rfl⟩
    obtain ⟨p20, p2⟩ : ∃ x, pf 2 = x := ⟨_, rfl⟩
    have hR21 := e2
    rw [v2, p2] at hR21
    obtain ⟨yhR21, rfl, rfl, hshR21, hohR21⟩ := hR21
    have hzhR21 := hz.same hshR21
    refine Or.inl ⟨rfl, ?_⟩
    refine rq_less (l' := [tdE yhR21, rowE 81 2 v16 ((lauR x).length) ((lauR x).flatMap ptC), boxE b15 #[.int .i64 yhR14.n.ins, yhR14.n.sv, yhR14.n.lv, yhR14.n.ov, yhR14.pv, yhR14.qv, yhR14.kv, yhR14.av, yhR14.bv, .int .i64 yhR14.oi, .int .i64 yhR14.ni] 40, tdE yhR14, rowE 81 2 v9 ((lauR x).length) ((lauR x).flatMap ptC), tdE yhR8, boxE b1 #[.int .i64 x.n.ins, x.n.sv, x.n.lv, x.n.ov, x.pv, x.qv, x.kv, x.av, x.bv, .int .i64 x.oi, .int .i64 x.ni] 31]) (sx 27 (congrArg some e0.1) (sx 29 (congrArg some v2) (sub_nil _))) (by first | (simp only [p2, v2, e0.2, List.flatMap_cons, List.flatMap_nil, List.append_nil, List.nil_append, List.cons_append]; exact List.Sublist.refl _) | simp [p2, v2, e0.2]) ?_
    exact (rq_call (by kernel_rfl) rfl (fun w hm => ret_ans (eqTimed_yes yhR14 yhR21 w (td_rds 3 rfl w hm) (td_rds 0 rfl w hm) (hshR21.symm.trans hshR14) hzhR14)))
   ·
    intro vf pf hR
    have e2 : (fun v_ p_ => ∃ y : Td, v_ = y.agg ∧ p_ = [tdE y] ∧ Same x y ∧ OneTd y) (vf 2) (pf 2) := hR 2 (by decide)
    obtain ⟨v19, v2⟩ : ∃ x, vf 2 = x := ⟨_, rfl⟩
    obtain ⟨p20, p2⟩ : ∃ x, pf 2 = x := ⟨_, rfl⟩
    have hR21 := e2
    rw [v2, p2] at hR21
    obtain ⟨yhR21, rfl, rfl, hshR21, hohR21⟩ := hR21
    have hzhR21 := hz.same hshR21
    have e3 : (vf 3) = .bool true ∧ (pf 3) = [] := hR 3 (by decide)
    refine Or.inl ⟨rfl, ?_⟩
    refine rq_less (l' := [tdE yhR21, rowE 81 2 v16 ((lauR x).length) ((lauR x).flatMap ptC), boxE b15 #[.int .i64 yhR14.n.ins, yhR14.n.sv, yhR14.n.lv, yhR14.n.ov, yhR14.pv, yhR14.qv, yhR14.kv, yhR14.av, yhR14.bv, .int .i64 yhR14.oi, .int .i64 yhR14.ni] 40, tdE yhR14, rowE 81 2 v9 ((lauR x).length) ((lauR x).flatMap ptC), tdE yhR8, boxE b1 #[.int .i64 x.n.ins, x.n.sv, x.n.lv, x.n.ov, x.pv, x.qv, x.kv, x.av, x.bv, .int .i64 x.oi, .int .i64 x.ni] 31]) (sx 30 (congrArg some e3.1) (sub_nil _)) (by first | (simp only [p2, v2, e3.2, List.flatMap_cons, List.flatMap_nil, List.append_nil, List.nil_append, List.cons_append]; exact List.Sublist.refl _) | simp [p2, v2, e3.2]) ?_
    exact rq_v (rv_ev rfl)
  ·
   intro vf pf hR
   have e2 : (fun v_ p_ => ∃ y : Td, v_ = y.agg ∧ p_ = [tdE y] ∧ Same x y ∧ OneTd y) (vf 2) (pf 2) := hR 2 (by decide)
   obtain ⟨v19, v2⟩ : ∃ x, vf 2 = x := ⟨_, rfl⟩
   obtain ⟨p20, p2⟩ : ∃ x, pf 2 = x := ⟨_, rfl⟩
   have hR21 := e2
   rw [v2, p2] at hR21
   obtain ⟨yhR21, rfl, rfl, hshR21, hohR21⟩ := hR21
   have hzhR21 := hz.same hshR21
   have e4 : (vf 4) = .bool false ∧ (pf 4) = [] := hR 4 (by decide)
   have q0 : (vf 0) = .agg #[.int .i64 yhR14.n.ins, yhR14.n.sv, yhR14.n.lv, yhR14.n.ov, yhR14.pv, yhR14.qv, yhR14.kv, yhR14.av, yhR14.bv, .int .i64 yhR14.oi, .int .i64 yhR14.ni] ∧ (pf 0) = [] := hR 0 (by decide)
   have q1 : (vf 1) = .agg #[.int .i64 x.n.ins, x.n.sv, x.n.lv, x.n.ov, x.pv, x.qv, x.kv, x.av, x.bv, .int .i64 x.oi, .int .i64 x.ni] ∧ (pf 1) = [] := hR 1 (by decide)
   have q3 : (vf 3) = .bool true ∧ (pf 3) = [] := hR 3 (by decide)
   have q4 : (vf 4) = .bool false ∧ (pf 4) = [] := hR 4 (by decide)
   refine hl_less (l' := [tdE yhR21, rowE 81 2 v16 ((lauR x).length) ((lauR x).flatMap ptC), boxE b15 #[.int .i64 yhR14.n.ins, yhR14.n.sv, yhR14.n.lv, yhR14.n.ov, yhR14.pv, yhR14.qv, yhR14.kv, yhR14.av, yhR14.bv, .int .i64 yhR14.oi, .int .i64 yhR14.ni] 40, tdE yhR14, rowE 81 2 v9 ((lauR x).length) ((lauR x).flatMap ptC), tdE yhR8, boxE b1 #[.int .i64 x.n.ins, x.n.sv, x.n.lv, x.n.ov, x.pv, x.qv, x.kv, x.av, x.bv, .int .i64 x.oi, .int .i64 x.ni] 31]) (sx 0 rfl (sx 1 rfl (sx 2 rfl (sx 3 rfl (sx 4 rfl (sx 5 rfl (sx 6 rfl (sx 15 rfl (sx 26 rfl (sx 31 (congrArg some e4.1) (sub_nil _))))))))))) (by first | (simp only [p2, v2, q0.2, q1.2, q3.2, q4.2, List.flatMap_cons, List.flatMap_nil, List.append_nil, List.nil_append, List.cons_append]; exact List.Sublist.refl _) | simp [p2, v2, q0.2, q1.2, q3.2, q4.2]) ?_
   simp only [List.drop_succ_cons, List.drop_zero]
   refine hl_less (sx 0 rfl (sx 1 rfl (sx 2 rfl (sx 3 rfl (sx 4 rfl (sx 5 rfl (sx 6 rfl (sx 15 rfl (sx 26 rfl (sx 31 rfl (sub_nil _))))))))))) (.refl _) ?_
   refine hl_nil ?_
   refine hq_then ?_
   refine hc_false rfl ?_
   refine hc_skip ?_
   refine hq_then ?_
   refine hc_seq ?_
   refine hc_region ?_
   refine hl_v rfl rfl rfl (rv_ev rfl) ?_
   refine hl_less (sx 0 rfl (sx 1 rfl (sx 2 rfl (sx 3 rfl (sx 4 rfl (sx 5 rfl (sx 6 rfl (sx 7 rfl (sx 15 rfl (sx 26 rfl (sx 31 rfl (sub_nil _)))))))))))) (.refl _) ?_
   refine hl_nil ?_
   refine hq_then ?_
   refine hc_seq ?_
   refine hc_region ?_
   refine hl_v rfl rfl rfl (rv_loadN (cs := [.int .i64 yhR14.n.ins, yhR14.n.sv, yhR14.n.lv, yhR14.n.ov, yhR14.pv, yhR14.qv, yhR14.kv, yhR14.av, yhR14.bv, .int .i64 yhR14.oi, .int .i64 yhR14.ni]) rfl (by kernel_rfl) (by kernel_rfl) rfl rfl (box_part 2 rfl 0 rfl)) ?_
   refine hl_v rfl rfl rfl (rv_ev rfl) ?_
   refine hl_callM (R := (fun u_ p_ => ∃ q : Int, u_ = .int .i64 q ∧ 1 ≤ q ∧ q ≤ 1 + 30000000000000)) 3 rfl rfl (by kernel_rfl) rfl rfl (fun l' w hm => markTimed_mut yhR14 1 _ _ w hm (by omega) hzhR14 hohR14) ?_
   intro v22 p23 hR24
   obtain ⟨qhR24, rfl, ahR24, bhR24⟩ := hR24
   refine hl_eqL (l' := [tdE yhR21, rowE 81 2 v16 ((lauR x).length) ((lauR x).flatMap ptC), boxE b15 #[.int .i64 yhR14.n.ins, yhR14.n.sv, yhR14.n.lv, yhR14.n.ov, yhR14.pv, yhR14.qv, yhR14.kv, yhR14.av, yhR14.bv, .int .i64 yhR14.oi, .int .i64 yhR14.ni] 40, p23, rowE 81 2 v9 ((lauR x).length) ((lauR x).flatMap ptC), tdE yhR8, boxE b1 #[.int .i64 x.n.ins, x.n.sv, x.n.lv, x.n.ov, x.pv, x.qv, x.kv, x.av, x.bv, .int .i64 x.oi, .int .i64 x.ni] 31]) rfl ?_
   refine hl_v rfl rfl rfl (rv_ev rfl) ?_
   refine hl_less (sx 0 rfl (sx 1 rfl (sx 2 rfl (sx 3 rfl (sx 4 rfl (sx 5 rfl (sx 6 rfl (sx 7 rfl (sx 15 rfl (sx 26 rfl (sx 31 rfl (sub_nil _)))))))))))) (.refl _) ?_
   refine hl_nil ?_
   refine hq_then ?_
   refine hc_seq ?_
   refine hc_seq ?_
   refine hc_region ?_
   refine hl_v rfl rfl rfl (rv_ev rfl) ?_
   refine hl_lss rfl rfl rfl rfl rfl rfl (fun h25 => ?_) (fun h25 => ?_)
   ·
    refine hl_v rfl rfl rfl (rv_ev rfl) ?_
    refine hl_skip rfl rfl rfl ?_
    refine hl_skip rfl rfl rfl ?_
    refine hl_skip rfl rfl rfl ?_
    refine hl_skip rfl rfl rfl ?_
    refine hl_v rfl rfl rfl (rv_ev rfl) ?_
    refine hl_less (sx 0 rfl (sx 1 rfl (sx 2 rfl (sx 3 rfl (sx 4 rfl (sx 5 rfl (sx 6 rfl (sx 7 rfl (sx 15 rfl (sx 26 rfl (sx 31 rfl (sx 42 rfl (sub_nil _))))))))))))) (.refl _) ?_
    refine hl_nil ?_
    refine hq_then ?_
    refine hc_true rfl ?_
    refine hc_seq ?_
    refine hc_region ?_
    refine hl_v rfl rfl rfl (rv_ev rfl) ?_
    refine hl_less (sx 0 rfl (sx 1 rfl (sx 2 rfl (sx 3 rfl (sx 4 rfl (sx 5 rfl (sx 6 rfl (sx 7 rfl (sx 15 rfl (sx 26 rfl (sx 31 rfl (sx 42 rfl (sub_nil _))))))))))))) (.refl _) ?_
    refine hl_nil ?_
    refine hq_then ?_
    refine hc_ret ?_
    refine hq_then_ret ?_
    exfalso
    omega
   ·
    refine hl_v rfl rfl rfl (rv_ev rfl) ?_
    refine hl_v rfl rfl rfl (rv_ev rfl) ?_
    refine hl_v rfl rfl rfl (rv_ev rfl) ?_
    refine hl_callV rfl rfl rfl (rq_call (by kernel_rfl) rfl (fun w hm => ret_ans (eqPointS_yes (lauR x) _ _ w ((rd_row 1 rfl) w hm) ((rd_row 4 rfl) w hm)))) ?_
    refine hl_v rfl rfl rfl (rv_ev rfl) ?_
    refine hl_v rfl rfl rfl (rv_ev rfl) ?_
    refine hl_less (sx 0 rfl (sx 1 rfl (sx 2 rfl (sx 3 rfl (sx 4 rfl (sx 5 rfl (sx 6 rfl (sx 7 rfl (sx 15 rfl (sx 26 rfl (sx 31 rfl (sx 42 rfl (sub_nil _))))))))))))) (.refl _) ?_
    refine hl_nil ?_
    refine hq_then ?_
    refine hc_false rfl ?_
    refine hc_skip ?_
    refine hq_then ?_
    refine hc_seq ?_
    refine hc_region ?_
    refine hl_v rfl rfl rfl (rv_ev rfl) ?_
    refine hl_less (sx 0 rfl (sx 1 rfl (sx 2 rfl (sx 3 rfl (sx 4 rfl (sx 5 rfl (sx 6 rfl (sx 7 rfl (sx 8 rfl (sx 15 rfl (sx 26 rfl (sx 31 rfl (sx 42 rfl (sub_nil _)))))))))))))) (.refl _) ?_
    refine hl_nil ?_
    refine hq_then ?_
    refine hc_seq ?_
    refine hc_region ?_
    refine hl_v rfl rfl rfl (rv_ev rfl) ?_
    refine hl_v rfl rfl rfl (rv_ev rfl) ?_
    refine hl_callM (R := (fun u_ p_ => u_ = .int .i64 (1 + 2 * (lauR x).length) ∧ p_ = rowE 81 2 v16 (lauR x).length ((glL (ptM 1) (lauR x).length).flatMap ptC))) 1 rfl rfl (by kernel_rfl) rfl rfl (fun l' w hm => markPointS_mut (lauR x) 1 v16 _ _ w hm (by omega) (by omega)) ?_
    intro v26 p27 hR28
    obtain ⟨rfl, rfl⟩ := hR28
    refine hl_eqL (l' := [tdE yhR21, rowE 81 2 v16 ((lauR x).length) ((glL (ptM 1) (lauR x).length).flatMap ptC), boxE b15 #[.int .i64 yhR14.n.ins, yhR14.n.sv, yhR14.n.lv, yhR14.n.ov, yhR14.pv, yhR14.qv, yhR14.kv, yhR14.av, yhR14.bv, .int .i64 yhR14.oi, .int .i64 yhR14.ni] 40, p23, rowE 81 2 v9 ((lauR x).length) ((lauR x).flatMap ptC), tdE yhR8, boxE b1 #[.int .i64 x.n.ins, x.n.sv, x.n.lv, x.n.ov, x.pv, x.qv, x.kv, x.av, x.bv, .int .i64 x.oi, .int .i64 x.ni] 31]) rfl ?_
    refine hl_v rfl rfl rfl (rv_ev rfl) ?_
    refine hl_less (sx 0 rfl (sx 1 rfl (sx 2 rfl (sx 3 rfl (sx 4 rfl (sx 5 rfl (sx 6 rfl (sx 7 rfl (sx 8 rfl (sx 15 rfl (sx 26 rfl (sx 31 rfl (sx 42 rfl (sub_nil _)))))))))))))) (.refl _) ?_
    refine hl_nil ?_
    refine hq_then ?_
    refine hc_seq ?_
    refine hc_region ?_
    refine hl_v rfl rfl rfl (rv_ev rfl) ?_
    refine hl_less (sx 0 rfl (sx 1 rfl (sx 2 rfl (sx 3 rfl (sx 4 rfl (sx 5 rfl (sx 6 rfl (sx 7 rfl (sx 8 rfl (sx 9 rfl (sx 15 rfl (sx 26 rfl (sx 31 rfl (sx 42 rfl (sub_nil _))))))))))))))) (.refl _) ?_
    refine hl_nil ?_
    refine hq_then ?_
    refine hc_seq ?_
    refine hc_region ?_
    refine hl_v rfl rfl rfl (rv_ev rfl) ?_
    refine hl_v rfl rfl rfl (rv_ev rfl) ?_
    refine hl_callV rfl rfl rfl (rq_call (by kernel_rfl) rfl (fun w hm => ret_ans (heldPointS_ans (lauR x).length 1 v16 w (rd_row 1 rfl w hm) (by omega) (by omega)))) ?_
    refine hl_v rfl rfl rfl (rv_ev rfl) ?_
    refine hl_less (sx 0 rfl (sx 1 rfl (sx 2 rfl (sx 3 rfl (sx 4 rfl (sx 5 rfl (sx 6 rfl (sx 7 rfl (sx 8 rfl (sx 9 rfl (sx 15 rfl (sx 26 rfl (sx 31 rfl (sx 42 rfl (sub_nil _))))))))))))))) (.refl _) ?_
    refine hl_nil ?_
    refine hq_then ?_
    refine hc_seq ?_
    refine hc_seq ?_
    refine hc_region ?_
    refine hl_v rfl rfl rfl (rv_ev rfl) ?_
    refine hl_lss rfl rfl rfl rfl rfl rfl (fun h29 => ?_) (fun h29 => ?_)
    ·
     refine hl_less (sx 0 rfl (sx 1 rfl (sx 2 rfl (sx 3 rfl (sx 4 rfl (sx 5 rfl (sx 6 rfl (sx 7 rfl (sx 8 rfl (sx 9 rfl (sx 15 rfl (sx 26 rfl (sx 31 rfl (sx 42 rfl (sx 50 rfl (sub_nil _)))))))))))))))) (.refl _) ?_
     refine hl_nil ?_
     refine hq_then ?_
     refine hc_true rfl ?_
     refine hc_seq ?_
     refine hc_region ?_
     refine hl_v rfl rfl rfl (rv_ev rfl) ?_
     refine hl_less (sx 0 rfl (sx 1 rfl (sx 2 rfl (sx 3 rfl (sx 4 rfl (sx 5 rfl (sx 6 rfl (sx 7 rfl (sx 8 rfl (sx 9 rfl (sx 15 rfl (sx 26 rfl (sx 31 rfl (sx 42 rfl (sx 50 rfl (sub_nil _)))))))))))))))) (.refl _) ?_
     refine hl_nil ?_
     refine hq_then ?_
     refine hc_ret ?_
     refine hq_then_ret ?_
     exfalso
     omega
    ·
     refine hl_less (sx 0 rfl (sx 1 rfl (sx 2 rfl (sx 3 rfl (sx 4 rfl (sx 5 rfl (sx 6 rfl (sx 7 rfl (sx 8 rfl (sx 9 rfl (sx 15 rfl (sx 26 rfl (sx 31 rfl (sx 42 rfl (sx 50 rfl (sub_nil _)))))))))))))))) (.refl _) ?_
     refine hl_nil ?_
     refine hq_then ?_
     refine hc_false rfl ?_
     refine hc_skip ?_
     refine hq_then ?_
     refine hc_seq ?_
     refine hc_seq ?_
     refine hc_region ?_
     refine hl_v rfl rfl rfl (rv_ev rfl) ?_
     refine hl_v rfl rfl rfl (rv_ev rfl) ?_
     refine hl_neq rfl rfl rfl rfl rfl rfl (fun h30 => ?_) (fun h30 => ?_)
     ·
      refine hl_less (sx 0 rfl (sx 1 rfl (sx 2 rfl (sx 3 rfl (sx 4 rfl (sx 5 rfl (sx 6 rfl (sx 7 rfl (sx 8 rfl (sx 9 rfl (sx 15 rfl (sx 26 rfl (sx 31 rfl (sx 42 rfl (sx 50 rfl (sx 53 rfl (sub_nil _))))))))))))))))) (.refl _) ?_
      refine hl_nil ?_
      refine hq_then ?_
      refine hc_true rfl ?_
      refine hc_seq ?_
      refine hc_region ?_
      refine hl_v rfl rfl rfl (rv_ev rfl) ?_
      refine hl_less (sx 0 rfl (sx 1 rfl (sx 2 rfl (sx 3 rfl (sx 4 rfl (sx 5 rfl (sx 6 rfl (sx 7 rfl (sx 8 rfl (sx 9 rfl (sx 15 rfl (sx 26 rfl (sx 31 rfl (sx 42 rfl (sx 50 rfl (sx 53 rfl (sub_nil _))))))))))))))))) (.refl _) ?_
      refine hl_nil ?_
      refine hq_then ?_
      refine hc_ret ?_
      refine hq_then_ret ?_
      exfalso
      omega
     ·
      refine hl_less (sx 0 rfl (sx 1 rfl (sx 2 rfl (sx 3 rfl (sx 4 rfl (sx 5 rfl (sx 6 rfl (sx 7 rfl (sx 8 rfl (sx 9 rfl (sx 15 rfl (sx 26 rfl (sx 31 rfl (sx 42 rfl (sx 50 rfl (sx 53 rfl (sub_nil _))))))))))))))))) (.refl _) ?_
      refine hl_nil ?_
      refine hq_then ?_
      refine hc_false rfl ?_
      refine hc_skip ?_
      refine hq_then ?_
      refine hc_seq ?_
      refine hc_region ?_
      refine hl_v rfl rfl rfl (rv_loadN (cs := [.int .i64 x.n.ins, x.n.sv, x.n.lv, x.n.ov, x.pv, x.qv, x.kv, x.av, x.bv, .int .i64 x.oi, .int .i64 x.ni]) rfl (by kernel_rfl) (by kernel_rfl) rfl rfl (box_part 6 rfl 0 rfl)) ?_
      refine hl_q rfl rfl rfl (rq_call (by kernel_rfl) rfl (fun w hm => toTimed_ret x w (hr.below hm.bel) hz)) ?_
      intro v31 p32 hR33
      obtain ⟨yhR33, rfl, rfl, hshR33, hohR33⟩ := hR33
      have hzhR33 := hz.same hshR33
      refine hl_q rfl rfl rfl (rq_call (by kernel_rfl) rfl (fun w hm => by have h9 := implLaunchPoints_ret yhR33 w (td_rds 0 rfl w hm); rw [lauR_same hshR33] at h9; exact h9)) ?_
      intro v34 p35 hR36
      subst hR36
      refine hl_v rfl rfl rfl (rv_ev rfl) ?_
      refine hl_less (sx 0 rfl (sx 1 rfl (sx 2 rfl (sx 3 rfl (sx 4 rfl (sx 5 rfl (sx 6 rfl (sx 7 rfl (sx 8 rfl (sx 9 rfl (sx 10 rfl (sx 15 rfl (sx 26 rfl (sx 31 rfl (sx 42 rfl (sx 50 rfl (sx 53 rfl (sub_nil _)))))))))))))))))) (.refl _) ?_
      refine hl_nil ?_
      refine hq_then ?_
      refine hc_seq ?_
      refine hc_seq ?_
      refine hc_region ?_
      refine hl_v rfl rfl rfl (rv_ev rfl) ?_
      refine hl_v rfl rfl rfl (rv_ev rfl) ?_
      refine hl_callV rfl rfl rfl (rq_call (by kernel_rfl) rfl (fun w hm => ret_ans (eqPointS_yes (lauR x) _ _ w ((rd_row 0 rfl) w hm) ((rd_row 6 rfl) w hm)))) ?_
      refine hl_v rfl rfl rfl (rv_ev rfl) ?_
      refine hl_less (sx 0 rfl (sx 1 rfl (sx 2 rfl (sx 3 rfl (sx 4 rfl (sx 5 rfl (sx 6 rfl (sx 7 rfl (sx 8 rfl (sx 9 rfl (sx 10 rfl (sx 15 rfl (sx 26 rfl (sx 31 rfl (sx 42 rfl (sx 50 rfl (sx 53 rfl (sx 60 rfl (sub_nil _))))))))))))))))))) (.refl _) ?_
      refine hl_nil ?_
      refine hq_then ?_
      refine hc_false rfl ?_
      refine hc_skip ?_
      refine hq_then ?_
      refine hc_seq ?_
      refine hc_region ?_
      refine hl_v rfl rfl rfl (rv_ev rfl) ?_
      refine hl_less (sx 0 rfl (sx 1 rfl (sx 2 rfl (sx 3 rfl (sx 4 rfl (sx 5 rfl (sx 6 rfl (sx 7 rfl (sx 8 rfl (sx 9 rfl (sx 10 rfl (sx 15 rfl (sx 26 rfl (sx 31 rfl (sx 42 rfl (sx 50 rfl (sx 53 rfl (sx 60 rfl (sub_nil _))))))))))))))))))) (.refl _) ?_
      refine hl_nil ?_
      refine hq_then ?_
      refine hc_seq ?_
      refine hc_region ?_
      refine hl_v rfl rfl rfl (rv_ev rfl) ?_
      refine hl_v rfl rfl rfl (rv_ev rfl) ?_
      refine hl_callV rfl rfl rfl (rq_call (by kernel_rfl) rfl (fun w hm => ret_ans (heldPointS_ans (lauR x).length 1 v16 w (rd_row 3 rfl w hm) (by omega) (by omega)))) ?_
      refine hl_v rfl rfl rfl (rv_ev rfl) ?_
      refine hl_less (sx 0 rfl (sx 1 rfl (sx 2 rfl (sx 3 rfl (sx 4 rfl (sx 5 rfl (sx 6 rfl (sx 7 rfl (sx 8 rfl (sx 9 rfl (sx 10 rfl (sx 15 rfl (sx 26 rfl (sx 31 rfl (sx 42 rfl (sx 50 rfl (sx 53 rfl (sx 60 rfl (sub_nil _))))))))))))))))))) (.refl _) ?_
      refine hl_nil ?_
      refine hq_then ?_
      refine hc_seq ?_
      refine hc_seq ?_
      refine hc_region ?_
      refine hl_v rfl rfl rfl (rv_ev rfl) ?_
      refine hl_lss rfl rfl rfl rfl rfl rfl (fun h37 => ?_) (fun h37 => ?_)
      ·
       refine hl_less (sx 0 rfl (sx 1 rfl (sx 2 rfl (sx 3 rfl (sx 4 rfl (sx 5 rfl (sx 6 rfl (sx 7 rfl (sx 8 rfl (sx 9 rfl (sx 10 rfl (sx 15 rfl (sx 26 rfl (sx 31 rfl (sx 42 rfl (sx 50 rfl (sx 53 rfl (sx 60 rfl (sx 65 rfl (sub_nil _)))))))))))))))))))) (.refl _) ?_
       refine hl_nil ?_
       refine hq_then ?_
       refine hc_true rfl ?_
       refine hc_seq ?_
       refine hc_region ?_
       refine hl_v rfl rfl rfl (rv_ev rfl) ?_
       refine hl_less (sx 0 rfl (sx 1 rfl (sx 2 rfl (sx 3 rfl (sx 4 rfl (sx 5 rfl (sx 6 rfl (sx 7 rfl (sx 8 rfl (sx 9 rfl (sx 10 rfl (sx 15 rfl (sx 26 rfl (sx 31 rfl (sx 42 rfl (sx 50 rfl (sx 53 rfl (sx 60 rfl (sx 65 rfl (sub_nil _)))))))))))))))))))) (.refl _) ?_
       refine hl_nil ?_
       refine hq_then ?_
       refine hc_ret ?_
       refine hq_then_ret ?_
       exfalso
       omega
      ·
       refine hl_less (sx 0 rfl (sx 1 rfl (sx 2 rfl (sx 3 rfl (sx 4 rfl (sx 5 rfl (sx 6 rfl (sx 7 rfl (sx 8 rfl (sx 9 rfl (sx 10 rfl (sx 15 rfl (sx 26 rfl (sx 31 rfl (sx 42 rfl (sx 50 rfl (sx 53 rfl (sx 60 rfl (sx 65 rfl (sub_nil _)))))))))))))))))))) (.refl _) ?_
       refine hl_nil ?_
       refine hq_then ?_
       refine hc_false rfl ?_
       refine hc_skip ?_
       refine hq_then ?_
       refine hc_seq ?_
       refine hc_seq ?_
       refine hc_region ?_
       refine hl_v rfl rfl rfl (rv_ev rfl) ?_
       refine hl_v rfl rfl rfl (rv_ev rfl) ?_
       refine hl_neq rfl rfl rfl rfl rfl rfl (fun h38 => ?_) (fun h38 => ?_)
       ·
        refine hl_less (sx 0 rfl (sx 1 rfl (sx 2 rfl (sx 3 rfl (sx 4 rfl (sx 5 rfl (sx 6 rfl (sx 7 rfl (sx 8 rfl (sx 9 rfl (sx 10 rfl (sx 15 rfl (sx 26 rfl (sx 31 rfl (sx 42 rfl (sx 50 rfl (sx 53 rfl (sx 60 rfl (sx 65 rfl (sx 68 rfl (sub_nil _))))))))))))))))))))) (.refl _) ?_
        refine hl_nil ?_
        refine hq_then ?_
        refine hc_true rfl ?_
        refine hc_seq ?_
        refine hc_region ?_
        refine hl_v rfl rfl rfl (rv_ev rfl) ?_
        refine hl_less (sx 0 rfl (sx 1 rfl (sx 2 rfl (sx 3 rfl (sx 4 rfl (sx 5 rfl (sx 6 rfl (sx 7 rfl (sx 8 rfl (sx 9 rfl (sx 10 rfl (sx 15 rfl (sx 26 rfl (sx 31 rfl (sx 42 rfl (sx 50 rfl (sx 53 rfl (sx 60 rfl (sx 65 rfl (sx 68 rfl (sub_nil _))))))))))))))))))))) (.refl _) ?_
        refine hl_nil ?_
        refine hq_then ?_
        refine hc_ret ?_
        refine hq_then_ret ?_
        exfalso
        omega
       ·
        refine hl_less (sx 0 rfl (sx 1 rfl (sx 2 rfl (sx 3 rfl (sx 4 rfl (sx 5 rfl (sx 6 rfl (sx 7 rfl (sx 8 rfl (sx 9 rfl (sx 10 rfl (sx 15 rfl (sx 26 rfl (sx 31 rfl (sx 42 rfl (sx 50 rfl (sx 53 rfl (sx 60 rfl (sx 65 rfl (sx 68 rfl (sub_nil _))))))))))))))))))))) (.refl _) ?_
        refine hl_nil ?_
        refine hq_then ?_
        refine hc_false rfl ?_
        refine hc_skip ?_
        refine hq_then ?_
        refine hc_seq ?_
        refine hc_region ?_
        refine hl_v rfl rfl rfl (rv_ev rfl) ?_
        refine hl_less (sx 0 rfl (sx 1 rfl (sx 2 rfl (sx 3 rfl (sx 4 rfl (sx 5 rfl (sx 6 rfl (sx 7 rfl (sx 8 rfl (sx 9 rfl (sx 10 rfl (sx 15 rfl (sx 26 rfl (sx 31 rfl (sx 42 rfl (sx 50 rfl (sx 53 rfl (sx 60 rfl (sx 65 rfl (sx 68 rfl (sub_nil _))))))))))))))))))))) (.refl _) ?_
        refine hl_nil ?_
        refine hq_then ?_
        refine hc_ret ?_
        exact hq_ans rfl rfl rfl
end Go.Proofs.Ytceebbcoikgocaa
