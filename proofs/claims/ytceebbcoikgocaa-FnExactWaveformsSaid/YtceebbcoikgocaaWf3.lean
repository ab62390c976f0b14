/- Texts of the law FnExactWaveforms, part 3: what it uses. -/
import Derived.Test.YtceebbcoikgocaaWf2
set_option linter.unusedVariables false
set_option linter.unusedSimpArgs false
namespace Go.Proofs.Ytceebbcoikgocaa
open Go.RowKit Go.ChangeShapes
open Go.RowKit
set_option maxHeartbeats 4000000 in
set_option maxRecDepth 100000 in
theorem implLutNetOk_ans (n : Ln) (w : World) (hr : RdsLn w n) :
  Calls Try.prog 78 #[.agg #[.int .i64 n.ins, n.sv, n.lv, n.ov]] w (Ans w (.bool (pB (LnOk n)))) := by
 have hso := sml hr.ou
 have hss := hr.sq.small
 have hsl := hr.lt.small
 have hcnt : n.cnt = 1 + n.ins + n.ss.length + n.ls.length := rfl
 have hfst : n.fst = 1 + n.ins + n.ss.length := rfl
 refine calls_hc (N := 70) (args := [.agg #[.int .i64 n.ins, n.sv, n.lv, n.ov]]) Try.func78 rfl rfl ?_
 refine hc_less _ (sx 0 rfl (sub_nil _)) (.refl _) ?_
 refine hc_seq ?_
 refine hc_region ?_
 refine hl_box rfl rfl rfl (rq_box rfl rfl) ?_
 intro b1
 refine hl_v rfl rfl rfl (rv_ev rfl) ?_
 refine hl_less (sx 0 rfl (sx 1 rfl (sx 2 rfl (sub_nil _)))) (.refl _) ?_
 refine hl_nil ?_
 refine hq_then ?_
 refine hc_seq ?_
 refine hc_region ?_
 refine hl_v rfl rfl rfl (rv_loadN (cs := [.int .i64 n.ins, n.sv, n.lv, n.ov]) rfl (by kernel_rfl) (by kernel_rfl) rfl rfl (box_part 0 rfl 0 rfl)) ?_
 refine hl_callV rfl rfl rfl (rq_call (by kernel_rfl) rfl (fun w hm => ret_ans (implLutNodes_ans n w (hr.below hm.bel)))) ?_
 refine hl_v rfl rfl rfl (rv_ev rfl) ?_
 refine hl_less (sx 0 rfl (sx 1 rfl (sx 2 rfl (sx 3 rfl (sub_nil _))))) (.refl _) ?_
 refine hl_nil ?_
 refine hq_then ?_
 refine hc_seq ?_
 refine hc_seq ?_
 refine hc_region ?_
 refine hl_v rfl rfl rfl (rv_ev rfl) ?_
 refine hl_eql rfl rfl rfl rfl rfl rfl (fun h2 => ?_) (fun h2 => ?_)
 ·
  refine hl_v rfl rfl rfl (rv_ev rfl) ?_
  refine hl_skip rfl rfl rfl ?_
  refine hl_skip rfl rfl rfl ?_
  refine hl_skip rfl rfl rfl ?_
  refine hl_skip rfl rfl rfl ?_
  refine hl_skip rfl rfl rfl ?_
  refine hl_v rfl rfl rfl (rv_ev rfl) ?_
  refine hl_less (sx 0 rfl (sx 1 rfl (sx 2 rfl (sx 3 rfl (sx 18 rfl (sub_nil _)))))) (.refl _) ?_
  refine hl_nil ?_
  refine hq_then ?_
  refine hc_true rfl ?_
  refine hc_seq ?_
  refine hc_region ?_
  refine hl_v rfl rfl rfl (rv_ev rfl) ?_
  refine hl_less (sx 0 rfl (sx 1 rfl (sx 2 rfl (sx 3 rfl (sx 18 rfl (sub_nil _)))))) (.refl _) ?_
  refine hl_nil ?_
  refine hq_then ?_
  refine hc_ret ?_
  refine hq_then_ret ?_
  exact hq_ans rfl rfl (congrArg _ (pB_no (fun hp => by first | (exact lnN_pos hp.sz (by assumption)) | (exact absurd hp.ou (by rw [← hnc]; assumption)) | (have h9 := hp.sq k (by omega); exact absurd h9.1 (by assumption)) | (have h9 := hp.sq k (by omega); rw [← hnc] at h9; exact absurd h9.2 (by assumption)) | (have h9 := hp.sq k (by omega); rcases h9.1.kind with ⟨a, b, c⟩ | ⟨a, b, c⟩ <;> omega) | (have h9 := hp.lt i (by omega); have h8 := h9.1.1; omega) | (have h9 := hp.lt i (by omega); exact absurd h9.1.2 (by assumption)) | (have h9 := hp.lt i (by omega); exact absurd h9.2 (by assumption)))).symm)
 ·
  refine hl_v rfl rfl rfl (rv_ev rfl) ?_
  have hsz := lnN_sz (by assumption)
  have hnc := lnN_yes hsz
  obtain ⟨si, s2, s3, s4⟩ := id hsz
  refine hl_v rfl rfl rfl (rv_field (k0 := 3) rfl (by kernel_rfl) rfl) ?_
  refine hl_v rfl rfl rfl (rv_load rfl (by kernel_rfl) rfl (box_cell 0 rfl rfl)) ?_
  refine hl_v rfl rfl rfl (rv_ev rfl) ?_
  refine hl_callV rfl rfl rfl (rq_call (by kernel_rfl) rfl (fun w hm => ret_ans (nodesBelow_ans n.os (lnN n) _ w ((rd_old ((hr).ou)) w hm) (by omega)))) ?_
  refine hl_bool (fun h3 => ?_) (fun h3 => ?_)
  ·
   have h3p := of_pB h3
   refine hl_v rfl rfl rfl (rv_ev rfl) ?_
   refine hl_v rfl rfl rfl (rv_ev rfl) ?_
   refine hl_less (sx 0 rfl (sx 1 rfl (sx 2 rfl (sx 3 rfl (sx 18 rfl (sub_nil _)))))) (.refl _) ?_
   refine hl_nil ?_
   refine hq_then ?_
   refine hc_false rfl ?_
   refine hc_skip ?_
   refine hq_then ?_
   refine hc_seq ?_
   refine hc_seq ?_
   refine hc_region ?_
   refine hl_v rfl rfl rfl (rv_field (k0 := 1) rfl (by kernel_rfl) rfl) ?_
   refine hl_v rfl rfl rfl (rv_load rfl (by kernel_rfl) rfl (box_cell 0 rfl rfl)) ?_
   refine hl_v rfl rfl rfl (rv_len rfl Try.underlying34 rfl (rd_old ((hr).sq.row))) ?_
   refine hl_v rfl rfl rfl (rv_ev rfl) ?_
   refine hl_less (sx 0 rfl (sx 1 rfl (sx 2 rfl (sx 3 rfl (sx 18 rfl (sx 20 rfl (sx 21 rfl (sx 22 rfl (sub_nil _))))))))) (.refl _) ?_
   refine hl_nil ?_
   refine hq_then ?_
   refine hc_block ?_
   refine hc_loop1 (α := Nat) (fun k => [boxE b1 #[.int .i64 n.ins, n.sv, n.lv, n.ov] 37]) (fun k => [(0, .agg #[.int .i64 n.ins, n.sv, n.lv, n.ov]), (1, .pointer (some ⟨b1, 0, none⟩)), (2, .bool false), (3, .int .i64 (lnN n)), (18, .bool false), (20, n.sv), (21, .int .i64 (n.ss.length : Int)), (22, .int .i64 (k : Int))]) (fun k => k ≤ n.ss.length ∧ ∀ i, i < k → SqOk (n.ss.getD i sq0) ∧ BelowP (n.ss.getD i sq0).xs n.cnt) (fun k => n.ss.length - k) 0 ⟨Nat.zero_le _, fun i hi => absurd hi (by omega)⟩ (sx 0 rfl (sx 1 rfl (sx 2 rfl (sx 3 rfl (sx 18 rfl (sx 20 rfl (sx 21 rfl (sx 22 rfl (sub_nil _))))))))) ((.cons_cons _ .slnil)) ?_
   intro k hi4
   obtain ⟨hk, hqs⟩ := hi4
   refine hc_seq ?_
   refine hc_region ?_
   refine hl_lss rfl rfl rfl rfl rfl rfl (fun h5 => ?_) (fun h5 => ?_)
   ·
    refine hl_less (sx 0 rfl (sx 1 rfl (sx 2 rfl (sx 3 rfl (sx 18 rfl (sx 20 rfl (sx 21 rfl (sx 22 rfl (sx 23 rfl (sub_nil _)))))))))) (.refl _) ?_
    refine hl_nil ?_
    refine hq_then ?_
    refine hc_seq ?_
    refine hc_true rfl ?_
    refine hc_skip ?_
    refine hq_then ?_
    refine hc_seq ?_
    refine hc_block ?_
    refine hc_seq ?_
    refine hc_region ?_
    refine hl_v rfl rfl rfl (rv_index (s := 3) rfl Try.underlying34 (by kernel_rfl) rfl rfl (rd_old ((hr).sq.row)) (by omega) (by first | omega | (simp only [List.length_set]; omega))) ?_
    refine hl_v rfl rfl rfl (rv_loadElN (us := [.int .i64 ((n.ss.getD k sq0).kd), .int .i64 ((n.ss.getD k sq0).it), (n.ss.getD k sq0).iv]) rfl (by kernel_rfl) (by kernel_rfl) rfl (rd_old ((hr).sq.row)) (by omega) rfl (flat_atN sqC 3 (fun _ => rfl) n.ss sq0 (show k < _ by first | omega | (simp only [List.length_set]; omega)) rfl)) ?_
    refine hl_box rfl rfl rfl (rq_alloc (z := .agg #[.int .i64 0, .int .i64 0, .slice none 0 0]) rfl (by kernel_rfl)) ?_
    intro b6
    refine hl_storeBoxN (i := 0) (off := 0) (us := [.int .i64 ((n.ss.getD k sq0).kd), .int .i64 ((n.ss.getD k sq0).it), (n.ss.getD k sq0).iv])  (l' := [boxE b6 #[.int .i64 ((n.ss.getD k sq0).kd), .int .i64 ((n.ss.getD k sq0).it), (n.ss.getD k sq0).iv] 71, boxE b1 #[.int .i64 n.ins, n.sv, n.lv, n.ov] 37]) rfl rfl rfl (by kernel_rfl) rfl rfl rfl (all_cons rfl (all_cons rfl (all_cons (hr.sq.at (d := sq0) (k := k) (by omega)).one all_nil))) rfl rfl rfl ?_
    refine hl_less (sx 0 rfl (sx 1 rfl (sx 2 rfl (sx 3 rfl (sx 5 rfl (sx 18 rfl (sx 20 rfl (sx 21 rfl (sx 22 rfl (sx 23 rfl (sub_nil _))))))))))) (.refl _) ?_
    refine hl_nil ?_
    refine hq_then ?_
    refine hc_seq ?_
    refine hc_region ?_
    refine hl_v rfl rfl rfl (rv_loadN (cs := [.int .i64 ((n.ss.getD k sq0).kd), .int .i64 ((n.ss.getD k sq0).it), (n.ss.getD k sq0).iv]) rfl (by kernel_rfl) (by kernel_rfl) rfl rfl (box_part 0 rfl 0 rfl)) ?_
    refine hl_callV rfl rfl rfl (rq_call (by kernel_rfl) rfl (fun w hm => ret_ans (seqOk_ans (n.ss.getD k sq0) w ((hr.sq.at (d := sq0) (k := k) (by omega)).below hm.bel)))) ?_
    refine hl_bool (fun h7 => ?_) (fun h7 => ?_)
    ·
     have h7p := of_pB h7
     refine hl_v rfl rfl rfl (rv_ev rfl) ?_
     refine hl_v rfl rfl rfl (rv_ev rfl) ?_
     refine hl_v rfl rfl rfl (rv_field (k0 := 2) rfl (by kernel_rfl) rfl) ?_
     refine hl_v rfl rfl rfl (rv_load rfl (by kernel_rfl) rfl (box_cell 0 rfl rfl)) ?_
     refine hl_v rfl rfl rfl (rv_ev rfl) ?_
     refine hl_callV rfl rfl rfl (rq_call (by kernel_rfl) rfl (fun w hm => ret_ans (nodesBelow_ans ((n.ss.getD k sq0).xs) (lnN n) _ w ((rd_old ((hr).sq.at (d := sq0) (k := k) (by omega))) w hm) (by omega)))) ?_
     refine hl_bool (fun h8 => ?_) (fun h8 => ?_)
     ·
      have h8p := of_pB h8
      refine hl_v rfl rfl rfl (rv_ev rfl) ?_
      refine hl_v rfl rfl rfl (rv_ev rfl) ?_
      refine hl_less (sx 0 rfl (sx 1 rfl (sx 2 rfl (sx 3 rfl (sx 5 rfl (sx 18 rfl (sx 20 rfl (sx 21 rfl (sx 22 rfl (sx 23 rfl (sx 35 rfl (sub_nil _)))))))))))) (.refl _) ?_
      refine hl_nil ?_
      refine hq_then ?_
      refine hc_false rfl ?_
      refine hc_skip ?_
      refine hq_block_normal ?_
      refine hq_then ?_
      refine hc_region ?_
      refine hl_v rfl rfl rfl (rv_add rfl rfl rfl (by constructor <;> omega)) ?_
      refine hl_v rfl rfl rfl (rv_ev rfl) ?_
      refine hl_less (sx 0 rfl (sx 1 rfl (sx 2 rfl (sx 3 rfl (sx 5 rfl (sx 18 rfl (sx 20 rfl (sx 21 rfl (sx 22 rfl (sx 23 rfl (sx 35 rfl (sub_nil _)))))))))))) (.refl _) ?_
      refine hl_nil ?_
      exact hq_round1 (k + 1) ⟨by omega, fun i hi => by by_cases e : i = k; (subst e; exact ⟨by first | assumption | exact ⟨by omega⟩, by rw [← hnc]; assumption⟩); exact hqs i (by omega)⟩ (by omega) (sx 0 rfl (sx 1 rfl (sx 2 rfl (sx 3 rfl (sx 18 rfl (sx 20 rfl (sx 21 rfl (sx 22 rfl (sub_nil _))))))))) ((.cons _ (.cons_cons _ .slnil)))
     ·
      have h8p := of_pBn h8
      refine hl_v rfl rfl rfl (rv_ev rfl) ?_
      refine hl_v rfl rfl rfl (rv_ev rfl) ?_
      refine hl_less (sx 0 rfl (sx 1 rfl (sx 2 rfl (sx 3 rfl (sx 5 rfl (sx 18 rfl (sx 20 rfl (sx 21 rfl (sx 22 rfl (sx 23 rfl (sx 35 rfl (sub_nil _)))))))))))) (.refl _) ?_
      refine hl_nil ?_
      refine hq_then ?_
      refine hc_true rfl ?_
      refine hc_seq ?_
      refine hc_region ?_
      refine hl_v rfl rfl rfl (rv_ev rfl) ?_
      refine hl_less (sx 0 rfl (sx 1 rfl (sx 2 rfl (sx 3 rfl (sx 5 rfl (sx 18 rfl (sx 20 rfl (sx 21 rfl (sx 22 rfl (sx 23 rfl (sx 35 rfl (sub_nil _)))))))))))) (.refl _) ?_
      refine hl_nil ?_
      refine hq_then ?_
      refine hc_ret ?_
      refine hq_block_ret ?_
      refine hq_then_ret ?_
      refine hq_then_ret ?_
      refine hq_block_ret ?_
      refine hq_then_ret ?_
      exact hq_ans rfl rfl (congrArg _ (pB_no (fun hp => by first | (exact lnN_pos hp.sz (by assumption)) | (exact absurd hp.ou (by rw [← hnc]; assumption)) | (have h9 := hp.sq k (by omega); exact absurd h9.1 (by assumption)) | (have h9 := hp.sq k (by omega); rw [← hnc] at h9; exact absurd h9.2 (by assumption)) | (have h9 := hp.sq k (by omega); rcases h9.1.kind with ⟨a, b, c⟩ | ⟨a, b, c⟩ <;> omega) | (have h9 := hp.lt i (by omega); have h8 := h9.1.1; omega) | (have h9 := hp.lt i (by omega); exact absurd h9.1.2 (by assumption)) | (have h9 := hp.lt i (by omega); exact absurd h9.2 (by assumption)))).symm)
    ·
     have h7p := of_pBn h7
     refine hl_v rfl rfl rfl (rv_ev rfl) ?_
     refine hl_v rfl rfl rfl (rv_ev rfl) ?_
     refine hl_skip rfl rfl rfl ?_
     refine hl_skip rfl rfl rfl ?_
     refine hl_skip rfl rfl rfl ?_
     refine hl_skip rfl rfl rfl ?_
     refine hl_skip rfl rfl rfl ?_
     refine hl_v rfl rfl rfl (rv_ev rfl) ?_
     refine hl_less (sx 0 rfl (sx 1 rfl (sx 2 rfl (sx 3 rfl (sx 5 rfl (sx 18 rfl (sx 20 rfl (sx 21 rfl (sx 22 rfl (sx 23 rfl (sx 35 rfl (sub_nil _)))))))))))) (.refl _) ?_
     refine hl_nil ?_
     refine hq_then ?_
     refine hc_true rfl ?_
     refine hc_seq ?_
     refine hc_region ?_
     refine hl_v rfl rfl rfl (rv_ev rfl) ?_
     refine hl_less (sx 0 rfl (sx 1 rfl (sx 2 rfl (sx 3 rfl (sx 5 rfl (sx 18 rfl (sx 20 rfl (sx 21 rfl (sx 22 rfl (sx 23 rfl (sx 35 rfl (sub_nil _)))))))))))) (.refl _) ?_
     refine hl_nil ?_
     refine hq_then ?_
     refine hc_ret ?_
     refine hq_block_ret ?_
     refine hq_then_ret ?_
     refine hq_then_ret ?_
     refine hq_block_ret ?_
     refine hq_then_ret ?_
     exact hq_ans rfl rfl (congrArg _ (pB_no (fun hp => by first | (exact lnN_pos hp.sz (by assumption)) | (exact absurd hp.ou (by rw [← hnc]; assumption)) | (have h9 := hp.sq k (by omega); exact absurd h9.1 (by assumption)) | (have h9 := hp.sq k (by omega); rw [← hnc] at h9; exact absurd h9.2 (by assumption)) | (have h9 := hp.sq k (by omega); rcases h9.1.kind with ⟨a, b, c⟩ | ⟨a, b, c⟩ <;> omega) | (have h9 := hp.lt i (by omega); have h8 := h9.1.1; omega) | (have h9 := hp.lt i (by omega); exact absurd h9.1.2 (by assumption)) | (have h9 := hp.lt i (by omega); exact absurd h9.2 (by assumption)))).symm)
   ·
    refine hl_less (sx 0 rfl (sx 1 rfl (sx 2 rfl (sx 3 rfl (sx 18 rfl (sx 20 rfl (sx 21 rfl (sx 22 rfl (sx 23 rfl (sub_nil _)))))))))) (.refl _) ?_
    refine hl_nil ?_
    refine hq_then ?_
    refine hc_seq ?_
    refine hc_false rfl ?_
    refine hc_exit ?_
    refine hq_then_exit ?_
    refine hq_then_exit ?_
    refine hq_block_exit ?_
    refine hq_then ?_
    refine hc_seq ?_
    refine hc_seq ?_
    refine hc_region ?_
    refine hl_v rfl rfl rfl (rv_field (k0 := 2) rfl (by kernel_rfl) rfl) ?_
    refine hl_v rfl rfl rfl (rv_load rfl (by kernel_rfl) rfl (box_cell 0 rfl rfl)) ?_
    refine hl_v rfl rfl rfl (rv_len rfl Try.underlying35 rfl (rd_old ((hr).lt.row))) ?_
    refine hl_v rfl rfl rfl (rv_ev rfl) ?_
    refine hl_less (sx 0 rfl (sx 1 rfl (sx 2 rfl (sx 3 rfl (sx 18 rfl (sx 20 rfl (sx 21 rfl (sx 22 rfl (sx 23 rfl (sx 38 rfl (sx 39 rfl (sx 40 rfl (sub_nil _))))))))))))) (.refl _) ?_
    refine hl_nil ?_
    refine hq_then ?_
    refine hc_block ?_
    refine hc_loop1 (α := Nat) (fun i => [boxE b1 #[.int .i64 n.ins, n.sv, n.lv, n.ov] 37]) (fun i => [(0, .agg #[.int .i64 n.ins, n.sv, n.lv, n.ov]), (1, .pointer (some ⟨b1, 0, none⟩)), (2, .bool false), (3, .int .i64 (lnN n)), (18, .bool false), (20, n.sv), (21, .int .i64 (n.ss.length : Int)), (22, .int .i64 (k : Int)), (23, .bool false), (38, n.lv), (39, .int .i64 (n.ls.length : Int)), (40, .int .i64 (i : Int))]) (fun i => i ≤ n.ls.length ∧ ∀ j, j < i → LutP (n.fst + j) (n.ls.getD j lt0)) (fun i => n.ls.length - i) 0 ⟨Nat.zero_le _, fun i hi => absurd hi (by omega)⟩ (sx 0 rfl (sx 1 rfl (sx 2 rfl (sx 3 rfl (sx 18 rfl (sx 20 rfl (sx 21 rfl (sx 22 rfl (sx 23 rfl (sx 38 rfl (sx 39 rfl (sx 40 rfl (sub_nil _))))))))))))) ((.cons_cons _ .slnil)) ?_
    intro i hi9
    obtain ⟨hi, hql⟩ := hi9
    refine hc_seq ?_
    refine hc_region ?_
    refine hl_lss rfl rfl rfl rfl rfl rfl (fun h10 => ?_) (fun h10 => ?_)
    ·
     refine hl_less (sx 0 rfl (sx 1 rfl (sx 2 rfl (sx 3 rfl (sx 18 rfl (sx 20 rfl (sx 21 rfl (sx 22 rfl (sx 23 rfl (sx 38 rfl (sx 39 rfl (sx 40 rfl (sx 41 rfl (sub_nil _)))))))))))))) (.refl _) ?_
     refine hl_nil ?_
     refine hq_then ?_
     refine hc_seq ?_
     refine hc_true rfl ?_
     refine hc_skip ?_
     refine hq_then ?_
     refine hc_seq ?_
     refine hc_block ?_
     refine hc_seq ?_
     refine hc_region ?_
     refine hl_v rfl rfl rfl (rv_ev rfl) ?_
     refine hl_v rfl rfl rfl (rv_index (s := 2) rfl Try.underlying35 (by kernel_rfl) rfl rfl (rd_old ((hr).lt.row)) (by omega) (by first | omega | (simp only [List.length_set]; omega))) ?_
     refine hl_v rfl rfl rfl (rv_loadElN (us := [(n.ls.getD i lt0).iv, .int .i64 ((n.ls.getD i lt0).ma)]) rfl (by kernel_rfl) (by kernel_rfl) rfl (rd_old ((hr).lt.row)) (by omega) rfl (flat_atN ltC 2 (fun _ => rfl) n.ls lt0 (show i < _ by first | omega | (simp only [List.length_set]; omega)) rfl)) ?_
     refine hl_box rfl rfl rfl (rq_alloc (z := .agg #[.slice none 0 0, .int .i64 0]) rfl (by kernel_rfl)) ?_
     intro b11
     refine hl_v rfl rfl rfl (rv_ev rfl) ?_
     refine hl_storeBoxN (i := 0) (off := 0) (us := [(n.ls.getD i lt0).iv, .int .i64 ((n.ls.getD i lt0).ma)])  (l' := [boxE b11 #[(n.ls.getD i lt0).iv, .int .i64 ((n.ls.getD i lt0).ma)] 69, boxE b1 #[.int .i64 n.ins, n.sv, n.lv, n.ov] 37]) rfl rfl rfl (by kernel_rfl) rfl rfl rfl (all_cons (hr.lt.at (d := lt0) (k := i) (by omega)).one (all_cons rfl all_nil)) rfl rfl rfl ?_
     refine hl_less (sx 0 rfl (sx 1 rfl (sx 2 rfl (sx 3 rfl (sx 6 rfl (sx 7 rfl (sx 18 rfl (sx 20 rfl (sx 21 rfl (sx 22 rfl (sx 23 rfl (sx 38 rfl (sx 39 rfl (sx 40 rfl (sx 41 rfl (sub_nil _)))))))))))))))) (.refl _) ?_
     refine hl_nil ?_
     refine hq_then ?_
     refine hc_seq ?_
     rcases Bool.eq_false_or_eq_true (decide (4 < (((n.ls.getD i lt0).xs).length : Int))) with hb12 | hb12
     ·
      have hb12p : 4 < (((n.ls.getD i lt0).xs).length : Int) := of_decide_eq_true hb12
      refine hc_draw (by kernel_rfl) 24 [0, 1, 2, 3, 4, 5, 6, 7, 8, 9, 10, 11, 12, 13, 14, 15, 16, 17, 18, 19, 20, 21, 22, 23] (List.take 24 _) (List.drop 24 _) [[], [0], [1], [2], [3], [4], [4], [4], [4], [4], [4], [4], [4], [4, 12], [13], [14], [14], [14], [14], [14], [14], [14], [14], [14, 22]] [45, 46, 47, 48, 49, 50, 51, 52, 53, 54, 55, 56, 57, 58, 59, 60, 61, 62, 63, 64, 65, 66, 67, 68] (fun i_ vs_ v_ p_ => match i_ with | 0 => v_ = .pointer (some ⟨b11, 0 + 0, none⟩) ∧ p_ = [] | 1 => v_ = (n.ls.getD i lt0).iv ∧ p_ = [] | 2 => v_ = .int .i64 (((n.ls.getD i lt0).xs).length : Int) ∧ p_ = [] | 3 => v_ = .bool true ∧ p_ = [] | 4 => v_ = .bool true ∧ p_ = [] | 5 => v_ = undef ∧ p_ = [] | 6 => v_ = undef ∧ p_ = [] | 7 => v_ = undef ∧ p_ = [] | 8 => v_ = undef ∧ p_ = [] | 9 => v_ = undef ∧ p_ = [] | 10 => v_ = undef ∧ p_ = [] | 11 => v_ = undef ∧ p_ = [] | 12 => v_ = undef ∧ p_ = [] | 13 => v_ = .bool true ∧ p_ = [] | 14 => v_ = .bool true ∧ p_ = [] | 15 => v_ = undef ∧ p_ = [] | 16 => v_ = undef ∧ p_ = [] | 17 => v_ = undef ∧ p_ = [] | 18 => v_ = undef ∧ p_ = [] | 19 => v_ = undef ∧ p_ = [] | 20 => v_ = undef ∧ p_ = [] | 21 => v_ = undef ∧ p_ = [] | 22 => v_ = undef ∧ p_ = [] | 23 => v_ = .bool true ∧ p_ = [] | _ => True) (List.take_append_drop 24 _).symm (by kernel_rfl) (by kernel_rfl) rfl rfl ?_ ?_
      ·
       refine ⟨?_, ?_, ?_, ?_, ?_, ?_, ?_, ?_, ?_, ?_, ?_, ?_, ?_, ?_, ?_, ?_, ?_, ?_, ?_, ?_, ?_, ?_, ?_, ?_, trivial⟩
       ·
        intro vf pf hR
        refine Or.inl ⟨rfl, ?_⟩
        refine rq_less (sx 7 rfl (sub_nil _)) (List.sublist_append_right _ _) ?_
        exact rq_v (rv_field (k0 := 0) rfl (by kernel_rfl) rfl)
       ·
        intro vf pf hR
        have e0 : (vf 0) = .pointer (some ⟨b11, 0 + 0, none⟩) ∧ (pf 0) = [] := hR 0 (by decide)
        refine Or.inl ⟨rfl, ?_⟩
        refine rq_less (sx 45 (congrArg some e0.1) (sub_nil _)) (List.sublist_append_right _ _) ?_
        exact rq_v (rv_load rfl (by kernel_rfl) rfl (box_cell 0 rfl rfl))
       ·
        intro vf pf hR
        have e1 : (vf 1) = (n.ls.getD i lt0).iv ∧ (pf 1) = [] := hR 1 (by decide)
        refine Or.inl ⟨rfl, ?_⟩
        refine rq_less (sx 46 (congrArg some e1.1) (sub_nil _)) (List.sublist_append_right _ _) ?_
        exact rq_v (rv_len rfl Try.underlying24 rfl (rd_old ((hr).lt.at (d := lt0) (k := i) (by omega))))
       ·
        intro vf pf hR
        have e2 : (vf 2) = .int .i64 (((n.ls.getD i lt0).xs).length : Int) ∧ (pf 2) = [] := hR 2 (by decide)
        refine Or.inl ⟨rfl, ?_⟩
        refine rq_less (sx 47 (congrArg some e2.1) (sub_nil _)) (List.sublist_append_right _ _) ?_
        exact rq_mono (rq_v (rv_cmp rfl rfl rfl rfl)) (fun _ _ h => ⟨h.1.trans (congrArg Value.bool hb12), h.2⟩)
       ·
        intro vf pf hR
        have e3 : (vf 3) = .bool true ∧ (pf 3) = [] := hR 3 (by decide)
        refine Or.inl ⟨rfl, ?_⟩
        refine rq_less (sx 48 (congrArg some e3.1) (sub_nil _)) (List.sublist_append_right _ _) ?_
        exact rq_v (rv_ev rfl)
       ·
        intro vf pf hR
        have e4 : (vf 4) = .bool true ∧ (pf 4) = [] := hR 4 (by decide)
        exact Or.inr ⟨want_of (congrArg some e4.1) rfl, rfl, rfl⟩
       ·
        intro vf pf hR
        have e4 : (vf 4) = .bool true ∧ (pf 4) = [] := hR 4 (by decide)
        exact Or.inr ⟨want_of (congrArg some e4.1) rfl, rfl, rfl⟩
       ·
        intro vf pf hR
        have e4 : (vf 4) = .bool true ∧ (pf 4) = [] := hR 4 (by decide)
        exact Or.inr ⟨want_of (congrArg some e4.1) rfl, rfl, rfl⟩
       ·
        intro vf pf hR
        have e4 : (vf 4) = .bool true ∧ (pf 4) = [] := hR 4 (by decide)
        exact Or.inr ⟨want_of (congrArg some e4.1) rfl, rfl, rfl⟩
       ·
        intro vf pf hR
        have e4 : (vf 4) = .bool true ∧ (pf 4) = [] := hR 4 (by decide)
        exact Or.inr ⟨want_of (congrArg some e4.1) rfl, rfl, rfl⟩
       ·
        intro vf pf hR
        have e4 : (vf 4) = .bool true ∧ (pf 4) = [] := hR 4 (by decide)
        exact Or.inr ⟨want_of (congrArg some e4.1) rfl, rfl, rfl⟩
       ·
        intro vf pf hR
        have e4 : (vf 4) = .bool true ∧ (pf 4) = [] := hR 4 (by decide)
        exact Or.inr ⟨want_of (congrArg some e4.1) rfl, rfl, rfl⟩
       ·
        intro vf pf hR
        have e4 : (vf 4) = .bool true ∧ (pf 4) = [] := hR 4 (by decide)
        exact Or.inr ⟨want_of (congrArg some e4.1) rfl, rfl, rfl⟩
       ·
        intro vf pf hR
        have e4 : (vf 4) = .bool true ∧ (pf 4) = [] := hR 4 (by decide)
        have e12 : (vf 12) = undef ∧ (pf 12) = [] := hR 12 (by decide)
        refine Or.inl ⟨rfl, ?_⟩
        refine rq_less (sx 49 (congrArg some e4.1) (sx 57 (congrArg some e12.1) (sub_nil _))) (List.sublist_append_right _ _) ?_
        exact rq_v (rv_ev rfl)
       ·
        intro vf pf hR
        have e13 : (vf 13) = .bool true ∧ (pf 13) = [] := hR 13 (by decide)
        refine Or.inl ⟨rfl, ?_⟩
        refine rq_less (sx 58 (congrArg some e13.1) (sub_nil _)) (List.sublist_append_right _ _) ?_
        exact rq_v (rv_ev rfl)
       ·
        intro vf pf hR
        have e14 : (vf 14) = .bool true ∧ (pf 14) = [] := hR 14 (by decide)
        exact Or.inr ⟨want_of (congrArg some e14.1) rfl, rfl, rfl⟩
       ·
        intro vf pf hR
        have e14 : (vf 14) = .bool true ∧ (pf 14) = [] := hR 14 (by decide)
        exact Or.inr ⟨want_of (congrArg some e14.1) rfl, rfl, rfl⟩
       ·
        intro vf pf hR
        have e14 : (vf 14) = .bool true ∧ (pf 14) = [] := hR 14 (by decide)
        exact Or.inr ⟨want_of (congrArg some e14.1) rfl, rfl, rfl⟩
       ·
        intro vf pf hR
        have e14 : (vf 14) = .bool true ∧ (pf 14) = [] := hR 14 (by decide)
        exact Or.inr ⟨want_of (congrArg some e14.1) rfl, rfl, rfl⟩
       ·
        intro vf pf hR
        have e14 : (vf 14) = .bool true ∧ (pf 14) = [] := hR 14 (by decide)
        exact Or.inr ⟨want_of (congrArg some e14.1) rfl, rfl, rfl⟩
       ·
        intro vf pf hR
        have e14 : (vf 14) = .bool true ∧ (pf 14) = [] := hR 14 (by decide)
        exact Or.inr ⟨want_of (congrArg some e14.1) rfl, rfl, rfl⟩
       ·
        intro vf pf hR
        have e14 : (vf 14) = .bool true ∧ (pf 14) = [] := hR 14 (by decide)
        exact Or.inr ⟨want_of (congrArg some e14.1) rfl, rfl, rfl⟩
       ·
        intro vf pf hR
        have e14 : (vf 14) = .bool true ∧ (pf 14) = [] := hR 14 (by decide)
        exact Or.inr ⟨want_of (congrArg some e14.1) rfl, rfl, rfl⟩
       ·
        intro vf pf hR
        have e14 : (vf 14) = .bool true ∧ (pf 14) = [] := hR 14 (by decide)
        have e22 : (vf 22) = undef ∧ (pf 22) = [] := hR 22 (by decide)
        refine Or.inl ⟨rfl, ?_⟩
        refine rq_less (sx 59 (congrArg some e14.1) (sx 67 (congrArg some e22.1) (sub_nil _))) (List.sublist_append_right _ _) ?_
        exact rq_v (rv_ev rfl)
      ·
       intro vf pf hR
       have e23 : (vf 23) = .bool true ∧ (pf 23) = [] := hR 23 (by decide)
       refine hl_less (l' := [boxE b11 #[(n.ls.getD i lt0).iv, .int .i64 ((n.ls.getD i lt0).ma)] 69, boxE b1 #[.int .i64 n.ins, n.sv, n.lv, n.ov] 37]) (sx 0 rfl (sx 1 rfl (sx 2 rfl (sx 3 rfl (sx 6 rfl (sx 7 rfl (sx 18 rfl (sx 20 rfl (sx 21 rfl (sx 22 rfl (sx 23 rfl (sx 38 rfl (sx 39 rfl (sx 40 rfl (sx 41 rfl (sx 68 (congrArg some e23.1) (sub_nil _))))))))))))))))) (List.sublist_append_right _ _) ?_
       simp only [List.drop_succ_cons, List.drop_zero]
       refine hl_less (sx 0 rfl (sx 1 rfl (sx 2 rfl (sx 3 rfl (sx 6 rfl (sx 7 rfl (sx 18 rfl (sx 20 rfl (sx 21 rfl (sx 22 rfl (sx 23 rfl (sx 38 rfl (sx 39 rfl (sx 40 rfl (sx 41 rfl (sx 68 rfl (sub_nil _))))))))))))))))) (.refl _) ?_
       refine hl_nil ?_
       refine hq_then ?_
       refine hc_true rfl ?_
       refine hc_seq ?_
       refine hc_region ?_
       refine hl_v rfl rfl rfl (rv_ev rfl) ?_
       refine hl_less (sx 0 rfl (sx 1 rfl (sx 2 rfl (sx 3 rfl (sx 6 rfl (sx 7 rfl (sx 18 rfl (sx 20 rfl (sx 21 rfl (sx 22 rfl (sx 23 rfl (sx 38 rfl (sx 39 rfl (sx 40 rfl (sx 41 rfl (sx 68 rfl (sub_nil _))))))))))))))))) (.refl _) ?_
       refine hl_nil ?_
       refine hq_then ?_
       refine hc_ret ?_
       refine hq_block_ret ?_
       refine hq_then_ret ?_
       refine hq_then_ret ?_
       refine hq_block_ret ?_
       refine hq_then_ret ?_
       exact hq_ans rfl rfl (congrArg _ (pB_no (fun hp => by first | (exact lnN_pos hp.sz (by assumption)) | (exact absurd hp.ou (by rw [← hnc]; assumption)) | (have h9 := hp.sq k (by omega); exact absurd h9.1 (by assumption)) | (have h9 := hp.sq k (by omega); rw [← hnc] at h9; exact absurd h9.2 (by assumption)) | (have h9 := hp.sq k (by omega); rcases h9.1.kind with ⟨a, b, c⟩ | ⟨a, b, c⟩ <;> omega) | (have h9 := hp.lt i (by omega); have h8 := h9.1.1; omega) | (have h9 := hp.lt i (by omega); exact absurd h9.1.2 (by assumption)) | (have h9 := hp.lt i (by omega); exact absurd h9.2 (by assumption)))).symm)
     ·
      have hb12p : ¬ (4 < (((n.ls.getD i lt0).xs).length : Int)) := of_decide_eq_false hb12
      rcases Bool.eq_false_or_eq_true (pB (BelowP ((n.ls.getD i lt0).xs) (n.fst + (i : Int)))) with hb13 | hb13
      ·
       have hb13p := of_pB hb13
       rcases Bool.eq_false_or_eq_true (pB (TabP (((n.ls.getD i lt0).xs).length : Int) ((n.ls.getD i lt0).ma))) with hb14 | hb14
       ·
        have hb14p := of_pB hb14
        refine hc_draw (by kernel_rfl) 24 [0, 1, 2, 3, 4, 5, 6, 7, 8, 9, 10, 11, 12, 13, 14, 15, 16, 17, 18, 19, 20, 21, 22, 23] (List.take 24 _) (List.drop 24 _) [[], [0], [1], [2], [3], [4], [4, 5], [4], [4, 7], [4], [4, 8, 9], [4, 6, 10], [4, 11], [4, 12], [13], [14], [14, 15], [14, 16], [14], [14, 18], [14, 17, 19], [14, 20], [14, 21], [14, 22]] [45, 46, 47, 48, 49, 50, 51, 52, 53, 54, 55, 56, 57, 58, 59, 60, 61, 62, 63, 64, 65, 66, 67, 68] (fun i_ vs_ v_ p_ => match i_ with | 0 => v_ = .pointer (some ⟨b11, 0 + 0, none⟩) ∧ p_ = [] | 1 => v_ = (n.ls.getD i lt0).iv ∧ p_ = [] | 2 => v_ = .int .i64 (((n.ls.getD i lt0).xs).length : Int) ∧ p_ = [] | 3 => v_ = .bool false ∧ p_ = [] | 4 => v_ = .bool false ∧ p_ = [] | 5 => v_ = .pointer (some ⟨b11, 0 + 0, none⟩) ∧ p_ = [] | 6 => v_ = (n.ls.getD i lt0).iv ∧ p_ = [] | 7 => v_ = .agg #[.int .i64 n.ins, n.sv, n.lv, n.ov] ∧ p_ = [] | 8 => v_ = .int .i64 n.fst ∧ p_ = [] | 9 => v_ = .int .i64 (i : Int) ∧ p_ = [] | 10 => v_ = .int .i64 (n.fst + (i : Int)) ∧ p_ = [] | 11 => v_ = .bool true ∧ p_ = [] | 12 => v_ = .bool false ∧ p_ = [] | 13 => v_ = .bool false ∧ p_ = [] | 14 => v_ = .bool false ∧ p_ = [] | 15 => v_ = .pointer (some ⟨b11, 0 + 0, none⟩) ∧ p_ = [] | 16 => v_ = (n.ls.getD i lt0).iv ∧ p_ = [] | 17 => v_ = .int .i64 (((n.ls.getD i lt0).xs).length : Int) ∧ p_ = [] | 18 => v_ = .pointer (some ⟨b11, 0 + 1, none⟩) ∧ p_ = [] | 19 => v_ = .int .i64 ((n.ls.getD i lt0).ma) ∧ p_ = [] | 20 => v_ = .agg #[.int .i64 (((n.ls.getD i lt0).xs).length : Int), .int .i64 ((n.ls.getD i lt0).ma)] ∧ p_ = [] | 21 => v_ = .bool true ∧ p_ = [] | 22 => v_ = .bool false ∧ p_ = [] | 23 => v_ = .bool false ∧ p_ = [] | _ => True) (List.take_append_drop 24 _).symm (by kernel_rfl) (by kernel_rfl) rfl rfl ?_ ?_
        ·
         refine ⟨?_, ?_, ?_, ?_, ?_, ?_, ?_, ?_, ?_, ?_, ?_, ?_, ?_, ?_, ?_, ?_, ?_, ?_, ?_, ?_, ?_, ?_, ?_, ?_, trivial⟩
         ·
          intro vf pf hR
          refine Or.inl ⟨rfl, ?_⟩
          refine rq_less (sx 7 rfl (sub_nil _)) (List.sublist_append_right _ _) ?_
          exact rq_v (rv_field (k0 := 0) rfl (by kernel_rfl) rfl)
         ·
          intro vf pf hR
          have e0 : (vf 0) = .pointer (some ⟨b11, 0 + 0, none⟩) ∧ (pf 0) = [] := hR 0 (by decide)
          refine Or.inl ⟨rfl, ?_⟩
          refine rq_less (sx 45 (congrArg some e0.1) (sub_nil _)) (List.sublist_append_right _ _) ?_
          exact rq_v (rv_load rfl (by kernel_rfl) rfl (box_cell 0 rfl rfl))
         ·
          intro vf pf hR
          have e1 : (vf 1) = (n.ls.getD i lt0).iv ∧ (pf 1) = [] := hR 1 (by decide)
          refine Or.inl ⟨rfl, ?_⟩
          refine rq_less (sx 46 (congrArg some e1.1) (sub_nil _)) (List.sublist_append_right _ _) ?_
          exact rq_v (rv_len rfl Try.underlying24 rfl (rd_old ((hr).lt.at (d := lt0) (k := i) (by omega))))
         ·
          intro vf pf hR
          have e2 : (vf 2) = .int .i64 (((n.ls.getD i lt0).xs).length : Int) ∧ (pf 2) = [] := hR 2 (by decide)
          refine Or.inl ⟨rfl, ?_⟩
          refine rq_less (sx 47 (congrArg some e2.1) (sub_nil _)) (List.sublist_append_right _ _) ?_
          exact rq_mono (rq_v (rv_cmp rfl rfl rfl rfl)) (fun _ _ h => ⟨h.1.trans (congrArg Value.bool hb12), h.2⟩)
         ·
          intro vf pf hR
          have e3 : (vf 3) = .bool false ∧ (pf 3) = [] := hR 3 (by decide)
          refine Or.inl ⟨rfl, ?_⟩
          refine rq_less (sx 48 (congrArg some e3.1) (sub_nil _)) (List.sublist_append_right _ _) ?_
          exact rq_v (rv_ev rfl)
         ·
          intro vf pf hR
          have e4 : (vf 4) = .bool false ∧ (pf 4) = [] := hR 4 (by decide)
          refine Or.inl ⟨want_of (congrArg some e4.1) rfl, ?_⟩
          refine rq_less (sx 7 rfl (sub_nil _)) (List.sublist_append_right _ _) ?_
          exact rq_v (rv_field (k0 := 0) rfl (by kernel_rfl) rfl)
         ·
          intro vf pf hR
          have e4 : (vf 4) = .bool false ∧ (pf 4) = [] := hR 4 (by decide)
          have e5 : (vf 5) = .pointer (some ⟨b11, 0 + 0, none⟩) ∧ (pf 5) = [] := hR 5 (by decide)
          refine Or.inl ⟨want_of (congrArg some e4.1) rfl, ?_⟩
          refine rq_less (sx 50 (congrArg some e5.1) (sub_nil _)) (List.sublist_append_right _ _) ?_
          exact rq_v (rv_load rfl (by kernel_rfl) rfl (box_cell 0 rfl rfl))
         ·
          intro vf pf hR
          have e4 : (vf 4) = .bool false ∧ (pf 4) = [] := hR 4 (by decide)
          refine Or.inl ⟨want_of (congrArg some e4.1) rfl, ?_⟩
          refine rq_less (sx 1 rfl (sub_nil _)) (List.sublist_append_right _ _) ?_
          exact rq_v (rv_loadN (cs := [.int .i64 n.ins, n.sv, n.lv, n.ov]) rfl (by kernel_rfl) (by kernel_rfl) rfl rfl (box_part 1 rfl 0 rfl))
         ·
          intro vf pf hR
          have e4 : (vf 4) = .bool false ∧ (pf 4) = [] := hR 4 (by decide)
          have e7 : (vf 7) = .agg #[.int .i64 n.ins, n.sv, n.lv, n.ov] ∧ (pf 7) = [] := hR 7 (by decide)
          refine Or.inl ⟨want_of (congrArg some e4.1) rfl, ?_⟩
          refine rq_less (sx 52 (congrArg some e7.1) (sub_nil _)) (List.sublist_append_right _ _) ?_
          exact (rq_call (by kernel_rfl) rfl (fun w hm => ret_ans (firstLut_ans n w (hr.below hm.bel) hsz)))
         ·
          intro vf pf hR
          have e4 : (vf 4) = .bool false ∧ (pf 4) = [] := hR 4 (by decide)
          refine Or.inl ⟨want_of (congrArg some e4.1) rfl, ?_⟩
          refine rq_less (sx 6 rfl (sub_nil _)) (List.sublist_append_right _ _) ?_
          exact rq_v (rv_ev rfl)
         ·
          intro vf pf hR
          have e4 : (vf 4) = .bool false ∧ (pf 4) = [] := hR 4 (by decide)
          have e8 : (vf 8) = .int .i64 n.fst ∧ (pf 8) = [] := hR 8 (by decide)
          have e9 : (vf 9) = .int .i64 (i : Int) ∧ (pf 9) = [] := hR 9 (by decide)
          refine Or.inl ⟨want_of (congrArg some e4.1) rfl, ?_⟩
          refine rq_less (sx 53 (congrArg some e8.1) (sx 54 (congrArg some e9.1) (sub_nil _))) (List.sublist_append_right _ _) ?_
          exact rq_v (rv_add rfl rfl rfl (by constructor <;> omega))
         ·
          intro vf pf hR
          have e4 : (vf 4) = .bool false ∧ (pf 4) = [] := hR 4 (by decide)
          have e6 : (vf 6) = (n.ls.getD i lt0).iv ∧ (pf 6) = [] := hR 6 (by decide)
          have e10 : (vf 10) = .int .i64 (n.fst + (i : Int)) ∧ (pf 10) = [] := hR 10 (by decide)
          refine Or.inl ⟨want_of (congrArg some e4.1) rfl, ?_⟩
          refine rq_less (sx 51 (congrArg some e6.1) (sx 55 (congrArg some e10.1) (sub_nil _))) (List.sublist_append_right _ _) ?_
          exact rq_mono (rq_call (by kernel_rfl) rfl (fun w hm => ret_ans (nodesBelow_ans ((n.ls.getD i lt0).xs) (n.fst + (i : Int)) _ w ((rd_old ((hr).lt.at (d := lt0) (k := i) (by omega))) w hm) (by omega)))) (fun _ _ h => ⟨h.1.trans (congrArg Value.bool hb13), h.2⟩)
         ·
          intro vf pf hR
          have e4 : (vf 4) = .bool false ∧ (pf 4) = [] := hR 4 (by decide)
          have e11 : (vf 11) = .bool true ∧ (pf 11) = [] := hR 11 (by decide)
          refine Or.inl ⟨want_of (congrArg some e4.1) rfl, ?_⟩
          refine rq_less (sx 56 (congrArg some e11.1) (sub_nil _)) (List.sublist_append_right _ _) ?_
          exact rq_v (rv_ev rfl)
         ·
          intro vf pf hR
          have e4 : (vf 4) = .bool false ∧ (pf 4) = [] := hR 4 (by decide)
          have e12 : (vf 12) = .bool false ∧ (pf 12) = [] := hR 12 (by decide)
          refine Or.inl ⟨rfl, ?_⟩
          refine rq_less (sx 49 (congrArg some e4.1) (sx 57 (congrArg some e12.1) (sub_nil _))) (List.sublist_append_right _ _) ?_
          exact rq_v (rv_ev rfl)
         ·
          intro vf pf hR
          have e13 : (vf 13) = .bool false ∧ (pf 13) = [] := hR 13 (by decide)
          refine Or.inl ⟨rfl, ?_⟩
          refine rq_less (sx 58 (congrArg some e13.1) (sub_nil _)) (List.sublist_append_right _ _) ?_
          exact rq_v (rv_ev rfl)
         ·
          intro vf pf hR
          have e14 : (vf 14) = .bool false ∧ (pf 14) = [] := hR 14 (by decide)
          refine Or.inl ⟨want_of (congrArg some e14.1) rfl, ?_⟩
          refine rq_less (sx 7 rfl (sub_nil _)) (List.sublist_append_right _ _) ?_
          exact rq_v (rv_field (k0 := 0) rfl (by kernel_rfl) rfl)
         ·
          intro vf pf hR
          have e14 : (vf 14) = .bool false ∧ (pf 14) = [] := hR 14 (by decide)
          have e15 : (vf 15) = .pointer (some ⟨b11, 0 + 0, none⟩) ∧ (pf 15) = [] := hR 15 (by decide)
          refine Or.inl ⟨want_of (congrArg some e14.1) rfl, ?_⟩
          refine rq_less (sx 60 (congrArg some e15.1) (sub_nil _)) (List.sublist_append_right _ _) ?_
          exact rq_v (rv_load rfl (by kernel_rfl) rfl (box_cell 0 rfl rfl))
         ·
          intro vf pf hR
          have e14 : (vf 14) = .bool false ∧ (pf 14) = [] := hR 14 (by decide)
          have e16 : (vf 16) = (n.ls.getD i lt0).iv ∧ (pf 16) = [] := hR 16 (by decide)
          refine Or.inl ⟨want_of (congrArg some e14.1) rfl, ?_⟩
          refine rq_less (sx 61 (congrArg some e16.1) (sub_nil _)) (List.sublist_append_right _ _) ?_
          exact rq_v (rv_len rfl Try.underlying24 rfl (rd_old ((hr).lt.at (d := lt0) (k := i) (by omega))))
         ·
          intro vf pf hR
          have e14 : (vf 14) = .bool false ∧ (pf 14) = [] := hR 14 (by decide)
          refine Or.inl ⟨want_of (congrArg some e14.1) rfl, ?_⟩
          refine rq_less (sx 7 rfl (sub_nil _)) (List.sublist_append_right _ _) ?_
          exact rq_v (rv_field (k0 := 1) rfl (by kernel_rfl) rfl)
         ·
          intro vf pf hR
          have e14 : (vf 14) = .bool false ∧ (pf 14) = [] := hR 14 (by decide)
          have e18 : (vf 18) = .pointer (some ⟨b11, 0 + 1, none⟩) ∧ (pf 18) = [] := hR 18 (by decide)
          refine Or.inl ⟨want_of (congrArg some e14.1) rfl, ?_⟩
          refine rq_less (sx 63 (congrArg some e18.1) (sub_nil _)) (List.sublist_append_right _ _) ?_
          exact rq_v (rv_load rfl (by kernel_rfl) rfl (box_cell 0 rfl rfl))
         ·
          intro vf pf hR
          have e14 : (vf 14) = .bool false ∧ (pf 14) = [] := hR 14 (by decide)
          have e17 : (vf 17) = .int .i64 (((n.ls.getD i lt0).xs).length : Int) ∧ (pf 17) = [] := hR 17 (by decide)
          have e19 : (vf 19) = .int .i64 ((n.ls.getD i lt0).ma) ∧ (pf 19) = [] := hR 19 (by decide)
          refine Or.inl ⟨want_of (congrArg some e14.1) rfl, ?_⟩
          refine rq_less (sx 62 (congrArg some e17.1) (sx 64 (congrArg some e19.1) (sub_nil _))) (List.sublist_append_right _ _) ?_
          exact rq_v (rv_build (cs := #[.int .i64 (((n.ls.getD i lt0).xs).length : Int), .int .i64 ((n.ls.getD i lt0).ma)]) rfl rfl (by kernel_rfl))
         ·
          intro vf pf hR
          have e14 : (vf 14) = .bool false ∧ (pf 14) = [] := hR 14 (by decide)
          have e20 : (vf 20) = .agg #[.int .i64 (((n.ls.getD i lt0).xs).length : Int), .int .i64 ((n.ls.getD i lt0).ma)] ∧ (pf 20) = [] := hR 20 (by decide)
          refine Or.inl ⟨want_of (congrArg some e14.1) rfl, ?_⟩
          refine rq_less (sx 65 (congrArg some e20.1) (sub_nil _)) (List.sublist_append_right _ _) ?_
          exact rq_mono (rq_call (by kernel_rfl) rfl (fun w hm => ret_ans (implTabOk_ans (((n.ls.getD i lt0).xs).length : Int) ((n.ls.getD i lt0).ma) w))) (fun _ _ h => ⟨h.1.trans (congrArg Value.bool hb14), h.2⟩)
         ·
          intro vf pf hR
          have e14 : (vf 14) = .bool false ∧ (pf 14) = [] := hR 14 (by decide)
          have e21 : (vf 21) = .bool true ∧ (pf 21) = [] := hR 21 (by decide)
          refine Or.inl ⟨want_of (congrArg some e14.1) rfl, ?_⟩
          refine rq_less (sx 66 (congrArg some e21.1) (sub_nil _)) (List.sublist_append_right _ _) ?_
          exact rq_v (rv_ev rfl)
         ·
          intro vf pf hR
          have e14 : (vf 14) = .bool false ∧ (pf 14) = [] := hR 14 (by decide)
          have e22 : (vf 22) = .bool false ∧ (pf 22) = [] := hR 22 (by decide)
          refine Or.inl ⟨rfl, ?_⟩
          refine rq_less (sx 59 (congrArg some e14.1) (sx 67 (congrArg some e22.1) (sub_nil _))) (List.sublist_append_right _ _) ?_
          exact rq_v (rv_ev rfl)
        ·
         intro vf pf hR
         have e23 : (vf 23) = .bool false ∧ (pf 23) = [] := hR 23 (by decide)
         refine hl_less (l' := [boxE b11 #[(n.ls.getD i lt0).iv, .int .i64 ((n.ls.getD i lt0).ma)] 69, boxE b1 #[.int .i64 n.ins, n.sv, n.lv, n.ov] 37]) (sx 0 rfl (sx 1 rfl (sx 2 rfl (sx 3 rfl (sx 6 rfl (sx 7 rfl (sx 18 rfl (sx 20 rfl (sx 21 rfl (sx 22 rfl (sx 23 rfl (sx 38 rfl (sx 39 rfl (sx 40 rfl (sx 41 rfl (sx 68 (congrArg some e23.1) (sub_nil _))))))))))))))))) (List.sublist_append_right _ _) ?_
         simp only [List.drop_succ_cons, List.drop_zero]
         refine hl_less (sx 0 rfl (sx 1 rfl (sx 2 rfl (sx 3 rfl (sx 6 rfl (sx 7 rfl (sx 18 rfl (sx 20 rfl (sx 21 rfl (sx 22 rfl (sx 23 rfl (sx 38 rfl (sx 39 rfl (sx 40 rfl (sx 41 rfl (sx 68 rfl (sub_nil _))))))))))))))))) (.refl _) ?_
         refine hl_nil ?_
         refine hq_then ?_
         refine hc_false rfl ?_
         refine hc_skip ?_
         refine hq_block_normal ?_
         refine hq_then ?_
         refine hc_region ?_
         refine hl_v rfl rfl rfl (rv_add rfl rfl rfl (by constructor <;> omega)) ?_
         refine hl_v rfl rfl rfl (rv_ev rfl) ?_
         refine hl_less (sx 0 rfl (sx 1 rfl (sx 2 rfl (sx 3 rfl (sx 6 rfl (sx 7 rfl (sx 18 rfl (sx 20 rfl (sx 21 rfl (sx 22 rfl (sx 23 rfl (sx 38 rfl (sx 39 rfl (sx 40 rfl (sx 41 rfl (sx 68 rfl (sub_nil _))))))))))))))))) (.refl _) ?_
         refine hl_nil ?_
         exact hq_round1 (i + 1) ⟨by omega, fun j hj => by by_cases e : j = i; (subst e; exact ⟨⟨by first | omega | exact LutP_len (by assumption), by assumption⟩, by assumption⟩); exact hql j (by omega)⟩ (by omega) (sx 0 rfl (sx 1 rfl (sx 2 rfl (sx 3 rfl (sx 18 rfl (sx 20 rfl (sx 21 rfl (sx 22 rfl (sx 23 rfl (sx 38 rfl (sx 39 rfl (sx 40 rfl (sub_nil _))))))))))))) ((.cons _ (.cons_cons _ .slnil)))
       ·
        have hb14p := of_pBn hb14
        refine hc_draw (by kernel_rfl) 24 [0, 1, 2, 3, 4, 5, 6, 7, 8, 9, 10, 11, 12, 13, 14, 15, 16, 17, 18, 19, 20, 21, 22, 23] (List.take 24 _) (List.drop 24 _) [[], [0], [1], [2], [3], [4], [4, 5], [4], [4, 7], [4], [4, 8, 9], [4, 6, 10], [4, 11], [4, 12], [13], [14], [14, 15], [14, 16], [14], [14, 18], [14, 17, 19], [14, 20], [14, 21], [14, 22]] [45, 46, 47, 48, 49, 50, 51, 52, 53, 54, 55, 56, 57, 58, 59, 60, 61, 62, 63, 64, 65, 66, 67, 68] (fun i_ vs_ v_ p_ => match i_ with | 0 => v_ = .pointer (some ⟨b11, 0 + 0, none⟩) ∧ p_ = [] | 1 => v_ = (n.ls.getD i lt0).iv ∧ p_ = [] | 2 => v_ = .int .i64 (((n.ls.getD i lt0).xs).length : Int) ∧ p_ = [] | 3 => v_ = .bool false ∧ p_ = [] | 4 => v_ = .bool false ∧ p_ = [] | 5 => v_ = .pointer (some ⟨b11, 0 + 0, none⟩) ∧ p_ = [] | 6 => v_ = (n.ls.getD i lt0).iv ∧ p_ = [] | 7 => v_ = .agg #[.int .i64 n.ins, n.sv, n.lv, n.ov] ∧ p_ = [] | 8 => v_ = .int .i64 n.fst ∧ p_ = [] | 9 => v_ = .int .i64 (i : Int) ∧ p_ = [] | 10 => v_ = .int .i64 (n.fst + (i : Int)) ∧ p_ = [] | 11 => v_ = .bool true ∧ p_ = [] | 12 => v_ = .bool false ∧ p_ = [] | 13 => v_ = .bool false ∧ p_ = [] | 14 => v_ = .bool false ∧ p_ = [] | 15 => v_ = .pointer (some ⟨b11, 0 + 0, none⟩) ∧ p_ = [] | 16 => v_ = (n.ls.getD i lt0).iv ∧ p_ = [] | 17 => v_ = .int .i64 (((n.ls.getD i lt0).xs).length : Int) ∧ p_ = [] | 18 => v_ = .pointer (some ⟨b11, 0 + 1, none⟩) ∧ p_ = [] | 19 => v_ = .int .i64 ((n.ls.getD i lt0).ma) ∧ p_ = [] | 20 => v_ = .agg #[.int .i64 (((n.ls.getD i lt0).xs).length : Int), .int .i64 ((n.ls.getD i lt0).ma)] ∧ p_ = [] | 21 => v_ = .bool false ∧ p_ = [] | 22 => v_ = .bool true ∧ p_ = [] | 23 => v_ = .bool true ∧ p_ = [] | _ => True) (List.take_append_drop 24 _).symm (by kernel_rfl) (by kernel_rfl) rfl rfl ?_ ?_
        ·
         refine ⟨?_, ?_, ?_, ?_, ?_, ?_, ?_, ?_, ?_, ?_, ?_, ?_, ?_, ?_, ?_, ?_, ?_, ?_, ?_, ?_, ?_, ?_, ?_, ?_, trivial⟩
         ·
          intro vf pf hR
          refine Or.inl ⟨rfl, ?_⟩
          refine rq_less (sx 7 rfl (sub_nil _)) (List.sublist_append_right _ _) ?_
          exact rq_v (rv_field (k0 := 0) rfl (by kernel_rfl) rfl)
         ·
          intro vf pf hR
          have e0 : (vf 0) = .pointer (some ⟨b11, 0 + 0, none⟩) ∧ (pf 0) = [] := hR 0 (by decide)
          refine Or.inl ⟨rfl, ?_⟩
          refine rq_less (sx 45 (congrArg some e0.1) (sub_nil _)) (List.sublist_append_right _ _) ?_
          exact rq_v (rv_load rfl (by kernel_rfl) rfl (box_cell 0 rfl rfl))
         ·
          intro vf pf hR
          have e1 : (vf 1) = (n.ls.getD i lt0).iv ∧ (pf 1) = [] := hR 1 (by decide)
          refine Or.inl ⟨rfl, ?_⟩
          refine rq_less (sx 46 (congrArg some e1.1) (sub_nil _)) (List.sublist_append_right _ _) ?_
          exact rq_v (rv_len rfl Try.underlying24 rfl (rd_old ((hr).lt.at (d := lt0) (k := i) (by omega))))
         ·
          intro vf pf hR
          have e2 : (vf 2) = .int .i64 (((n.ls.getD i lt0).xs).length : Int) ∧ (pf 2) = [] := hR 2 (by decide)
          refine Or.inl ⟨rfl, ?_⟩
          refine rq_less (sx 47 (congrArg some e2.1) (sub_nil _)) (List.sublist_append_right _ _) ?_
          exact rq_mono (rq_v (rv_cmp rfl rfl rfl rfl)) (fun _ _ h => ⟨h.1.trans (congrArg Value.bool hb12), h.2⟩)
         ·
          intro vf pf hR
          have e3 : (vf 3) = .bool false ∧ (pf 3) = [] := hR 3 (by decide)
          refine Or.inl ⟨rfl, ?_⟩
          refine rq_less (sx 48 (congrArg some e3.1) (sub_nil _)) (List.sublist_append_right _ _) ?_
          exact rq_v (rv_ev rfl)
         ·
          intro vf pf hR
          have e4 : (vf 4) = .bool false ∧ (pf 4) = [] := hR 4 (by decide)
          refine Or.inl ⟨want_of (congrArg some e4.1) rfl, ?_⟩
          refine rq_less (sx 7 rfl (sub_nil _)) (List.sublist_append_right _ _) ?_
          exact rq_v (rv_field (k0 := 0) rfl (by kernel_rfl) rfl)
         ·
          intro vf pf hR
          have e4 : (vf 4) = .bool false ∧ (pf 4) = [] := hR 4 (by decide)
          have e5 : (vf 5) = .pointer (some ⟨b11, 0 + 0, none⟩) ∧ (pf 5) = [] := hR 5 (by decide)
          refine Or.inl ⟨want_of (congrArg some e4.1) rfl, ?_⟩
          refine rq_less (sx 50 (congrArg some e5.1) (sub_nil _)) (List.sublist_append_right _ _) ?_
          exact rq_v (rv_load rfl (by kernel_rfl) rfl (box_cell 0 rfl rfl))
         ·
          intro vf pf hR
          have e4 : (vf 4) = .bool false ∧ (pf 4) = [] := hR 4 (by decide)
          refine Or.inl ⟨want_of (congrArg some e4.1) rfl, ?_⟩
          refine rq_less (sx 1 rfl (sub_nil _)) (List.sublist_append_right _ _) ?_
          exact rq_v (rv_loadN (cs := [.int .i64 n.ins, n.sv, n.lv, n.ov]) rfl (by kernel_rfl) (by kernel_rfl) rfl rfl (box_part 1 rfl 0 rfl))
         ·
          intro vf pf hR
          have e4 : (vf 4) = .bool false ∧ (pf 4) = [] := hR 4 (by decide)
          have e7 : (vf 7) = .agg #[.int .i64 n.ins, n.sv, n.lv, n.ov] ∧ (pf 7) = [] := hR 7 (by decide)
          refine Or.inl ⟨want_of (congrArg some e4.1) rfl, ?_⟩
          refine rq_less (sx 52 (congrArg some e7.1) (sub_nil _)) (List.sublist_append_right _ _) ?_
          exact (rq_call (by kernel_rfl) rfl (fun w hm => ret_ans (firstLut_ans n w (hr.below hm.bel) hsz)))
         ·
          intro vf pf hR
          have e4 : (vf 4) = .bool false ∧ (pf 4) = [] := hR 4 (by decide)
          refine Or.inl ⟨want_of (congrArg some e4.1) rfl, ?_⟩
          refine rq_less (sx 6 rfl (sub_nil _)) (List.sublist_append_right _ _) ?_
          exact rq_v (rv_ev rfl)
         ·
          intro vf pf hR
          have e4 : (vf 4) = .bool false ∧ (pf 4) = [] := hR 4 (by decide)
          have e8 : (vf 8) = .int .i64 n.fst ∧ (pf 8) = [] := hR 8 (by decide)
          have e9 : (vf 9) = .int .i64 (i : Int) ∧ (pf 9) = [] := hR 9 (by decide)
          refine Or.inl ⟨want_of (congrArg some e4.1) rfl, ?_⟩
          refine rq_less (sx 53 (congrArg some e8.1) (sx 54 (congrArg some e9.1) (sub_nil _))) (List.sublist_append_right _ _) ?_
          exact rq_v (rv_add rfl rfl rfl (by constructor <;> omega))
         ·
          intro vf pf hR
          have e4 : (vf 4) = .bool false ∧ (pf 4) = [] := hR 4 (by decide)
          have e6 : (vf 6) = (n.ls.getD i lt0).iv ∧ (pf 6) = [] := hR 6 (by decide)
          have e10 : (vf 10) = .int .i64 (n.fst + (i : Int)) ∧ (pf 10) = [] := hR 10 (by decide)
          refine Or.inl ⟨want_of (congrArg some e4.1) rfl, ?_⟩
          refine rq_less (sx 51 (congrArg some e6.1) (sx 55 (congrArg some e10.1) (sub_nil _))) (List.sublist_append_right _ _) ?_
          exact rq_mono (rq_call (by kernel_rfl) rfl (fun w hm => ret_ans (nodesBelow_ans ((n.ls.getD i lt0).xs) (n.fst + (i : Int)) _ w ((rd_old ((hr).lt.at (d := lt0) (k := i) (by omega))) w hm) (by omega)))) (fun _ _ h => ⟨h.1.trans (congrArg Value.bool hb13), h.2⟩)
         ·
          intro vf pf hR
          have e4 : (vf 4) = .bool false ∧ (pf 4) = [] := hR 4 (by decide)
          have e11 : (vf 11) = .bool true ∧ (pf 11) = [] := hR 11 (by decide)
          refine Or.inl ⟨want_of (congrArg some e4.1) rfl, ?_⟩
          refine rq_less (sx 56 (congrArg some e11.1) (sub_nil _)) (List.sublist_append_right _ _) ?_
          exact rq_v (rv_ev rfl)
         ·
          intro vf pf hR
          have e4 : (vf 4) = .bool false ∧ (pf 4) = [] := hR 4 (by decide)
          have e12 : (vf 12) = .bool false ∧ (pf 12) = [] := hR 12 (by decide)
          refine Or.inl ⟨rfl, ?_⟩
          refine rq_less (sx 49 (congrArg some e4.1) (sx 57 (congrArg some e12.1) (sub_nil _))) (List.sublist_append_right _ _) ?_
          exact rq_v (rv_ev rfl)
         ·
          intro vf pf hR
          have e13 : (vf 13) = .bool false ∧ (pf 13) = [] := hR 13 (by decide)
          refine Or.inl ⟨rfl, ?_⟩
          refine rq_less (sx 58 (congrArg some e13.1) (sub_nil _)) (List.sublist_append_right _ _) ?_
          exact rq_v (rv_ev rfl)
         ·
          intro vf pf hR
          have e14 : (vf 14) = .bool false ∧ (pf 14) = [] := hR 14 (by decide)
          refine Or.inl ⟨want_of (congrArg some e14.1) rfl, ?_⟩
          refine rq_less (sx 7 rfl (sub_nil _)) (List.sublist_append_right _ _) ?_
          exact rq_v (rv_field (k0 := 0) rfl (by kernel_rfl) rfl)
         ·
          intro vf pf hR
          have e14 : (vf 14) = .bool false ∧ (pf 14) = [] := hR 14 (by decide)
          have e15 : (vf 15) = .pointer (some ⟨b11, 0 + 0, none⟩) ∧ (pf 15) = [] := hR 15 (by decide)
          refine Or.inl ⟨want_of (congrArg some e14.1) rfl, ?_⟩
          refine rq_less (sx 60 (congrArg some e15.1) (sub_nil _)) (List.sublist_append_right _ _) ?_
          exact rq_v (rv_load rfl (by kernel_rfl) rfl (box_cell 0 rfl rfl))
         ·
          intro vf pf hR
          have e14 : (vf 14) = .bool false ∧ (pf 14) = [] := hR 14 (by decide)
          have e16 : (vf 16) = (n.ls.getD i lt0).iv ∧ (pf 16) = [] := hR 16 (by decide)
          refine Or.inl ⟨want_of (congrArg some e14.1) rfl, ?_⟩
          refine rq_less (sx 61 (congrArg some e16.1) (sub_nil _)) (List.sublist_append_right _ _) ?_
          exact rq_v (rv_len rfl Try.underlying24 rfl (rd_old ((hr).lt.at (d := lt0) (k := i) (by omega))))
         ·
          intro vf pf hR
          have e14 : (vf 14) = .bool false ∧ (pf 14) = [] := hR 14 (by decide)
          refine Or.inl ⟨want_of (congrArg some e14.1) rfl, ?_⟩
          refine rq_less (sx 7 rfl (sub_nil _)) (List.sublist_append_right _ _) ?_
          exact rq_v (rv_field (k0 := 1) rfl (by kernel_rfl) rfl)
         ·
          intro vf pf hR
          have e14 : (vf 14) = .bool false ∧ (pf 14) = [] := hR 14 (by decide)
          have e18 : (vf 18) = .pointer (some ⟨b11, 0 + 1, none⟩) ∧ (pf 18) = [] := hR 18 (by decide)
          refine Or.inl ⟨want_of (congrArg some e14.1) rfl, ?_⟩
          refine rq_less (sx 63 (congrArg some e18.1) (sub_nil _)) (List.sublist_append_right _ _) ?_
          exact rq_v (rv_load rfl (by kernel_rfl) rfl (box_cell 0 rfl rfl))
         ·
          intro vf pf hR
          have e14 : (vf 14) = .bool false ∧ (pf 14) = [] := hR 14 (by decide)
          have e17 : (vf 17) = .int .i64 (((n.ls.getD i lt0).xs).length : Int) ∧ (pf 17) = [] := hR 17 (by decide)
          have e19 : (vf 19) = .int .i64 ((n.ls.getD i lt0).ma) ∧ (pf 19) = [] := hR 19 (by decide)
          refine Or.inl ⟨want_of (congrArg some e14.1) rfl, ?_⟩
          refine rq_less (sx 62 (congrArg some e17.1) (sx 64 (congrArg some e19.1) (sub_nil _))) (List.sublist_append_right _ _) ?_
          exact rq_v (rv_build (cs := #[.int .i64 (((n.ls.getD i lt0).xs).length : Int), .int .i64 ((n.ls.getD i lt0).ma)]) rfl rfl (by kernel_rfl))
         ·
          intro vf pf hR
          have e14 : (vf 14) = .bool false ∧ (pf 14) = [] := hR 14 (by decide)
          have e20 : (vf 20) = .agg #[.int .i64 (((n.ls.getD i lt0).xs).length : Int), .int .i64 ((n.ls.getD i lt0).ma)] ∧ (pf 20) = [] := hR 20 (by decide)
          refine Or.inl ⟨want_of (congrArg some e14.1) rfl, ?_⟩
          refine rq_less (sx 65 (congrArg some e20.1) (sub_nil _)) (List.sublist_append_right _ _) ?_
          exact rq_mono (rq_call (by kernel_rfl) rfl (fun w hm => ret_ans (implTabOk_ans (((n.ls.getD i lt0).xs).length : Int) ((n.ls.getD i lt0).ma) w))) (fun _ _ h => ⟨h.1.trans (congrArg Value.bool hb14), h.2⟩)
         ·
          intro vf pf hR
          have e14 : (vf 14) = .bool false ∧ (pf 14) = [] := hR 14 (by decide)
          have e21 : (vf 21) = .bool false ∧ (pf 21) = [] := hR 21 (by decide)
          refine Or.inl ⟨want_of (congrArg some e14.1) rfl, ?_⟩
          refine rq_less (sx 66 (congrArg some e21.1) (sub_nil _)) (List.sublist_append_right _ _) ?_
          exact rq_v (rv_ev rfl)
         ·
          intro vf pf hR
          have e14 : (vf 14) = .bool false ∧ (pf 14) = [] := hR 14 (by decide)
          have e22 : (vf 22) = .bool true ∧ (pf 22) = [] := hR 22 (by decide)
          refine Or.inl ⟨rfl, ?_⟩
          refine rq_less (sx 59 (congrArg some e14.1) (sx 67 (congrArg some e22.1) (sub_nil _))) (List.sublist_append_right _ _) ?_
          exact rq_v (rv_ev rfl)
        ·
         intro vf pf hR
         have e23 : (vf 23) = .bool true ∧ (pf 23) = [] := hR 23 (by decide)
         refine hl_less (l' := [boxE b11 #[(n.ls.getD i lt0).iv, .int .i64 ((n.ls.getD i lt0).ma)] 69, boxE b1 #[.int .i64 n.ins, n.sv, n.lv, n.ov] 37]) (sx 0 rfl (sx 1 rfl (sx 2 rfl (sx 3 rfl (sx 6 rfl (sx 7 rfl (sx 18 rfl (sx 20 rfl (sx 21 rfl (sx 22 rfl (sx 23 rfl (sx 38 rfl (sx 39 rfl (sx 40 rfl (sx 41 rfl (sx 68 (congrArg some e23.1) (sub_nil _))))))))))))))))) (List.sublist_append_right _ _) ?_
         simp only [List.drop_succ_cons, List.drop_zero]
         refine hl_less (sx 0 rfl (sx 1 rfl (sx 2 rfl (sx 3 rfl (sx 6 rfl (sx 7 rfl (sx 18 rfl (sx 20 rfl (sx 21 rfl (sx 22 rfl (sx 23 rfl (sx 38 rfl (sx 39 rfl (sx 40 rfl (sx 41 rfl (sx 68 rfl (sub_nil _))))))))))))))))) (.refl _) ?_
         refine hl_nil ?_
         refine hq_then ?_
         refine hc_true rfl ?_
         refine hc_seq ?_
         refine hc_region ?_
         refine hl_v rfl rfl rfl (rv_ev rfl) ?_
         refine hl_less (sx 0 rfl (sx 1 rfl (sx 2 rfl (sx 3 rfl (sx 6 rfl (sx 7 rfl (sx 18 rfl (sx 20 rfl (sx 21 rfl (sx 22 rfl (sx 23 rfl (sx 38 rfl (sx 39 rfl (sx 40 rfl (sx 41 rfl (sx 68 rfl (sub_nil _))))))))))))))))) (.refl _) ?_
         refine hl_nil ?_
         refine hq_then ?_
         refine hc_ret ?_
         refine hq_block_ret ?_
         refine hq_then_ret ?_
         refine hq_then_ret ?_
         refine hq_block_ret ?_
         refine hq_then_ret ?_
         exact hq_ans rfl rfl (congrArg _ (pB_no (fun hp => by first | (exact lnN_pos hp.sz (by assumption)) | (exact absurd hp.ou (by rw [← hnc]; assumption)) | (have h9 := hp.sq k (by omega); exact absurd h9.1 (by assumption)) | (have h9 := hp.sq k (by omega); rw [← hnc] at h9; exact absurd h9.2 (by assumption)) | (have h9 := hp.sq k (by omega); rcases h9.1.kind with ⟨a, b, c⟩ | ⟨a, b, c⟩ <;> omega) | (have h9 := hp.lt i (by omega); have h8 := h9.1.1; omega) | (have h9 := hp.lt i (by omega); exact absurd h9.1.2 (by assumption)) | (have h9 := hp.lt i (by omega); exact absurd h9.2 (by assumption)))).symm)
      ·
       have hb13p := of_pBn hb13
       refine hc_draw (by kernel_rfl) 24 [0, 1, 2, 3, 4, 5, 6, 7, 8, 9, 10, 11, 12, 13, 14, 15, 16, 17, 18, 19, 20, 21, 22, 23] (List.take 24 _) (List.drop 24 _) [[], [0], [1], [2], [3], [4], [4, 5], [4], [4, 7], [4], [4, 8, 9], [4, 6, 10], [4, 11], [4, 12], [13], [14], [14], [14], [14], [14], [14], [14], [14], [14, 22]] [45, 46, 47, 48, 49, 50, 51, 52, 53, 54, 55, 56, 57, 58, 59, 60, 61, 62, 63, 64, 65, 66, 67, 68] (fun i_ vs_ v_ p_ => match i_ with | 0 => v_ = .pointer (some ⟨b11, 0 + 0, none⟩) ∧ p_ = [] | 1 => v_ = (n.ls.getD i lt0).iv ∧ p_ = [] | 2 => v_ = .int .i64 (((n.ls.getD i lt0).xs).length : Int) ∧ p_ = [] | 3 => v_ = .bool false ∧ p_ = [] | 4 => v_ = .bool false ∧ p_ = [] | 5 => v_ = .pointer (some ⟨b11, 0 + 0, none⟩) ∧ p_ = [] | 6 => v_ = (n.ls.getD i lt0).iv ∧ p_ = [] | 7 => v_ = .agg #[.int .i64 n.ins, n.sv, n.lv, n.ov] ∧ p_ = [] | 8 => v_ = .int .i64 n.fst ∧ p_ = [] | 9 => v_ = .int .i64 (i : Int) ∧ p_ = [] | 10 => v_ = .int .i64 (n.fst + (i : Int)) ∧ p_ = [] | 11 => v_ = .bool false ∧ p_ = [] | 12 => v_ = .bool true ∧ p_ = [] | 13 => v_ = .bool true ∧ p_ = [] | 14 => v_ = .bool true ∧ p_ = [] | 15 => v_ = undef ∧ p_ = [] | 16 => v_ = undef ∧ p_ = [] | 17 => v_ = undef ∧ p_ = [] | 18 => v_ = undef ∧ p_ = [] | 19 => v_ = undef ∧ p_ = [] | 20 => v_ = undef ∧ p_ = [] | 21 => v_ = undef ∧ p_ = [] | 22 => v_ = undef ∧ p_ = [] | 23 => v_ = .bool true ∧ p_ = [] | _ => True) (List.take_append_drop 24 _).symm (by kernel_rfl) (by kernel_rfl) rfl rfl ?_ ?_
       ·
        refine ⟨?_, ?_, ?_, ?_, ?_, ?_, ?_, ?_, ?_, ?_, ?_, ?_, ?_, ?_, ?_, ?_, ?_, ?_, ?_, ?_, ?_, ?_, ?_, ?_, trivial⟩
        ·
         intro vf pf hR
         refine Or.inl ⟨rfl, ?_⟩
         refine rq_less (sx 7 rfl (sub_nil _)) (List.sublist_append_right _ _) ?_
         exact rq_v (rv_field (k0 := 0) rfl (by kernel_rfl) rfl)
        ·
         intro vf pf hR
         have e0 : (vf 0) = .pointer (some ⟨b11, 0 + 0, none⟩) ∧ (pf 0) = [] := hR 0 (by decide)
         refine Or.inl ⟨rfl, ?_⟩
         refine rq_less (sx 45 (congrArg some e0.1) (sub_nil _)) (List.sublist_append_right _ _) ?_
         exact rq_v (rv_load rfl (by kernel_rfl) rfl (box_cell 0 rfl rfl))
        ·
         intro vf pf hR
         have e1 : (vf 1) = (n.ls.getD i lt0).iv ∧ (pf 1) = [] := hR 1 (by decide)
         refine Or.inl ⟨rfl, ?_⟩
         refine rq_less (sx 46 (congrArg some e1.1) (sub_nil _)) (List.sublist_append_right _ _) ?_
         exact rq_v (rv_len rfl Try.underlying24 rfl (rd_old ((hr).lt.at (d := lt0) (k := i) (by omega))))
        ·
         intro vf pf hR
         have e2 : (vf 2) = .int .i64 (((n.ls.getD i lt0).xs).length : Int) ∧ (pf 2) = [] := hR 2 (by decide)
         refine Or.inl ⟨rfl, ?_⟩
         refine rq_less (sx 47 (congrArg some e2.1) (sub_nil _)) (List.sublist_append_right _ _) ?_
         exact rq_mono (rq_v (rv_cmp rfl rfl rfl rfl)) (fun _ _ h => ⟨h.1.trans (congrArg Value.bool hb12), h.2⟩)
        ·
         intro vf pf hR
         have e3 : (vf 3) = .bool false ∧ (pf 3) = [] := hR 3 (by decide)
         refine Or.inl ⟨rfl, ?_⟩
         refine rq_less (sx 48 (congrArg some e3.1) (sub_nil _)) (List.sublist_append_right _ _) ?_
         exact rq_v (rv_ev rfl)
        ·
         intro vf pf hR
         have e4 : (vf 4) = .bool false ∧ (pf 4) = [] := hR 4 (by decide)
         refine Or.inl ⟨want_of (congrArg some e4.1) rfl, ?_⟩
         refine rq_less (sx 7 rfl (sub_nil _)) (List.sublist_append_right _ _) ?_
         exact rq_v (rv_field (k0 := 0) rfl (by kernel_rfl) rfl)
        ·
         intro vf pf hR
         have e4 : (vf 4) = .bool false ∧ (pf 4) = [] := hR 4 (by decide)
         have e5 : (vf 5) = .pointer (some ⟨b11, 0 + 0, none⟩) ∧ (pf 5) = [] := hR 5 (by decide)
         refine Or.inl ⟨want_of (congrArg some e4.1) rfl, ?_⟩
         refine rq_less (sx 50 (congrArg some e5.1) (sub_nil _)) (List.sublist_append_right _ _) ?_
         exact rq_v (rv_load rfl (by kernel_rfl) rfl (box_cell 0 rfl rfl))
        ·
         intro vf pf hR
         have e4 : (vf 4) = .bool false ∧ (pf 4) = [] := hR 4 (by decide)
         refine Or.inl ⟨want_of (congrArg some e4.1) rfl, ?_⟩
         refine rq_less (sx 1 rfl (sub_nil _)) (List.sublist_append_right _ _) ?_
         exact rq_v (rv_loadN (cs := [.int .i64 n.ins, n.sv, n.lv, n.ov]) rfl (by kernel_rfl) (by kernel_rfl) rfl rfl (box_part 1 rfl 0 rfl))
        ·
         intro vf pf hR
         have e4 : (vf 4) = .bool false ∧ (pf 4) = [] := hR 4 (by decide)
         have e7 : (vf 7) = .agg #[.int .i64 n.ins, n.sv, n.lv, n.ov] ∧ (pf 7) = [] := hR 7 (by decide)
         refine Or.inl ⟨want_of (congrArg some e4.1) rfl, ?_⟩
         refine rq_less (sx 52 (congrArg some e7.1) (sub_nil _)) (List.sublist_append_right _ _) ?_
         exact (rq_call (by kernel_rfl) rfl (fun w hm => ret_ans (firstLut_ans n w (hr.below hm.bel) hsz)))
        ·
         intro vf pf hR
         have e4 : (vf 4) = .bool false ∧ (pf 4) = [] := hR 4 (by decide)
         refine Or.inl ⟨want_of (congrArg some e4.1) rfl, ?_⟩
         refine rq_less (sx 6 rfl (sub_nil _)) (List.sublist_append_right _ _) ?_
         exact rq_v (rv_ev rfl)
        ·
         intro vf pf hR
         have e4 : (vf 4) = .bool false ∧ (pf 4) = [] := hR 4 (by decide)
         have e8 : (vf 8) = .int .i64 n.fst ∧ (pf 8) = [] := hR 8 (by decide)
         have e9 : (vf 9) = .int .i64 (i : Int) ∧ (pf 9) = [] := hR 9 (by decide)
         refine Or.inl ⟨want_of (congrArg some e4.1) rfl, ?_⟩
         refine rq_less (sx 53 (congrArg some e8.1) (sx 54 (congrArg some e9.1) (sub_nil _))) (List.sublist_append_right _ _) ?_
         exact rq_v (rv_add rfl rfl rfl (by constructor <;> omega))
        ·
         intro vf pf hR
         have e4 : (vf 4) = .bool false ∧ (pf 4) = [] := hR 4 (by decide)
         have e6 : (vf 6) = (n.ls.getD i lt0).iv ∧ (pf 6) = [] := hR 6 (by decide)
         have e10 : (vf 10) = .int .i64 (n.fst + (i : Int)) ∧ (pf 10) = [] := hR 10 (by decide)
         refine Or.inl ⟨want_of (congrArg some e4.1) rfl, ?_⟩
         refine rq_less (sx 51 (congrArg some e6.1) (sx 55 (congrArg some e10.1) (sub_nil _))) (List.sublist_append_right _ _) ?_
         exact rq_mono (rq_call (by kernel_rfl) rfl (fun w hm => ret_ans (nodesBelow_ans ((n.ls.getD i lt0).xs) (n.fst + (i : Int)) _ w ((rd_old ((hr).lt.at (d := lt0) (k := i) (by omega))) w hm) (by omega)))) (fun _ _ h => ⟨h.1.trans (congrArg Value.bool hb13), h.2⟩)
        ·
         intro vf pf hR
         have e4 : (vf 4) = .bool false ∧ (pf 4) = [] := hR 4 (by decide)
         have e11 : (vf 11) = .bool false ∧ (pf 11) = [] := hR 11 (by decide)
         refine Or.inl ⟨want_of (congrArg some e4.1) rfl, ?_⟩
         refine rq_less (sx 56 (congrArg some e11.1) (sub_nil _)) (List.sublist_append_right _ _) ?_
         exact rq_v (rv_ev rfl)
        ·
         intro vf pf hR
         have e4 : (vf 4) = .bool false ∧ (pf 4) = [] := hR 4 (by decide)
         have e12 : (vf 12) = .bool true ∧ (pf 12) = [] := hR 12 (by decide)
         refine Or.inl ⟨rfl, ?_⟩
         refine rq_less (sx 49 (congrArg some e4.1) (sx 57 (congrArg some e12.1) (sub_nil _))) (List.sublist_append_right _ _) ?_
         exact rq_v (rv_ev rfl)
        ·
         intro vf pf hR
         have e13 : (vf 13) = .bool true ∧ (pf 13) = [] := hR 13 (by decide)
         refine Or.inl ⟨rfl, ?_⟩
         refine rq_less (sx 58 (congrArg some e13.1) (sub_nil _)) (List.sublist_append_right _ _) ?_
         exact rq_v (rv_ev rfl)
        ·
         intro vf pf hR
         have e14 : (vf 14) = .bool true ∧ (pf 14) = [] := hR 14 (by decide)
         exact Or.inr ⟨want_of (congrArg some e14.1) rfl, rfl, rfl⟩
        ·
         intro vf pf hR
         have e14 : (vf 14) = .bool true ∧ (pf 14) = [] := hR 14 (by decide)
         exact Or.inr ⟨want_of (congrArg some e14.1) rfl, rfl, rfl⟩
        ·
         intro vf pf hR
         have e14 : (vf 14) = .bool true ∧ (pf 14) = [] := hR 14 (by decide)
         exact Or.inr ⟨want_of (congrArg some e14.1) rfl, rfl, rfl⟩
        ·
         intro vf pf hR
         have e14 : (vf 14) = .bool true ∧ (pf 14) = [] := hR 14 (by decide)
         exact Or.inr ⟨want_of (congrArg some e14.1) rfl, rfl, rfl⟩
        ·
         intro vf pf hR
         have e14 : (vf 14) = .bool true ∧ (pf 14) = [] := hR 14 (by decide)
         exact Or.inr ⟨want_of (congrArg some e14.1) rfl, rfl, rfl⟩
        ·
         intro vf pf hR
         have e14 : (vf 14) = .bool true ∧ (pf 14) = [] := hR 14 (by decide)
         exact Or.inr ⟨want_of (congrArg some e14.1) rfl, rfl, rfl⟩
        ·
         intro vf pf hR
         have e14 : (vf 14) = .bool true ∧ (pf 14) = [] := hR 14 (by decide)
         exact Or.inr ⟨want_of (congrArg some e14.1) rfl, rfl, rfl⟩
        ·
         intro vf pf hR
         have e14 : (vf 14) = .bool true ∧ (pf 14) = [] := hR 14 (by decide)
         exact Or.inr ⟨want_of (congrArg some e14.1) rfl, rfl, rfl⟩
        ·
         intro vf pf hR
         have e14 : (vf 14) = .bool true ∧ (pf 14) = [] := hR 14 (by decide)
         have e22 : (vf 22) = undef ∧ (pf 22) = [] := hR 22 (by decide)
         refine Or.inl ⟨rfl, ?_⟩
         refine rq_less (sx 59 (congrArg some e14.1) (sx 67 (congrArg some e22.1) (sub_nil _))) (List.sublist_append_right _ _) ?_
         exact rq_v (rv_ev rfl)
       ·
        intro vf pf hR
        have e23 : (vf 23) = .bool true ∧ (pf 23) = [] := hR 23 (by decide)
        refine hl_less (l' := [boxE b11 #[(n.ls.getD i lt0).iv, .int .i64 ((n.ls.getD i lt0).ma)] 69, boxE b1 #[.int .i64 n.ins, n.sv, n.lv, n.ov] 37]) (sx 0 rfl (sx 1 rfl (sx 2 rfl (sx 3 rfl (sx 6 rfl (sx 7 rfl (sx 18 rfl (sx 20 rfl (sx 21 rfl (sx 22 rfl (sx 23 rfl (sx 38 rfl (sx 39 rfl (sx 40 rfl (sx 41 rfl (sx 68 (congrArg some e23.1) (sub_nil _))))))))))))))))) (List.sublist_append_right _ _) ?_
        simp only [List.drop_succ_cons, List.drop_zero]
        refine hl_less (sx 0 rfl (sx 1 rfl (sx 2 rfl (sx 3 rfl (sx 6 rfl (sx 7 rfl (sx 18 rfl (sx 20 rfl (sx 21 rfl (sx 22 rfl (sx 23 rfl (sx 38 rfl (sx 39 rfl (sx 40 rfl (sx 41 rfl (sx 68 rfl (sub_nil _))))))))))))))))) (.refl _) ?_
        refine hl_nil ?_
        refine hq_then ?_
        refine hc_true rfl ?_
        refine hc_seq ?_
        refine hc_region ?_
        refine hl_v rfl rfl rfl (rv_ev rfl) ?_
        refine hl_less (sx 0 rfl (sx 1 rfl (sx 2 rfl (sx 3 rfl (sx 6 rfl (sx 7 rfl (sx 18 rfl (sx 20 rfl (sx 21 rfl (sx 22 rfl (sx 23 rfl (sx 38 rfl (sx 39 rfl (sx 40 rfl (sx 41 rfl (sx 68 rfl (sub_nil _))))))))))))))))) (.refl _) ?_
        refine hl_nil ?_
        refine hq_then ?_
        refine hc_ret ?_
        refine hq_block_ret ?_
        refine hq_then_ret ?_
        refine hq_then_ret ?_
        refine hq_block_ret ?_
        refine hq_then_ret ?_
        exact hq_ans rfl rfl (congrArg _ (pB_no (fun hp => by first | (exact lnN_pos hp.sz (by assumption)) | (exact absurd hp.ou (by rw [← hnc]; assumption)) | (have h9 := hp.sq k (by omega); exact absurd h9.1 (by assumption)) | (have h9 := hp.sq k (by omega); rw [← hnc] at h9; exact absurd h9.2 (by assumption)) | (have h9 := hp.sq k (by omega); rcases h9.1.kind with ⟨a, b, c⟩ | ⟨a, b, c⟩ <;> omega) | (have h9 := hp.lt i (by omega); have h8 := h9.1.1; omega) | (have h9 := hp.lt i (by omega); exact absurd h9.1.2 (by assumption)) | (have h9 := hp.lt i (by omega); exact absurd h9.2 (by assumption)))).symm)
    ·
     refine hl_less (sx 0 rfl (sx 1 rfl (sx 2 rfl (sx 3 rfl (sx 18 rfl (sx 20 rfl (sx 21 rfl (sx 22 rfl (sx 23 rfl (sx 38 rfl (sx 39 rfl (sx 40 rfl (sx 41 rfl (sub_nil _)))))))))))))) (.refl _) ?_
     refine hl_nil ?_
     refine hq_then ?_
     refine hc_seq ?_
     refine hc_false rfl ?_
     refine hc_exit ?_
     refine hq_then_exit ?_
     refine hq_then_exit ?_
     refine hq_block_exit ?_
     refine hq_then ?_
     refine hc_seq ?_
     refine hc_region ?_
     refine hl_v rfl rfl rfl (rv_ev rfl) ?_
     refine hl_less (sx 0 rfl (sx 1 rfl (sx 2 rfl (sx 3 rfl (sx 18 rfl (sx 20 rfl (sx 21 rfl (sx 22 rfl (sx 23 rfl (sx 38 rfl (sx 39 rfl (sx 40 rfl (sx 41 rfl (sub_nil _)))))))))))))) (.refl _) ?_
     refine hl_nil ?_
     refine hq_then ?_
     refine hc_ret ?_
     exact hq_ans rfl rfl (congrArg _ (pB_yes ⟨hsz, by rw [← hnc]; assumption, fun q hq => hqs q (by omega), fun q hq => hql q (by omega)⟩).symm)
  ·
   have h3p := of_pBn h3
   refine hl_v rfl rfl rfl (rv_ev rfl) ?_
   refine hl_v rfl rfl rfl (rv_ev rfl) ?_
   refine hl_less (sx 0 rfl (sx 1 rfl (sx 2 rfl (sx 3 rfl (sx 18 rfl (sub_nil _)))))) (.refl _) ?_
   refine hl_nil ?_
   refine hq_then ?_
   refine hc_true rfl ?_
   refine hc_seq ?_
   refine hc_region ?_
   refine hl_v rfl rfl rfl (rv_ev rfl) ?_
   refine hl_less (sx 0 rfl (sx 1 rfl (sx 2 rfl (sx 3 rfl (sx 18 rfl (sub_nil _)))))) (.refl _) ?_
   refine hl_nil ?_
   refine hq_then ?_
   refine hc_ret ?_
   refine hq_then_ret ?_
   exact hq_ans rfl rfl (congrArg _ (pB_no (fun hp => by first | (exact lnN_pos hp.sz (by assumption)) | (exact absurd hp.ou (by rw [← hnc]; assumption)) | (have h9 := hp.sq k (by omega); exact absurd h9.1 (by assumption)) | (have h9 := hp.sq k (by omega); rw [← hnc] at h9; exact absurd h9.2 (by assumption)) | (have h9 := hp.sq k (by omega); rcases h9.1.kind with ⟨a, b, c⟩ | ⟨a, b, c⟩ <;> omega) | (have h9 := hp.lt i (by omega); have h8 := h9.1.1; omega) | (have h9 := hp.lt i (by omega); exact absurd h9.1.2 (by assumption)) | (have h9 := hp.lt i (by omega); exact absurd h9.2 (by assumption)))).symm)
set_option maxHeartbeats 4000000 in
set_option maxRecDepth 100000 in
theorem specLutNetOk_ans (n : Ln) (w : World) (hr : RdsLn w n) :
  Calls Try.prog 73 #[.agg #[.int .i64 n.ins, n.sv, n.lv, n.ov]] w (Ans w (.bool (pB (LnOk n)))) := by
 have hso := sml hr.ou
 have hss := hr.sq.small
 have hsl := hr.lt.small
 have hcnt : n.cnt = 1 + n.ins + n.ss.length + n.ls.length := rfl
 have hfst : n.fst = 1 + n.ins + n.ss.length := rfl
 refine calls_hc (N := 99) (args := [.agg #[.int .i64 n.ins, n.sv, n.lv, n.ov]]) Try.func73 rfl rfl ?_
 refine hc_less _ (sx 0 rfl (sub_nil _)) (.refl _) ?_
 refine hc_seq ?_
 refine hc_region ?_
 refine hl_box rfl rfl rfl (rq_box rfl rfl) ?_
 intro b1
 refine hl_v rfl rfl rfl (rv_ev rfl) ?_
 refine hl_less (sx 0 rfl (sx 1 rfl (sx 2 rfl (sub_nil _)))) (.refl _) ?_
 refine hl_nil ?_
 refine hq_then ?_
 refine hc_seq ?_
 refine hc_region ?_
 refine hl_v rfl rfl rfl (rv_loadN (cs := [.int .i64 n.ins, n.sv, n.lv, n.ov]) rfl (by kernel_rfl) (by kernel_rfl) rfl rfl (box_part 0 rfl 0 rfl)) ?_
 refine hl_callV rfl rfl rfl (rq_call (by kernel_rfl) rfl (fun w hm => ret_ans (specLutNodes_ans n w (hr.below hm.bel)))) ?_
 refine hl_v rfl rfl rfl (rv_ev rfl) ?_
 refine hl_less (sx 0 rfl (sx 1 rfl (sx 2 rfl (sx 3 rfl (sub_nil _))))) (.refl _) ?_
 refine hl_nil ?_
 refine hq_then ?_
 refine hc_seq ?_
 refine hc_seq ?_
 refine hc_region ?_
 refine hl_v rfl rfl rfl (rv_ev rfl) ?_
 refine hl_eql rfl rfl rfl rfl rfl rfl (fun h2 => ?_) (fun h2 => ?_)
 ·
  refine hl_v rfl rfl rfl (rv_ev rfl) ?_
  refine hl_skip rfl rfl rfl ?_
  refine hl_skip rfl rfl rfl ?_
  refine hl_skip rfl rfl rfl ?_
  refine hl_skip rfl rfl rfl ?_
  refine hl_skip rfl rfl rfl ?_
  refine hl_v rfl rfl rfl (rv_ev rfl) ?_
  refine hl_less (sx 0 rfl (sx 1 rfl (sx 2 rfl (sx 3 rfl (sx 18 rfl (sub_nil _)))))) (.refl _) ?_
  refine hl_nil ?_
  refine hq_then ?_
  refine hc_true rfl ?_
  refine hc_seq ?_
  refine hc_region ?_
  refine hl_v rfl rfl rfl (rv_ev rfl) ?_
  refine hl_less (sx 0 rfl (sx 1 rfl (sx 2 rfl (sx 3 rfl (sx 18 rfl (sub_nil _)))))) (.refl _) ?_
  refine hl_nil ?_
  refine hq_then ?_
  refine hc_ret ?_
  refine hq_then_ret ?_
  exact hq_ans rfl rfl (congrArg _ (pB_no (fun hp => by first | (exact lnN_pos hp.sz (by assumption)) | (exact absurd hp.ou (by rw [← hnc]; assumption)) | (have h9 := hp.sq k (by omega); exact absurd h9.1 (by assumption)) | (have h9 := hp.sq k (by omega); rw [← hnc] at h9; exact absurd h9.2 (by assumption)) | (have h9 := hp.sq k (by omega); rcases h9.1.kind with ⟨a, b, c⟩ | ⟨a, b, c⟩ <;> omega) | (have h9 := hp.lt i (by omega); have h8 := h9.1.1; omega) | (have h9 := hp.lt i (by omega); exact absurd h9.1.2 (by assumption)) | (have h9 := hp.lt i (by omega); exact absurd h9.2 (by assumption)))).symm)
 ·
  refine hl_v rfl rfl rfl (rv_ev rfl) ?_
  have hsz := lnN_sz (by assumption)
  have hnc := lnN_yes hsz
  obtain ⟨si, s2, s3, s4⟩ := id hsz
  refine hl_v rfl rfl rfl (rv_field (k0 := 3) rfl (by kernel_rfl) rfl) ?_
  refine hl_v rfl rfl rfl (rv_load rfl (by kernel_rfl) rfl (box_cell 0 rfl rfl)) ?_
  refine hl_v rfl rfl rfl (rv_ev rfl) ?_
  refine hl_callV rfl rfl rfl (rq_call (by kernel_rfl) rfl (fun w hm => ret_ans (l20Below_ans n.os (lnN n) _ w ((rd_old ((hr).ou)) w hm) (by omega)))) ?_
  refine hl_bool (fun h3 => ?_) (fun h3 => ?_)
  ·
   have h3p := of_pB h3
   refine hl_v rfl rfl rfl (rv_ev rfl) ?_
   refine hl_v rfl rfl rfl (rv_ev rfl) ?_
   refine hl_less (sx 0 rfl (sx 1 rfl (sx 2 rfl (sx 3 rfl (sx 18 rfl (sub_nil _)))))) (.refl _) ?_
   refine hl_nil ?_
   refine hq_then ?_
   refine hc_false rfl ?_
   refine hc_skip ?_
   refine hq_then ?_
   refine hc_seq ?_
   refine hc_seq ?_
   refine hc_region ?_
   refine hl_v rfl rfl rfl (rv_ev rfl) ?_
   refine hl_less (sx 0 rfl (sx 1 rfl (sx 2 rfl (sx 3 rfl (sx 4 rfl (sx 18 rfl (sub_nil _))))))) (.refl _) ?_
   refine hl_nil ?_
   refine hq_then ?_
   refine hc_block ?_
   refine hc_loop1 (α := Nat) (fun k => [boxE b1 #[.int .i64 n.ins, n.sv, n.lv, n.ov] 37]) (fun k => [(0, .agg #[.int .i64 n.ins, n.sv, n.lv, n.ov]), (1, .pointer (some ⟨b1, 0, none⟩)), (2, .bool false), (3, .int .i64 (lnN n)), (4, .int .i64 (k : Int)), (18, .bool false)]) (fun k => k ≤ n.ss.length ∧ ∀ i, i < k → SqOk (n.ss.getD i sq0) ∧ BelowP (n.ss.getD i sq0).xs n.cnt) (fun k => n.ss.length - k) 0 ⟨Nat.zero_le _, fun i hi => absurd hi (by omega)⟩ (sx 0 rfl (sx 1 rfl (sx 2 rfl (sx 3 rfl (sx 4 rfl (sx 18 rfl (sub_nil _))))))) ((.cons_cons _ .slnil)) ?_
   intro k hi4
   obtain ⟨hk, hqs⟩ := hi4
   refine hc_seq ?_
   refine hc_seq ?_
   refine hc_region ?_
   refine hl_v rfl rfl rfl (rv_ev rfl) ?_
   refine hl_v rfl rfl rfl (rv_field (k0 := 1) rfl (by kernel_rfl) rfl) ?_
   refine hl_v rfl rfl rfl (rv_load rfl (by kernel_rfl) rfl (box_cell 0 rfl rfl)) ?_
   refine hl_v rfl rfl rfl (rv_len rfl Try.underlying34 rfl (rd_old ((hr).sq.row))) ?_
   refine hl_lss rfl rfl rfl rfl rfl rfl (fun h5 => ?_) (fun h5 => ?_)
   ·
    refine hl_less (sx 0 rfl (sx 1 rfl (sx 2 rfl (sx 3 rfl (sx 4 rfl (sx 18 rfl (sx 23 rfl (sub_nil _)))))))) (.refl _) ?_
    refine hl_nil ?_
    refine hq_then ?_
    refine hc_true rfl ?_
    refine hc_skip ?_
    refine hq_then ?_
    refine hc_seq ?_
    refine hc_block ?_
    refine hc_seq ?_
    refine hc_region ?_
    refine hl_v rfl rfl rfl (rv_field (k0 := 1) rfl (by kernel_rfl) rfl) ?_
    refine hl_v rfl rfl rfl (rv_load rfl (by kernel_rfl) rfl (box_cell 0 rfl rfl)) ?_
    refine hl_v rfl rfl rfl (rv_ev rfl) ?_
    refine hl_v rfl rfl rfl (rv_index (s := 3) rfl Try.underlying34 (by kernel_rfl) rfl rfl (rd_old ((hr).sq.row)) (by omega) (by first | omega | (simp only [List.length_set]; omega))) ?_
    refine hl_v rfl rfl rfl (rv_loadElN (us := [.int .i64 ((n.ss.getD k sq0).kd), .int .i64 ((n.ss.getD k sq0).it), (n.ss.getD k sq0).iv]) rfl (by kernel_rfl) (by kernel_rfl) rfl (rd_old ((hr).sq.row)) (by omega) rfl (flat_atN sqC 3 (fun _ => rfl) n.ss sq0 (show k < _ by first | omega | (simp only [List.length_set]; omega)) rfl)) ?_
    refine hl_box rfl rfl rfl (rq_alloc (z := .agg #[.int .i64 0, .int .i64 0, .slice none 0 0]) rfl (by kernel_rfl)) ?_
    intro b6
    refine hl_storeBoxN (i := 0) (off := 0) (us := [.int .i64 ((n.ss.getD k sq0).kd), .int .i64 ((n.ss.getD k sq0).it), (n.ss.getD k sq0).iv])  (l' := [boxE b6 #[.int .i64 ((n.ss.getD k sq0).kd), .int .i64 ((n.ss.getD k sq0).it), (n.ss.getD k sq0).iv] 71, boxE b1 #[.int .i64 n.ins, n.sv, n.lv, n.ov] 37]) rfl rfl rfl (by kernel_rfl) rfl rfl rfl (all_cons rfl (all_cons rfl (all_cons (hr.sq.at (d := sq0) (k := k) (by omega)).one all_nil))) rfl rfl rfl ?_
    refine hl_less (sx 0 rfl (sx 1 rfl (sx 2 rfl (sx 3 rfl (sx 4 rfl (sx 5 rfl (sx 18 rfl (sx 23 rfl (sub_nil _))))))))) (.refl _) ?_
    refine hl_nil ?_
    refine hq_then ?_
    refine hc_seq ?_
    refine hc_region ?_
    refine hl_v rfl rfl rfl (rv_field (k0 := 0) rfl (by kernel_rfl) rfl) ?_
    refine hl_v rfl rfl rfl (rv_load rfl (by kernel_rfl) rfl (box_cell 0 rfl rfl)) ?_
    refine hl_eql rfl rfl rfl rfl rfl rfl (fun h7 => ?_) (fun h7 => ?_)
    ·
     refine hl_v rfl rfl rfl (rv_ev rfl) ?_
     refine hl_v rfl rfl rfl (rv_field (k0 := 1) rfl (by kernel_rfl) rfl) ?_
     refine hl_v rfl rfl rfl (rv_load rfl (by kernel_rfl) rfl (box_cell 0 rfl rfl)) ?_
     refine hl_callV rfl rfl rfl (rq_call (by kernel_rfl) rfl (fun w hm => ret_ans (l01In_ans ((n.ss.getD k sq0).it) 0 1 w))) ?_
     refine hl_bool (fun h8 => ?_) (fun h8 => ?_)
     ·
      obtain ⟨h8a, h8b⟩ := (inR_iff _ _ _).1 h8
      refine hl_v rfl rfl rfl (rv_ev rfl) ?_
      refine hl_v rfl rfl rfl (rv_ev rfl) ?_
      refine hl_v rfl rfl rfl (rv_field (k0 := 2) rfl (by kernel_rfl) rfl) ?_
      refine hl_v rfl rfl rfl (rv_load rfl (by kernel_rfl) rfl (box_cell 0 rfl rfl)) ?_
      refine hl_v rfl rfl rfl (rv_len rfl Try.underlying24 rfl (rd_old ((hr).sq.at (d := sq0) (k := k) (by omega)))) ?_
      refine hl_eql rfl rfl rfl rfl rfl rfl (fun h9 => ?_) (fun h9 => ?_)
      ·
       refine hl_v rfl rfl rfl (rv_ev rfl) ?_
       refine hl_v rfl rfl rfl (rv_ev rfl) ?_
       refine hl_skip rfl rfl rfl ?_
       refine hl_skip rfl rfl rfl ?_
       refine hl_skip rfl rfl rfl ?_
       refine hl_skip rfl rfl rfl ?_
       refine hl_skip rfl rfl rfl ?_
       refine hl_skip rfl rfl rfl ?_
       refine hl_skip rfl rfl rfl ?_
       refine hl_skip rfl rfl rfl ?_
       refine hl_skip rfl rfl rfl ?_
       refine hl_skip rfl rfl rfl ?_
       refine hl_skip rfl rfl rfl ?_
       refine hl_skip rfl rfl rfl ?_
       refine hl_skip rfl rfl rfl ?_
       refine hl_skip rfl rfl rfl ?_
       refine hl_v rfl rfl rfl (rv_ev rfl) ?_
       refine hl_v rfl rfl rfl (rv_ev rfl) ?_
       refine hl_v rfl rfl rfl (rv_ev rfl) ?_
       refine hl_v rfl rfl rfl (rv_field (k0 := 2) rfl (by kernel_rfl) rfl) ?_
       refine hl_v rfl rfl rfl (rv_load rfl (by kernel_rfl) rfl (box_cell 0 rfl rfl)) ?_
       refine hl_v rfl rfl rfl (rv_ev rfl) ?_
       refine hl_callV rfl rfl rfl (rq_call (by kernel_rfl) rfl (fun w hm => ret_ans (l20Below_ans ((n.ss.getD k sq0).xs) (lnN n) _ w ((rd_old ((hr).sq.at (d := sq0) (k := k) (by omega))) w hm) (by omega)))) ?_
       refine hl_bool (fun h10 => ?_) (fun h10 => ?_)
       ·
        have h10p := of_pB h10
        refine hl_v rfl rfl rfl (rv_ev rfl) ?_
        refine hl_v rfl rfl rfl (rv_ev rfl) ?_
        refine hl_less (sx 0 rfl (sx 1 rfl (sx 2 rfl (sx 3 rfl (sx 4 rfl (sx 5 rfl (sx 18 rfl (sx 23 rfl (sx 68 rfl (sub_nil _)))))))))) (.refl _) ?_
        refine hl_nil ?_
        refine hq_then ?_
        refine hc_false rfl ?_
        refine hc_skip ?_
        refine hq_block_normal ?_
        refine hq_then ?_
        refine hc_region ?_
        refine hl_v rfl rfl rfl (rv_ev rfl) ?_
        refine hl_v rfl rfl rfl (rv_add rfl rfl rfl (by constructor <;> omega)) ?_
        refine hl_v rfl rfl rfl (rv_ev rfl) ?_
        refine hl_less (sx 0 rfl (sx 1 rfl (sx 2 rfl (sx 3 rfl (sx 4 rfl (sx 5 rfl (sx 18 rfl (sx 23 rfl (sx 68 rfl (sub_nil _)))))))))) (.refl _) ?_
        refine hl_nil ?_
        exact hq_round1 (k + 1) ⟨by omega, fun i hi => by by_cases e : i = k; (subst e; exact ⟨by first | assumption | exact ⟨by omega⟩, by rw [← hnc]; assumption⟩); exact hqs i (by omega)⟩ (by omega) (sx 0 rfl (sx 1 rfl (sx 2 rfl (sx 3 rfl (sx 4 rfl (sx 18 rfl (sub_nil _))))))) ((.cons _ (.cons_cons _ .slnil)))
       ·
        have h10p := of_pBn h10
        refine hl_v rfl rfl rfl (rv_ev rfl) ?_
        refine hl_v rfl rfl rfl (rv_ev rfl) ?_
        refine hl_less (sx 0 rfl (sx 1 rfl (sx 2 rfl (sx 3 rfl (sx 4 rfl (sx 5 rfl (sx 18 rfl (sx 23 rfl (sx 68 rfl (sub_nil _)))))))))) (.refl _) ?_
        refine hl_nil ?_
        refine hq_then ?_
        refine hc_true rfl ?_
        refine hc_seq ?_
        refine hc_region ?_
        refine hl_v rfl rfl rfl (rv_ev rfl) ?_
        refine hl_less (sx 0 rfl (sx 1 rfl (sx 2 rfl (sx 3 rfl (sx 4 rfl (sx 5 rfl (sx 18 rfl (sx 23 rfl (sx 68 rfl (sub_nil _)))))))))) (.refl _) ?_
        refine hl_nil ?_
        refine hq_then ?_
        refine hc_ret ?_
        refine hq_block_ret ?_
        refine hq_then_ret ?_
        refine hq_then_ret ?_
        refine hq_block_ret ?_
        refine hq_then_ret ?_
        exact hq_ans rfl rfl (congrArg _ (pB_no (fun hp => by first | (exact lnN_pos hp.sz (by assumption)) | (exact absurd hp.ou (by rw [← hnc]; assumption)) | (have h9 := hp.sq k (by omega); exact absurd h9.1 (by assumption)) | (have h9 := hp.sq k (by omega); rw [← hnc] at h9; exact absurd h9.2 (by assumption)) | (have h9 := hp.sq k (by omega); rcases h9.1.kind with ⟨a, b, c⟩ | ⟨a, b, c⟩ <;> omega) | (have h9 := hp.lt i (by omega); have h8 := h9.1.1; omega) | (have h9 := hp.lt i (by omega); exact absurd h9.1.2 (by assumption)) | (have h9 := hp.lt i (by omega); exact absurd h9.2 (by assumption)))).symm)
      ·
       refine hl_v rfl rfl rfl (rv_ev rfl) ?_
       refine hl_v rfl rfl rfl (rv_ev rfl) ?_
       refine hl_v rfl rfl rfl (rv_field (k0 := 0) rfl (by kernel_rfl) rfl) ?_
       refine hl_v rfl rfl rfl (rv_load rfl (by kernel_rfl) rfl (box_cell 0 rfl rfl)) ?_
       refine hl_eql rfl rfl rfl rfl rfl rfl (fun h11 => ?_) (fun h11 => ?_)
       ·
        refine hl_v rfl rfl rfl (rv_ev rfl) ?_
        refine hl_v rfl rfl rfl (rv_field (k0 := 1) rfl (by kernel_rfl) rfl) ?_
        refine hl_v rfl rfl rfl (rv_load rfl (by kernel_rfl) rfl (box_cell 0 rfl rfl)) ?_
        refine hl_callV rfl rfl rfl (rq_call (by kernel_rfl) rfl (fun w hm => ret_ans (l01In_ans ((n.ss.getD k sq0).it) 0 31 w))) ?_
        refine hl_bool (fun h12 => ?_) (fun h12 => ?_)
        ·
         obtain ⟨h12a, h12b⟩ := (inR_iff _ _ _).1 h12
         refine hl_v rfl rfl rfl (rv_ev rfl) ?_
         refine hl_v rfl rfl rfl (rv_ev rfl) ?_
         refine hl_v rfl rfl rfl (rv_field (k0 := 2) rfl (by kernel_rfl) rfl) ?_
         refine hl_v rfl rfl rfl (rv_load rfl (by kernel_rfl) rfl (box_cell 0 rfl rfl)) ?_
         refine hl_v rfl rfl rfl (rv_len rfl Try.underlying24 rfl (rd_old ((hr).sq.at (d := sq0) (k := k) (by omega)))) ?_
         refine hl_eql rfl rfl rfl rfl rfl rfl (fun h13 => ?_) (fun h13 => ?_)
         ·
          refine hl_v rfl rfl rfl (rv_ev rfl) ?_
          refine hl_v rfl rfl rfl (rv_ev rfl) ?_
          refine hl_v rfl rfl rfl (rv_ev rfl) ?_
          refine hl_v rfl rfl rfl (rv_ev rfl) ?_
          refine hl_v rfl rfl rfl (rv_field (k0 := 2) rfl (by kernel_rfl) rfl) ?_
          refine hl_v rfl rfl rfl (rv_load rfl (by kernel_rfl) rfl (box_cell 0 rfl rfl)) ?_
          refine hl_v rfl rfl rfl (rv_ev rfl) ?_
          refine hl_callV rfl rfl rfl (rq_call (by kernel_rfl) rfl (fun w hm => ret_ans (l20Below_ans ((n.ss.getD k sq0).xs) (lnN n) _ w ((rd_old ((hr).sq.at (d := sq0) (k := k) (by omega))) w hm) (by omega)))) ?_
          refine hl_bool (fun h14 => ?_) (fun h14 => ?_)
          ·
           have h14p := of_pB h14
           refine hl_v rfl rfl rfl (rv_ev rfl) ?_
           refine hl_v rfl rfl rfl (rv_ev rfl) ?_
           refine hl_less (sx 0 rfl (sx 1 rfl (sx 2 rfl (sx 3 rfl (sx 4 rfl (sx 5 rfl (sx 18 rfl (sx 23 rfl (sx 68 rfl (sub_nil _)))))))))) (.refl _) ?_
           refine hl_nil ?_
           refine hq_then ?_
           refine hc_false rfl ?_
           refine hc_skip ?_
           refine hq_block_normal ?_
           refine hq_then ?_
           refine hc_region ?_
           refine hl_v rfl rfl rfl (rv_ev rfl) ?_
           refine hl_v rfl rfl rfl (rv_add rfl rfl rfl (by constructor <;> omega)) ?_
           refine hl_v rfl rfl rfl (rv_ev rfl) ?_
           refine hl_less (sx 0 rfl (sx 1 rfl (sx 2 rfl (sx 3 rfl (sx 4 rfl (sx 5 rfl (sx 18 rfl (sx 23 rfl (sx 68 rfl (sub_nil _)))))))))) (.refl _) ?_
           refine hl_nil ?_
           exact hq_round1 (k + 1) ⟨by omega, fun i hi => by by_cases e : i = k; (subst e; exact ⟨by first | assumption | exact ⟨by omega⟩, by rw [← hnc]; assumption⟩); exact hqs i (by omega)⟩ (by omega) (sx 0 rfl (sx 1 rfl (sx 2 rfl (sx 3 rfl (sx 4 rfl (sx 18 rfl (sub_nil _))))))) ((.cons _ (.cons_cons _ .slnil)))
          ·
           have h14p := of_pBn h14
           refine hl_v rfl rfl rfl (rv_ev rfl) ?_
           refine hl_v rfl rfl rfl (rv_ev rfl) ?_
           refine hl_less (sx 0 rfl (sx 1 rfl (sx 2 rfl (sx 3 rfl (sx 4 rfl (sx 5 rfl (sx 18 rfl (sx 23 rfl (sx 68 rfl (sub_nil _)))))))))) (.refl _) ?_
           refine hl_nil ?_
           refine hq_then ?_
           refine hc_true rfl ?_
           refine hc_seq ?_
           refine hc_region ?_
           refine hl_v rfl rfl rfl (rv_ev rfl) ?_
           refine hl_less (sx 0 rfl (sx 1 rfl (sx 2 rfl (sx 3 rfl (sx 4 rfl (sx 5 rfl (sx 18 rfl (sx 23 rfl (sx 68 rfl (sub_nil _)))))))))) (.refl _) ?_
           refine hl_nil ?_
           refine hq_then ?_
           refine hc_ret ?_
           refine hq_block_ret ?_
           refine hq_then_ret ?_
           refine hq_then_ret ?_
           refine hq_block_ret ?_
           refine hq_then_ret ?_
           exact hq_ans rfl rfl (congrArg _ (pB_no (fun hp => by first | (exact lnN_pos hp.sz (by assumption)) | (exact absurd hp.ou (by rw [← hnc]; assumption)) | (have h9 := hp.sq k (by omega); exact absurd h9.1 (by assumption)) | (have h9 := hp.sq k (by omega); rw [← hnc] at h9; exact absurd h9.2 (by assumption)) | (have h9 := hp.sq k (by omega); rcases h9.1.kind with ⟨a, b, c⟩ | ⟨a, b, c⟩ <;> omega) | (have h9 := hp.lt i (by omega); have h8 := h9.1.1; omega) | (have h9 := hp.lt i (by omega); exact absurd h9.1.2 (by assumption)) | (have h9 := hp.lt i (by omega); exact absurd h9.2 (by assumption)))).symm)
         ·
          refine hl_v rfl rfl rfl (rv_ev rfl) ?_
          refine hl_v rfl rfl rfl (rv_ev rfl) ?_
          refine hl_v rfl rfl rfl (rv_ev rfl) ?_
          refine hl_v rfl rfl rfl (rv_ev rfl) ?_
          refine hl_skip rfl rfl rfl ?_
          refine hl_skip rfl rfl rfl ?_
          refine hl_skip rfl rfl rfl ?_
          refine hl_skip rfl rfl rfl ?_
          refine hl_skip rfl rfl rfl ?_
          refine hl_v rfl rfl rfl (rv_ev rfl) ?_
          refine hl_less (sx 0 rfl (sx 1 rfl (sx 2 rfl (sx 3 rfl (sx 4 rfl (sx 5 rfl (sx 18 rfl (sx 23 rfl (sx 68 rfl (sub_nil _)))))))))) (.refl _) ?_
          refine hl_nil ?_
          refine hq_then ?_
          refine hc_true rfl ?_
          refine hc_seq ?_
          refine hc_region ?_
          refine hl_v rfl rfl rfl (rv_ev rfl) ?_
          refine hl_less (sx 0 rfl (sx 1 rfl (sx 2 rfl (sx 3 rfl (sx 4 rfl (sx 5 rfl (sx 18 rfl (sx 23 rfl (sx 68 rfl (sub_nil _)))))))))) (.refl _) ?_
          refine hl_nil ?_
          refine hq_then ?_
          refine hc_ret ?_
          refine hq_block_ret ?_
          refine hq_then_ret ?_
          refine hq_then_ret ?_
          refine hq_block_ret ?_
          refine hq_then_ret ?_
          exact hq_ans rfl rfl (congrArg _ (pB_no (fun hp => by first | (exact lnN_pos hp.sz (by assumption)) | (exact absurd hp.ou (by rw [← hnc]; assumption)) | (have h9 := hp.sq k (by omega); exact absurd h9.1 (by assumption)) | (have h9 := hp.sq k (by omega); rw [← hnc] at h9; exact absurd h9.2 (by assumption)) | (have h9 := hp.sq k (by omega); rcases h9.1.kind with ⟨a, b, c⟩ | ⟨a, b, c⟩ <;> omega) | (have h9 := hp.lt i (by omega); have h8 := h9.1.1; omega) | (have h9 := hp.lt i (by omega); exact absurd h9.1.2 (by assumption)) | (have h9 := hp.lt i (by omega); exact absurd h9.2 (by assumption)))).symm)
        ·
         have h12a := inR_notL h12
         refine hl_v rfl rfl rfl (rv_ev rfl) ?_
         refine hl_v rfl rfl rfl (rv_ev rfl) ?_
         refine hl_skip rfl rfl rfl ?_
         refine hl_skip rfl rfl rfl ?_
         refine hl_skip rfl rfl rfl ?_
         refine hl_skip rfl rfl rfl ?_
         refine hl_v rfl rfl rfl (rv_ev rfl) ?_
         refine hl_v rfl rfl rfl (rv_ev rfl) ?_
         refine hl_v rfl rfl rfl (rv_ev rfl) ?_
         refine hl_v rfl rfl rfl (rv_ev rfl) ?_
         refine hl_skip rfl rfl rfl ?_
         refine hl_skip rfl rfl rfl ?_
         refine hl_skip rfl rfl rfl ?_
         refine hl_skip rfl rfl rfl ?_
         refine hl_skip rfl rfl rfl ?_
         refine hl_v rfl rfl rfl (rv_ev rfl) ?_
         refine hl_less (sx 0 rfl (sx 1 rfl (sx 2 rfl (sx 3 rfl (sx 4 rfl (sx 5 rfl (sx 18 rfl (sx 23 rfl (sx 68 rfl (sub_nil _)))))))))) (.refl _) ?_
         refine hl_nil ?_
         refine hq_then ?_
         refine hc_true rfl ?_
         refine hc_seq ?_
         refine hc_region ?_
         refine hl_v rfl rfl rfl (rv_ev rfl) ?_
         refine hl_less (sx 0 rfl (sx 1 rfl (sx 2 rfl (sx 3 rfl (sx 4 rfl (sx 5 rfl (sx 18 rfl (sx 23 rfl (sx 68 rfl (sub_nil _)))))))))) (.refl _) ?_
         refine hl_nil ?_
         refine hq_then ?_
         refine hc_ret ?_
         refine hq_block_ret ?_
         refine hq_then_ret ?_
         refine hq_then_ret ?_
         refine hq_block_ret ?_
         refine hq_then_ret ?_
         exact hq_ans rfl rfl (congrArg _ (pB_no (fun hp => by first | (exact lnN_pos hp.sz (by assumption)) | (exact absurd hp.ou (by rw [← hnc]; assumption)) | (have h9 := hp.sq k (by omega); exact absurd h9.1 (by assumption)) | (have h9 := hp.sq k (by omega); rw [← hnc] at h9; exact absurd h9.2 (by assumption)) | (have h9 := hp.sq k (by omega); rcases h9.1.kind with ⟨a, b, c⟩ | ⟨a, b, c⟩ <;> omega) | (have h9 := hp.lt i (by omega); have h8 := h9.1.1; omega) | (have h9 := hp.lt i (by omega); exact absurd h9.1.2 (by assumption)) | (have h9 := hp.lt i (by omega); exact absurd h9.2 (by assumption)))).symm)
       ·
        refine hl_v rfl rfl rfl (rv_ev rfl) ?_
        refine hl_skip rfl rfl rfl ?_
        refine hl_skip rfl rfl rfl ?_
        refine hl_skip rfl rfl rfl ?_
        refine hl_v rfl rfl rfl (rv_ev rfl) ?_
        refine hl_v rfl rfl rfl (rv_ev rfl) ?_
        refine hl_skip rfl rfl rfl ?_
        refine hl_skip rfl rfl rfl ?_
        refine hl_skip rfl rfl rfl ?_
        refine hl_skip rfl rfl rfl ?_
        refine hl_v rfl rfl rfl (rv_ev rfl) ?_
        refine hl_v rfl rfl rfl (rv_ev rfl) ?_
        refine hl_v rfl rfl rfl (rv_ev rfl) ?_
        refine hl_v rfl rfl rfl (rv_ev rfl) ?_
        refine hl_skip rfl rfl rfl ?_
        refine hl_skip rfl rfl rfl ?_
        refine hl_skip rfl rfl rfl ?_
        refine hl_skip rfl rfl rfl ?_
        refine hl_skip rfl rfl rfl ?_
        refine hl_v rfl rfl rfl (rv_ev rfl) ?_
        refine hl_less (sx 0 rfl (sx 1 rfl (sx 2 rfl (sx 3 rfl (sx 4 rfl (sx 5 rfl (sx 18 rfl (sx 23 rfl (sx 68 rfl (sub_nil _)))))))))) (.refl _) ?_
        refine hl_nil ?_
        refine hq_then ?_
        refine hc_true rfl ?_
        refine hc_seq ?_
        refine hc_region ?_
        refine hl_v rfl rfl rfl (rv_ev rfl) ?_
        refine hl_less (sx 0 rfl (sx 1 rfl (sx 2 rfl (sx 3 rfl (sx 4 rfl (sx 5 rfl (sx 18 rfl (sx 23 rfl (sx 68 rfl (sub_nil _)))))))))) (.refl _) ?_
        refine hl_nil ?_
        refine hq_then ?_
        refine hc_ret ?_
        refine hq_block_ret ?_
        refine hq_then_ret ?_
        refine hq_then_ret ?_
        refine hq_block_ret ?_
        refine hq_then_ret ?_
        exact hq_ans rfl rfl (congrArg _ (pB_no (fun hp => by first | (exact lnN_pos hp.sz (by assumption)) | (exact absurd hp.ou (by rw [← hnc]; assumption)) | (have h9 := hp.sq k (by omega); exact absurd h9.1 (by assumption)) | (have h9 := hp.sq k (by omega); rw [← hnc] at h9; exact absurd h9.2 (by assumption)) | (have h9 := hp.sq k (by omega); rcases h9.1.kind with ⟨a, b, c⟩ | ⟨a, b, c⟩ <;> omega) | (have h9 := hp.lt i (by omega); have h8 := h9.1.1; omega) | (have h9 := hp.lt i (by omega); exact absurd h9.1.2 (by assumption)) | (have h9 := hp.lt i (by omega); exact absurd h9.2 (by assumption)))).symm)
     ·
      have h8a := inR_notL h8
      refine hl_v rfl rfl rfl (rv_ev rfl) ?_
      refine hl_v rfl rfl rfl (rv_ev rfl) ?_
      refine hl_skip rfl rfl rfl ?_
      refine hl_skip rfl rfl rfl ?_
      refine hl_skip rfl rfl rfl ?_
      refine hl_skip rfl rfl rfl ?_
      refine hl_v rfl rfl rfl (rv_ev rfl) ?_
      refine hl_v rfl rfl rfl (rv_ev rfl) ?_
      refine hl_v rfl rfl rfl (rv_field (k0 := 0) rfl (by kernel_rfl) rfl) ?_
      refine hl_v rfl rfl rfl (rv_load rfl (by kernel_rfl) rfl (box_cell 0 rfl rfl)) ?_
      refine hl_eql rfl rfl rfl rfl rfl rfl (fun h15 => ?_) (fun h15 => ?_)
      ·
       refine hl_v rfl rfl rfl (rv_ev rfl) ?_
       refine hl_v rfl rfl rfl (rv_field (k0 := 1) rfl (by kernel_rfl) rfl) ?_
       refine hl_v rfl rfl rfl (rv_load rfl (by kernel_rfl) rfl (box_cell 0 rfl rfl)) ?_
       refine hl_callV rfl rfl rfl (rq_call (by kernel_rfl) rfl (fun w hm => ret_ans (l01In_ans ((n.ss.getD k sq0).it) 0 31 w))) ?_
       refine hl_bool (fun h16 => ?_) (fun h16 => ?_)
       ·
        obtain ⟨h16a, h16b⟩ := (inR_iff _ _ _).1 h16
        refine hl_v rfl rfl rfl (rv_ev rfl) ?_
        refine hl_v rfl rfl rfl (rv_ev rfl) ?_
        refine hl_v rfl rfl rfl (rv_field (k0 := 2) rfl (by kernel_rfl) rfl) ?_
        refine hl_v rfl rfl rfl (rv_load rfl (by kernel_rfl) rfl (box_cell 0 rfl rfl)) ?_
        refine hl_v rfl rfl rfl (rv_len rfl Try.underlying24 rfl (rd_old ((hr).sq.at (d := sq0) (k := k) (by omega)))) ?_
        refine hl_eql rfl rfl rfl rfl rfl rfl (fun h17 => ?_) (fun h17 => ?_)
        ·
         refine hl_v rfl rfl rfl (rv_ev rfl) ?_
         refine hl_v rfl rfl rfl (rv_ev rfl) ?_
         refine hl_v rfl rfl rfl (rv_ev rfl) ?_
         refine hl_v rfl rfl rfl (rv_ev rfl) ?_
         refine hl_v rfl rfl rfl (rv_field (k0 := 2) rfl (by kernel_rfl) rfl) ?_
         refine hl_v rfl rfl rfl (rv_load rfl (by kernel_rfl) rfl (box_cell 0 rfl rfl)) ?_
         refine hl_v rfl rfl rfl (rv_ev rfl) ?_
         refine hl_callV rfl rfl rfl (rq_call (by kernel_rfl) rfl (fun w hm => ret_ans (l20Below_ans ((n.ss.getD k sq0).xs) (lnN n) _ w ((rd_old ((hr).sq.at (d := sq0) (k := k) (by omega))) w hm) (by omega)))) ?_
         refine hl_bool (fun h18 => ?_) (fun h18 => ?_)
         ·
          have h18p := of_pB h18
          refine hl_v rfl rfl rfl (rv_ev rfl) ?_
          refine hl_v rfl rfl rfl (rv_ev rfl) ?_
          refine hl_less (sx 0 rfl (sx 1 rfl (sx 2 rfl (sx 3 rfl (sx 4 rfl (sx 5 rfl (sx 18 rfl (sx 23 rfl (sx 68 rfl (sub_nil _)))))))))) (.refl _) ?_
          refine hl_nil ?_
          refine hq_then ?_
          refine hc_false rfl ?_
          refine hc_skip ?_
          refine hq_block_normal ?_
          refine hq_then ?_
          refine hc_region ?_
          refine hl_v rfl rfl rfl (rv_ev rfl) ?_
          refine hl_v rfl rfl rfl (rv_add rfl rfl rfl (by constructor <;> omega)) ?_
          refine hl_v rfl rfl rfl (rv_ev rfl) ?_
          refine hl_less (sx 0 rfl (sx 1 rfl (sx 2 rfl (sx 3 rfl (sx 4 rfl (sx 5 rfl (sx 18 rfl (sx 23 rfl (sx 68 rfl (sub_nil _)))))))))) (.refl _) ?_
          refine hl_nil ?_
          exact hq_round1 (k + 1) ⟨by omega, fun i hi => by by_cases e : i = k; (subst e; exact ⟨by first | assumption | exact ⟨by omega⟩, by rw [← hnc]; assumption⟩); exact hqs i (by omega)⟩ (by omega) (sx 0 rfl (sx 1 rfl (sx 2 rfl (sx 3 rfl (sx 4 rfl (sx 18 rfl (sub_nil _))))))) ((.cons _ (.cons_cons _ .slnil)))
         ·
          have h18p := of_pBn h18
          refine hl_v rfl rfl rfl (rv_ev rfl) ?_
          refine hl_v rfl rfl rfl (rv_ev rfl) ?_
          refine hl_less (sx 0 rfl (sx 1 rfl (sx 2 rfl (sx 3 rfl (sx 4 rfl (sx 5 rfl (sx 18 rfl (sx 23 rfl (sx 68 rfl (sub_nil _)))))))))) (.refl _) ?_
          refine hl_nil ?_
          refine hq_then ?_
          refine hc_true rfl ?_
          refine hc_seq ?_
          refine hc_region ?_
          refine hl_v rfl rfl rfl (rv_ev rfl) ?_
          refine hl_less (sx 0 rfl (sx 1 rfl (sx 2 rfl (sx 3 rfl (sx 4 rfl (sx 5 rfl (sx 18 rfl (sx 23 rfl (sx 68 rfl (sub_nil _)))))))))) (.refl _) ?_
          refine hl_nil ?_
          refine hq_then ?_
          refine hc_ret ?_
          refine hq_block_ret ?_
          refine hq_then_ret ?_
          refine hq_then_ret ?_
          refine hq_block_ret ?_
          refine hq_then_ret ?_
          exact hq_ans rfl rfl (congrArg _ (pB_no (fun hp => by first | (exact lnN_pos hp.sz (by assumption)) | (exact absurd hp.ou (by rw [← hnc]; assumption)) | (have h9 := hp.sq k (by omega); exact absurd h9.1 (by assumption)) | (have h9 := hp.sq k (by omega); rw [← hnc] at h9; exact absurd h9.2 (by assumption)) | (have h9 := hp.sq k (by omega); rcases h9.1.kind with ⟨a, b, c⟩ | ⟨a, b, c⟩ <;> omega) | (have h9 := hp.lt i (by omega); have h8 := h9.1.1; omega) | (have h9 := hp.lt i (by omega); exact absurd h9.1.2 (by assumption)) | (have h9 := hp.lt i (by omega); exact absurd h9.2 (by assumption)))).symm)
        ·
         refine hl_v rfl rfl rfl (rv_ev rfl) ?_
         refine hl_v rfl rfl rfl (rv_ev rfl) ?_
         refine hl_v rfl rfl rfl (rv_ev rfl) ?_
         refine hl_v rfl rfl rfl (rv_ev rfl) ?_
         refine hl_skip rfl rfl rfl ?_
         refine hl_skip rfl rfl rfl ?_
         refine hl_skip rfl rfl rfl ?_
         refine hl_skip rfl rfl rfl ?_
         refine hl_skip rfl rfl rfl ?_
         refine hl_v rfl rfl rfl (rv_ev rfl) ?_
         refine hl_less (sx 0 rfl (sx 1 rfl (sx 2 rfl (sx 3 rfl (sx 4 rfl (sx 5 rfl (sx 18 rfl (sx 23 rfl (sx 68 rfl (sub_nil _)))))))))) (.refl _) ?_
         refine hl_nil ?_
         refine hq_then ?_
         refine hc_true rfl ?_
         refine hc_seq ?_
         refine hc_region ?_
         refine hl_v rfl rfl rfl (rv_ev rfl) ?_
         refine hl_less (sx 0 rfl (sx 1 rfl (sx 2 rfl (sx 3 rfl (sx 4 rfl (sx 5 rfl (sx 18 rfl (sx 23 rfl (sx 68 rfl (sub_nil _)))))))))) (.refl _) ?_
         refine hl_nil ?_
         refine hq_then ?_
         refine hc_ret ?_
         refine hq_block_ret ?_
         refine hq_then_ret ?_
         refine hq_then_ret ?_
         refine hq_block_ret ?_
         refine hq_then_ret ?_
         exact hq_ans rfl rfl (congrArg _ (pB_no (fun hp => by first | (exact lnN_pos hp.sz (by assumption)) | (exact absurd hp.ou (by rw [← hnc]; assumption)) | (have h9 := hp.sq k (by omega); exact absurd h9.1 (by assumption)) | (have h9 := hp.sq k (by omega); rw [← hnc] at h9; exact absurd h9.2 (by assumption)) | (have h9 := hp.sq k (by omega); rcases h9.1.kind with ⟨a, b, c⟩ | ⟨a, b, c⟩ <;> omega) | (have h9 := hp.lt i (by omega); have h8 := h9.1.1; omega) | (have h9 := hp.lt i (by omega); exact absurd h9.1.2 (by assumption)) | (have h9 := hp.lt i (by omega); exact absurd h9.2 (by assumption)))).symm)
       ·
        have h16a := inR_notL h16
        refine hl_v rfl rfl rfl (rv_ev rfl) ?_
        refine hl_v rfl rfl rfl (rv_ev rfl) ?_
        refine hl_skip rfl rfl rfl ?_
        refine hl_skip rfl rfl rfl ?_
        refine hl_skip rfl rfl rfl ?_
        refine hl_skip rfl rfl rfl ?_
        refine hl_v rfl rfl rfl (rv_ev rfl) ?_
        refine hl_v rfl rfl rfl (rv_ev rfl) ?_
        refine hl_v rfl rfl rfl (rv_ev rfl) ?_
        refine hl_v rfl rfl rfl (rv_ev rfl) ?_
        refine hl_skip rfl rfl rfl ?_
        refine hl_skip rfl rfl rfl ?_
        refine hl_skip rfl rfl rfl ?_
        refine hl_skip rfl rfl rfl ?_
        refine hl_skip rfl rfl rfl ?_
        refine hl_v rfl rfl rfl (rv_ev rfl) ?_
        refine hl_less (sx 0 rfl (sx 1 rfl (sx 2 rfl (sx 3 rfl (sx 4 rfl (sx 5 rfl (sx 18 rfl (sx 23 rfl (sx 68 rfl (sub_nil _)))))))))) (.refl _) ?_
        refine hl_nil ?_
        refine hq_then ?_
        refine hc_true rfl ?_
        refine hc_seq ?_
        refine hc_region ?_
        refine hl_v rfl rfl rfl (rv_ev rfl) ?_
        refine hl_less (sx 0 rfl (sx 1 rfl (sx 2 rfl (sx 3 rfl (sx 4 rfl (sx 5 rfl (sx 18 rfl (sx 23 rfl (sx 68 rfl (sub_nil _)))))))))) (.refl _) ?_
        refine hl_nil ?_
        refine hq_then ?_
        refine hc_ret ?_
        refine hq_block_ret ?_
        refine hq_then_ret ?_
        refine hq_then_ret ?_
        refine hq_block_ret ?_
        refine hq_then_ret ?_
        exact hq_ans rfl rfl (congrArg _ (pB_no (fun hp => by first | (exact lnN_pos hp.sz (by assumption)) | (exact absurd hp.ou (by rw [← hnc]; assumption)) | (have h9 := hp.sq k (by omega); exact absurd h9.1 (by assumption)) | (have h9 := hp.sq k (by omega); rw [← hnc] at h9; exact absurd h9.2 (by assumption)) | (have h9 := hp.sq k (by omega); rcases h9.1.kind with ⟨a, b, c⟩ | ⟨a, b, c⟩ <;> omega) | (have h9 := hp.lt i (by omega); have h8 := h9.1.1; omega) | (have h9 := hp.lt i (by omega); exact absurd h9.1.2 (by assumption)) | (have h9 := hp.lt i (by omega); exact absurd h9.2 (by assumption)))).symm)
      ·
       refine hl_v rfl rfl rfl (rv_ev rfl) ?_
       refine hl_skip rfl rfl rfl ?_
       refine hl_skip rfl rfl rfl ?_
       refine hl_skip rfl rfl rfl ?_
       refine hl_v rfl rfl rfl (rv_ev rfl) ?_
       refine hl_v rfl rfl rfl (rv_ev rfl) ?_
       refine hl_skip rfl rfl rfl ?_
       refine hl_skip rfl rfl rfl ?_
       refine hl_skip rfl rfl rfl ?_
       refine hl_skip rfl rfl rfl ?_
       refine hl_v rfl rfl rfl (rv_ev rfl) ?_
       refine hl_v rfl rfl rfl (rv_ev rfl) ?_
       refine hl_v rfl rfl rfl (rv_ev rfl) ?_
       refine hl_v rfl rfl rfl (rv_ev rfl) ?_
       refine hl_skip rfl rfl rfl ?_
       refine hl_skip rfl rfl rfl ?_
       refine hl_skip rfl rfl rfl ?_
       refine hl_skip rfl rfl rfl ?_
       refine hl_skip rfl rfl rfl ?_
       refine hl_v rfl rfl rfl (rv_ev rfl) ?_
       refine hl_less (sx 0 rfl (sx 1 rfl (sx 2 rfl (sx 3 rfl (sx 4 rfl (sx 5 rfl (sx 18 rfl (sx 23 rfl (sx 68 rfl (sub_nil _)))))))))) (.refl _) ?_
       refine hl_nil ?_
       refine hq_then ?_
       refine hc_true rfl ?_
       refine hc_seq ?_
       refine hc_region ?_
       refine hl_v rfl rfl rfl (rv_ev rfl) ?_
       refine hl_less (sx 0 rfl (sx 1 rfl (sx 2 rfl (sx 3 rfl (sx 4 rfl (sx 5 rfl (sx 18 rfl (sx 23 rfl (sx 68 rfl (sub_nil _)))))))))) (.refl _) ?_
       refine hl_nil ?_
       refine hq_then ?_
       refine hc_ret ?_
       refine hq_block_ret ?_
       refine hq_then_ret ?_
       refine hq_then_ret ?_
       refine hq_block_ret ?_
       refine hq_then_ret ?_
       exact hq_ans rfl rfl (congrArg _ (pB_no (fun hp => by first | (exact lnN_pos hp.sz (by assumption)) | (exact absurd hp.ou (by rw [← hnc]; assumption)) | (have h9 := hp.sq k (by omega); exact absurd h9.1 (by assumption)) | (have h9 := hp.sq k (by omega); rw [← hnc] at h9; exact absurd h9.2 (by assumption)) | (have h9 := hp.sq k (by omega); rcases h9.1.kind with ⟨a, b, c⟩ | ⟨a, b, c⟩ <;> omega) | (have h9 := hp.lt i (by omega); have h8 := h9.1.1; omega) | (have h9 := hp.lt i (by omega); exact absurd h9.1.2 (by assumption)) | (have h9 := hp.lt i (by omega); exact absurd h9.2 (by assumption)))).symm)
    ·
     refine hl_v rfl rfl rfl (rv_ev rfl) ?_
     refine hl_skip rfl rfl rfl ?_
     refine hl_skip rfl rfl rfl ?_
     refine hl_skip rfl rfl rfl ?_
     refine hl_v rfl rfl rfl (rv_ev rfl) ?_
     refine hl_v rfl rfl rfl (rv_ev rfl) ?_
     refine hl_skip rfl rfl rfl ?_
     refine hl_skip rfl rfl rfl ?_
     refine hl_skip rfl rfl rfl ?_
     refine hl_skip rfl rfl rfl ?_
     refine hl_v rfl rfl rfl (rv_ev rfl) ?_
     refine hl_v rfl rfl rfl (rv_ev rfl) ?_
     refine hl_v rfl rfl rfl (rv_field (k0 := 0) rfl (by kernel_rfl) rfl) ?_
     refine hl_v rfl rfl rfl (rv_load rfl (by kernel_rfl) rfl (box_cell 0 rfl rfl)) ?_
     refine hl_eql rfl rfl rfl rfl rfl rfl (fun h19 => ?_) (fun h19 => ?_)
     ·
      refine hl_v rfl rfl rfl (rv_ev rfl) ?_
      refine hl_v rfl rfl rfl (rv_field (k0 := 1) rfl (by kernel_rfl) rfl) ?_
      refine hl_v rfl rfl rfl (rv_load rfl (by kernel_rfl) rfl (box_cell 0 rfl rfl)) ?_
      refine hl_callV rfl rfl rfl (rq_call (by kernel_rfl) rfl (fun w hm => ret_ans (l01In_ans ((n.ss.getD k sq0).it) 0 31 w))) ?_
      refine hl_bool (fun h20 => ?_) (fun h20 => ?_)
      ·
       obtain ⟨h20a, h20b⟩ := (inR_iff _ _ _).1 h20
       refine hl_v rfl rfl rfl (rv_ev rfl) ?_
       refine hl_v rfl rfl rfl (rv_ev rfl) ?_
       refine hl_v rfl rfl rfl (rv_field (k0 := 2) rfl (by kernel_rfl) rfl) ?_
       refine hl_v rfl rfl rfl (rv_load rfl (by kernel_rfl) rfl (box_cell 0 rfl rfl)) ?_
       refine hl_v rfl rfl rfl (rv_len rfl Try.underlying24 rfl (rd_old ((hr).sq.at (d := sq0) (k := k) (by omega)))) ?_
       refine hl_eql rfl rfl rfl rfl rfl rfl (fun h21 => ?_) (fun h21 => ?_)
       ·
        refine hl_v rfl rfl rfl (rv_ev rfl) ?_
        refine hl_v rfl rfl rfl (rv_ev rfl) ?_
        refine hl_v rfl rfl rfl (rv_ev rfl) ?_
        refine hl_v rfl rfl rfl (rv_ev rfl) ?_
        refine hl_v rfl rfl rfl (rv_field (k0 := 2) rfl (by kernel_rfl) rfl) ?_
        refine hl_v rfl rfl rfl (rv_load rfl (by kernel_rfl) rfl (box_cell 0 rfl rfl)) ?_
        refine hl_v rfl rfl rfl (rv_ev rfl) ?_
        refine hl_callV rfl rfl rfl (rq_call (by kernel_rfl) rfl (fun w hm => ret_ans (l20Below_ans ((n.ss.getD k sq0).xs) (lnN n) _ w ((rd_old ((hr).sq.at (d := sq0) (k := k) (by omega))) w hm) (by omega)))) ?_
        refine hl_bool (fun h22 => ?_) (fun h22 => ?_)
        ·
         have h22p := of_pB h22
         refine hl_v rfl rfl rfl (rv_ev rfl) ?_
         refine hl_v rfl rfl rfl (rv_ev rfl) ?_
         refine hl_less (sx 0 rfl (sx 1 rfl (sx 2 rfl (sx 3 rfl (sx 4 rfl (sx 5 rfl (sx 18 rfl (sx 23 rfl (sx 68 rfl (sub_nil _)))))))))) (.refl _) ?_
         refine hl_nil ?_
         refine hq_then ?_
         refine hc_false rfl ?_
         refine hc_skip ?_
         refine hq_block_normal ?_
         refine hq_then ?_
         refine hc_region ?_
         refine hl_v rfl rfl rfl (rv_ev rfl) ?_
         refine hl_v rfl rfl rfl (rv_add rfl rfl rfl (by constructor <;> omega)) ?_
         refine hl_v rfl rfl rfl (rv_ev rfl) ?_
         refine hl_less (sx 0 rfl (sx 1 rfl (sx 2 rfl (sx 3 rfl (sx 4 rfl (sx 5 rfl (sx 18 rfl (sx 23 rfl (sx 68 rfl (sub_nil _)))))))))) (.refl _) ?_
         refine hl_nil ?_
         exact hq_round1 (k + 1) ⟨by omega, fun i hi => by by_cases e : i = k; (subst e; exact ⟨by first | assumption | exact ⟨by omega⟩, by rw [← hnc]; assumption⟩); exact hqs i (by omega)⟩ (by omega) (sx 0 rfl (sx 1 rfl (sx 2 rfl (sx 3 rfl (sx 4 rfl (sx 18 rfl (sub_nil _))))))) ((.cons _ (.cons_cons _ .slnil)))
        ·
         have h22p := of_pBn h22
         refine hl_v rfl rfl rfl (rv_ev rfl) ?_
         refine hl_v rfl rfl rfl (rv_ev rfl) ?_
         refine hl_less (sx 0 rfl (sx 1 rfl (sx 2 rfl (sx 3 rfl (sx 4 rfl (sx 5 rfl (sx 18 rfl (sx 23 rfl (sx 68 rfl (sub_nil _)))))))))) (.refl _) ?_
         refine hl_nil ?_
         refine hq_then ?_
         refine hc_true rfl ?_
         refine hc_seq ?_
         refine hc_region ?_
         refine hl_v rfl rfl rfl (rv_ev rfl) ?_
         refine hl_less (sx 0 rfl (sx 1 rfl (sx 2 rfl (sx 3 rfl (sx 4 rfl (sx 5 rfl (sx 18 rfl (sx 23 rfl (sx 68 rfl (sub_nil _)))))))))) (.refl _) ?_
         refine hl_nil ?_
         refine hq_then ?_
         refine hc_ret ?_
         refine hq_block_ret ?_
         refine hq_then_ret ?_
         refine hq_then_ret ?_
         refine hq_block_ret ?_
         refine hq_then_ret ?_
         exact hq_ans rfl rfl (congrArg _ (pB_no (fun hp => by first | (exact lnN_pos hp.sz (by assumption)) | (exact absurd hp.ou (by rw [← hnc]; assumption)) | (have h9 := hp.sq k (by omega); exact absurd h9.1 (by assumption)) | (have h9 := hp.sq k (by omega); rw [← hnc] at h9; exact absurd h9.2 (by assumption)) | (have h9 := hp.sq k (by omega); rcases h9.1.kind with ⟨a, b, c⟩ | ⟨a, b, c⟩ <;> omega) | (have h9 := hp.lt i (by omega); have h8 := h9.1.1; omega) | (have h9 := hp.lt i (by omega); exact absurd h9.1.2 (by assumption)) | (have h9 := hp.lt i (by omega); exact absurd h9.2 (by assumption)))).symm)
       ·
        refine hl_v rfl rfl rfl (rv_ev rfl) ?_
        refine hl_v rfl rfl rfl (rv_ev rfl) ?_
        refine hl_v rfl rfl rfl (rv_ev rfl) ?_
        refine hl_v rfl rfl rfl (rv_ev rfl) ?_
        refine hl_skip rfl rfl rfl ?_
        refine hl_skip rfl rfl rfl ?_
        refine hl_skip rfl rfl rfl ?_
        refine hl_skip rfl rfl rfl ?_
        refine hl_skip rfl rfl rfl ?_
        refine hl_v rfl rfl rfl (rv_ev rfl) ?_
        refine hl_less (sx 0 rfl (sx 1 rfl (sx 2 rfl (sx 3 rfl (sx 4 rfl (sx 5 rfl (sx 18 rfl (sx 23 rfl (sx 68 rfl (sub_nil _)))))))))) (.refl _) ?_
        refine hl_nil ?_
        refine hq_then ?_
        refine hc_true rfl ?_
        refine hc_seq ?_
        refine hc_region ?_
        refine hl_v rfl rfl rfl (rv_ev rfl) ?_
        refine hl_less (sx 0 rfl (sx 1 rfl (sx 2 rfl (sx 3 rfl (sx 4 rfl (sx 5 rfl (sx 18 rfl (sx 23 rfl (sx 68 rfl (sub_nil _)))))))))) (.refl _) ?_
        refine hl_nil ?_
        refine hq_then ?_
        refine hc_ret ?_
        refine hq_block_ret ?_
        refine hq_then_ret ?_
        refine hq_then_ret ?_
        refine hq_block_ret ?_
        refine hq_then_ret ?_
        exact hq_ans rfl rfl (congrArg _ (pB_no (fun hp => by first | (exact lnN_pos hp.sz (by assumption)) | (exact absurd hp.ou (by rw [← hnc]; assumption)) | (have h9 := hp.sq k (by omega); exact absurd h9.1 (by assumption)) | (have h9 := hp.sq k (by omega); rw [← hnc] at h9; exact absurd h9.2 (by assumption)) | (have h9 := hp.sq k (by omega); rcases h9.1.kind with ⟨a, b, c⟩ | ⟨a, b, c⟩ <;> omega) | (have h9 := hp.lt i (by omega); have h8 := h9.1.1; omega) | (have h9 := hp.lt i (by omega); exact absurd h9.1.2 (by assumption)) | (have h9 := hp.lt i (by omega); exact absurd h9.2 (by assumption)))).symm)
      ·
       have h20a := inR_notL h20
       refine hl_v rfl rfl rfl (rv_ev rfl) ?_
       refine hl_v rfl rfl rfl (rv_ev rfl) ?_
       refine hl_skip rfl rfl rfl ?_
       refine hl_skip rfl rfl rfl ?_
       refine hl_skip rfl rfl rfl ?_
       refine hl_skip rfl rfl rfl ?_
       refine hl_v rfl rfl rfl (rv_ev rfl) ?_
       refine hl_v rfl rfl rfl (rv_ev rfl) ?_
       refine hl_v rfl rfl rfl (rv_ev rfl) ?_
       refine hl_v rfl rfl rfl (rv_ev rfl) ?_
       refine hl_skip rfl rfl rfl ?_
       refine hl_skip rfl rfl rfl ?_
       refine hl_skip rfl rfl rfl ?_
       refine hl_skip rfl rfl rfl ?_
       refine hl_skip rfl rfl rfl ?_
       refine hl_v rfl rfl rfl (rv_ev rfl) ?_
       refine hl_less (sx 0 rfl (sx 1 rfl (sx 2 rfl (sx 3 rfl (sx 4 rfl (sx 5 rfl (sx 18 rfl (sx 23 rfl (sx 68 rfl (sub_nil _)))))))))) (.refl _) ?_
       refine hl_nil ?_
       refine hq_then ?_
       refine hc_true rfl ?_
       refine hc_seq ?_
       refine hc_region ?_
       refine hl_v rfl rfl rfl (rv_ev rfl) ?_
       refine hl_less (sx 0 rfl (sx 1 rfl (sx 2 rfl (sx 3 rfl (sx 4 rfl (sx 5 rfl (sx 18 rfl (sx 23 rfl (sx 68 rfl (sub_nil _)))))))))) (.refl _) ?_
       refine hl_nil ?_
       refine hq_then ?_
       refine hc_ret ?_
       refine hq_block_ret ?_
       refine hq_then_ret ?_
       refine hq_then_ret ?_
       refine hq_block_ret ?_
       refine hq_then_ret ?_
       exact hq_ans rfl rfl (congrArg _ (pB_no (fun hp => by first | (exact lnN_pos hp.sz (by assumption)) | (exact absurd hp.ou (by rw [← hnc]; assumption)) | (have h9 := hp.sq k (by omega); exact absurd h9.1 (by assumption)) | (have h9 := hp.sq k (by omega); rw [← hnc] at h9; exact absurd h9.2 (by assumption)) | (have h9 := hp.sq k (by omega); rcases h9.1.kind with ⟨a, b, c⟩ | ⟨a, b, c⟩ <;> omega) | (have h9 := hp.lt i (by omega); have h8 := h9.1.1; omega) | (have h9 := hp.lt i (by omega); exact absurd h9.1.2 (by assumption)) | (have h9 := hp.lt i (by omega); exact absurd h9.2 (by assumption)))).symm)
     ·
      refine hl_v rfl rfl rfl (rv_ev rfl) ?_
      refine hl_skip rfl rfl rfl ?_
      refine hl_skip rfl rfl rfl ?_
      refine hl_skip rfl rfl rfl ?_
      refine hl_v rfl rfl rfl (rv_ev rfl) ?_
      refine hl_v rfl rfl rfl (rv_ev rfl) ?_
      refine hl_skip rfl rfl rfl ?_
      refine hl_skip rfl rfl rfl ?_
      refine hl_skip rfl rfl rfl ?_
      refine hl_skip rfl rfl rfl ?_
      refine hl_v rfl rfl rfl (rv_ev rfl) ?_
      refine hl_v rfl rfl rfl (rv_ev rfl) ?_
      refine hl_v rfl rfl rfl (rv_ev rfl) ?_
      refine hl_v rfl rfl rfl (rv_ev rfl) ?_
      refine hl_skip rfl rfl rfl ?_
      refine hl_skip rfl rfl rfl ?_
      refine hl_skip rfl rfl rfl ?_
      refine hl_skip rfl rfl rfl ?_
      refine hl_skip rfl rfl rfl ?_
      refine hl_v rfl rfl rfl (rv_ev rfl) ?_
      refine hl_less (sx 0 rfl (sx 1 rfl (sx 2 rfl (sx 3 rfl (sx 4 rfl (sx 5 rfl (sx 18 rfl (sx 23 rfl (sx 68 rfl (sub_nil _)))))))))) (.refl _) ?_
      refine hl_nil ?_
      refine hq_then ?_
      refine hc_true rfl ?_
      refine hc_seq ?_
      refine hc_region ?_
      refine hl_v rfl rfl rfl (rv_ev rfl) ?_
      refine hl_less (sx 0 rfl (sx 1 rfl (sx 2 rfl (sx 3 rfl (sx 4 rfl (sx 5 rfl (sx 18 rfl (sx 23 rfl (sx 68 rfl (sub_nil _)))))))))) (.refl _) ?_
      refine hl_nil ?_
      refine hq_then ?_
      refine hc_ret ?_
      refine hq_block_ret ?_
      refine hq_then_ret ?_
      refine hq_then_ret ?_
      refine hq_block_ret ?_
      refine hq_then_ret ?_
      exact hq_ans rfl rfl (congrArg _ (pB_no (fun hp => by first | (exact lnN_pos hp.sz (by assumption)) | (exact absurd hp.ou (by rw [← hnc]; assumption)) | (have h9 := hp.sq k (by omega); exact absurd h9.1 (by assumption)) | (have h9 := hp.sq k (by omega); rw [← hnc] at h9; exact absurd h9.2 (by assumption)) | (have h9 := hp.sq k (by omega); rcases h9.1.kind with ⟨a, b, c⟩ | ⟨a, b, c⟩ <;> omega) | (have h9 := hp.lt i (by omega); have h8 := h9.1.1; omega) | (have h9 := hp.lt i (by omega); exact absurd h9.1.2 (by assumption)) | (have h9 := hp.lt i (by omega); exact absurd h9.2 (by assumption)))).symm)
   ·
    refine hl_less (sx 0 rfl (sx 1 rfl (sx 2 rfl (sx 3 rfl (sx 4 rfl (sx 18 rfl (sx 23 rfl (sub_nil _)))))))) (.refl _) ?_
    refine hl_nil ?_
    refine hq_then ?_
    refine hc_false rfl ?_
    refine hc_exit ?_
    refine hq_then_exit ?_
    refine hq_then_exit ?_
    refine hq_block_exit ?_
    refine hq_then ?_
    refine hc_seq ?_
    refine hc_seq ?_
    refine hc_region ?_
    refine hl_v rfl rfl rfl (rv_ev rfl) ?_
    refine hl_less (sx 0 rfl (sx 1 rfl (sx 2 rfl (sx 3 rfl (sx 4 rfl (sx 6 rfl (sx 18 rfl (sx 23 rfl (sub_nil _))))))))) (.refl _) ?_
    refine hl_nil ?_
    refine hq_then ?_
    refine hc_block ?_
    refine hc_loop1 (α := Nat) (fun i => [boxE b1 #[.int .i64 n.ins, n.sv, n.lv, n.ov] 37]) (fun i => [(0, .agg #[.int .i64 n.ins, n.sv, n.lv, n.ov]), (1, .pointer (some ⟨b1, 0, none⟩)), (2, .bool false), (3, .int .i64 (lnN n)), (6, .int .i64 (i : Int)), (18, .bool false), (23, .bool false)]) (fun i => i ≤ n.ls.length ∧ ∀ j, j < i → LutP (n.fst + j) (n.ls.getD j lt0)) (fun i => n.ls.length - i) 0 ⟨Nat.zero_le _, fun i hi => absurd hi (by omega)⟩ (sx 0 rfl (sx 1 rfl (sx 2 rfl (sx 3 rfl (sx 6 rfl (sx 18 rfl (sx 23 rfl (sub_nil _)))))))) ((.cons_cons _ .slnil)) ?_
    intro i hi23
    obtain ⟨hi, hql⟩ := hi23
    refine hc_seq ?_
    refine hc_seq ?_
    refine hc_region ?_
    refine hl_v rfl rfl rfl (rv_ev rfl) ?_
    refine hl_v rfl rfl rfl (rv_field (k0 := 2) rfl (by kernel_rfl) rfl) ?_
    refine hl_v rfl rfl rfl (rv_load rfl (by kernel_rfl) rfl (box_cell 0 rfl rfl)) ?_
    refine hl_v rfl rfl rfl (rv_len rfl Try.underlying35 rfl (rd_old ((hr).lt.row))) ?_
    refine hl_lss rfl rfl rfl rfl rfl rfl (fun h24 => ?_) (fun h24 => ?_)
    ·
     refine hl_less (sx 0 rfl (sx 1 rfl (sx 2 rfl (sx 3 rfl (sx 6 rfl (sx 18 rfl (sx 23 rfl (sx 73 rfl (sub_nil _))))))))) (.refl _) ?_
     refine hl_nil ?_
     refine hq_then ?_
     refine hc_true rfl ?_
     refine hc_skip ?_
     refine hq_then ?_
     refine hc_seq ?_
     refine hc_block ?_
     refine hc_seq ?_
     refine hc_region ?_
     refine hl_v rfl rfl rfl (rv_field (k0 := 2) rfl (by kernel_rfl) rfl) ?_
     refine hl_v rfl rfl rfl (rv_load rfl (by kernel_rfl) rfl (box_cell 0 rfl rfl)) ?_
     refine hl_v rfl rfl rfl (rv_ev rfl) ?_
     refine hl_v rfl rfl rfl (rv_index (s := 2) rfl Try.underlying35 (by kernel_rfl) rfl rfl (rd_old ((hr).lt.row)) (by omega) (by first | omega | (simp only [List.length_set]; omega))) ?_
     refine hl_v rfl rfl rfl (rv_loadElN (us := [(n.ls.getD i lt0).iv, .int .i64 ((n.ls.getD i lt0).ma)]) rfl (by kernel_rfl) (by kernel_rfl) rfl (rd_old ((hr).lt.row)) (by omega) rfl (flat_atN ltC 2 (fun _ => rfl) n.ls lt0 (show i < _ by first | omega | (simp only [List.length_set]; omega)) rfl)) ?_
     refine hl_box rfl rfl rfl (rq_alloc (z := .agg #[.slice none 0 0, .int .i64 0]) rfl (by kernel_rfl)) ?_
     intro b25
     refine hl_storeBoxN (i := 0) (off := 0) (us := [(n.ls.getD i lt0).iv, .int .i64 ((n.ls.getD i lt0).ma)])  (l' := [boxE b25 #[(n.ls.getD i lt0).iv, .int .i64 ((n.ls.getD i lt0).ma)] 69, boxE b1 #[.int .i64 n.ins, n.sv, n.lv, n.ov] 37]) rfl rfl rfl (by kernel_rfl) rfl rfl rfl (all_cons (hr.lt.at (d := lt0) (k := i) (by omega)).one (all_cons rfl all_nil)) rfl rfl rfl ?_
     refine hl_less (sx 0 rfl (sx 1 rfl (sx 2 rfl (sx 3 rfl (sx 6 rfl (sx 7 rfl (sx 18 rfl (sx 23 rfl (sx 73 rfl (sub_nil _)))))))))) (.refl _) ?_
     refine hl_nil ?_
     refine hq_then ?_
     refine hc_seq ?_
     rcases Bool.eq_false_or_eq_true (pB (TabP (((n.ls.getD i lt0).xs).length : Int) ((n.ls.getD i lt0).ma))) with hb26 | hb26
     ·
      have hb26p := of_pB hb26
      rcases Bool.eq_false_or_eq_true (pB (BelowP ((n.ls.getD i lt0).xs) (n.fst + (i : Int)))) with hb27 | hb27
      ·
       have hb27p := of_pB hb27
       refine hc_draw (by kernel_rfl) 18 [0, 1, 2, 3, 4, 5, 6, 7, 8, 9, 10, 11, 12, 13, 14, 15, 16, 17] (List.take 18 _) (List.drop 18 _) [[], [0], [1], [], [3], [2, 4], [5], [6], [7], [8], [8, 9], [8], [8, 11], [8], [8, 12, 13], [8, 10, 14], [8, 15], [8, 16]] [81, 82, 83, 84, 85, 86, 87, 88, 89, 90, 91, 92, 93, 94, 95, 96, 97, 98] (fun i_ vs_ v_ p_ => match i_ with | 0 => v_ = .pointer (some ⟨b25, 0 + 0, none⟩) ∧ p_ = [] | 1 => v_ = (n.ls.getD i lt0).iv ∧ p_ = [] | 2 => v_ = .int .i64 (((n.ls.getD i lt0).xs).length : Int) ∧ p_ = [] | 3 => v_ = .pointer (some ⟨b25, 0 + 1, none⟩) ∧ p_ = [] | 4 => v_ = .int .i64 ((n.ls.getD i lt0).ma) ∧ p_ = [] | 5 => v_ = .agg #[.int .i64 (((n.ls.getD i lt0).xs).length : Int), .int .i64 ((n.ls.getD i lt0).ma)] ∧ p_ = [] | 6 => v_ = .bool true ∧ p_ = [] | 7 => v_ = .bool false ∧ p_ = [] | 8 => v_ = .bool false ∧ p_ = [] | 9 => v_ = .pointer (some ⟨b25, 0 + 0, none⟩) ∧ p_ = [] | 10 => v_ = (n.ls.getD i lt0).iv ∧ p_ = [] | 11 => v_ = .agg #[.int .i64 n.ins, n.sv, n.lv, n.ov] ∧ p_ = [] | 12 => v_ = .int .i64 n.fst ∧ p_ = [] | 13 => v_ = .int .i64 (i : Int) ∧ p_ = [] | 14 => v_ = .int .i64 (n.fst + (i : Int)) ∧ p_ = [] | 15 => v_ = .bool true ∧ p_ = [] | 16 => v_ = .bool false ∧ p_ = [] | 17 => v_ = .bool false ∧ p_ = [] | _ => True) (List.take_append_drop 18 _).symm (by kernel_rfl) (by kernel_rfl) rfl rfl ?_ ?_
       ·
        refine ⟨?_, ?_, ?_, ?_, ?_, ?_, ?_, ?_, ?_, ?_, ?_, ?_, ?_, ?_, ?_, ?_, ?_, ?_, trivial⟩
        ·
         intro vf pf hR
         refine Or.inl ⟨rfl, ?_⟩
         refine rq_less (sx 7 rfl (sub_nil _)) (List.sublist_append_right _ _) ?_
         exact rq_v (rv_field (k0 := 0) rfl (by kernel_rfl) rfl)
        ·
         intro vf pf hR
         have e0 : (vf 0) = .pointer (some ⟨b25, 0 + 0, none⟩) ∧ (pf 0) = [] := hR 0 (by decide)
         refine Or.inl ⟨rfl, ?_⟩
         refine rq_less (sx 81 (congrArg some e0.1) (sub_nil _)) (List.sublist_append_right _ _) ?_
         exact rq_v (rv_load rfl (by kernel_rfl) rfl (box_cell 0 rfl rfl))
        ·
         intro vf pf hR
         have e1 : (vf 1) = (n.ls.getD i lt0).iv ∧ (pf 1) = [] := hR 1 (by decide)
         refine Or.inl ⟨rfl, ?_⟩
         refine rq_less (sx 82 (congrArg some e1.1) (sub_nil _)) (List.sublist_append_right _ _) ?_
         exact rq_v (rv_len rfl Try.underlying24 rfl (rd_old ((hr).lt.at (d := lt0) (k := i) (by omega))))
        ·
         intro vf pf hR
         refine Or.inl ⟨rfl, ?_⟩
         refine rq_less (sx 7 rfl (sub_nil _)) (List.sublist_append_right _ _) ?_
         exact rq_v (rv_field (k0 := 1) rfl (by kernel_rfl) rfl)
        ·
         intro vf pf hR
         have e3 : (vf 3) = .pointer (some ⟨b25, 0 + 1, none⟩) ∧ (pf 3) = [] := hR 3 (by decide)
         refine Or.inl ⟨rfl, ?_⟩
         refine rq_less (sx 84 (congrArg some e3.1) (sub_nil _)) (List.sublist_append_right _ _) ?_
         exact rq_v (rv_load rfl (by kernel_rfl) rfl (box_cell 0 rfl rfl))
        ·
         intro vf pf hR
         have e2 : (vf 2) = .int .i64 (((n.ls.getD i lt0).xs).length : Int) ∧ (pf 2) = [] := hR 2 (by decide)
         have e4 : (vf 4) = .int .i64 ((n.ls.getD i lt0).ma) ∧ (pf 4) = [] := hR 4 (by decide)
         refine Or.inl ⟨rfl, ?_⟩
         refine rq_less (sx 83 (congrArg some e2.1) (sx 85 (congrArg some e4.1) (sub_nil _))) (List.sublist_append_right _ _) ?_
         exact rq_v (rv_build (cs := #[.int .i64 (((n.ls.getD i lt0).xs).length : Int), .int .i64 ((n.ls.getD i lt0).ma)]) rfl rfl (by kernel_rfl))
        ·
         intro vf pf hR
         have e5 : (vf 5) = .agg #[.int .i64 (((n.ls.getD i lt0).xs).length : Int), .int .i64 ((n.ls.getD i lt0).ma)] ∧ (pf 5) = [] := hR 5 (by decide)
         refine Or.inl ⟨rfl, ?_⟩
         refine rq_less (sx 86 (congrArg some e5.1) (sub_nil _)) (List.sublist_append_right _ _) ?_
         exact rq_mono (rq_call (by kernel_rfl) rfl (fun w hm => ret_ans (specTabOk_ans (((n.ls.getD i lt0).xs).length : Int) ((n.ls.getD i lt0).ma) w))) (fun _ _ h => ⟨h.1.trans (congrArg Value.bool hb26), h.2⟩)
        ·
         intro vf pf hR
         have e6 : (vf 6) = .bool true ∧ (pf 6) = [] := hR 6 (by decide)
         refine Or.inl ⟨rfl, ?_⟩
         refine rq_less (sx 87 (congrArg some e6.1) (sub_nil _)) (List.sublist_append_right _ _) ?_
         exact rq_v (rv_ev rfl)
        ·
         intro vf pf hR
         have e7 : (vf 7) = .bool false ∧ (pf 7) = [] := hR 7 (by decide)
         refine Or.inl ⟨rfl, ?_⟩
         refine rq_less (sx 88 (congrArg some e7.1) (sub_nil _)) (List.sublist_append_right _ _) ?_
         exact rq_v (rv_ev rfl)
        ·
         intro vf pf hR
         have e8 : (vf 8) = .bool false ∧ (pf 8) = [] := hR 8 (by decide)
         refine Or.inl ⟨want_of (congrArg some e8.1) rfl, ?_⟩
         refine rq_less (sx 7 rfl (sub_nil _)) (List.sublist_append_right _ _) ?_
         exact rq_v (rv_field (k0 := 0) rfl (by kernel_rfl) rfl)
        ·
         intro vf pf hR
         have e8 : (vf 8) = .bool false ∧ (pf 8) = [] := hR 8 (by decide)
         have e9 : (vf 9) = .pointer (some ⟨b25, 0 + 0, none⟩) ∧ (pf 9) = [] := hR 9 (by decide)
         refine Or.inl ⟨want_of (congrArg some e8.1) rfl, ?_⟩
         refine rq_less (sx 90 (congrArg some e9.1) (sub_nil _)) (List.sublist_append_right _ _) ?_
         exact rq_v (rv_load rfl (by kernel_rfl) rfl (box_cell 0 rfl rfl))
        ·
         intro vf pf hR
         have e8 : (vf 8) = .bool false ∧ (pf 8) = [] := hR 8 (by decide)
         refine Or.inl ⟨want_of (congrArg some e8.1) rfl, ?_⟩
         refine rq_less (sx 1 rfl (sub_nil _)) (List.sublist_append_right _ _) ?_
         exact rq_v (rv_loadN (cs := [.int .i64 n.ins, n.sv, n.lv, n.ov]) rfl (by kernel_rfl) (by kernel_rfl) rfl rfl (box_part 1 rfl 0 rfl))
        ·
         intro vf pf hR
         have e8 : (vf 8) = .bool false ∧ (pf 8) = [] := hR 8 (by decide)
         have e11 : (vf 11) = .agg #[.int .i64 n.ins, n.sv, n.lv, n.ov] ∧ (pf 11) = [] := hR 11 (by decide)
         refine Or.inl ⟨want_of (congrArg some e8.1) rfl, ?_⟩
         refine rq_less (sx 92 (congrArg some e11.1) (sub_nil _)) (List.sublist_append_right _ _) ?_
         exact (rq_call (by kernel_rfl) rfl (fun w hm => ret_ans (l20First_ans n w (hr.below hm.bel) hsz)))
        ·
         intro vf pf hR
         have e8 : (vf 8) = .bool false ∧ (pf 8) = [] := hR 8 (by decide)
         refine Or.inl ⟨want_of (congrArg some e8.1) rfl, ?_⟩
         refine rq_less (sx 6 rfl (sub_nil _)) (List.sublist_append_right _ _) ?_
         exact rq_v (rv_ev rfl)
        ·
         intro vf pf hR
         have e8 : (vf 8) = .bool false ∧ (pf 8) = [] := hR 8 (by decide)
         have e12 : (vf 12) = .int .i64 n.fst ∧ (pf 12) = [] := hR 12 (by decide)
         have e13 : (vf 13) = .int .i64 (i : Int) ∧ (pf 13) = [] := hR 13 (by decide)
         refine Or.inl ⟨want_of (congrArg some e8.1) rfl, ?_⟩
         refine rq_less (sx 93 (congrArg some e12.1) (sx 94 (congrArg some e13.1) (sub_nil _))) (List.sublist_append_right _ _) ?_
         exact rq_v (rv_add rfl rfl rfl (by constructor <;> omega))
        ·
         intro vf pf hR
         have e8 : (vf 8) = .bool false ∧ (pf 8) = [] := hR 8 (by decide)
         have e10 : (vf 10) = (n.ls.getD i lt0).iv ∧ (pf 10) = [] := hR 10 (by decide)
         have e14 : (vf 14) = .int .i64 (n.fst + (i : Int)) ∧ (pf 14) = [] := hR 14 (by decide)
         refine Or.inl ⟨want_of (congrArg some e8.1) rfl, ?_⟩
         refine rq_less (sx 91 (congrArg some e10.1) (sx 95 (congrArg some e14.1) (sub_nil _))) (List.sublist_append_right _ _) ?_
         exact rq_mono (rq_call (by kernel_rfl) rfl (fun w hm => ret_ans (l20Below_ans ((n.ls.getD i lt0).xs) (n.fst + (i : Int)) _ w ((rd_old ((hr).lt.at (d := lt0) (k := i) (by omega))) w hm) (by omega)))) (fun _ _ h => ⟨h.1.trans (congrArg Value.bool hb27), h.2⟩)
        ·
         intro vf pf hR
         have e8 : (vf 8) = .bool false ∧ (pf 8) = [] := hR 8 (by decide)
         have e15 : (vf 15) = .bool true ∧ (pf 15) = [] := hR 15 (by decide)
         refine Or.inl ⟨want_of (congrArg some e8.1) rfl, ?_⟩
         refine rq_less (sx 96 (congrArg some e15.1) (sub_nil _)) (List.sublist_append_right _ _) ?_
         exact rq_v (rv_ev rfl)
        ·
         intro vf pf hR
         have e8 : (vf 8) = .bool false ∧ (pf 8) = [] := hR 8 (by decide)
         have e16 : (vf 16) = .bool false ∧ (pf 16) = [] := hR 16 (by decide)
         refine Or.inl ⟨rfl, ?_⟩
         refine rq_less (sx 89 (congrArg some e8.1) (sx 97 (congrArg some e16.1) (sub_nil _))) (List.sublist_append_right _ _) ?_
         exact rq_v (rv_ev rfl)
       ·
        intro vf pf hR
        have e17 : (vf 17) = .bool false ∧ (pf 17) = [] := hR 17 (by decide)
        refine hl_less (l' := [boxE b25 #[(n.ls.getD i lt0).iv, .int .i64 ((n.ls.getD i lt0).ma)] 69, boxE b1 #[.int .i64 n.ins, n.sv, n.lv, n.ov] 37]) (sx 0 rfl (sx 1 rfl (sx 2 rfl (sx 3 rfl (sx 6 rfl (sx 7 rfl (sx 18 rfl (sx 23 rfl (sx 73 rfl (sx 98 (congrArg some e17.1) (sub_nil _))))))))))) (List.sublist_append_right _ _) ?_
        simp only [List.drop_succ_cons, List.drop_zero]
        refine hl_less (sx 0 rfl (sx 1 rfl (sx 2 rfl (sx 3 rfl (sx 6 rfl (sx 7 rfl (sx 18 rfl (sx 23 rfl (sx 73 rfl (sx 98 rfl (sub_nil _))))))))))) (.refl _) ?_
        refine hl_nil ?_
        refine hq_then ?_
        refine hc_false rfl ?_
        refine hc_skip ?_
        refine hq_block_normal ?_
        refine hq_then ?_
        refine hc_region ?_
        refine hl_v rfl rfl rfl (rv_ev rfl) ?_
        refine hl_v rfl rfl rfl (rv_add rfl rfl rfl (by constructor <;> omega)) ?_
        refine hl_v rfl rfl rfl (rv_ev rfl) ?_
        refine hl_less (sx 0 rfl (sx 1 rfl (sx 2 rfl (sx 3 rfl (sx 6 rfl (sx 7 rfl (sx 18 rfl (sx 23 rfl (sx 73 rfl (sx 98 rfl (sub_nil _))))))))))) (.refl _) ?_
        refine hl_nil ?_
        exact hq_round1 (i + 1) ⟨by omega, fun j hj => by by_cases e : j = i; (subst e; exact ⟨⟨by first | omega | exact LutP_len (by assumption), by assumption⟩, by assumption⟩); exact hql j (by omega)⟩ (by omega) (sx 0 rfl (sx 1 rfl (sx 2 rfl (sx 3 rfl (sx 6 rfl (sx 18 rfl (sx 23 rfl (sub_nil _)))))))) ((.cons _ (.cons_cons _ .slnil)))
      ·
       have hb27p := of_pBn hb27
       refine hc_draw (by kernel_rfl) 18 [0, 1, 2, 3, 4, 5, 6, 7, 8, 9, 10, 11, 12, 13, 14, 15, 16, 17] (List.take 18 _) (List.drop 18 _) [[], [0], [1], [], [3], [2, 4], [5], [6], [7], [8], [8, 9], [8], [8, 11], [8], [8, 12, 13], [8, 10, 14], [8, 15], [8, 16]] [81, 82, 83, 84, 85, 86, 87, 88, 89, 90, 91, 92, 93, 94, 95, 96, 97, 98] (fun i_ vs_ v_ p_ => match i_ with | 0 => v_ = .pointer (some ⟨b25, 0 + 0, none⟩) ∧ p_ = [] | 1 => v_ = (n.ls.getD i lt0).iv ∧ p_ = [] | 2 => v_ = .int .i64 (((n.ls.getD i lt0).xs).length : Int) ∧ p_ = [] | 3 => v_ = .pointer (some ⟨b25, 0 + 1, none⟩) ∧ p_ = [] | 4 => v_ = .int .i64 ((n.ls.getD i lt0).ma) ∧ p_ = [] | 5 => v_ = .agg #[.int .i64 (((n.ls.getD i lt0).xs).length : Int), .int .i64 ((n.ls.getD i lt0).ma)] ∧ p_ = [] | 6 => v_ = .bool true ∧ p_ = [] | 7 => v_ = .bool false ∧ p_ = [] | 8 => v_ = .bool false ∧ p_ = [] | 9 => v_ = .pointer (some ⟨b25, 0 + 0, none⟩) ∧ p_ = [] | 10 => v_ = (n.ls.getD i lt0).iv ∧ p_ = [] | 11 => v_ = .agg #[.int .i64 n.ins, n.sv, n.lv, n.ov] ∧ p_ = [] | 12 => v_ = .int .i64 n.fst ∧ p_ = [] | 13 => v_ = .int .i64 (i : Int) ∧ p_ = [] | 14 => v_ = .int .i64 (n.fst + (i : Int)) ∧ p_ = [] | 15 => v_ = .bool false ∧ p_ = [] | 16 => v_ = .bool true ∧ p_ = [] | 17 => v_ = .bool true ∧ p_ = [] | _ => True) (List.take_append_drop 18 _).symm (by kernel_rfl) (by kernel_rfl) rfl rfl ?_ ?_
       ·
        refine ⟨?_, ?_, ?_, ?_, ?_, ?_, ?_, ?_, ?_, ?_, ?_, ?_, ?_, ?_, ?_, ?_, ?_, ?_, trivial⟩
        ·
         intro vf pf hR
         refine Or.inl ⟨rfl, ?_⟩
         refine rq_less (sx 7 rfl (sub_nil _)) (List.sublist_append_right _ _) ?_
         exact rq_v (rv_field (k0 := 0) rfl (by kernel_rfl) rfl)
        ·
         intro vf pf hR
         have e0 : (vf 0) = .pointer (some ⟨b25, 0 + 0, none⟩) ∧ (pf 0) = [] := hR 0 (by decide)
         refine Or.inl ⟨rfl, ?_⟩
         refine rq_less (sx 81 (congrArg some e0.1) (sub_nil _)) (List.sublist_append_right _ _) ?_
         exact rq_v (rv_load rfl (by kernel_rfl) rfl (box_cell 0 rfl rfl))
        ·
         intro vf pf hR
         have e1 : (vf 1) = (n.ls.getD i lt0).iv ∧ (pf 1) = [] := hR 1 (by decide)
         refine Or.inl ⟨rfl, ?_⟩
         refine rq_less (sx 82 (congrArg some e1.1) (sub_nil _)) (List.sublist_append_right _ _) ?_
         exact rq_v (rv_len rfl Try.underlying24 rfl (rd_old ((hr).lt.at (d := lt0) (k := i) (by omega))))
        ·
         intro vf pf hR
         refine Or.inl ⟨rfl, ?_⟩
         refine rq_less (sx 7 rfl (sub_nil _)) (List.sublist_append_right _ _) ?_
         exact rq_v (rv_field (k0 := 1) rfl (by kernel_rfl) rfl)
        ·
         intro vf pf hR
         have e3 : (vf 3) = .pointer (some ⟨b25, 0 + 1, none⟩) ∧ (pf 3) = [] := hR 3 (by decide)
         refine Or.inl ⟨rfl, ?_⟩
         refine rq_less (sx 84 (congrArg some e3.1) (sub_nil _)) (List.sublist_append_right _ _) ?_
         exact rq_v (rv_load rfl (by kernel_rfl) rfl (box_cell 0 rfl rfl))
        ·
         intro vf pf hR
         have e2 : (vf 2) = .int .i64 (((n.ls.getD i lt0).xs).length : Int) ∧ (pf 2) = [] := hR 2 (by decide)
         have e4 : (vf 4) = .int .i64 ((n.ls.getD i lt0).ma) ∧ (pf 4) = [] := hR 4 (by decide)
         refine Or.inl ⟨rfl, ?_⟩
         refine rq_less (sx 83 (congrArg some e2.1) (sx 85 (congrArg some e4.1) (sub_nil _))) (List.sublist_append_right _ _) ?_
         exact rq_v (rv_build (cs := #[.int .i64 (((n.ls.getD i lt0).xs).length : Int), .int .i64 ((n.ls.getD i lt0).ma)]) rfl rfl (by kernel_rfl))
        ·
         intro vf pf hR
         have e5 : (vf 5) = .agg #[.int .i64 (((n.ls.getD i lt0).xs).length : Int), .int .i64 ((n.ls.getD i lt0).ma)] ∧ (pf 5) = [] := hR 5 (by decide)
         refine Or.inl ⟨rfl, ?_⟩
         refine rq_less (sx 86 (congrArg some e5.1) (sub_nil _)) (List.sublist_append_right _ _) ?_
         exact rq_mono (rq_call (by kernel_rfl) rfl (fun w hm => ret_ans (specTabOk_ans (((n.ls.getD i lt0).xs).length : Int) ((n.ls.getD i lt0).ma) w))) (fun _ _ h => ⟨h.1.trans (congrArg Value.bool hb26), h.2⟩)
        ·
         intro vf pf hR
         have e6 : (vf 6) = .bool true ∧ (pf 6) = [] := hR 6 (by decide)
         refine Or.inl ⟨rfl, ?_⟩
         refine rq_less (sx 87 (congrArg some e6.1) (sub_nil _)) (List.sublist_append_right _ _) ?_
         exact rq_v (rv_ev rfl)
        ·
         intro vf pf hR
         have e7 : (vf 7) = .bool false ∧ (pf 7) = [] := hR 7 (by decide)
         refine Or.inl ⟨rfl, ?_⟩
         refine rq_less (sx 88 (congrArg some e7.1) (sub_nil _)) (List.sublist_append_right _ _) ?_
         exact rq_v (rv_ev rfl)
        ·
         intro vf pf hR
         have e8 : (vf 8) = .bool false ∧ (pf 8) = [] := hR 8 (by decide)
         refine Or.inl ⟨want_of (congrArg some e8.1) rfl, ?_⟩
         refine rq_less (sx 7 rfl (sub_nil _)) (List.sublist_append_right _ _) ?_
         exact rq_v (rv_field (k0 := 0) rfl (by kernel_rfl) rfl)
        ·
         intro vf pf hR
         have e8 : (vf 8) = .bool false ∧ (pf 8) = [] := hR 8 (by decide)
         have e9 : (vf 9) = .pointer (some ⟨b25, 0 + 0, none⟩) ∧ (pf 9) = [] := hR 9 (by decide)
         refine Or.inl ⟨want_of (congrArg some e8.1) rfl, ?_⟩
         refine rq_less (sx 90 (congrArg some e9.1) (sub_nil _)) (List.sublist_append_right _ _) ?_
         exact rq_v (rv_load rfl (by kernel_rfl) rfl (box_cell 0 rfl rfl))
        ·
         intro vf pf hR
         have e8 : (vf 8) = .bool false ∧ (pf 8) = [] := hR 8 (by decide)
         refine Or.inl ⟨want_of (congrArg some e8.1) rfl, ?_⟩
         refine rq_less (sx 1 rfl (sub_nil _)) (List.sublist_append_right _ _) ?_
         exact rq_v (rv_loadN (cs := [.int .i64 n.ins, n.sv, n.lv, n.ov]) rfl (by kernel_rfl) (by kernel_rfl) rfl rfl (box_part 1 rfl 0 rfl))
        ·
         intro vf pf hR
         have e8 : (vf 8) = .bool false ∧ (pf 8) = [] := hR 8 (by decide)
         have e11 : (vf 11) = .agg #[.int .i64 n.ins, n.sv, n.lv, n.ov] ∧ (pf 11) = [] := hR 11 (by decide)
         refine Or.inl ⟨want_of (congrArg some e8.1) rfl, ?_⟩
         refine rq_less (sx 92 (congrArg some e11.1) (sub_nil _)) (List.sublist_append_right _ _) ?_
         exact (rq_call (by kernel_rfl) rfl (fun w hm => ret_ans (l20First_ans n w (hr.below hm.bel) hsz)))
        ·
         intro vf pf hR
         have e8 : (vf 8) = .bool false ∧ (pf 8) = [] := hR 8 (by decide)
         refine Or.inl ⟨want_of (congrArg some e8.1) rfl, ?_⟩
         refine rq_less (sx 6 rfl (sub_nil _)) (List.sublist_append_right _ _) ?_
         exact rq_v (rv_ev rfl)
        ·
         intro vf pf hR
         have e8 : (vf 8) = .bool false ∧ (pf 8) = [] := hR 8 (by decide)
         have e12 : (vf 12) = .int .i64 n.fst ∧ (pf 12) = [] := hR 12 (by decide)
         have e13 : (vf 13) = .int .i64 (i : Int) ∧ (pf 13) = [] := hR 13 (by decide)
         refine Or.inl ⟨want_of (congrArg some e8.1) rfl, ?_⟩
         refine rq_less (sx 93 (congrArg some e12.1) (sx 94 (congrArg some e13.1) (sub_nil _))) (List.sublist_append_right _ _) ?_
         exact rq_v (rv_add rfl rfl rfl (by constructor <;> omega))
        ·
         intro vf pf hR
         have e8 : (vf 8) = .bool false ∧ (pf 8) = [] := hR 8 (by decide)
         have e10 : (vf 10) = (n.ls.getD i lt0).iv ∧ (pf 10) = [] := hR 10 (by decide)
         have e14 : (vf 14) = .int .i64 (n.fst + (i : Int)) ∧ (pf 14) = [] := hR 14 (by decide)
         refine Or.inl ⟨want_of (congrArg some e8.1) rfl, ?_⟩
         refine rq_less (sx 91 (congrArg some e10.1) (sx 95 (congrArg some e14.1) (sub_nil _))) (List.sublist_append_right _ _) ?_
         exact rq_mono (rq_call (by kernel_rfl) rfl (fun w hm => ret_ans (l20Below_ans ((n.ls.getD i lt0).xs) (n.fst + (i : Int)) _ w ((rd_old ((hr).lt.at (d := lt0) (k := i) (by omega))) w hm) (by omega)))) (fun _ _ h => ⟨h.1.trans (congrArg Value.bool hb27), h.2⟩)
        ·
         intro vf pf hR
         have e8 : (vf 8) = .bool false ∧ (pf 8) = [] := hR 8 (by decide)
         have e15 : (vf 15) = .bool false ∧ (pf 15) = [] := hR 15 (by decide)
         refine Or.inl ⟨want_of (congrArg some e8.1) rfl, ?_⟩
         refine rq_less (sx 96 (congrArg some e15.1) (sub_nil _)) (List.sublist_append_right _ _) ?_
         exact rq_v (rv_ev rfl)
        ·
         intro vf pf hR
         have e8 : (vf 8) = .bool false ∧ (pf 8) = [] := hR 8 (by decide)
         have e16 : (vf 16) = .bool true ∧ (pf 16) = [] := hR 16 (by decide)
         refine Or.inl ⟨rfl, ?_⟩
         refine rq_less (sx 89 (congrArg some e8.1) (sx 97 (congrArg some e16.1) (sub_nil _))) (List.sublist_append_right _ _) ?_
         exact rq_v (rv_ev rfl)
       ·
        intro vf pf hR
        have e17 : (vf 17) = .bool true ∧ (pf 17) = [] := hR 17 (by decide)
        refine hl_less (l' := [boxE b25 #[(n.ls.getD i lt0).iv, .int .i64 ((n.ls.getD i lt0).ma)] 69, boxE b1 #[.int .i64 n.ins, n.sv, n.lv, n.ov] 37]) (sx 0 rfl (sx 1 rfl (sx 2 rfl (sx 3 rfl (sx 6 rfl (sx 7 rfl (sx 18 rfl (sx 23 rfl (sx 73 rfl (sx 98 (congrArg some e17.1) (sub_nil _))))))))))) (List.sublist_append_right _ _) ?_
        simp only [List.drop_succ_cons, List.drop_zero]
        refine hl_less (sx 0 rfl (sx 1 rfl (sx 2 rfl (sx 3 rfl (sx 6 rfl (sx 7 rfl (sx 18 rfl (sx 23 rfl (sx 73 rfl (sx 98 rfl (sub_nil _))))))))))) (.refl _) ?_
        refine hl_nil ?_
        refine hq_then ?_
        refine hc_true rfl ?_
        refine hc_seq ?_
        refine hc_region ?_
        refine hl_v rfl rfl rfl (rv_ev rfl) ?_
        refine hl_less (sx 0 rfl (sx 1 rfl (sx 2 rfl (sx 3 rfl (sx 6 rfl (sx 7 rfl (sx 18 rfl (sx 23 rfl (sx 73 rfl (sx 98 rfl (sub_nil _))))))))))) (.refl _) ?_
        refine hl_nil ?_
        refine hq_then ?_
        refine hc_ret ?_
        refine hq_block_ret ?_
        refine hq_then_ret ?_
        refine hq_then_ret ?_
        refine hq_block_ret ?_
        refine hq_then_ret ?_
        exact hq_ans rfl rfl (congrArg _ (pB_no (fun hp => by first | (exact lnN_pos hp.sz (by assumption)) | (exact absurd hp.ou (by rw [← hnc]; assumption)) | (have h9 := hp.sq k (by omega); exact absurd h9.1 (by assumption)) | (have h9 := hp.sq k (by omega); rw [← hnc] at h9; exact absurd h9.2 (by assumption)) | (have h9 := hp.sq k (by omega); rcases h9.1.kind with ⟨a, b, c⟩ | ⟨a, b, c⟩ <;> omega) | (have h9 := hp.lt i (by omega); have h8 := h9.1.1; omega) | (have h9 := hp.lt i (by omega); exact absurd h9.1.2 (by assumption)) | (have h9 := hp.lt i (by omega); exact absurd h9.2 (by assumption)))).symm)
     ·
      have hb26p := of_pBn hb26
      refine hc_draw (by kernel_rfl) 18 [0, 1, 2, 3, 4, 5, 6, 7, 8, 9, 10, 11, 12, 13, 14, 15, 16, 17] (List.take 18 _) (List.drop 18 _) [[], [0], [1], [], [3], [2, 4], [5], [6], [7], [8], [8], [8], [8], [8], [8], [8], [8], [8, 16]] [81, 82, 83, 84, 85, 86, 87, 88, 89, 90, 91, 92, 93, 94, 95, 96, 97, 98] (fun i_ vs_ v_ p_ => match i_ with | 0 => v_ = .pointer (some ⟨b25, 0 + 0, none⟩) ∧ p_ = [] | 1 => v_ = (n.ls.getD i lt0).iv ∧ p_ = [] | 2 => v_ = .int .i64 (((n.ls.getD i lt0).xs).length : Int) ∧ p_ = [] | 3 => v_ = .pointer (some ⟨b25, 0 + 1, none⟩) ∧ p_ = [] | 4 => v_ = .int .i64 ((n.ls.getD i lt0).ma) ∧ p_ = [] | 5 => v_ = .agg #[.int .i64 (((n.ls.getD i lt0).xs).length : Int), .int .i64 ((n.ls.getD i lt0).ma)] ∧ p_ = [] | 6 => v_ = .bool false ∧ p_ = [] | 7 => v_ = .bool true ∧ p_ = [] | 8 => v_ = .bool true ∧ p_ = [] | 9 => v_ = undef ∧ p_ = [] | 10 => v_ = undef ∧ p_ = [] | 11 => v_ = undef ∧ p_ = [] | 12 => v_ = undef ∧ p_ = [] | 13 => v_ = undef ∧ p_ = [] | 14 => v_ = undef ∧ p_ = [] | 15 => v_ = undef ∧ p_ = [] | 16 => v_ = undef ∧ p_ = [] | 17 => v_ = .bool true ∧ p_ = [] | _ => True) (List.take_append_drop 18 _).symm (by kernel_rfl) (by kernel_rfl) rfl rfl ?_ ?_
      ·
       refine ⟨?_, ?_, ?_, ?_, ?_, ?_, ?_, ?_, ?_, ?_, ?_, ?_, ?_, ?_, ?_, ?_, ?_, ?_, trivial⟩
       ·
        intro vf pf hR
        refine Or.inl ⟨rfl, ?_⟩
        refine rq_less (sx 7 rfl (sub_nil _)) (List.sublist_append_right _ _) ?_
        exact rq_v (rv_field (k0 := 0) rfl (by kernel_rfl) rfl)
       ·
        intro vf pf hR
        have e0 : (vf 0) = .pointer (some ⟨b25, 0 + 0, none⟩) ∧ (pf 0) = [] := hR 0 (by decide)
        refine Or.inl ⟨rfl, ?_⟩
        refine rq_less (sx 81 (congrArg some e0.1) (sub_nil _)) (List.sublist_append_right _ _) ?_
        exact rq_v (rv_load rfl (by kernel_rfl) rfl (box_cell 0 rfl rfl))
       ·
        intro vf pf hR
        have e1 : (vf 1) = (n.ls.getD i lt0).iv ∧ (pf 1) = [] := hR 1 (by decide)
        refine Or.inl ⟨rfl, ?_⟩
        refine rq_less (sx 82 (congrArg some e1.1) (sub_nil _)) (List.sublist_append_right _ _) ?_
        exact rq_v (rv_len rfl Try.underlying24 rfl (rd_old ((hr).lt.at (d := lt0) (k := i) (by omega))))
       ·
        intro vf pf hR
        refine Or.inl ⟨rfl, ?_⟩
        refine rq_less (sx 7 rfl (sub_nil _)) (List.sublist_append_right _ _) ?_
        exact rq_v (rv_field (k0 := 1) rfl (by kernel_rfl) rfl)
       ·
        intro vf pf hR
        have e3 : (vf 3) = .pointer (some ⟨b25, 0 + 1, none⟩) ∧ (pf 3) = [] := hR 3 (by decide)
        refine Or.inl ⟨rfl, ?_⟩
        refine rq_less (sx 84 (congrArg some e3.1) (sub_nil _)) (List.sublist_append_right _ _) ?_
        exact rq_v (rv_load rfl (by kernel_rfl) rfl (box_cell 0 rfl rfl))
       ·
        intro vf pf hR
        have e2 : (vf 2) = .int .i64 (((n.ls.getD i lt0).xs).length : Int) ∧ (pf 2) = [] := hR 2 (by decide)
        have e4 : (vf 4) = .int .i64 ((n.ls.getD i lt0).ma) ∧ (pf 4) = [] := hR 4 (by decide)
        refine Or.inl ⟨rfl, ?_⟩
        refine rq_less (sx 83 (congrArg some e2.1) (sx 85 (congrArg some e4.1) (sub_nil _))) (List.sublist_append_right _ _) ?_
        exact rq_v (rv_build (cs := #[.int .i64 (((n.ls.getD i lt0).xs).length : Int), .int .i64 ((n.ls.getD i lt0).ma)]) rfl rfl (by kernel_rfl))
       ·
        intro vf pf hR
        have e5 : (vf 5) = .agg #[.int .i64 (((n.ls.getD i lt0).xs).length : Int), .int .i64 ((n.ls.getD i lt0).ma)] ∧ (pf 5) = [] := hR 5 (by decide)
        refine Or.inl ⟨rfl, ?_⟩
        refine rq_less (sx 86 (congrArg some e5.1) (sub_nil _)) (List.sublist_append_right _ _) ?_
        exact rq_mono (rq_call (by kernel_rfl) rfl (fun w hm => ret_ans (specTabOk_ans (((n.ls.getD i lt0).xs).length : Int) ((n.ls.getD i lt0).ma) w))) (fun _ _ h => ⟨h.1.trans (congrArg Value.bool hb26), h.2⟩)
       ·
        intro vf pf hR
        have e6 : (vf 6) = .bool false ∧ (pf 6) = [] := hR 6 (by decide)
        refine Or.inl ⟨rfl, ?_⟩
        refine rq_less (sx 87 (congrArg some e6.1) (sub_nil _)) (List.sublist_append_right _ _) ?_
        exact rq_v (rv_ev rfl)
       ·
        intro vf pf hR
        have e7 : (vf 7) = .bool true ∧ (pf 7) = [] := hR 7 (by decide)
        refine Or.inl ⟨rfl, ?_⟩
        refine rq_less (sx 88 (congrArg some e7.1) (sub_nil _)) (List.sublist_append_right _ _) ?_
        exact rq_v (rv_ev rfl)
       ·
        intro vf pf hR
        have e8 : (vf 8) = .bool true ∧ (pf 8) = [] := hR 8 (by decide)
        exact Or.inr ⟨want_of (congrArg some e8.1) rfl, rfl, rfl⟩
       ·
        intro vf pf hR
        have e8 : (vf 8) = .bool true ∧ (pf 8) = [] := hR 8 (by decide)
        exact Or.inr ⟨want_of (congrArg some e8.1) rfl, rfl, rfl⟩
       ·
        intro vf pf hR
        have e8 : (vf 8) = .bool true ∧ (pf 8) = [] := hR 8 (by decide)
        exact Or.inr ⟨want_of (congrArg some e8.1) rfl, rfl, rfl⟩
       ·
        intro vf pf hR
        have e8 : (vf 8) = .bool true ∧ (pf 8) = [] := hR 8 (by decide)
        exact Or.inr ⟨want_of (congrArg some e8.1) rfl, rfl, rfl⟩
       ·
        intro vf pf hR
        have e8 : (vf 8) = .bool true ∧ (pf 8) = [] := hR 8 (by decide)
        exact Or.inr ⟨want_of (congrArg some e8.1) rfl, rfl, rfl⟩
       ·
        intro vf pf hR
        have e8 : (vf 8) = .bool true ∧ (pf 8) = [] := hR 8 (by decide)
        exact Or.inr ⟨want_of (congrArg some e8.1) rfl, rfl, rfl⟩
       ·
        intro vf pf hR
        have e8 : (vf 8) = .bool true ∧ (pf 8) = [] := hR 8 (by decide)
        exact Or.inr ⟨want_of (congrArg some e8.1) rfl, rfl, rfl⟩
       ·
        intro vf pf hR
        have e8 : (vf 8) = .bool true ∧ (pf 8) = [] := hR 8 (by decide)
        exact Or.inr ⟨want_of (congrArg some e8.1) rfl, rfl, rfl⟩
       ·
        intro vf pf hR
        have e8 : (vf 8) = .bool true ∧ (pf 8) = [] := hR 8 (by decide)
        have e16 : (vf 16) = undef ∧ (pf 16) = [] := hR 16 (by decide)
        refine Or.inl ⟨rfl, ?_⟩
        refine rq_less (sx 89 (congrArg some e8.1) (sx 97 (congrArg some e16.1) (sub_nil _))) (List.sublist_append_right _ _) ?_
        exact rq_v (rv_ev rfl)
      ·
       intro vf pf hR
       have e17 : (vf 17) = .bool true ∧ (pf 17) = [] := hR 17 (by decide)
       refine hl_less (l' := [boxE b25 #[(n.ls.getD i lt0).iv, .int .i64 ((n.ls.getD i lt0).ma)] 69, boxE b1 #[.int .i64 n.ins, n.sv, n.lv, n.ov] 37]) (sx 0 rfl (sx 1 rfl (sx 2 rfl (sx 3 rfl (sx 6 rfl (sx 7 rfl (sx 18 rfl (sx 23 rfl (sx 73 rfl (sx 98 (congrArg some e17.1) (sub_nil _))))))))))) (List.sublist_append_right _ _) ?_
       simp only [List.drop_succ_cons, List.drop_zero]
       refine hl_less (sx 0 rfl (sx 1 rfl (sx 2 rfl (sx 3 rfl (sx 6 rfl (sx 7 rfl (sx 18 rfl (sx 23 rfl (sx 73 rfl (sx 98 rfl (sub_nil _))))))))))) (.refl _) ?_
       refine hl_nil ?_
       refine hq_then ?_
       refine hc_true rfl ?_
       refine hc_seq ?_
       refine hc_region ?_
       refine hl_v rfl rfl rfl (rv_ev rfl) ?_
       refine hl_less (sx 0 rfl (sx 1 rfl (sx 2 rfl (sx 3 rfl (sx 6 rfl (sx 7 rfl (sx 18 rfl (sx 23 rfl (sx 73 rfl (sx 98 rfl (sub_nil _))))))))))) (.refl _) ?_
       refine hl_nil ?_
       refine hq_then ?_
       refine hc_ret ?_
       refine hq_block_ret ?_
       refine hq_then_ret ?_
       refine hq_then_ret ?_
       refine hq_block_ret ?_
       refine hq_then_ret ?_
       exact hq_ans rfl rfl (congrArg _ (pB_no (fun hp => by first | (exact lnN_pos hp.sz (by assumption)) | (exact absurd hp.ou (by rw [← hnc]; assumption)) | (have h9 := hp.sq k (by omega); exact absurd h9.1 (by assumption)) | (have h9 := hp.sq k (by omega); rw [← hnc] at h9; exact absurd h9.2 (by assumption)) | (have h9 := hp.sq k (by omega); rcases h9.1.kind with ⟨a, b, c⟩ | ⟨a, b, c⟩ <;> omega) | (have h9 := hp.lt i (by omega); have h8 := h9.1.1; omega) | (have h9 := hp.lt i (by omega); exact absurd h9.1.2 (by assumption)) | (have h9 := hp.lt i (by omega); exact absurd h9.2 (by assumption)))).symm)
    ·
     refine hl_less (sx 0 rfl (sx 1 rfl (sx 2 rfl (sx 3 rfl (sx 6 rfl (sx 18 rfl (sx 23 rfl (sx 73 rfl (sub_nil _))))))))) (.refl _) ?_
     refine hl_nil ?_
     refine hq_then ?_
     refine hc_false rfl ?_
     refine hc_exit ?_
     refine hq_then_exit ?_
     refine hq_then_exit ?_
     refine hq_block_exit ?_
     refine hq_then ?_
     refine hc_seq ?_
     refine hc_region ?_
     refine hl_v rfl rfl rfl (rv_ev rfl) ?_
     refine hl_less (sx 0 rfl (sx 1 rfl (sx 2 rfl (sx 3 rfl (sx 6 rfl (sx 18 rfl (sx 23 rfl (sx 73 rfl (sub_nil _))))))))) (.refl _) ?_
     refine hl_nil ?_
     refine hq_then ?_
     refine hc_ret ?_
     exact hq_ans rfl rfl (congrArg _ (pB_yes ⟨hsz, by rw [← hnc]; assumption, fun q hq => hqs q (by omega), fun q hq => hql q (by omega)⟩).symm)
  ·
   have h3p := of_pBn h3
   refine hl_v rfl rfl rfl (rv_ev rfl) ?_
   refine hl_v rfl rfl rfl (rv_ev rfl) ?_
   refine hl_less (sx 0 rfl (sx 1 rfl (sx 2 rfl (sx 3 rfl (sx 18 rfl (sub_nil _)))))) (.refl _) ?_
   refine hl_nil ?_
   refine hq_then ?_
   refine hc_true rfl ?_
   refine hc_seq ?_
   refine hc_region ?_
   refine hl_v rfl rfl rfl (rv_ev rfl) ?_
   refine hl_less (sx 0 rfl (sx 1 rfl (sx 2 rfl (sx 3 rfl (sx 18 rfl (sub_nil _)))))) (.refl _) ?_
   refine hl_nil ?_
   refine hq_then ?_
   refine hc_ret ?_
   refine hq_then_ret ?_
   exact hq_ans rfl rfl (congrArg _ (pB_no (fun hp => by first | (exact lnN_pos hp.sz (by assumption)) | (exact absurd hp.ou (by rw [← hnc]; assumption)) | (have h9 := hp.sq k (by omega); exact absurd h9.1 (by assumption)) | (have h9 := hp.sq k (by omega); rw [← hnc] at h9; exact absurd h9.2 (by assumption)) | (have h9 := hp.sq k (by omega); rcases h9.1.kind with ⟨a, b, c⟩ | ⟨a, b, c⟩ <;> omega) | (have h9 := hp.lt i (by omega); have h8 := h9.1.1; omega) | (have h9 := hp.lt i (by omega); exact absurd h9.1.2 (by assumption)) | (have h9 := hp.lt i (by omega); exact absurd h9.2 (by assumption)))).symm)
open Go.RowKit
theorem andNot_smallT {v : Int} (h0 : 0 ≤ v) (h1 : v ≤ 31) : bits .andNot .i64 v 1 = v - v % 2 := by
  have key : ∀ m : Fin 32, bits .andNot .i64 ((m.val : Nat) : Int) 1 = ((m.val : Nat) : Int) - ((m.val : Nat) : Int) % 2 := by decide
  have := key ⟨v.toNat, by omega⟩
  rw [show (((⟨v.toNat, by omega⟩ : Fin 32).val : Nat) : Int) = v by show ((v.toNat : Nat) : Int) = v; omega] at this
  exact this
theorem stR_iff {kd x : Int} (h : kd = 0 ∨ kd = 1) : (0 ≤ x ∧ x ≤ (if kd = 0 then 1 else 31)) ↔ StR kd x := by
  unfold StR
  rcases h with rfl | rfl <;> simp <;> omega
noncomputable def snx0 (kd v : Int) : Int := if pB (StR kd v) = true then (if kd = 0 then 0 else v - v % 2 + v / 2 % 2) else -1
theorem snx0_iff {kd v : Int} (hk : kd = 0 ∨ kd = 1) : 0 ≤ snx0 kd v ↔ StR kd v := by
  unfold snx0
  by_cases h : StR kd v
  · rw [if_pos (pB_yes h)]
    have := h; unfold StR at this
    refine ⟨fun _ => h, fun _ => ?_⟩
    split <;> omega
  · rw [pB_no h]
    exact ⟨fun h9 => absurd (show (0 : Int) ≤ -1 from h9) (by decide), fun h9 => absurd h9 h⟩
theorem Same.sq {x y : Td} (h : Same x y) (k : Nat) : (y.n.ss.getD k sq0).kd = (x.n.ss.getD k sq0).kd ∧ (y.n.ss.getD k sq0).it = (x.n.ss.getD k sq0).it ∧ (y.n.ss.getD k sq0).xs = (x.n.ss.getD k sq0).xs := by
  have := map_getD h.ss k sq0
  simpa only [Sq.val, Prod.mk.injEq] using this
theorem Same.lt {x y : Td} (h : Same x y) (k : Nat) : (y.n.ls.getD k lt0).xs = (x.n.ls.getD k lt0).xs ∧ (y.n.ls.getD k lt0).ma = (x.n.ls.getD k lt0).ma := by
  have := map_getD h.ls k lt0
  simpa only [Lt.val, Prod.mk.injEq] using this
theorem Same.dlk {x y : Td} (h : Same x y) (k : Nat) : (y.dl.getD k ir0).xs = (x.dl.getD k ir0).xs := map_getD h.dl k ir0
theorem Same.dsk {x y : Td} (h : Same x y) (k : Nat) : (y.ds.getD k ir0).xs = (x.ds.getD k ir0).xs := map_getD h.ds k ir0
theorem Same.fst {x y : Td} (h : Same x y) : y.n.fst = x.n.fst := by show 1 + y.n.ins + (y.n.ss.length : Int) = 1 + x.n.ins + x.n.ss.length; rw [h.ins, map_len h.ss]
theorem Same.cnt {x y : Td} (h : Same x y) : y.n.cnt = x.n.cnt := by show 1 + y.n.ins + (y.n.ss.length : Int) + y.n.ls.length = 1 + x.n.ins + x.n.ss.length + x.n.ls.length; rw [h.ins, map_len h.ss, map_len h.ls]
theorem StP.same {x y : Td} {st : List Int} (h : Same x y) (k : StP x.n st) : StP y.n st := ⟨by rw [map_len h.ss]; exact k.len, fun q hq => by rw [(h.sq q).1]; exact k.rng q (by rw [← map_len h.ss]; exact hq)⟩
theorem TdOk.same {x y : Td} (h : Same x y) (k : TdOk x) : TdOk y := by
  have e1 := map_len h.ss
  have e2 := map_len h.ls
  have e3 := map_len h.dl
  have e4 := map_len h.ds
  refine ⟨⟨⟨by rw [h.ins]; exact k.n.sz.i, by rw [e1]; exact k.n.sz.s, by rw [e2]; exact k.n.sz.l, by rw [h.os]; exact k.n.sz.o⟩, by rw [h.os, h.cnt]; exact k.n.ou, fun q hq => ?_, fun i hi => ?_⟩, by rw [h.ao]; exact k.a.same h, by rw [h.bs]; exact k.b.same h, by rw [h.ks, e1]; exact k.k, by rw [e3, e2]; exact k.dn, fun i hi => ?_, by rw [e4, e1]; exact k.sn, fun i hi => ?_⟩
  · have := k.n.sq q (by omega)
    obtain ⟨a, b, c⟩ := h.sq q
    exact ⟨⟨by rw [a, b, c]; exact this.1.kind⟩, by rw [c, h.cnt]; exact this.2⟩
  · have := k.n.lt i (by omega)
    obtain ⟨a, b⟩ := h.lt i
    unfold LutP; rw [a, b, h.fst]; exact this
  · rw [h.dlk i, (h.lt i).1]; exact k.dl i (by omega)
  · rw [h.dsk i, (h.sq i).2.2]; exact k.ds i (by omega)
theorem pB_same {x y : Td} (h : Same x y) : pB (TdOk y) = pB (TdOk x) := pB_congr ⟨fun k => k.same h.symm, fun k => k.same h⟩
set_option maxHeartbeats 4000000 in
set_option maxRecDepth 100000 in
theorem seqMostT_ans (kd : Int) (w : World) (h : kd = 0 ∨ kd = 1) :
  Calls Try.prog 79 #[.int .i64 kd] w (Ans w (.int .i64 (if kd = 0 then 1 else 31))) := by
 refine calls_hc (N := 8) (args := [.int .i64 kd]) Try.func79 rfl rfl ?_
 refine hc_less _ (sx 0 rfl (sub_nil _)) (.refl _) ?_
 refine hc_seq ?_
 refine hc_region ?_
 refine hl_v rfl rfl rfl (rv_ev rfl) ?_
 refine hl_less (sx 0 rfl (sx 2 rfl (sub_nil _))) (.refl _) ?_
 refine hl_nil ?_
 refine hq_then ?_
 refine hc_seq ?_
 refine hc_seq ?_
 refine hc_region ?_
 refine hl_v rfl rfl rfl (rv_ev rfl) ?_
 refine hl_less (sx 0 rfl (sx 2 rfl (sx 3 rfl (sub_nil _)))) (.refl _) ?_
 refine hl_nil ?_
 refine hq_then ?_
 refine hc_block ?_
 refine hc_seq ?_
 refine hc_region ?_
 refine hl_eql rfl rfl rfl rfl rfl rfl (fun h1 => ?_) (fun h1 => ?_)
 ·
  refine hl_v rfl rfl rfl (rv_ev rfl) ?_
  refine hl_less (sx 0 rfl (sx 2 rfl (sx 3 rfl (sx 4 rfl (sub_nil _))))) (.refl _) ?_
  refine hl_nil ?_
  refine hq_then ?_
  refine hc_true rfl ?_
  refine hc_seq ?_
  refine hc_region ?_
  refine hl_v rfl rfl rfl (rv_ev rfl) ?_
  refine hl_less (sx 0 rfl (sx 2 rfl (sx 3 rfl (sx 4 rfl (sub_nil _))))) (.refl _) ?_
  refine hl_nil ?_
  refine hq_then ?_
  refine hc_ret ?_
  refine hq_block_ret ?_
  refine hq_then_ret ?_
  exact hq_ans rfl rfl (by rw [if_pos (by omega)])
 ·
  refine hl_v rfl rfl rfl (rv_ev rfl) ?_
  refine hl_less (sx 0 rfl (sx 2 rfl (sx 3 rfl (sx 4 rfl (sub_nil _))))) (.refl _) ?_
  refine hl_nil ?_
  refine hq_then ?_
  refine hc_false rfl ?_
  refine hc_seq ?_
  refine hc_region ?_
  refine hl_eql rfl rfl rfl rfl rfl rfl (fun h2 => ?_) (fun h2 => ?_)
  ·
   refine hl_v rfl rfl rfl (rv_ev rfl) ?_
   refine hl_less (sx 0 rfl (sx 2 rfl (sx 3 rfl (sx 4 rfl (sx 6 rfl (sub_nil _)))))) (.refl _) ?_
   refine hl_nil ?_
   refine hq_then ?_
   refine hc_true rfl ?_
   refine hc_seq ?_
   refine hc_region ?_
   refine hl_v rfl rfl rfl (rv_ev rfl) ?_
   refine hl_less (sx 0 rfl (sx 2 rfl (sx 3 rfl (sx 4 rfl (sx 6 rfl (sub_nil _)))))) (.refl _) ?_
   refine hl_nil ?_
   refine hq_then ?_
   refine hc_ret ?_
   refine hq_block_ret ?_
   refine hq_then_ret ?_
   exact hq_ans rfl rfl (by rw [if_neg (by omega)])
  ·
   refine hl_v rfl rfl rfl (rv_ev rfl) ?_
   refine hl_less (sx 0 rfl (sx 2 rfl (sx 3 rfl (sx 4 rfl (sx 6 rfl (sub_nil _)))))) (.refl _) ?_
   refine hl_nil ?_
   refine hq_then ?_
   refine hc_false rfl ?_
   refine hc_skip ?_
   refine hq_block_normal ?_
   refine hq_then ?_
   refine hc_seq ?_
   refine hc_region ?_
   refine hl_v rfl rfl rfl (rv_ev rfl) ?_
   refine hl_less (sx 0 rfl (sx 2 rfl (sx 3 rfl (sx 4 rfl (sx 6 rfl (sub_nil _)))))) (.refl _) ?_
   refine hl_nil ?_
   refine hq_then ?_
   refine hc_ret ?_
   exfalso
   omega
set_option maxHeartbeats 4000000 in
set_option maxRecDepth 100000 in
theorem implLutStateOk_ans (n : Ln) (st : List Int) (v : Value) (w : World) (hr : RdsLn w n) (hst : RdsW w v 1 st.length (st.map (Value.int .i64))) :
  Calls Try.prog 48 #[.agg #[.int .i64 n.ins, n.sv, n.lv, n.ov], v] w (Ans w (.bool (pB (StAll n st)))) := by
 have hso := sml hr.ou
 have hss := hr.sq.small
 have hsl := hr.lt.small
 have hcnt : n.cnt = 1 + n.ins + n.ss.length + n.ls.length := rfl
 have hfst : n.fst = 1 + n.ins + n.ss.length := rfl
 have hst9 := sml hst
 refine calls_hc (N := 36) (args := [.agg #[.int .i64 n.ins, n.sv, n.lv, n.ov], v]) Try.func48 rfl rfl ?_
 refine hc_less _ (sx 0 rfl (sx 1 rfl (sub_nil _))) (.refl _) ?_
 refine hc_seq ?_
 refine hc_region ?_
 refine hl_box rfl rfl rfl (rq_box rfl rfl) ?_
 intro b1
 refine hl_v rfl rfl rfl (rv_ev rfl) ?_
 refine hl_less (sx 0 rfl (sx 1 rfl (sx 2 rfl (sx 4 rfl (sub_nil _))))) (.refl _) ?_
 refine hl_nil ?_
 refine hq_then ?_
 refine hc_seq ?_
 refine hc_seq ?_
 refine hc_region ?_
 refine hl_v rfl rfl rfl (rv_loadN (cs := [.int .i64 n.ins, n.sv, n.lv, n.ov]) rfl (by kernel_rfl) (by kernel_rfl) rfl rfl (box_part 0 rfl 0 rfl)) ?_
 refine hl_callV rfl rfl rfl (rq_call (by kernel_rfl) rfl (fun w hm => ret_ans (implLutNetOk_ans n w (hr.below hm.bel)))) ?_
 refine hl_bool (fun h2 => ?_) (fun h2 => ?_)
 ·
  have hokp := of_pB h2
  refine hl_v rfl rfl rfl (rv_ev rfl) ?_
  refine hl_v rfl rfl rfl (rv_ev rfl) ?_
  refine hl_v rfl rfl rfl (rv_ev rfl) ?_
  refine hl_v rfl rfl rfl (rv_len rfl Try.underlying24 rfl (rd_old hst)) ?_
  refine hl_v rfl rfl rfl (rv_field (k0 := 1) rfl (by kernel_rfl) rfl) ?_
  refine hl_v rfl rfl rfl (rv_load rfl (by kernel_rfl) rfl (box_cell 0 rfl rfl)) ?_
  refine hl_v rfl rfl rfl (rv_len rfl Try.underlying34 rfl (rd_old ((hr).sq.row))) ?_
  refine hl_neq rfl rfl rfl rfl rfl rfl (fun h3 => ?_) (fun h3 => ?_)
  ·
   refine hl_v rfl rfl rfl (rv_ev rfl) ?_
   refine hl_less (sx 0 rfl (sx 1 rfl (sx 2 rfl (sx 4 rfl (sx 17 rfl (sub_nil _)))))) (.refl _) ?_
   refine hl_nil ?_
   refine hq_then ?_
   refine hc_true rfl ?_
   refine hc_seq ?_
   refine hc_region ?_
   refine hl_v rfl rfl rfl (rv_ev rfl) ?_
   refine hl_less (sx 0 rfl (sx 1 rfl (sx 2 rfl (sx 4 rfl (sx 17 rfl (sub_nil _)))))) (.refl _) ?_
   refine hl_nil ?_
   refine hq_then ?_
   refine hc_ret ?_
   refine hq_then_ret ?_
   exact hq_ans rfl rfl (congrArg _ (pB_no (fun hp => by first | (exact absurd hp.ok (by assumption)) | (have h9 := hp.sp.len; omega) | (exact absurd ((stR_iff hks).2 (hp.sp.rng k (by omega))) (by assumption)) | (have h9 := (snx0_iff hks).2 (hp.sp.rng k (by omega)); omega))).symm)
  ·
   refine hl_v rfl rfl rfl (rv_ev rfl) ?_
   refine hl_less (sx 0 rfl (sx 1 rfl (sx 2 rfl (sx 4 rfl (sx 17 rfl (sub_nil _)))))) (.refl _) ?_
   refine hl_nil ?_
   refine hq_then ?_
   refine hc_false rfl ?_
   refine hc_skip ?_
   refine hq_then ?_
   refine hc_seq ?_
   refine hc_seq ?_
   refine hc_region ?_
   refine hl_v rfl rfl rfl (rv_ev rfl) ?_
   refine hl_v rfl rfl rfl (rv_len rfl Try.underlying24 rfl (rd_old hst)) ?_
   refine hl_v rfl rfl rfl (rv_ev rfl) ?_
   refine hl_less (sx 0 rfl (sx 1 rfl (sx 2 rfl (sx 4 rfl (sx 17 rfl (sx 18 rfl (sx 19 rfl (sx 20 rfl (sub_nil _))))))))) (.refl _) ?_
   refine hl_nil ?_
   refine hq_then ?_
   refine hc_block ?_
   refine hc_loop1 (α := Nat) (fun k => [boxE b1 #[.int .i64 n.ins, n.sv, n.lv, n.ov] 37]) (fun k => [(0, .agg #[.int .i64 n.ins, n.sv, n.lv, n.ov]), (1, v), (2, .pointer (some ⟨b1, 0, none⟩)), (4, .bool false), (17, .bool false), (18, v), (19, .int .i64 (st.length : Int)), (20, .int .i64 (k : Int))]) (fun k => k ≤ st.length ∧ ∀ i, i < k → StR (n.ss.getD i sq0).kd (st.getD i 0)) (fun k => st.length - k) 0 ⟨Nat.zero_le _, fun i hi => absurd hi (by omega)⟩ (sx 0 rfl (sx 1 rfl (sx 2 rfl (sx 4 rfl (sx 17 rfl (sx 18 rfl (sx 19 rfl (sx 20 rfl (sub_nil _))))))))) ((.cons_cons _ .slnil)) ?_
   intro k hi4
   obtain ⟨hk, hq⟩ := hi4
   refine hc_seq ?_
   refine hc_region ?_
   refine hl_lss rfl rfl rfl rfl rfl rfl (fun h5 => ?_) (fun h5 => ?_)
   ·
    refine hl_less (sx 0 rfl (sx 1 rfl (sx 2 rfl (sx 4 rfl (sx 17 rfl (sx 18 rfl (sx 19 rfl (sx 20 rfl (sx 21 rfl (sub_nil _)))))))))) (.refl _) ?_
    refine hl_nil ?_
    refine hq_then ?_
    refine hc_seq ?_
    refine hc_true rfl ?_
    refine hc_skip ?_
    refine hq_then ?_
    refine hc_seq ?_
    refine hc_block ?_
    refine hc_seq ?_
    refine hc_region ?_
    refine hl_v rfl rfl rfl (rv_ev rfl) ?_
    refine hl_v rfl rfl rfl (rv_index (s := 1) rfl Try.underlying24 (by kernel_rfl) rfl rfl (rd_old hst) (by omega) (by first | omega | (simp only [List.length_set]; omega))) ?_
    refine hl_v rfl rfl rfl (rv_loadEl (u := .int .i64 (st.getD k 0)) rfl (by kernel_rfl) rfl (rd_old hst) (ints_at1 (show _ < st.length by first | omega | (simp only [List.length_set]; omega)))) ?_
    refine hl_v rfl rfl rfl (rv_ev rfl) ?_
    refine hl_v rfl rfl rfl (rv_ev rfl) ?_
    refine hl_less (sx 0 rfl (sx 1 rfl (sx 2 rfl (sx 4 rfl (sx 5 rfl (sx 6 rfl (sx 17 rfl (sx 18 rfl (sx 19 rfl (sx 20 rfl (sx 21 rfl (sub_nil _)))))))))))) (.refl _) ?_
    refine hl_nil ?_
    refine hq_then ?_
    refine hc_seq ?_
    refine hc_region ?_
    have hks : (n.ss.getD k sq0).kd = 0 ∨ (n.ss.getD k sq0).kd = 1 := by rcases (hokp.sq k (by omega)).1.kind with ⟨a, b, c⟩ | ⟨a, b, c⟩ <;> omega
    refine hl_v rfl rfl rfl (rv_ev rfl) ?_
    refine hl_v rfl rfl rfl (rv_field (k0 := 1) rfl (by kernel_rfl) rfl) ?_
    refine hl_v rfl rfl rfl (rv_load rfl (by kernel_rfl) rfl (box_cell 0 rfl rfl)) ?_
    refine hl_v rfl rfl rfl (rv_ev rfl) ?_
    refine hl_v rfl rfl rfl (rv_index (s := 3) rfl Try.underlying34 (by kernel_rfl) rfl rfl (rd_old ((hr).sq.row)) (by omega) (by first | omega | (simp only [List.length_set]; omega))) ?_
    refine hl_v rfl rfl rfl (rv_fieldEl (k0 := 0) rfl (by kernel_rfl) rfl (rd_old ((hr).sq.row)) (by first | omega | (simp only [List.length_set]; omega))) ?_
    refine hl_v rfl rfl rfl (rv_loadEl (u := .int .i64 ((n.ss.getD k sq0).kd)) rfl (by kernel_rfl) rfl (rd_old ((hr).sq.row)) ((flat_at sqC 3 (fun _ => rfl) n.ss sq0 (show k < _ by first | omega | (simp only [List.length_set]; omega)) (by decide)).trans rfl)) ?_
    refine hl_callV rfl rfl rfl (rq_call (by kernel_rfl) rfl (fun w hm => ret_ans (seqMostT_ans ((n.ss.getD k sq0).kd) w hks))) ?_
    refine hl_callV rfl rfl rfl (rq_call (by kernel_rfl) rfl (fun w hm => ret_ans (ans_of (inRange_any _ _ _ w)))) ?_
    refine hl_bool (fun h6 => ?_) (fun h6 => ?_)
    ·
     obtain ⟨h6a, h6b⟩ := (inR_iff _ _ _).1 h6
     refine hl_v rfl rfl rfl (rv_ev rfl) ?_
     refine hl_less (sx 0 rfl (sx 1 rfl (sx 2 rfl (sx 4 rfl (sx 5 rfl (sx 6 rfl (sx 17 rfl (sx 18 rfl (sx 19 rfl (sx 20 rfl (sx 21 rfl (sx 34 rfl (sub_nil _))))))))))))) (.refl _) ?_
     refine hl_nil ?_
     refine hq_then ?_
     refine hc_false rfl ?_
     refine hc_skip ?_
     refine hq_block_normal ?_
     refine hq_then ?_
     refine hc_region ?_
     refine hl_v rfl rfl rfl (rv_add rfl rfl rfl (by constructor <;> omega)) ?_
     refine hl_v rfl rfl rfl (rv_ev rfl) ?_
     refine hl_less (sx 0 rfl (sx 1 rfl (sx 2 rfl (sx 4 rfl (sx 5 rfl (sx 6 rfl (sx 17 rfl (sx 18 rfl (sx 19 rfl (sx 20 rfl (sx 21 rfl (sx 34 rfl (sub_nil _))))))))))))) (.refl _) ?_
     refine hl_nil ?_
     exact hq_round1 (k + 1) ⟨by omega, fun i hi => by by_cases e : i = k; (subst e; exact (stR_iff hks).1 ⟨by assumption, by assumption⟩); exact hq i (by omega)⟩ (by omega) (sx 0 rfl (sx 1 rfl (sx 2 rfl (sx 4 rfl (sx 17 rfl (sx 18 rfl (sx 19 rfl (sx 20 rfl (sub_nil _))))))))) ((.cons_cons _ .slnil))
    ·
     have h6a := inR_notL h6
     refine hl_v rfl rfl rfl (rv_ev rfl) ?_
     refine hl_less (sx 0 rfl (sx 1 rfl (sx 2 rfl (sx 4 rfl (sx 5 rfl (sx 6 rfl (sx 17 rfl (sx 18 rfl (sx 19 rfl (sx 20 rfl (sx 21 rfl (sx 34 rfl (sub_nil _))))))))))))) (.refl _) ?_
     refine hl_nil ?_
     refine hq_then ?_
     refine hc_true rfl ?_
     refine hc_seq ?_
     refine hc_region ?_
     refine hl_v rfl rfl rfl (rv_ev rfl) ?_
     refine hl_less (sx 0 rfl (sx 1 rfl (sx 2 rfl (sx 4 rfl (sx 5 rfl (sx 6 rfl (sx 17 rfl (sx 18 rfl (sx 19 rfl (sx 20 rfl (sx 21 rfl (sx 34 rfl (sub_nil _))))))))))))) (.refl _) ?_
     refine hl_nil ?_
     refine hq_then ?_
     refine hc_ret ?_
     refine hq_block_ret ?_
     refine hq_then_ret ?_
     refine hq_then_ret ?_
     refine hq_block_ret ?_
     refine hq_then_ret ?_
     exact hq_ans rfl rfl (congrArg _ (pB_no (fun hp => by first | (exact absurd hp.ok (by assumption)) | (have h9 := hp.sp.len; omega) | (exact absurd ((stR_iff hks).2 (hp.sp.rng k (by omega))) (by assumption)) | (have h9 := (snx0_iff hks).2 (hp.sp.rng k (by omega)); omega))).symm)
   ·
    refine hl_less (sx 0 rfl (sx 1 rfl (sx 2 rfl (sx 4 rfl (sx 17 rfl (sx 18 rfl (sx 19 rfl (sx 20 rfl (sx 21 rfl (sub_nil _)))))))))) (.refl _) ?_
    refine hl_nil ?_
    refine hq_then ?_
    refine hc_seq ?_
    refine hc_false rfl ?_
    refine hc_exit ?_
    refine hq_then_exit ?_
    refine hq_then_exit ?_
    refine hq_block_exit ?_
    refine hq_then ?_
    refine hc_seq ?_
    refine hc_region ?_
    refine hl_v rfl rfl rfl (rv_ev rfl) ?_
    refine hl_less (sx 0 rfl (sx 1 rfl (sx 2 rfl (sx 4 rfl (sx 17 rfl (sx 18 rfl (sx 19 rfl (sx 20 rfl (sx 21 rfl (sub_nil _)))))))))) (.refl _) ?_
    refine hl_nil ?_
    refine hq_then ?_
    refine hc_ret ?_
    exact hq_ans rfl rfl (congrArg _ (pB_yes ⟨hokp, by omega, fun i hi => hq i (by omega)⟩).symm)
 ·
  have hokp := of_pBn h2
  refine hl_v rfl rfl rfl (rv_ev rfl) ?_
  refine hl_v rfl rfl rfl (rv_ev rfl) ?_
  refine hl_skip rfl rfl rfl ?_
  refine hl_skip rfl rfl rfl ?_
  refine hl_skip rfl rfl rfl ?_
  refine hl_skip rfl rfl rfl ?_
  refine hl_skip rfl rfl rfl ?_
  refine hl_skip rfl rfl rfl ?_
  refine hl_v rfl rfl rfl (rv_ev rfl) ?_
  refine hl_less (sx 0 rfl (sx 1 rfl (sx 2 rfl (sx 4 rfl (sx 17 rfl (sub_nil _)))))) (.refl _) ?_
  refine hl_nil ?_
  refine hq_then ?_
  refine hc_true rfl ?_
  refine hc_seq ?_
  refine hc_region ?_
  refine hl_v rfl rfl rfl (rv_ev rfl) ?_
  refine hl_less (sx 0 rfl (sx 1 rfl (sx 2 rfl (sx 4 rfl (sx 17 rfl (sub_nil _)))))) (.refl _) ?_
  refine hl_nil ?_
  refine hq_then ?_
  refine hc_ret ?_
  refine hq_then_ret ?_
  exact hq_ans rfl rfl (congrArg _ (pB_no (fun hp => by first | (exact absurd hp.ok (by assumption)) | (have h9 := hp.sp.len; omega) | (exact absurd ((stR_iff hks).2 (hp.sp.rng k (by omega))) (by assumption)) | (have h9 := (snx0_iff hks).2 (hp.sp.rng k (by omega)); omega))).symm)
set_option maxHeartbeats 4000000 in
set_option maxRecDepth 100000 in
theorem SeqNext0_ans (kd v : Int) (w : World) (hk : kd = 0 ∨ kd = 1) :
  Calls Try.prog 74 #[.int .i64 kd, .int .i64 v, .int .i64 0] w (Ans w (.int .i64 (snx0 kd v))) := by
 refine calls_hc (N := 49) (args := [.int .i64 kd, .int .i64 v, .int .i64 0]) Try.func74 rfl rfl ?_
 refine hc_less _ (sx 0 rfl (sx 1 rfl (sx 2 rfl (sub_nil _)))) (.refl _) ?_
 refine hc_seq ?_
 refine hc_region ?_
 refine hl_v rfl rfl rfl (rv_ev rfl) ?_
 refine hl_less (sx 0 rfl (sx 1 rfl (sx 2 rfl (sx 6 rfl (sub_nil _))))) (.refl _) ?_
 refine hl_nil ?_
 refine hq_then ?_
 refine hc_seq ?_
 refine hc_seq ?_
 refine hc_region ?_
 refine hl_v rfl rfl rfl (rv_ev rfl) ?_
 refine hl_eql rfl rfl rfl rfl rfl rfl (fun h1 => ?_) (fun h1 => ?_)
 ·
  refine hl_v rfl rfl rfl (rv_ev rfl) ?_
  refine hl_v rfl rfl rfl (rv_ev rfl) ?_
  refine hl_callV rfl rfl rfl (rq_call (by kernel_rfl) rfl (fun w hm => ret_ans (l01In_ans v 0 1 w))) ?_
  refine hl_bool (fun h2 => ?_) (fun h2 => ?_)
  ·
   obtain ⟨h2a, h2b⟩ := (inR_iff _ _ _).1 h2
   refine hl_v rfl rfl rfl (rv_ev rfl) ?_
   refine hl_less (sx 0 rfl (sx 1 rfl (sx 2 rfl (sx 6 rfl (sx 14 rfl (sub_nil _)))))) (.refl _) ?_
   refine hl_nil ?_
   refine hq_then ?_
   refine hc_true rfl ?_
   refine hc_seq ?_
   refine hc_region ?_
   refine hl_v rfl rfl rfl (rv_ev rfl) ?_
   refine hl_v rfl rfl rfl (rv_bits rfl (by decide) rfl rfl (r := 0) (by decide)) ?_
   refine hl_v rfl rfl rfl (rv_ev rfl) ?_
   refine hl_less (sx 0 rfl (sx 1 rfl (sx 2 rfl (sx 6 rfl (sx 14 rfl (sub_nil _)))))) (.refl _) ?_
   refine hl_nil ?_
   refine hq_then ?_
   refine hc_ret ?_
   refine hq_then_ret ?_
   exact hq_ans rfl rfl (congrArg (Value.int .i64) (show (0 : Int) = snx0 kd v by unfold snx0; rw [if_pos (pB_yes (by unfold StR; omega))]; first | (rw [if_pos (by omega)]; done) | (rw [if_neg (by omega)]; done) | (rw [if_neg (by omega)]; omega)))
  ·
   have h2a := inR_notL h2
   refine hl_v rfl rfl rfl (rv_ev rfl) ?_
   refine hl_less (sx 0 rfl (sx 1 rfl (sx 2 rfl (sx 6 rfl (sx 14 rfl (sub_nil _)))))) (.refl _) ?_
   refine hl_nil ?_
   refine hq_then ?_
   refine hc_false rfl ?_
   refine hc_skip ?_
   refine hq_then ?_
   refine hc_seq ?_
   refine hc_seq ?_
   refine hc_region ?_
   refine hl_v rfl rfl rfl (rv_ev rfl) ?_
   refine hl_neq rfl rfl rfl rfl rfl rfl (fun h3 => ?_) (fun h3 => ?_)
   ·
    refine hl_v rfl rfl rfl (rv_ev rfl) ?_
    refine hl_skip rfl rfl rfl ?_
    refine hl_skip rfl rfl rfl ?_
    refine hl_skip rfl rfl rfl ?_
    refine hl_v rfl rfl rfl (rv_ev rfl) ?_
    refine hl_less (sx 0 rfl (sx 1 rfl (sx 2 rfl (sx 6 rfl (sx 14 rfl (sx 23 rfl (sub_nil _))))))) (.refl _) ?_
    refine hl_nil ?_
    refine hq_then ?_
    refine hc_true rfl ?_
    refine hc_seq ?_
    refine hc_region ?_
    refine hl_v rfl rfl rfl (rv_ev rfl) ?_
    refine hl_less (sx 0 rfl (sx 1 rfl (sx 2 rfl (sx 6 rfl (sx 14 rfl (sx 23 rfl (sub_nil _))))))) (.refl _) ?_
    refine hl_nil ?_
    refine hq_then ?_
    refine hc_ret ?_
    refine hq_then_ret ?_
    exact hq_ans rfl rfl (congrArg (Value.int .i64) (show (-1 : Int) = snx0 kd v by unfold snx0; rw [pB_no (fun hp => by unfold StR at hp; omega)]; rfl))
   ·
    refine hl_v rfl rfl rfl (rv_ev rfl) ?_
    refine hl_v rfl rfl rfl (rv_ev rfl) ?_
    refine hl_callV rfl rfl rfl (rq_call (by kernel_rfl) rfl (fun w hm => ret_ans (l01In_ans v 0 31 w))) ?_
    refine hl_bool (fun h4 => ?_) (fun h4 => ?_)
    ·
     obtain ⟨h4a, h4b⟩ := (inR_iff _ _ _).1 h4
     refine hl_v rfl rfl rfl (rv_ev rfl) ?_
     refine hl_v rfl rfl rfl (rv_ev rfl) ?_
     refine hl_less (sx 0 rfl (sx 1 rfl (sx 2 rfl (sx 6 rfl (sx 14 rfl (sx 23 rfl (sub_nil _))))))) (.refl _) ?_
     refine hl_nil ?_
     refine hq_then ?_
     refine hc_false rfl ?_
     refine hc_skip ?_
     refine hq_then ?_
     refine hc_seq ?_
     refine hc_region ?_
     refine hl_v rfl rfl rfl (rv_ev rfl) ?_
     refine hl_v rfl rfl rfl (rv_bits rfl (by decide) rfl rfl (r := 0) (by decide)) ?_
     refine hl_v rfl rfl rfl (rv_add rfl rfl rfl (by constructor <;> omega)) ?_
     refine hl_v rfl rfl rfl (rv_ev rfl) ?_
     refine hl_less (sx 0 rfl (sx 1 rfl (sx 2 rfl (sx 6 rfl (sx 7 rfl (sx 14 rfl (sx 23 rfl (sub_nil _)))))))) (.refl _) ?_
     refine hl_nil ?_
     refine hq_then ?_
     refine hc_seq ?_
     refine hc_region ?_
     refine hl_v rfl rfl rfl (rv_ev rfl) ?_
     refine hl_v rfl rfl rfl (rv_bits rfl (by decide) rfl rfl (r := v - v % 2) (andNot_smallT (by omega) (by omega))) ?_
     refine hl_v rfl rfl rfl (rv_ev rfl) ?_
     refine hl_v rfl rfl rfl (rv_ev rfl) ?_
     refine hl_v rfl rfl rfl (rv_shr rfl rfl rfl (by omega)) ?_
     rw [show (v / 2 ^ (0 + 1 : Int).toNat : Int) = v / 2 from rfl]
     refine hl_v rfl rfl rfl (rv_bits rfl (by decide) rfl rfl (r := (v / 2) % 2) (Bit.and_one _ (by omega) (by omega))) ?_
     refine hl_v rfl rfl rfl (rv_add rfl rfl rfl (by constructor <;> omega)) ?_
     refine hl_v rfl rfl rfl (rv_ev rfl) ?_
     refine hl_less (sx 0 rfl (sx 1 rfl (sx 2 rfl (sx 6 rfl (sx 7 rfl (sx 8 rfl (sx 14 rfl (sx 23 rfl (sub_nil _))))))))) (.refl _) ?_
     refine hl_nil ?_
     refine hq_then ?_
     refine hc_seq ?_
     refine hc_seq ?_
     refine hc_region ?_
     refine hl_v rfl rfl rfl (rv_ev rfl) ?_
     refine hl_v rfl rfl rfl (rv_shr rfl rfl rfl (by omega)) ?_
     refine hl_v rfl rfl rfl (rv_bits rfl (by decide) rfl rfl (r := 0) (by decide)) ?_
     refine hl_eql rfl rfl rfl rfl rfl rfl (fun h5 => absurd h5 (by omega)) (fun h5 => ?_)
     refine hl_less (sx 0 rfl (sx 1 rfl (sx 2 rfl (sx 6 rfl (sx 7 rfl (sx 8 rfl (sx 14 rfl (sx 23 rfl (sx 37 rfl (sub_nil _)))))))))) (.refl _) ?_
     refine hl_nil ?_
     refine hq_then ?_
     refine hc_false rfl ?_
     refine hc_skip ?_
     refine hq_then ?_
     refine hc_seq ?_
     refine hc_region ?_
     refine hl_v rfl rfl rfl (rv_ev rfl) ?_
     refine hl_v rfl rfl rfl (rv_ev rfl) ?_
     refine hl_less (sx 0 rfl (sx 1 rfl (sx 2 rfl (sx 6 rfl (sx 7 rfl (sx 8 rfl (sx 14 rfl (sx 23 rfl (sx 37 rfl (sub_nil _)))))))))) (.refl _) ?_
     refine hl_nil ?_
     refine hq_then ?_
     refine hc_ret ?_
     exact hq_ans rfl rfl (congrArg (Value.int .i64) (show ((v - v % 2) + ((v / 2) % 2) : Int) = snx0 kd v by unfold snx0; rw [if_pos (pB_yes (by unfold StR; omega))]; first | (rw [if_pos (by omega)]; done) | (rw [if_neg (by omega)]; done) | (rw [if_neg (by omega)]; omega)))
    ·
     have h4a := inR_notL h4
     refine hl_v rfl rfl rfl (rv_ev rfl) ?_
     refine hl_v rfl rfl rfl (rv_ev rfl) ?_
     refine hl_less (sx 0 rfl (sx 1 rfl (sx 2 rfl (sx 6 rfl (sx 14 rfl (sx 23 rfl (sub_nil _))))))) (.refl _) ?_
     refine hl_nil ?_
     refine hq_then ?_
     refine hc_true rfl ?_
     refine hc_seq ?_
     refine hc_region ?_
     refine hl_v rfl rfl rfl (rv_ev rfl) ?_
     refine hl_less (sx 0 rfl (sx 1 rfl (sx 2 rfl (sx 6 rfl (sx 14 rfl (sx 23 rfl (sub_nil _))))))) (.refl _) ?_
     refine hl_nil ?_
     refine hq_then ?_
     refine hc_ret ?_
     refine hq_then_ret ?_
     exact hq_ans rfl rfl (congrArg (Value.int .i64) (show (-1 : Int) = snx0 kd v by unfold snx0; rw [pB_no (fun hp => by unfold StR at hp; omega)]; rfl))
 ·
  refine hl_v rfl rfl rfl (rv_ev rfl) ?_
  refine hl_skip rfl rfl rfl ?_
  refine hl_skip rfl rfl rfl ?_
  refine hl_v rfl rfl rfl (rv_ev rfl) ?_
  refine hl_less (sx 0 rfl (sx 1 rfl (sx 2 rfl (sx 6 rfl (sx 14 rfl (sub_nil _)))))) (.refl _) ?_
  refine hl_nil ?_
  refine hq_then ?_
  refine hc_false rfl ?_
  refine hc_skip ?_
  refine hq_then ?_
  refine hc_seq ?_
  refine hc_seq ?_
  refine hc_region ?_
  refine hl_v rfl rfl rfl (rv_ev rfl) ?_
  refine hl_neq rfl rfl rfl rfl rfl rfl (fun h6 => ?_) (fun h6 => ?_)
  ·
   refine hl_v rfl rfl rfl (rv_ev rfl) ?_
   refine hl_skip rfl rfl rfl ?_
   refine hl_skip rfl rfl rfl ?_
   refine hl_skip rfl rfl rfl ?_
   refine hl_v rfl rfl rfl (rv_ev rfl) ?_
   refine hl_less (sx 0 rfl (sx 1 rfl (sx 2 rfl (sx 6 rfl (sx 14 rfl (sx 23 rfl (sub_nil _))))))) (.refl _) ?_
   refine hl_nil ?_
   refine hq_then ?_
   refine hc_true rfl ?_
   refine hc_seq ?_
   refine hc_region ?_
   refine hl_v rfl rfl rfl (rv_ev rfl) ?_
   refine hl_less (sx 0 rfl (sx 1 rfl (sx 2 rfl (sx 6 rfl (sx 14 rfl (sx 23 rfl (sub_nil _))))))) (.refl _) ?_
   refine hl_nil ?_
   refine hq_then ?_
   refine hc_ret ?_
   refine hq_then_ret ?_
   exact hq_ans rfl rfl (congrArg (Value.int .i64) (show (-1 : Int) = snx0 kd v by unfold snx0; rw [pB_no (fun hp => by unfold StR at hp; omega)]; rfl))
  ·
   refine hl_v rfl rfl rfl (rv_ev rfl) ?_
   refine hl_v rfl rfl rfl (rv_ev rfl) ?_
   refine hl_callV rfl rfl rfl (rq_call (by kernel_rfl) rfl (fun w hm => ret_ans (l01In_ans v 0 31 w))) ?_
   refine hl_bool (fun h7 => ?_) (fun h7 => ?_)
   ·
    obtain ⟨h7a, h7b⟩ := (inR_iff _ _ _).1 h7
    refine hl_v rfl rfl rfl (rv_ev rfl) ?_
    refine hl_v rfl rfl rfl (rv_ev rfl) ?_
    refine hl_less (sx 0 rfl (sx 1 rfl (sx 2 rfl (sx 6 rfl (sx 14 rfl (sx 23 rfl (sub_nil _))))))) (.refl _) ?_
    refine hl_nil ?_
    refine hq_then ?_
    refine hc_false rfl ?_
    refine hc_skip ?_
    refine hq_then ?_
    refine hc_seq ?_
    refine hc_region ?_
    refine hl_v rfl rfl rfl (rv_ev rfl) ?_
    refine hl_v rfl rfl rfl (rv_bits rfl (by decide) rfl rfl (r := 0) (by decide)) ?_
    refine hl_v rfl rfl rfl (rv_add rfl rfl rfl (by constructor <;> omega)) ?_
    refine hl_v rfl rfl rfl (rv_ev rfl) ?_
    refine hl_less (sx 0 rfl (sx 1 rfl (sx 2 rfl (sx 6 rfl (sx 7 rfl (sx 14 rfl (sx 23 rfl (sub_nil _)))))))) (.refl _) ?_
    refine hl_nil ?_
    refine hq_then ?_
    refine hc_seq ?_
    refine hc_region ?_
    refine hl_v rfl rfl rfl (rv_ev rfl) ?_
    refine hl_v rfl rfl rfl (rv_bits rfl (by decide) rfl rfl (r := v - v % 2) (andNot_smallT (by omega) (by omega))) ?_
    refine hl_v rfl rfl rfl (rv_ev rfl) ?_
    refine hl_v rfl rfl rfl (rv_ev rfl) ?_
    refine hl_v rfl rfl rfl (rv_shr rfl rfl rfl (by omega)) ?_
    rw [show (v / 2 ^ (0 + 1 : Int).toNat : Int) = v / 2 from rfl]
    refine hl_v rfl rfl rfl (rv_bits rfl (by decide) rfl rfl (r := (v / 2) % 2) (Bit.and_one _ (by omega) (by omega))) ?_
    refine hl_v rfl rfl rfl (rv_add rfl rfl rfl (by constructor <;> omega)) ?_
    refine hl_v rfl rfl rfl (rv_ev rfl) ?_
    refine hl_less (sx 0 rfl (sx 1 rfl (sx 2 rfl (sx 6 rfl (sx 7 rfl (sx 8 rfl (sx 14 rfl (sx 23 rfl (sub_nil _))))))))) (.refl _) ?_
    refine hl_nil ?_
    refine hq_then ?_
    refine hc_seq ?_
    refine hc_seq ?_
    refine hc_region ?_
    refine hl_v rfl rfl rfl (rv_ev rfl) ?_
    refine hl_v rfl rfl rfl (rv_shr rfl rfl rfl (by omega)) ?_
    refine hl_v rfl rfl rfl (rv_bits rfl (by decide) rfl rfl (r := 0) (by decide)) ?_
    refine hl_eql rfl rfl rfl rfl rfl rfl (fun h8 => absurd h8 (by omega)) (fun h8 => ?_)
    refine hl_less (sx 0 rfl (sx 1 rfl (sx 2 rfl (sx 6 rfl (sx 7 rfl (sx 8 rfl (sx 14 rfl (sx 23 rfl (sx 37 rfl (sub_nil _)))))))))) (.refl _) ?_
    refine hl_nil ?_
    refine hq_then ?_
    refine hc_false rfl ?_
    refine hc_skip ?_
    refine hq_then ?_
    refine hc_seq ?_
    refine hc_region ?_
    refine hl_v rfl rfl rfl (rv_ev rfl) ?_
    refine hl_v rfl rfl rfl (rv_ev rfl) ?_
    refine hl_less (sx 0 rfl (sx 1 rfl (sx 2 rfl (sx 6 rfl (sx 7 rfl (sx 8 rfl (sx 14 rfl (sx 23 rfl (sx 37 rfl (sub_nil _)))))))))) (.refl _) ?_
    refine hl_nil ?_
    refine hq_then ?_
    refine hc_ret ?_
    exact hq_ans rfl rfl (congrArg (Value.int .i64) (show ((v - v % 2) + ((v / 2) % 2) : Int) = snx0 kd v by unfold snx0; rw [if_pos (pB_yes (by unfold StR; omega))]; first | (rw [if_pos (by omega)]; done) | (rw [if_neg (by omega)]; done) | (rw [if_neg (by omega)]; omega)))
   ·
    have h7a := inR_notL h7
    refine hl_v rfl rfl rfl (rv_ev rfl) ?_
    refine hl_v rfl rfl rfl (rv_ev rfl) ?_
    refine hl_less (sx 0 rfl (sx 1 rfl (sx 2 rfl (sx 6 rfl (sx 14 rfl (sx 23 rfl (sub_nil _))))))) (.refl _) ?_
    refine hl_nil ?_
    refine hq_then ?_
    refine hc_true rfl ?_
    refine hc_seq ?_
    refine hc_region ?_
    refine hl_v rfl rfl rfl (rv_ev rfl) ?_
    refine hl_less (sx 0 rfl (sx 1 rfl (sx 2 rfl (sx 6 rfl (sx 14 rfl (sx 23 rfl (sub_nil _))))))) (.refl _) ?_
    refine hl_nil ?_
    refine hq_then ?_
    refine hc_ret ?_
    refine hq_then_ret ?_
    exact hq_ans rfl rfl (congrArg (Value.int .i64) (show (-1 : Int) = snx0 kd v by unfold snx0; rw [pB_no (fun hp => by unfold StR at hp; omega)]; rfl))
set_option maxHeartbeats 4000000 in
set_option maxRecDepth 100000 in
theorem specLutStateOk_ans (n : Ln) (st : List Int) (v : Value) (w : World) (hr : RdsLn w n) (hst : RdsW w v 1 st.length (st.map (Value.int .i64))) :
  Calls Try.prog 43 #[.agg #[.int .i64 n.ins, n.sv, n.lv, n.ov], v] w (Ans w (.bool (pB (StAll n st)))) := by
 have hso := sml hr.ou
 have hss := hr.sq.small
 have hsl := hr.lt.small
 have hcnt : n.cnt = 1 + n.ins + n.ss.length + n.ls.length := rfl
 have hfst : n.fst = 1 + n.ins + n.ss.length := rfl
 have hst9 := sml hst
 refine calls_hc (N := 35) (args := [.agg #[.int .i64 n.ins, n.sv, n.lv, n.ov], v]) Try.func43 rfl rfl ?_
 refine hc_less _ (sx 0 rfl (sx 1 rfl (sub_nil _))) (.refl _) ?_
 refine hc_seq ?_
 refine hc_region ?_
 refine hl_box rfl rfl rfl (rq_box rfl rfl) ?_
 intro b1
 refine hl_v rfl rfl rfl (rv_ev rfl) ?_
 refine hl_less (sx 0 rfl (sx 1 rfl (sx 2 rfl (sx 4 rfl (sub_nil _))))) (.refl _) ?_
 refine hl_nil ?_
 refine hq_then ?_
 refine hc_seq ?_
 refine hc_seq ?_
 refine hc_region ?_
 refine hl_v rfl rfl rfl (rv_loadN (cs := [.int .i64 n.ins, n.sv, n.lv, n.ov]) rfl (by kernel_rfl) (by kernel_rfl) rfl rfl (box_part 0 rfl 0 rfl)) ?_
 refine hl_callV rfl rfl rfl (rq_call (by kernel_rfl) rfl (fun w hm => ret_ans (specLutNetOk_ans n w (hr.below hm.bel)))) ?_
 refine hl_bool (fun h2 => ?_) (fun h2 => ?_)
 ·
  have hokp := of_pB h2
  refine hl_v rfl rfl rfl (rv_ev rfl) ?_
  refine hl_v rfl rfl rfl (rv_ev rfl) ?_
  refine hl_v rfl rfl rfl (rv_ev rfl) ?_
  refine hl_v rfl rfl rfl (rv_len rfl Try.underlying24 rfl (rd_old hst)) ?_
  refine hl_v rfl rfl rfl (rv_field (k0 := 1) rfl (by kernel_rfl) rfl) ?_
  refine hl_v rfl rfl rfl (rv_load rfl (by kernel_rfl) rfl (box_cell 0 rfl rfl)) ?_
  refine hl_v rfl rfl rfl (rv_len rfl Try.underlying34 rfl (rd_old ((hr).sq.row))) ?_
  refine hl_neq rfl rfl rfl rfl rfl rfl (fun h3 => ?_) (fun h3 => ?_)
  ·
   refine hl_v rfl rfl rfl (rv_ev rfl) ?_
   refine hl_less (sx 0 rfl (sx 1 rfl (sx 2 rfl (sx 4 rfl (sx 16 rfl (sub_nil _)))))) (.refl _) ?_
   refine hl_nil ?_
   refine hq_then ?_
   refine hc_true rfl ?_
   refine hc_seq ?_
   refine hc_region ?_
   refine hl_v rfl rfl rfl (rv_ev rfl) ?_
   refine hl_less (sx 0 rfl (sx 1 rfl (sx 2 rfl (sx 4 rfl (sx 16 rfl (sub_nil _)))))) (.refl _) ?_
   refine hl_nil ?_
   refine hq_then ?_
   refine hc_ret ?_
   refine hq_then_ret ?_
   exact hq_ans rfl rfl (congrArg _ (pB_no (fun hp => by first | (exact absurd hp.ok (by assumption)) | (have h9 := hp.sp.len; omega) | (exact absurd ((stR_iff hks).2 (hp.sp.rng k (by omega))) (by assumption)) | (have h9 := (snx0_iff hks).2 (hp.sp.rng k (by omega)); omega))).symm)
  ·
   refine hl_v rfl rfl rfl (rv_ev rfl) ?_
   refine hl_less (sx 0 rfl (sx 1 rfl (sx 2 rfl (sx 4 rfl (sx 16 rfl (sub_nil _)))))) (.refl _) ?_
   refine hl_nil ?_
   refine hq_then ?_
   refine hc_false rfl ?_
   refine hc_skip ?_
   refine hq_then ?_
   refine hc_seq ?_
   refine hc_seq ?_
   refine hc_region ?_
   refine hl_v rfl rfl rfl (rv_ev rfl) ?_
   refine hl_less (sx 0 rfl (sx 1 rfl (sx 2 rfl (sx 4 rfl (sx 5 rfl (sx 16 rfl (sub_nil _))))))) (.refl _) ?_
   refine hl_nil ?_
   refine hq_then ?_
   refine hc_block ?_
   refine hc_loop1 (α := Nat) (fun k => [boxE b1 #[.int .i64 n.ins, n.sv, n.lv, n.ov] 37]) (fun k => [(0, .agg #[.int .i64 n.ins, n.sv, n.lv, n.ov]), (1, v), (2, .pointer (some ⟨b1, 0, none⟩)), (4, .bool false), (5, .int .i64 (k : Int)), (16, .bool false)]) (fun k => k ≤ st.length ∧ ∀ i, i < k → StR (n.ss.getD i sq0).kd (st.getD i 0)) (fun k => st.length - k) 0 ⟨Nat.zero_le _, fun i hi => absurd hi (by omega)⟩ (sx 0 rfl (sx 1 rfl (sx 2 rfl (sx 4 rfl (sx 5 rfl (sx 16 rfl (sub_nil _))))))) ((.cons_cons _ .slnil)) ?_
   intro k hi4
   obtain ⟨hk, hq⟩ := hi4
   refine hc_seq ?_
   refine hc_seq ?_
   refine hc_region ?_
   refine hl_v rfl rfl rfl (rv_ev rfl) ?_
   refine hl_v rfl rfl rfl (rv_ev rfl) ?_
   refine hl_v rfl rfl rfl (rv_len rfl Try.underlying24 rfl (rd_old hst)) ?_
   refine hl_lss rfl rfl rfl rfl rfl rfl (fun h5 => ?_) (fun h5 => ?_)
   ·
    refine hl_less (sx 0 rfl (sx 1 rfl (sx 2 rfl (sx 4 rfl (sx 5 rfl (sx 16 rfl (sx 20 rfl (sub_nil _)))))))) (.refl _) ?_
    refine hl_nil ?_
    refine hq_then ?_
    refine hc_true rfl ?_
    refine hc_skip ?_
    refine hq_then ?_
    refine hc_seq ?_
    refine hc_block ?_
    refine hc_seq ?_
    have hks : (n.ss.getD k sq0).kd = 0 ∨ (n.ss.getD k sq0).kd = 1 := by rcases (hokp.sq k (by omega)).1.kind with ⟨a, b, c⟩ | ⟨a, b, c⟩ <;> omega
    rcases Bool.eq_false_or_eq_true (decide (snx0 ((n.ss.getD k sq0).kd) (st.getD k 0) < 0)) with hb6 | hb6
    ·
     have hb6p : snx0 ((n.ss.getD k sq0).kd) (st.getD k 0) < 0 := of_decide_eq_true hb6
     have hks : (n.ss.getD k sq0).kd = 0 ∨ (n.ss.getD k sq0).kd = 1 := by rcases (hokp.sq k (by omega)).1.kind with ⟨a, b, c⟩ | ⟨a, b, c⟩ <;> omega
     refine hc_draw (by kernel_rfl) 12 [0, 1, 2, 3, 4, 5, 6, 7, 8, 9, 10, 11] (List.take 12 _) (List.drop 12 _) [[], [0], [], [1, 2], [3], [4], [], [], [6, 7], [8], [5, 9], [10]] [23, 24, 25, 26, 27, 28, 29, 30, 31, 32, 33, 34] (fun i_ vs_ v_ p_ => match i_ with | 0 => v_ = .pointer (some ⟨b1, 0 + 1, none⟩) ∧ p_ = [] | 1 => v_ = n.sv ∧ p_ = [] | 2 => v_ = .int .i64 (k : Int) ∧ p_ = [] | 3 => v_ = elP n.sv (((k : Int)).toNat * 3) ∧ p_ = [] | 4 => v_ = elP n.sv (((k : Int)).toNat * 3 + 0) ∧ p_ = [] | 5 => v_ = .int .i64 ((n.ss.getD k sq0).kd) ∧ p_ = [] | 6 => v_ = v ∧ p_ = [] | 7 => v_ = .int .i64 (k : Int) ∧ p_ = [] | 8 => v_ = elP v (((k : Int)).toNat * 1) ∧ p_ = [] | 9 => v_ = .int .i64 (st.getD k 0) ∧ p_ = [] | 10 => v_ = .int .i64 (snx0 ((n.ss.getD k sq0).kd) (st.getD k 0)) ∧ p_ = [] | 11 => v_ = .bool true ∧ p_ = [] | _ => True) (List.take_append_drop 12 _).symm (by kernel_rfl) (by kernel_rfl) rfl rfl ?_ ?_
     ·
      refine ⟨?_, ?_, ?_, ?_, ?_, ?_, ?_, ?_, ?_, ?_, ?_, ?_, trivial⟩
      ·
       intro vf pf hR
       refine Or.inl ⟨rfl, ?_⟩
       refine rq_less (sx 2 rfl (sub_nil _)) (List.sublist_append_right _ _) ?_
       exact rq_v (rv_field (k0 := 1) rfl (by kernel_rfl) rfl)
      ·
       intro vf pf hR
       have e0 : (vf 0) = .pointer (some ⟨b1, 0 + 1, none⟩) ∧ (pf 0) = [] := hR 0 (by decide)
       refine Or.inl ⟨rfl, ?_⟩
       refine rq_less (sx 23 (congrArg some e0.1) (sub_nil _)) (List.sublist_append_right _ _) ?_
       exact rq_v (rv_load rfl (by kernel_rfl) rfl (box_cell 0 rfl rfl))
      ·
       intro vf pf hR
       refine Or.inl ⟨rfl, ?_⟩
       refine rq_less (sx 5 rfl (sub_nil _)) (List.sublist_append_right _ _) ?_
       exact rq_v (rv_ev rfl)
      ·
       intro vf pf hR
       have e1 : (vf 1) = n.sv ∧ (pf 1) = [] := hR 1 (by decide)
       have e2 : (vf 2) = .int .i64 (k : Int) ∧ (pf 2) = [] := hR 2 (by decide)
       refine Or.inl ⟨rfl, ?_⟩
       refine rq_less (sx 24 (congrArg some e1.1) (sx 25 (congrArg some e2.1) (sub_nil _))) (List.sublist_append_right _ _) ?_
       exact rq_v (rv_index (s := 3) rfl Try.underlying34 (by kernel_rfl) rfl rfl (rd_old ((hr).sq.row)) (by omega) (by first | omega | (simp only [List.length_set]; omega)))
      ·
       intro vf pf hR
       have e3 : (vf 3) = elP n.sv (((k : Int)).toNat * 3) ∧ (pf 3) = [] := hR 3 (by decide)
       refine Or.inl ⟨rfl, ?_⟩
       refine rq_less (sx 26 (congrArg some e3.1) (sub_nil _)) (List.sublist_append_right _ _) ?_
       exact rq_v (rv_fieldEl (k0 := 0) rfl (by kernel_rfl) rfl (rd_old ((hr).sq.row)) (by first | omega | (simp only [List.length_set]; omega)))
      ·
       intro vf pf hR
       have e4 : (vf 4) = elP n.sv (((k : Int)).toNat * 3 + 0) ∧ (pf 4) = [] := hR 4 (by decide)
       refine Or.inl ⟨rfl, ?_⟩
       refine rq_less (sx 27 (congrArg some e4.1) (sub_nil _)) (List.sublist_append_right _ _) ?_
       exact rq_v (rv_loadEl (u := .int .i64 ((n.ss.getD k sq0).kd)) rfl (by kernel_rfl) rfl (rd_old ((hr).sq.row)) ((flat_at sqC 3 (fun _ => rfl) n.ss sq0 (show k < _ by first | omega | (simp only [List.length_set]; omega)) (by decide)).trans rfl))
      ·
       intro vf pf hR
       refine Or.inl ⟨rfl, ?_⟩
       refine rq_less (sx 1 rfl (sub_nil _)) (List.sublist_append_right _ _) ?_
       exact rq_v (rv_ev rfl)
      ·
       intro vf pf hR
       refine Or.inl ⟨rfl, ?_⟩
       refine rq_less (sx 5 rfl (sub_nil _)) (List.sublist_append_right _ _) ?_
       exact rq_v (rv_ev rfl)
      ·
       intro vf pf hR
       have e6 : (vf 6) = v ∧ (pf 6) = [] := hR 6 (by decide)
       have e7 : (vf 7) = .int .i64 (k : Int) ∧ (pf 7) = [] := hR 7 (by decide)
       refine Or.inl ⟨rfl, ?_⟩
       refine rq_less (sx 29 (congrArg some e6.1) (sx 30 (congrArg some e7.1) (sub_nil _))) (List.sublist_append_right _ _) ?_
       exact rq_v (rv_index (s := 1) rfl Try.underlying24 (by kernel_rfl) rfl rfl (rd_old hst) (by omega) (by first | omega | (simp only [List.length_set]; omega)))
      ·
       intro vf pf hR
       have e8 : (vf 8) = elP v (((k : Int)).toNat * 1) ∧ (pf 8) = [] := hR 8 (by decide)
       refine Or.inl ⟨rfl, ?_⟩
       refine rq_less (sx 31 (congrArg some e8.1) (sub_nil _)) (List.sublist_append_right _ _) ?_
       exact rq_v (rv_loadEl (u := .int .i64 (st.getD k 0)) rfl (by kernel_rfl) rfl (rd_old hst) (ints_at1 (show _ < st.length by first | omega | (simp only [List.length_set]; omega))))
      ·
       intro vf pf hR
       have e5 : (vf 5) = .int .i64 ((n.ss.getD k sq0).kd) ∧ (pf 5) = [] := hR 5 (by decide)
       have e9 : (vf 9) = .int .i64 (st.getD k 0) ∧ (pf 9) = [] := hR 9 (by decide)
       refine Or.inl ⟨rfl, ?_⟩
       refine rq_less (sx 28 (congrArg some e5.1) (sx 32 (congrArg some e9.1) (sub_nil _))) (List.sublist_append_right _ _) ?_
       exact (rq_call (by kernel_rfl) rfl (fun w hm => ret_ans (SeqNext0_ans ((n.ss.getD k sq0).kd) (st.getD k 0) w hks)))
      ·
       intro vf pf hR
       have e10 : (vf 10) = .int .i64 (snx0 ((n.ss.getD k sq0).kd) (st.getD k 0)) ∧ (pf 10) = [] := hR 10 (by decide)
       refine Or.inl ⟨rfl, ?_⟩
       refine rq_less (sx 33 (congrArg some e10.1) (sub_nil _)) (List.sublist_append_right _ _) ?_
       exact rq_mono (rq_v (rv_cmp rfl rfl rfl rfl)) (fun _ _ h => ⟨h.1.trans (congrArg Value.bool hb6), h.2⟩)
     ·
      intro vf pf hR
      have e11 : (vf 11) = .bool true ∧ (pf 11) = [] := hR 11 (by decide)
      refine hl_less (l' := [boxE b1 #[.int .i64 n.ins, n.sv, n.lv, n.ov] 37]) (sx 0 rfl (sx 1 rfl (sx 2 rfl (sx 4 rfl (sx 5 rfl (sx 16 rfl (sx 20 rfl (sx 34 (congrArg some e11.1) (sub_nil _))))))))) (List.sublist_append_right _ _) ?_
      simp only [List.drop_succ_cons, List.drop_zero]
      refine hl_less (sx 0 rfl (sx 1 rfl (sx 2 rfl (sx 4 rfl (sx 5 rfl (sx 16 rfl (sx 20 rfl (sx 34 rfl (sub_nil _))))))))) (.refl _) ?_
      refine hl_nil ?_
      refine hq_then ?_
      refine hc_true rfl ?_
      refine hc_seq ?_
      refine hc_region ?_
      refine hl_v rfl rfl rfl (rv_ev rfl) ?_
      refine hl_less (sx 0 rfl (sx 1 rfl (sx 2 rfl (sx 4 rfl (sx 5 rfl (sx 16 rfl (sx 20 rfl (sx 34 rfl (sub_nil _))))))))) (.refl _) ?_
      refine hl_nil ?_
      refine hq_then ?_
      refine hc_ret ?_
      refine hq_block_ret ?_
      refine hq_then_ret ?_
      refine hq_then_ret ?_
      refine hq_block_ret ?_
      refine hq_then_ret ?_
      exact hq_ans rfl rfl (congrArg _ (pB_no (fun hp => by first | (exact absurd hp.ok (by assumption)) | (have h9 := hp.sp.len; omega) | (exact absurd ((stR_iff hks).2 (hp.sp.rng k (by omega))) (by assumption)) | (have h9 := (snx0_iff hks).2 (hp.sp.rng k (by omega)); omega))).symm)
    ·
     have hb6p : ¬ (snx0 ((n.ss.getD k sq0).kd) (st.getD k 0) < 0) := of_decide_eq_false hb6
     have hks : (n.ss.getD k sq0).kd = 0 ∨ (n.ss.getD k sq0).kd = 1 := by rcases (hokp.sq k (by omega)).1.kind with ⟨a, b, c⟩ | ⟨a, b, c⟩ <;> omega
     refine hc_draw (by kernel_rfl) 12 [0, 1, 2, 3, 4, 5, 6, 7, 8, 9, 10, 11] (List.take 12 _) (List.drop 12 _) [[], [0], [], [1, 2], [3], [4], [], [], [6, 7], [8], [5, 9], [10]] [23, 24, 25, 26, 27, 28, 29, 30, 31, 32, 33, 34] (fun i_ vs_ v_ p_ => match i_ with | 0 => v_ = .pointer (some ⟨b1, 0 + 1, none⟩) ∧ p_ = [] | 1 => v_ = n.sv ∧ p_ = [] | 2 => v_ = .int .i64 (k : Int) ∧ p_ = [] | 3 => v_ = elP n.sv (((k : Int)).toNat * 3) ∧ p_ = [] | 4 => v_ = elP n.sv (((k : Int)).toNat * 3 + 0) ∧ p_ = [] | 5 => v_ = .int .i64 ((n.ss.getD k sq0).kd) ∧ p_ = [] | 6 => v_ = v ∧ p_ = [] | 7 => v_ = .int .i64 (k : Int) ∧ p_ = [] | 8 => v_ = elP v (((k : Int)).toNat * 1) ∧ p_ = [] | 9 => v_ = .int .i64 (st.getD k 0) ∧ p_ = [] | 10 => v_ = .int .i64 (snx0 ((n.ss.getD k sq0).kd) (st.getD k 0)) ∧ p_ = [] | 11 => v_ = .bool false ∧ p_ = [] | _ => True) (List.take_append_drop 12 _).symm (by kernel_rfl) (by kernel_rfl) rfl rfl ?_ ?_
     ·
      refine ⟨?_, ?_, ?_, ?_, ?_, ?_, ?_, ?_, ?_, ?_, ?_, ?_, trivial⟩
      ·
       intro vf pf hR
       refine Or.inl ⟨rfl, ?_⟩
       refine rq_less (sx 2 rfl (sub_nil _)) (List.sublist_append_right _ _) ?_
       exact rq_v (rv_field (k0 := 1) rfl (by kernel_rfl) rfl)
      ·
       intro vf pf hR
       have e0 : (vf 0) = .pointer (some ⟨b1, 0 + 1, none⟩) ∧ (pf 0) = [] := hR 0 (by decide)
       refine Or.inl ⟨rfl, ?_⟩
       refine rq_less (sx 23 (congrArg some e0.1) (sub_nil _)) (List.sublist_append_right _ _) ?_
       exact rq_v (rv_load rfl (by kernel_rfl) rfl (box_cell 0 rfl rfl))
      ·
       intro vf pf hR
       refine Or.inl ⟨rfl, ?_⟩
       refine rq_less (sx 5 rfl (sub_nil _)) (List.sublist_append_right _ _) ?_
       exact rq_v (rv_ev rfl)
      ·
       intro vf pf hR
       have e1 : (vf 1) = n.sv ∧ (pf 1) = [] := hR 1 (by decide)
       have e2 : (vf 2) = .int .i64 (k : Int) ∧ (pf 2) = [] := hR 2 (by decide)
       refine Or.inl ⟨rfl, ?_⟩
       refine rq_less (sx 24 (congrArg some e1.1) (sx 25 (congrArg some e2.1) (sub_nil _))) (List.sublist_append_right _ _) ?_
       exact rq_v (rv_index (s := 3) rfl Try.underlying34 (by kernel_rfl) rfl rfl (rd_old ((hr).sq.row)) (by omega) (by first | omega | (simp only [List.length_set]; omega)))
      ·
       intro vf pf hR
       have e3 : (vf 3) = elP n.sv (((k : Int)).toNat * 3) ∧ (pf 3) = [] := hR 3 (by decide)
       refine Or.inl ⟨rfl, ?_⟩
       refine rq_less (sx 26 (congrArg some e3.1) (sub_nil _)) (List.sublist_append_right _ _) ?_
       exact rq_v (rv_fieldEl (k0 := 0) rfl (by kernel_rfl) rfl (rd_old ((hr).sq.row)) (by first | omega | (simp only [List.length_set]; omega)))
      ·
       intro vf pf hR
       have e4 : (vf 4) = elP n.sv (((k : Int)).toNat * 3 + 0) ∧ (pf 4) = [] := hR 4 (by decide)
       refine Or.inl ⟨rfl, ?_⟩
       refine rq_less (sx 27 (congrArg some e4.1) (sub_nil _)) (List.sublist_append_right _ _) ?_
       exact rq_v (rv_loadEl (u := .int .i64 ((n.ss.getD k sq0).kd)) rfl (by kernel_rfl) rfl (rd_old ((hr).sq.row)) ((flat_at sqC 3 (fun _ => rfl) n.ss sq0 (show k < _ by first | omega | (simp only [List.length_set]; omega)) (by decide)).trans rfl))
      ·
       intro vf pf hR
       refine Or.inl ⟨rfl, ?_⟩
       refine rq_less (sx 1 rfl (sub_nil _)) (List.sublist_append_right _ _) ?_
       exact rq_v (rv_ev rfl)
      ·
       intro vf pf hR
       refine Or.inl ⟨rfl, ?_⟩
       refine rq_less (sx 5 rfl (sub_nil _)) (List.sublist_append_right _ _) ?_
       exact rq_v (rv_ev rfl)
      ·
       intro vf pf hR
       have e6 : (vf 6) = v ∧ (pf 6) = [] := hR 6 (by decide)
       have e7 : (vf 7) = .int .i64 (k : Int) ∧ (pf 7) = [] := hR 7 (by decide)
       refine Or.inl ⟨rfl, ?_⟩
       refine rq_less (sx 29 (congrArg some e6.1) (sx 30 (congrArg some e7.1) (sub_nil _))) (List.sublist_append_right _ _) ?_
       exact rq_v (rv_index (s := 1) rfl Try.underlying24 (by kernel_rfl) rfl rfl (rd_old hst) (by omega) (by first | omega | (simp only [List.length_set]; omega)))
      ·
       intro vf pf hR
       have e8 : (vf 8) = elP v (((k : Int)).toNat * 1) ∧ (pf 8) = [] := hR 8 (by decide)
       refine Or.inl ⟨rfl, ?_⟩
       refine rq_less (sx 31 (congrArg some e8.1) (sub_nil _)) (List.sublist_append_right _ _) ?_
       exact rq_v (rv_loadEl (u := .int .i64 (st.getD k 0)) rfl (by kernel_rfl) rfl (rd_old hst) (ints_at1 (show _ < st.length by first | omega | (simp only [List.length_set]; omega))))
      ·
       intro vf pf hR
       have e5 : (vf 5) = .int .i64 ((n.ss.getD k sq0).kd) ∧ (pf 5) = [] := hR 5 (by decide)
       have e9 : (vf 9) = .int .i64 (st.getD k 0) ∧ (pf 9) = [] := hR 9 (by decide)
       refine Or.inl ⟨rfl, ?_⟩
       refine rq_less (sx 28 (congrArg some e5.1) (sx 32 (congrArg some e9.1) (sub_nil _))) (List.sublist_append_right _ _) ?_
       exact (rq_call (by kernel_rfl) rfl (fun w hm => ret_ans (SeqNext0_ans ((n.ss.getD k sq0).kd) (st.getD k 0) w hks)))
      ·
       intro vf pf hR
       have e10 : (vf 10) = .int .i64 (snx0 ((n.ss.getD k sq0).kd) (st.getD k 0)) ∧ (pf 10) = [] := hR 10 (by decide)
       refine Or.inl ⟨rfl, ?_⟩
       refine rq_less (sx 33 (congrArg some e10.1) (sub_nil _)) (List.sublist_append_right _ _) ?_
       exact rq_mono (rq_v (rv_cmp rfl rfl rfl rfl)) (fun _ _ h => ⟨h.1.trans (congrArg Value.bool hb6), h.2⟩)
     ·
      intro vf pf hR
      have e11 : (vf 11) = .bool false ∧ (pf 11) = [] := hR 11 (by decide)
      refine hl_less (l' := [boxE b1 #[.int .i64 n.ins, n.sv, n.lv, n.ov] 37]) (sx 0 rfl (sx 1 rfl (sx 2 rfl (sx 4 rfl (sx 5 rfl (sx 16 rfl (sx 20 rfl (sx 34 (congrArg some e11.1) (sub_nil _))))))))) (List.sublist_append_right _ _) ?_
      simp only [List.drop_succ_cons, List.drop_zero]
      refine hl_less (sx 0 rfl (sx 1 rfl (sx 2 rfl (sx 4 rfl (sx 5 rfl (sx 16 rfl (sx 20 rfl (sx 34 rfl (sub_nil _))))))))) (.refl _) ?_
      refine hl_nil ?_
      refine hq_then ?_
      refine hc_false rfl ?_
      refine hc_skip ?_
      refine hq_block_normal ?_
      refine hq_then ?_
      refine hc_region ?_
      refine hl_v rfl rfl rfl (rv_ev rfl) ?_
      refine hl_v rfl rfl rfl (rv_add rfl rfl rfl (by constructor <;> omega)) ?_
      refine hl_v rfl rfl rfl (rv_ev rfl) ?_
      refine hl_less (sx 0 rfl (sx 1 rfl (sx 2 rfl (sx 4 rfl (sx 5 rfl (sx 16 rfl (sx 20 rfl (sx 34 rfl (sub_nil _))))))))) (.refl _) ?_
      refine hl_nil ?_
      exact hq_round1 (k + 1) ⟨by omega, fun i hi => by by_cases e : i = k; (subst e; exact (snx0_iff hks).1 (by omega)); exact hq i (by omega)⟩ (by omega) (sx 0 rfl (sx 1 rfl (sx 2 rfl (sx 4 rfl (sx 5 rfl (sx 16 rfl (sub_nil _))))))) ((.cons_cons _ .slnil))
   ·
    refine hl_less (sx 0 rfl (sx 1 rfl (sx 2 rfl (sx 4 rfl (sx 5 rfl (sx 16 rfl (sx 20 rfl (sub_nil _)))))))) (.refl _) ?_
    refine hl_nil ?_
    refine hq_then ?_
    refine hc_false rfl ?_
    refine hc_exit ?_
    refine hq_then_exit ?_
    refine hq_then_exit ?_
    refine hq_block_exit ?_
    refine hq_then ?_
    refine hc_seq ?_
    refine hc_region ?_
    refine hl_v rfl rfl rfl (rv_ev rfl) ?_
    refine hl_less (sx 0 rfl (sx 1 rfl (sx 2 rfl (sx 4 rfl (sx 5 rfl (sx 16 rfl (sx 20 rfl (sub_nil _)))))))) (.refl _) ?_
    refine hl_nil ?_
    refine hq_then ?_
    refine hc_ret ?_
    exact hq_ans rfl rfl (congrArg _ (pB_yes ⟨hokp, by omega, fun i hi => hq i (by omega)⟩).symm)
 ·
  have hokp := of_pBn h2
  refine hl_v rfl rfl rfl (rv_ev rfl) ?_
  refine hl_v rfl rfl rfl (rv_ev rfl) ?_
  refine hl_skip rfl rfl rfl ?_
  refine hl_skip rfl rfl rfl ?_
  refine hl_skip rfl rfl rfl ?_
  refine hl_skip rfl rfl rfl ?_
  refine hl_skip rfl rfl rfl ?_
  refine hl_skip rfl rfl rfl ?_
  refine hl_v rfl rfl rfl (rv_ev rfl) ?_
  refine hl_less (sx 0 rfl (sx 1 rfl (sx 2 rfl (sx 4 rfl (sx 16 rfl (sub_nil _)))))) (.refl _) ?_
  refine hl_nil ?_
  refine hq_then ?_
  refine hc_true rfl ?_
  refine hc_seq ?_
  refine hc_region ?_
  refine hl_v rfl rfl rfl (rv_ev rfl) ?_
  refine hl_less (sx 0 rfl (sx 1 rfl (sx 2 rfl (sx 4 rfl (sx 16 rfl (sub_nil _)))))) (.refl _) ?_
  refine hl_nil ?_
  refine hq_then ?_
  refine hc_ret ?_
  refine hq_then_ret ?_
  exact hq_ans rfl rfl (congrArg _ (pB_no (fun hp => by first | (exact absurd hp.ok (by assumption)) | (have h9 := hp.sp.len; omega) | (exact absurd ((stR_iff hks).2 (hp.sp.rng k (by omega))) (by assumption)) | (have h9 := (snx0_iff hks).2 (hp.sp.rng k (by omega)); omega))).symm)
set_option maxHeartbeats 4000000 in
set_option maxRecDepth 100000 in
theorem delaysOk_ans (rs : List IR) (sz : List Int) (v u : Value) (w : World) (hA1 : RdsIr w v rs) (hA2 : RdsW w u 1 sz.length (sz.map (Value.int .i64))) :
  Calls Try.prog 50 #[v, u] w (Ans w (.bool (pB (DlP rs sz)))) := by
 have q1 := hA1.small
 have q2 := sml hA2
 refine calls_hc (N := 39) (args := [v, u]) Try.func50 rfl rfl ?_
 refine hc_less _ (sx 0 rfl (sx 1 rfl (sub_nil _))) (.refl _) ?_
 refine hc_seq ?_
 refine hc_region ?_
 refine hl_v rfl rfl rfl (rv_ev rfl) ?_
 refine hl_less (sx 0 rfl (sx 1 rfl (sx 4 rfl (sub_nil _)))) (.refl _) ?_
 refine hl_nil ?_
 refine hq_then ?_
 refine hc_seq ?_
 refine hc_seq ?_
 refine hc_region ?_
 refine hl_v rfl rfl rfl (rv_ev rfl) ?_
 refine hl_v rfl rfl rfl (rv_len rfl Try.underlying27 rfl (rd_old ((hA1).row))) ?_
 refine hl_v rfl rfl rfl (rv_ev rfl) ?_
 refine hl_v rfl rfl rfl (rv_len rfl Try.underlying24 rfl (rd_old hA2)) ?_
 refine hl_neq rfl rfl rfl rfl rfl rfl (fun h1 => ?_) (fun h1 => ?_)
 ·
  refine hl_less (sx 0 rfl (sx 1 rfl (sx 4 rfl (sx 13 rfl (sub_nil _))))) (.refl _) ?_
  refine hl_nil ?_
  refine hq_then ?_
  refine hc_true rfl ?_
  refine hc_seq ?_
  refine hc_region ?_
  refine hl_v rfl rfl rfl (rv_ev rfl) ?_
  refine hl_less (sx 0 rfl (sx 1 rfl (sx 4 rfl (sx 13 rfl (sub_nil _))))) (.refl _) ?_
  refine hl_nil ?_
  refine hq_then ?_
  refine hc_ret ?_
  refine hq_then_ret ?_
  exact hq_ans rfl rfl (congrArg _ (pB_no (fun hp => by first | (have h9 := hp.len; omega) | (have h9 := (hp.el i (by omega)).1; omega) | (have h9 := (hp.el i (by omega)).2 j (by omega); omega))).symm)
 ·
  refine hl_less (sx 0 rfl (sx 1 rfl (sx 4 rfl (sx 13 rfl (sub_nil _))))) (.refl _) ?_
  refine hl_nil ?_
  refine hq_then ?_
  refine hc_false rfl ?_
  refine hc_skip ?_
  refine hq_then ?_
  refine hc_seq ?_
  refine hc_seq ?_
  refine hc_region ?_
  refine hl_v rfl rfl rfl (rv_ev rfl) ?_
  refine hl_v rfl rfl rfl (rv_len rfl Try.underlying27 rfl (rd_old ((hA1).row))) ?_
  refine hl_v rfl rfl rfl (rv_ev rfl) ?_
  refine hl_less (sx 0 rfl (sx 1 rfl (sx 4 rfl (sx 13 rfl (sx 14 rfl (sx 15 rfl (sx 16 rfl (sub_nil _)))))))) (.refl _) ?_
  refine hl_nil ?_
  refine hq_then ?_
  refine hc_block ?_
  refine hc_loop1 (α := Nat) (fun i => []) (fun i => [(0, v), (1, u), (4, .bool false), (13, .bool false), (14, v), (15, .int .i64 (rs.length : Int)), (16, .int .i64 (i : Int))]) (fun i => i ≤ rs.length ∧ ∀ q, q < i → LiP (rs.getD q ir0).xs (sz.getD q 0) 100) (fun i => rs.length - i) 0 ⟨Nat.zero_le _, fun i hi => absurd hi (by omega)⟩ (sx 0 rfl (sx 1 rfl (sx 4 rfl (sx 13 rfl (sx 14 rfl (sx 15 rfl (sx 16 rfl (sub_nil _)))))))) (.slnil) ?_
  intro i hi2
  obtain ⟨hi, hq⟩ := hi2
  refine hc_seq ?_
  refine hc_region ?_
  refine hl_lss rfl rfl rfl rfl rfl rfl (fun h3 => ?_) (fun h3 => ?_)
  ·
   refine hl_less (sx 0 rfl (sx 1 rfl (sx 4 rfl (sx 13 rfl (sx 14 rfl (sx 15 rfl (sx 16 rfl (sx 17 rfl (sub_nil _))))))))) (.refl _) ?_
   refine hl_nil ?_
   refine hq_then ?_
   refine hc_seq ?_
   refine hc_true rfl ?_
   refine hc_skip ?_
   refine hq_then ?_
   refine hc_seq ?_
   refine hc_block ?_
   refine hc_seq ?_
   refine hc_region ?_
   refine hl_v rfl rfl rfl (rv_ev rfl) ?_
   refine hl_v rfl rfl rfl (rv_index (s := 1) rfl Try.underlying27 (by kernel_rfl) rfl rfl (rd_old ((hA1).row)) (by omega) (by first | omega | (simp only [List.length_set]; omega))) ?_
   refine hl_v rfl rfl rfl (rv_loadEl (u := (rs.getD i ir0).v) rfl (by kernel_rfl) rfl (rd_old ((hA1).row)) (flat_one irC (fun r => r.v) (fun _ => rfl) rs ir0 (show i < _ by first | omega | (simp only [List.length_set]; omega)))) ?_
   refine hl_v rfl rfl rfl (rv_ev rfl) ?_
   refine hl_v rfl rfl rfl (rv_ev rfl) ?_
   refine hl_less (sx 0 rfl (sx 1 rfl (sx 4 rfl (sx 5 rfl (sx 6 rfl (sx 13 rfl (sx 14 rfl (sx 15 rfl (sx 16 rfl (sx 17 rfl (sub_nil _))))))))))) (.refl _) ?_
   refine hl_nil ?_
   refine hq_then ?_
   refine hc_seq ?_
   refine hc_seq ?_
   refine hc_region ?_
   refine hl_v rfl rfl rfl (rv_ev rfl) ?_
   refine hl_v rfl rfl rfl (rv_len rfl Try.underlying24 rfl (rd_old ((hA1).at (d := ir0) (k := i) (by omega)))) ?_
   refine hl_v rfl rfl rfl (rv_ev rfl) ?_
   refine hl_v rfl rfl rfl (rv_ev rfl) ?_
   refine hl_v rfl rfl rfl (rv_index (s := 1) rfl Try.underlying24 (by kernel_rfl) rfl rfl (rd_old hA2) (by omega) (by first | omega | (simp only [List.length_set]; omega))) ?_
   refine hl_v rfl rfl rfl (rv_loadEl (u := .int .i64 (sz.getD i 0)) rfl (by kernel_rfl) rfl (rd_old hA2) (ints_at1 (show _ < sz.length by first | omega | (simp only [List.length_set]; omega)))) ?_
   refine hl_neq rfl rfl rfl rfl rfl rfl (fun h4 => ?_) (fun h4 => ?_)
   ·
    refine hl_less (sx 0 rfl (sx 1 rfl (sx 4 rfl (sx 5 rfl (sx 6 rfl (sx 13 rfl (sx 14 rfl (sx 15 rfl (sx 16 rfl (sx 17 rfl (sx 27 rfl (sub_nil _)))))))))))) (.refl _) ?_
    refine hl_nil ?_
    refine hq_then ?_
    refine hc_true rfl ?_
    refine hc_seq ?_
    refine hc_region ?_
    refine hl_v rfl rfl rfl (rv_ev rfl) ?_
    refine hl_less (sx 0 rfl (sx 1 rfl (sx 4 rfl (sx 5 rfl (sx 6 rfl (sx 13 rfl (sx 14 rfl (sx 15 rfl (sx 16 rfl (sx 17 rfl (sx 27 rfl (sub_nil _)))))))))))) (.refl _) ?_
    refine hl_nil ?_
    refine hq_then ?_
    refine hc_ret ?_
    refine hq_then_ret ?_
    refine hq_block_ret ?_
    refine hq_then_ret ?_
    refine hq_then_ret ?_
    refine hq_block_ret ?_
    refine hq_then_ret ?_
    exact hq_ans rfl rfl (congrArg _ (pB_no (fun hp => by first | (have h9 := hp.len; omega) | (have h9 := (hp.el i (by omega)).1; omega) | (have h9 := (hp.el i (by omega)).2 j (by omega); omega))).symm)
   ·
    refine hl_less (sx 0 rfl (sx 1 rfl (sx 4 rfl (sx 5 rfl (sx 6 rfl (sx 13 rfl (sx 14 rfl (sx 15 rfl (sx 16 rfl (sx 17 rfl (sx 27 rfl (sub_nil _)))))))))))) (.refl _) ?_
    refine hl_nil ?_
    refine hq_then ?_
    refine hc_false rfl ?_
    refine hc_skip ?_
    refine hq_then ?_
    refine hc_seq ?_
    refine hc_region ?_
    have q3 := sml (hA1.at (d := ir0) (k := i) (by omega))
    refine hl_v rfl rfl rfl (rv_ev rfl) ?_
    refine hl_v rfl rfl rfl (rv_len rfl Try.underlying24 rfl (rd_old ((hA1).at (d := ir0) (k := i) (by omega)))) ?_
    refine hl_v rfl rfl rfl (rv_ev rfl) ?_
    refine hl_less (sx 0 rfl (sx 1 rfl (sx 4 rfl (sx 5 rfl (sx 6 rfl (sx 13 rfl (sx 14 rfl (sx 15 rfl (sx 16 rfl (sx 17 rfl (sx 27 rfl (sx 28 rfl (sx 29 rfl (sx 30 rfl (sub_nil _))))))))))))))) (.refl _) ?_
    refine hl_nil ?_
    refine hq_then ?_
    refine hc_block ?_
    refine hc_loop1 (α := Nat) (fun j => []) (fun j => [(0, v), (1, u), (4, .bool false), (5, .int .i64 (i : Int)), (6, (rs.getD i ir0).v), (13, .bool false), (14, v), (15, .int .i64 (rs.length : Int)), (16, .int .i64 (i : Int)), (17, .bool true), (27, .bool false), (28, (rs.getD i ir0).v), (29, .int .i64 (((rs.getD i ir0).xs).length : Int)), (30, .int .i64 (j : Int))]) (fun j => j ≤ (rs.getD i ir0).xs.length ∧ ∀ q, q < j → 0 ≤ (rs.getD i ir0).xs.getD q 0 ∧ (rs.getD i ir0).xs.getD q 0 ≤ 100) (fun j => (rs.getD i ir0).xs.length - j) 0 ⟨Nat.zero_le _, fun i hi => absurd hi (by omega)⟩ (sx 0 rfl (sx 1 rfl (sx 4 rfl (sx 5 rfl (sx 6 rfl (sx 13 rfl (sx 14 rfl (sx 15 rfl (sx 16 rfl (sx 17 rfl (sx 27 rfl (sx 28 rfl (sx 29 rfl (sx 30 rfl (sub_nil _))))))))))))))) (.slnil) ?_
    intro j hi5
    obtain ⟨hj, hj2⟩ := hi5
    refine hc_seq ?_
    refine hc_region ?_
    refine hl_lss rfl rfl rfl rfl rfl rfl (fun h6 => ?_) (fun h6 => ?_)
    ·
     refine hl_less (sx 0 rfl (sx 1 rfl (sx 4 rfl (sx 5 rfl (sx 6 rfl (sx 13 rfl (sx 14 rfl (sx 15 rfl (sx 16 rfl (sx 17 rfl (sx 27 rfl (sx 28 rfl (sx 29 rfl (sx 30 rfl (sx 31 rfl (sub_nil _)))))))))))))))) (.refl _) ?_
     refine hl_nil ?_
     refine hq_then ?_
     refine hc_seq ?_
     refine hc_true rfl ?_
     refine hc_skip ?_
     refine hq_then ?_
     refine hc_seq ?_
     refine hc_block ?_
     refine hc_seq ?_
     refine hc_region ?_
     refine hl_v rfl rfl rfl (rv_index (s := 1) rfl Try.underlying24 (by kernel_rfl) rfl rfl (rd_old ((hA1).at (d := ir0) (k := i) (by omega))) (by omega) (by first | omega | (simp only [List.length_set]; omega))) ?_
     refine hl_v rfl rfl rfl (rv_loadEl (u := .int .i64 (((rs.getD i ir0).xs).getD j 0)) rfl (by kernel_rfl) rfl (rd_old ((hA1).at (d := ir0) (k := i) (by omega))) (ints_at1 (show _ < ((rs.getD i ir0).xs).length by first | omega | (simp only [List.length_set]; omega)))) ?_
     refine hl_v rfl rfl rfl (rv_ev rfl) ?_
     refine hl_less (sx 0 rfl (sx 1 rfl (sx 4 rfl (sx 5 rfl (sx 6 rfl (sx 8 rfl (sx 13 rfl (sx 14 rfl (sx 15 rfl (sx 16 rfl (sx 17 rfl (sx 27 rfl (sx 28 rfl (sx 29 rfl (sx 30 rfl (sx 31 rfl (sub_nil _))))))))))))))))) (.refl _) ?_
     refine hl_nil ?_
     refine hq_then ?_
     refine hc_seq ?_
     refine hc_region ?_
     refine hl_v rfl rfl rfl (rv_ev rfl) ?_
     refine hl_callV rfl rfl rfl (rq_call (by kernel_rfl) rfl (fun w hm => ret_ans (ans_of (inRange_any _ _ _ w)))) ?_
     refine hl_bool (fun h7 => ?_) (fun h7 => ?_)
     ·
      obtain ⟨h7a, h7b⟩ := (inR_iff _ _ _).1 h7
      refine hl_v rfl rfl rfl (rv_ev rfl) ?_
      refine hl_less (sx 0 rfl (sx 1 rfl (sx 4 rfl (sx 5 rfl (sx 6 rfl (sx 8 rfl (sx 13 rfl (sx 14 rfl (sx 15 rfl (sx 16 rfl (sx 17 rfl (sx 27 rfl (sx 28 rfl (sx 29 rfl (sx 30 rfl (sx 31 rfl (sx 36 rfl (sub_nil _)))))))))))))))))) (.refl _) ?_
      refine hl_nil ?_
      refine hq_then ?_
      refine hc_false rfl ?_
      refine hc_skip ?_
      refine hq_block_normal ?_
      refine hq_then ?_
      refine hc_region ?_
      refine hl_v rfl rfl rfl (rv_add rfl rfl rfl (by constructor <;> omega)) ?_
      refine hl_v rfl rfl rfl (rv_ev rfl) ?_
      refine hl_less (sx 0 rfl (sx 1 rfl (sx 4 rfl (sx 5 rfl (sx 6 rfl (sx 8 rfl (sx 13 rfl (sx 14 rfl (sx 15 rfl (sx 16 rfl (sx 17 rfl (sx 27 rfl (sx 28 rfl (sx 29 rfl (sx 30 rfl (sx 31 rfl (sx 36 rfl (sub_nil _)))))))))))))))))) (.refl _) ?_
      refine hl_nil ?_
      exact hq_round1 (j + 1) ⟨by omega, fun q hq9 => by by_cases e : q = j; (subst e; omega); exact hj2 q (by omega)⟩ (by omega) (sx 0 rfl (sx 1 rfl (sx 4 rfl (sx 5 rfl (sx 6 rfl (sx 13 rfl (sx 14 rfl (sx 15 rfl (sx 16 rfl (sx 17 rfl (sx 27 rfl (sx 28 rfl (sx 29 rfl (sx 30 rfl (sub_nil _))))))))))))))) (.slnil)
     ·
      have h7a := inR_notL h7
      refine hl_v rfl rfl rfl (rv_ev rfl) ?_
      refine hl_less (sx 0 rfl (sx 1 rfl (sx 4 rfl (sx 5 rfl (sx 6 rfl (sx 8 rfl (sx 13 rfl (sx 14 rfl (sx 15 rfl (sx 16 rfl (sx 17 rfl (sx 27 rfl (sx 28 rfl (sx 29 rfl (sx 30 rfl (sx 31 rfl (sx 36 rfl (sub_nil _)))))))))))))))))) (.refl _) ?_
      refine hl_nil ?_
      refine hq_then ?_
      refine hc_true rfl ?_
      refine hc_seq ?_
      refine hc_region ?_
      refine hl_v rfl rfl rfl (rv_ev rfl) ?_
      refine hl_less (sx 0 rfl (sx 1 rfl (sx 4 rfl (sx 5 rfl (sx 6 rfl (sx 8 rfl (sx 13 rfl (sx 14 rfl (sx 15 rfl (sx 16 rfl (sx 17 rfl (sx 27 rfl (sx 28 rfl (sx 29 rfl (sx 30 rfl (sx 31 rfl (sx 36 rfl (sub_nil _)))))))))))))))))) (.refl _) ?_
      refine hl_nil ?_
      refine hq_then ?_
      refine hc_ret ?_
      refine hq_block_ret ?_
      refine hq_then_ret ?_
      refine hq_then_ret ?_
      refine hq_block_ret ?_
      refine hq_block_ret ?_
      refine hq_then_ret ?_
      refine hq_then_ret ?_
      refine hq_block_ret ?_
      refine hq_then_ret ?_
      exact hq_ans rfl rfl (congrArg _ (pB_no (fun hp => by first | (have h9 := hp.len; omega) | (have h9 := (hp.el i (by omega)).1; omega) | (have h9 := (hp.el i (by omega)).2 j (by omega); omega))).symm)
    ·
     refine hl_less (sx 0 rfl (sx 1 rfl (sx 4 rfl (sx 5 rfl (sx 6 rfl (sx 13 rfl (sx 14 rfl (sx 15 rfl (sx 16 rfl (sx 17 rfl (sx 27 rfl (sx 28 rfl (sx 29 rfl (sx 30 rfl (sx 31 rfl (sub_nil _)))))))))))))))) (.refl _) ?_
     refine hl_nil ?_
     refine hq_then ?_
     refine hc_seq ?_
     refine hc_false rfl ?_
     refine hc_exit ?_
     refine hq_then_exit ?_
     refine hq_then_exit ?_
     refine hq_block_exit ?_
     refine hq_block_normal ?_
     refine hq_then ?_
     refine hc_region ?_
     refine hl_v rfl rfl rfl (rv_add rfl rfl rfl (by constructor <;> omega)) ?_
     refine hl_v rfl rfl rfl (rv_ev rfl) ?_
     refine hl_less (sx 0 rfl (sx 1 rfl (sx 4 rfl (sx 5 rfl (sx 6 rfl (sx 13 rfl (sx 14 rfl (sx 15 rfl (sx 16 rfl (sx 17 rfl (sx 27 rfl (sx 28 rfl (sx 29 rfl (sx 30 rfl (sx 31 rfl (sub_nil _)))))))))))))))) (.refl _) ?_
     refine hl_nil ?_
     exact hq_round1 (i + 1) ⟨by omega, fun q hq9 => by by_cases e : q = i; (subst e; exact ⟨by omega, fun t ht => hj2 t (by omega)⟩); exact hq q (by omega)⟩ (by omega) (sx 0 rfl (sx 1 rfl (sx 4 rfl (sx 13 rfl (sx 14 rfl (sx 15 rfl (sx 16 rfl (sub_nil _)))))))) (.slnil)
  ·
   refine hl_less (sx 0 rfl (sx 1 rfl (sx 4 rfl (sx 13 rfl (sx 14 rfl (sx 15 rfl (sx 16 rfl (sx 17 rfl (sub_nil _))))))))) (.refl _) ?_
   refine hl_nil ?_
   refine hq_then ?_
   refine hc_seq ?_
   refine hc_false rfl ?_
   refine hc_exit ?_
   refine hq_then_exit ?_
   refine hq_then_exit ?_
   refine hq_block_exit ?_
   refine hq_then ?_
   refine hc_seq ?_
   refine hc_region ?_
   refine hl_v rfl rfl rfl (rv_ev rfl) ?_
   refine hl_less (sx 0 rfl (sx 1 rfl (sx 4 rfl (sx 13 rfl (sx 14 rfl (sx 15 rfl (sx 16 rfl (sx 17 rfl (sub_nil _))))))))) (.refl _) ?_
   refine hl_nil ?_
   refine hq_then ?_
   refine hc_ret ?_
   exact hq_ans rfl rfl (congrArg _ (pB_yes ⟨by omega, fun q hq9 => hq q (by omega)⟩).symm)
set_option maxHeartbeats 4000000 in
set_option maxRecDepth 100000 in
theorem implTimedOk_ans (x : Td) (w : World) (hr : RdsTd w x) :
  Calls Try.prog 13 #[.agg #[.int .i64 x.n.ins, x.n.sv, x.n.lv, x.n.ov, x.pv, x.qv, x.kv, x.av, x.bv, .int .i64 x.oi, .int .i64 x.ni]] w (Ans w (.bool (pB (TdOk x)))) := by
 have t1 := sml hr.ks
 have t2 := sml hr.ao
 have t3 := sml hr.bs
 have t4 := hr.dl.small
 have t5 := hr.ds.small
 have t6 := hr.n.sq.small
 have t7 := hr.n.lt.small
 have t8 := sml hr.n.ou
 have hcnt : x.n.cnt = 1 + x.n.ins + x.n.ss.length + x.n.ls.length := rfl
 have hfst : x.n.fst = 1 + x.n.ins + x.n.ss.length := rfl
 refine calls_hc (N := 83) (args := [.agg #[.int .i64 x.n.ins, x.n.sv, x.n.lv, x.n.ov, x.pv, x.qv, x.kv, x.av, x.bv, .int .i64 x.oi, .int .i64 x.ni]]) Try.func13 rfl rfl ?_
 refine hc_less _ (sx 0 rfl (sub_nil _)) (.refl _) ?_
 refine hc_seq ?_
 refine hc_region ?_
 refine hl_box rfl rfl rfl (rq_box rfl rfl) ?_
 intro b1
 refine hl_v rfl rfl rfl (rv_ev rfl) ?_
 refine hl_less (sx 0 rfl (sx 1 rfl (sx 2 rfl (sub_nil _)))) (.refl _) ?_
 refine hl_nil ?_
 refine hq_then ?_
 refine hc_seq ?_
 refine hc_seq ?_
 refine hc_region ?_
 refine hl_v rfl rfl rfl (rv_field (k0 := 0) rfl (by kernel_rfl) rfl) ?_
 refine hl_v rfl rfl rfl (rv_loadN (cs := [.int .i64 x.n.ins, x.n.sv, x.n.lv, x.n.ov]) rfl (by kernel_rfl) (by kernel_rfl) rfl rfl (box_part 0 rfl 0 rfl)) ?_
 refine hl_v rfl rfl rfl (rv_field (k0 := 7) rfl (by kernel_rfl) rfl) ?_
 refine hl_v rfl rfl rfl (rv_load rfl (by kernel_rfl) rfl (box_cell 0 rfl rfl)) ?_
 refine hl_callV rfl rfl rfl (rq_call (by kernel_rfl) rfl (fun w hm => ret_ans (implLutStateOk_ans x.n x.ao _ w (hr.n.below hm.bel) (hr.ao.below hm.bel)))) ?_
 refine hl_bool (fun h2 => ?_) (fun h2 => ?_)
 ·
  have hSao := of_pB h2
  refine hl_v rfl rfl rfl (rv_ev rfl) ?_
  refine hl_v rfl rfl rfl (rv_ev rfl) ?_
  refine hl_v rfl rfl rfl (rv_field (k0 := 0) rfl (by kernel_rfl) rfl) ?_
  refine hl_v rfl rfl rfl (rv_loadN (cs := [.int .i64 x.n.ins, x.n.sv, x.n.lv, x.n.ov]) rfl (by kernel_rfl) (by kernel_rfl) rfl rfl (box_part 0 rfl 0 rfl)) ?_
  refine hl_v rfl rfl rfl (rv_field (k0 := 8) rfl (by kernel_rfl) rfl) ?_
  refine hl_v rfl rfl rfl (rv_load rfl (by kernel_rfl) rfl (box_cell 0 rfl rfl)) ?_
  refine hl_callV rfl rfl rfl (rq_call (by kernel_rfl) rfl (fun w hm => ret_ans (implLutStateOk_ans x.n x.bs _ w (hr.n.below hm.bel) (hr.bs.below hm.bel)))) ?_
  refine hl_bool (fun h3 => ?_) (fun h3 => ?_)
  ·
   have hSbs := of_pB h3
   refine hl_v rfl rfl rfl (rv_ev rfl) ?_
   refine hl_v rfl rfl rfl (rv_ev rfl) ?_
   refine hl_v rfl rfl rfl (rv_ev rfl) ?_
   refine hl_v rfl rfl rfl (rv_field (k0 := 6) rfl (by kernel_rfl) rfl) ?_
   refine hl_v rfl rfl rfl (rv_load rfl (by kernel_rfl) rfl (box_cell 0 rfl rfl)) ?_
   refine hl_v rfl rfl rfl (rv_len rfl Try.underlying24 rfl (rd_old ((hr).ks))) ?_
   refine hl_v rfl rfl rfl (rv_field (k0 := 0) rfl (by kernel_rfl) rfl) ?_
   refine hl_v rfl rfl rfl (rv_field (k0 := 1) rfl (by kernel_rfl) rfl) ?_
   refine hl_v rfl rfl rfl (rv_load rfl (by kernel_rfl) rfl (box_cell 0 rfl rfl)) ?_
   refine hl_v rfl rfl rfl (rv_len rfl Try.underlying34 rfl (rd_old ((hr).n.sq.row))) ?_
   refine hl_neq rfl rfl rfl rfl rfl rfl (fun h4 => ?_) (fun h4 => ?_)
   ·
    refine hl_v rfl rfl rfl (rv_ev rfl) ?_
    refine hl_less (sx 0 rfl (sx 1 rfl (sx 2 rfl (sx 32 rfl (sub_nil _))))) (.refl _) ?_
    refine hl_nil ?_
    refine hq_then ?_
    refine hc_true rfl ?_
    refine hc_seq ?_
    refine hc_region ?_
    refine hl_v rfl rfl rfl (rv_ev rfl) ?_
    refine hl_less (sx 0 rfl (sx 1 rfl (sx 2 rfl (sx 32 rfl (sub_nil _))))) (.refl _) ?_
    refine hl_nil ?_
    refine hq_then ?_
    refine hc_ret ?_
    refine hq_then_ret ?_
    exact hq_ans rfl rfl (congrArg _ (pB_no (fun hp => by first | (exact hSao ⟨hp.n, hp.a⟩) | (exact hSbs ⟨hp.n, hp.b⟩) | (have h9 := hp.k.1; omega) | (have h9 := hp.k.2 k (by omega); omega) | (exact hDdl (hE1.2 ⟨hp.dn, hp.dl⟩)) | (exact hDds (hE2.2 ⟨hp.sn, hp.ds⟩)))).symm)
   ·
    refine hl_v rfl rfl rfl (rv_ev rfl) ?_
    refine hl_less (sx 0 rfl (sx 1 rfl (sx 2 rfl (sx 32 rfl (sub_nil _))))) (.refl _) ?_
    refine hl_nil ?_
    refine hq_then ?_
    refine hc_false rfl ?_
    refine hc_skip ?_
    refine hq_then ?_
    refine hc_seq ?_
    refine hc_region ?_
    refine hl_nilRow 3 1 ?_
    refine hl_v rfl rfl rfl (rv_ev rfl) ?_
    refine hl_nilRow 3 1 ?_
    refine hl_v rfl rfl rfl (rv_ev rfl) ?_
    refine hl_less (sx 0 rfl (sx 1 rfl (sx 2 rfl (sx 3 rfl (sx 4 rfl (sx 32 rfl (sub_nil _))))))) (.refl _) ?_
    refine hl_nil ?_
    refine hq_then ?_
    refine hc_seq ?_
    refine hc_seq ?_
    refine hc_region ?_
    obtain ⟨⟨si, s2, s3, s4⟩, -, -, -⟩ := id hSao.ok
    refine hl_v rfl rfl rfl (rv_field (k0 := 0) rfl (by kernel_rfl) rfl) ?_
    refine hl_v rfl rfl rfl (rv_field (k0 := 2) rfl (by kernel_rfl) rfl) ?_
    refine hl_v rfl rfl rfl (rv_load rfl (by kernel_rfl) rfl (box_cell 2 rfl rfl)) ?_
    refine hl_v rfl rfl rfl (rv_len rfl Try.underlying35 rfl (rd_old ((hr).n.lt.row))) ?_
    refine hl_v rfl rfl rfl (rv_ev rfl) ?_
    refine hl_less (sx 0 rfl (sx 1 rfl (sx 2 rfl (sx 3 rfl (sx 4 rfl (sx 32 rfl (sx 35 rfl (sx 36 rfl (sx 37 rfl (sub_nil _)))))))))) (.refl _) ?_
    refine hl_nil ?_
    refine hq_then ?_
    refine hc_block ?_
    refine hc_loop3 (α := Nat) (β := Value) (γ := List Int) (fun i u1 z1 => [rowE 3 1 (.slice none 0 0) 0 ([]), rowE 3 1 u1 z1.length (z1.map (Value.int .i64)), boxE b1 #[.int .i64 x.n.ins, x.n.sv, x.n.lv, x.n.ov, x.pv, x.qv, x.kv, x.av, x.bv, .int .i64 x.oi, .int .i64 x.ni] 40]) (fun i u1 z1 => [(0, .agg #[.int .i64 x.n.ins, x.n.sv, x.n.lv, x.n.ov, x.pv, x.qv, x.kv, x.av, x.bv, .int .i64 x.oi, .int .i64 x.ni]), (1, .pointer (some ⟨b1, 0, none⟩)), (2, .bool false), (3, u1), (4, .slice none 0 0), (32, .bool false), (35, x.n.lv), (36, .int .i64 (x.n.ls.length : Int)), (37, .int .i64 (i : Int))]) (fun i u1 z1 => i ≤ x.n.ls.length ∧ z1 = lensL Lt.xs x.n.ls i) (fun i u1 z1 => x.n.ls.length - i) 0 _ [] ⟨Nat.zero_le _, rfl⟩ (sx 0 rfl (sx 1 rfl (sx 2 rfl (sx 3 rfl (sx 4 rfl (sx 32 rfl (sx 35 rfl (sx 36 rfl (sx 37 rfl (sub_nil _)))))))))) ((.cons_cons _ (.cons_cons _ (.cons_cons _ .slnil)))) ?_
    intro i u1 z1 hi7
    obtain ⟨hi, hz1⟩ := hi7
    have hzl1 : z1.length = i := by rw [hz1]; exact lensL_len _ hi
    refine hc_seq ?_
    refine hc_region ?_
    refine hl_lss rfl rfl rfl rfl rfl rfl (fun h8 => ?_) (fun h8 => ?_)
    ·
     refine hl_less (sx 0 rfl (sx 1 rfl (sx 2 rfl (sx 3 rfl (sx 4 rfl (sx 32 rfl (sx 35 rfl (sx 36 rfl (sx 37 rfl (sx 38 rfl (sub_nil _))))))))))) (.refl _) ?_
     refine hl_nil ?_
     refine hq_then ?_
     refine hc_seq ?_
     refine hc_true rfl ?_
     refine hc_skip ?_
     refine hq_then ?_
     refine hc_seq ?_
     refine hc_block ?_
     refine hc_seq ?_
     refine hc_region ?_
     refine hl_v rfl rfl rfl (rv_index (s := 2) rfl Try.underlying35 (by kernel_rfl) rfl rfl (rd_old ((hr).n.lt.row)) (by omega) (by first | omega | (simp only [List.length_set]; omega))) ?_
     refine hl_v rfl rfl rfl (rv_loadElN (us := [(x.n.ls.getD i lt0).iv, .int .i64 ((x.n.ls.getD i lt0).ma)]) rfl (by kernel_rfl) (by kernel_rfl) rfl (rd_old ((hr).n.lt.row)) (by omega) rfl (flat_atN ltC 2 (fun _ => rfl) x.n.ls lt0 (show i < _ by first | omega | (simp only [List.length_set]; omega)) rfl)) ?_
     refine hl_box rfl rfl rfl (rq_alloc (z := .agg #[.slice none 0 0, .int .i64 0]) rfl (by kernel_rfl)) ?_
     intro b9
     refine hl_storeBoxN (i := 0) (off := 0) (us := [(x.n.ls.getD i lt0).iv, .int .i64 ((x.n.ls.getD i lt0).ma)])  (l' := [boxE b9 #[(x.n.ls.getD i lt0).iv, .int .i64 ((x.n.ls.getD i lt0).ma)] 69, rowE 3 1 (.slice none 0 0) 0 ([]), rowE 3 1 u1 z1.length (z1.map (Value.int .i64)), boxE b1 #[.int .i64 x.n.ins, x.n.sv, x.n.lv, x.n.ov, x.pv, x.qv, x.kv, x.av, x.bv, .int .i64 x.oi, .int .i64 x.ni] 40]) rfl rfl rfl (by kernel_rfl) rfl rfl rfl (all_cons (hr.n.lt.at (d := lt0) (k := i) (by omega)).one (all_cons rfl all_nil)) rfl rfl rfl ?_
     refine hl_less (sx 0 rfl (sx 1 rfl (sx 2 rfl (sx 3 rfl (sx 4 rfl (sx 6 rfl (sx 32 rfl (sx 35 rfl (sx 36 rfl (sx 37 rfl (sx 38 rfl (sub_nil _)))))))))))) (.refl _) ?_
     refine hl_nil ?_
     refine hq_then ?_
     refine hc_region ?_
     refine hl_v rfl rfl rfl (rv_ev rfl) ?_
     refine hl_v rfl rfl rfl (rv_field (k0 := 0) rfl (by kernel_rfl) rfl) ?_
     refine hl_v rfl rfl rfl (rv_load rfl (by kernel_rfl) rfl (box_cell 0 rfl rfl)) ?_
     refine hl_v rfl rfl rfl (rv_len rfl Try.underlying24 rfl (rd_old ((hr).n.lt.at (d := lt0) (k := i) (by omega)))) ?_
     refine hl_row rfl rfl rfl (rq_buildSlice (z := .int .i64 0) (s := 1) (cs := ([(((x.n.ls.getD i lt0).xs).length : Int)].map (Value.int .i64))) rfl Try.underlying24 (by kernel_rfl) (by decide) rfl (by kernel_rfl) rfl) ?_
     intro g10
     refine hl_append (i := 3) (z := .int .i64 0) (bytes := 8) (n' := (z1 ++ ([(((x.n.ls.getD i lt0).xs).length : Int)])).length) (xs' := ((z1 ++ ([(((x.n.ls.getD i lt0).xs).length : Int)])).map (Value.int .i64))) (L := fun v11 => [rowE 3 1 (.slice (some ⟨g10, 0, none⟩) 1 1) 1 ([(((x.n.ls.getD i lt0).xs).length : Int)].map (Value.int .i64)), boxE b9 #[(x.n.ls.getD i lt0).iv, .int .i64 ((x.n.ls.getD i lt0).ma)] 69, rowE 3 1 (.slice none 0 0) 0 ([]), rowE 3 1 v11 ((z1 ++ ([(((x.n.ls.getD i lt0).xs).length : Int)])).length) ((z1 ++ ([(((x.n.ls.getD i lt0).xs).length : Int)])).map (Value.int .i64)), boxE b1 #[.int .i64 x.n.ins, x.n.sv, x.n.lv, x.n.ov, x.pv, x.qv, x.kv, x.av, x.bv, .int .i64 x.oi, .int .i64 x.ni] 40]) rfl rfl rfl rfl Try.underlying24 (by kernel_rfl) (by kernel_rfl) rfl rfl rfl (rd_row 0 rfl) (ints_one _) (by first | omega | (simp; omega)) (len_app z1 ([(((x.n.ls.getD i lt0).xs).length : Int)])) (ints_app z1 ([(((x.n.ls.getD i lt0).xs).length : Int)])) (fun _ => rfl) ?_
     intro v11
     refine hl_v rfl rfl rfl (rv_ev rfl) ?_
     refine hl_less (sx 0 rfl (sx 1 rfl (sx 2 rfl (sx 3 rfl (sx 4 rfl (sx 6 rfl (sx 32 rfl (sx 35 rfl (sx 36 rfl (sx 37 rfl (sx 38 rfl (sub_nil _)))))))))))) (.refl _) ?_
     refine hl_nil ?_
     refine hq_block_normal ?_
     refine hq_then ?_
     refine hc_region ?_
     refine hl_v rfl rfl rfl (rv_add rfl rfl rfl (by constructor <;> omega)) ?_
     refine hl_v rfl rfl rfl (rv_ev rfl) ?_
     refine hl_less (sx 0 rfl (sx 1 rfl (sx 2 rfl (sx 3 rfl (sx 4 rfl (sx 6 rfl (sx 32 rfl (sx 35 rfl (sx 36 rfl (sx 37 rfl (sx 38 rfl (sub_nil _)))))))))))) (.refl _) ?_
     refine hl_nil ?_
     exact hq_round3 (i + 1) v11 (z1 ++ ([(((x.n.ls.getD i lt0).xs).length : Int)])) ⟨by omega, by rw [hz1]; exact lensL_succ Lt.xs lt0 (by omega)⟩ (by omega) (sx 0 rfl (sx 1 rfl (sx 2 rfl (sx 3 rfl (sx 4 rfl (sx 32 rfl (sx 35 rfl (sx 36 rfl (sx 37 rfl (sub_nil _)))))))))) ((.cons _ (.cons _ (.cons_cons _ (.cons_cons _ (.cons_cons _ .slnil))))))
    ·
     refine hl_less (sx 0 rfl (sx 1 rfl (sx 2 rfl (sx 3 rfl (sx 4 rfl (sx 32 rfl (sx 35 rfl (sx 36 rfl (sx 37 rfl (sx 38 rfl (sub_nil _))))))))))) (.refl _) ?_
     refine hl_nil ?_
     refine hq_then ?_
     refine hc_seq ?_
     refine hc_false rfl ?_
     refine hc_exit ?_
     refine hq_then_exit ?_
     refine hq_then_exit ?_
     refine hq_block_exit ?_
     refine hq_then ?_
     refine hc_seq ?_
     refine hc_seq ?_
     refine hc_region ?_
     refine hl_v rfl rfl rfl (rv_field (k0 := 0) rfl (by kernel_rfl) rfl) ?_
     refine hl_v rfl rfl rfl (rv_field (k0 := 1) rfl (by kernel_rfl) rfl) ?_
     refine hl_v rfl rfl rfl (rv_load rfl (by kernel_rfl) rfl (box_cell 2 rfl rfl)) ?_
     refine hl_v rfl rfl rfl (rv_len rfl Try.underlying34 rfl (rd_old ((hr).n.sq.row))) ?_
     refine hl_v rfl rfl rfl (rv_ev rfl) ?_
     refine hl_less (sx 0 rfl (sx 1 rfl (sx 2 rfl (sx 3 rfl (sx 4 rfl (sx 32 rfl (sx 35 rfl (sx 36 rfl (sx 37 rfl (sx 38 rfl (sx 50 rfl (sx 51 rfl (sx 52 rfl (sub_nil _)))))))))))))) (.refl _) ?_
     refine hl_nil ?_
     refine hq_then ?_
     refine hc_block ?_
     refine hc_loop3 (α := Nat) (β := Value) (γ := List Int) (fun k u2 z2 => [rowE 3 1 u2 z2.length (z2.map (Value.int .i64)), rowE 3 1 u1 z1.length (z1.map (Value.int .i64)), boxE b1 #[.int .i64 x.n.ins, x.n.sv, x.n.lv, x.n.ov, x.pv, x.qv, x.kv, x.av, x.bv, .int .i64 x.oi, .int .i64 x.ni] 40]) (fun k u2 z2 => [(0, .agg #[.int .i64 x.n.ins, x.n.sv, x.n.lv, x.n.ov, x.pv, x.qv, x.kv, x.av, x.bv, .int .i64 x.oi, .int .i64 x.ni]), (1, .pointer (some ⟨b1, 0, none⟩)), (2, .bool false), (3, u1), (4, u2), (32, .bool false), (35, x.n.lv), (36, .int .i64 (x.n.ls.length : Int)), (37, .int .i64 (i : Int)), (38, .bool false), (50, x.n.sv), (51, .int .i64 (x.n.ss.length : Int)), (52, .int .i64 (k : Int))]) (fun k u2 z2 => k ≤ x.n.ss.length ∧ z2 = lensL Sq.xs x.n.ss k ∧ ∀ q, q < k → 0 ≤ x.ks.getD q 0 ∧ x.ks.getD q 0 ≤ 50) (fun k u2 z2 => x.n.ss.length - k) 0 _ [] ⟨Nat.zero_le _, rfl, fun q hq => absurd hq (by omega)⟩ (sx 0 rfl (sx 1 rfl (sx 2 rfl (sx 3 rfl (sx 4 rfl (sx 32 rfl (sx 35 rfl (sx 36 rfl (sx 37 rfl (sx 38 rfl (sx 50 rfl (sx 51 rfl (sx 52 rfl (sub_nil _)))))))))))))) ((.cons_cons _ (.cons_cons _ (.cons_cons _ .slnil)))) ?_
     intro k u2 z2 hi12
     obtain ⟨hk, hz2, hkq⟩ := hi12
     have hzl2 : z2.length = k := by rw [hz2]; exact lensL_len _ hk
     refine hc_seq ?_
     refine hc_region ?_
     refine hl_lss rfl rfl rfl rfl rfl rfl (fun h13 => ?_) (fun h13 => ?_)
     ·
      refine hl_less (sx 0 rfl (sx 1 rfl (sx 2 rfl (sx 3 rfl (sx 4 rfl (sx 32 rfl (sx 35 rfl (sx 36 rfl (sx 37 rfl (sx 38 rfl (sx 50 rfl (sx 51 rfl (sx 52 rfl (sx 53 rfl (sub_nil _))))))))))))))) (.refl _) ?_
      refine hl_nil ?_
      refine hq_then ?_
      refine hc_seq ?_
      refine hc_true rfl ?_
      refine hc_skip ?_
      refine hq_then ?_
      refine hc_seq ?_
      refine hc_block ?_
      refine hc_seq ?_
      refine hc_region ?_
      refine hl_v rfl rfl rfl (rv_ev rfl) ?_
      refine hl_v rfl rfl rfl (rv_index (s := 3) rfl Try.underlying34 (by kernel_rfl) rfl rfl (rd_old ((hr).n.sq.row)) (by omega) (by first | omega | (simp only [List.length_set]; omega))) ?_
      refine hl_v rfl rfl rfl (rv_loadElN (us := [.int .i64 ((x.n.ss.getD k sq0).kd), .int .i64 ((x.n.ss.getD k sq0).it), (x.n.ss.getD k sq0).iv]) rfl (by kernel_rfl) (by kernel_rfl) rfl (rd_old ((hr).n.sq.row)) (by omega) rfl (flat_atN sqC 3 (fun _ => rfl) x.n.ss sq0 (show k < _ by first | omega | (simp only [List.length_set]; omega)) rfl)) ?_
      refine hl_box rfl rfl rfl (rq_alloc (z := .agg #[.int .i64 0, .int .i64 0, .slice none 0 0]) rfl (by kernel_rfl)) ?_
      intro b14
      refine hl_v rfl rfl rfl (rv_ev rfl) ?_
      refine hl_storeBoxN (i := 0) (off := 0) (us := [.int .i64 ((x.n.ss.getD k sq0).kd), .int .i64 ((x.n.ss.getD k sq0).it), (x.n.ss.getD k sq0).iv])  (l' := [boxE b14 #[.int .i64 ((x.n.ss.getD k sq0).kd), .int .i64 ((x.n.ss.getD k sq0).it), (x.n.ss.getD k sq0).iv] 71, rowE 3 1 u2 z2.length (z2.map (Value.int .i64)), rowE 3 1 u1 z1.length (z1.map (Value.int .i64)), boxE b1 #[.int .i64 x.n.ins, x.n.sv, x.n.lv, x.n.ov, x.pv, x.qv, x.kv, x.av, x.bv, .int .i64 x.oi, .int .i64 x.ni] 40]) rfl rfl rfl (by kernel_rfl) rfl rfl rfl (all_cons rfl (all_cons rfl (all_cons (hr.n.sq.at (d := sq0) (k := k) (by omega)).one all_nil))) rfl rfl rfl ?_
      refine hl_less (sx 0 rfl (sx 1 rfl (sx 2 rfl (sx 3 rfl (sx 4 rfl (sx 7 rfl (sx 8 rfl (sx 32 rfl (sx 35 rfl (sx 36 rfl (sx 37 rfl (sx 38 rfl (sx 50 rfl (sx 51 rfl (sx 52 rfl (sx 53 rfl (sub_nil _))))))))))))))))) (.refl _) ?_
      refine hl_nil ?_
      refine hq_then ?_
      refine hc_seq ?_
      refine hc_region ?_
      refine hl_v rfl rfl rfl (rv_ev rfl) ?_
      refine hl_v rfl rfl rfl (rv_field (k0 := 2) rfl (by kernel_rfl) rfl) ?_
      refine hl_v rfl rfl rfl (rv_load rfl (by kernel_rfl) rfl (box_cell 0 rfl rfl)) ?_
      refine hl_v rfl rfl rfl (rv_len rfl Try.underlying24 rfl (rd_old ((hr).n.sq.at (d := sq0) (k := k) (by omega)))) ?_
      refine hl_row rfl rfl rfl (rq_buildSlice (z := .int .i64 0) (s := 1) (cs := ([(((x.n.ss.getD k sq0).xs).length : Int)].map (Value.int .i64))) rfl Try.underlying24 (by kernel_rfl) (by decide) rfl (by kernel_rfl) rfl) ?_
      intro g15
      refine hl_append (i := 2) (z := .int .i64 0) (bytes := 8) (n' := (z2 ++ ([(((x.n.ss.getD k sq0).xs).length : Int)])).length) (xs' := ((z2 ++ ([(((x.n.ss.getD k sq0).xs).length : Int)])).map (Value.int .i64))) (L := fun v16 => [rowE 3 1 (.slice (some ⟨g15, 0, none⟩) 1 1) 1 ([(((x.n.ss.getD k sq0).xs).length : Int)].map (Value.int .i64)), boxE b14 #[.int .i64 ((x.n.ss.getD k sq0).kd), .int .i64 ((x.n.ss.getD k sq0).it), (x.n.ss.getD k sq0).iv] 71, rowE 3 1 v16 ((z2 ++ ([(((x.n.ss.getD k sq0).xs).length : Int)])).length) ((z2 ++ ([(((x.n.ss.getD k sq0).xs).length : Int)])).map (Value.int .i64)), rowE 3 1 u1 z1.length (z1.map (Value.int .i64)), boxE b1 #[.int .i64 x.n.ins, x.n.sv, x.n.lv, x.n.ov, x.pv, x.qv, x.kv, x.av, x.bv, .int .i64 x.oi, .int .i64 x.ni] 40]) rfl rfl rfl rfl Try.underlying24 (by kernel_rfl) (by kernel_rfl) rfl rfl rfl (rd_row 0 rfl) (ints_one _) (by first | omega | (simp; omega)) (len_app z2 ([(((x.n.ss.getD k sq0).xs).length : Int)])) (ints_app z2 ([(((x.n.ss.getD k sq0).xs).length : Int)])) (fun _ => rfl) ?_
      intro v16
      refine hl_v rfl rfl rfl (rv_ev rfl) ?_
      refine hl_less (sx 0 rfl (sx 1 rfl (sx 2 rfl (sx 3 rfl (sx 4 rfl (sx 7 rfl (sx 8 rfl (sx 32 rfl (sx 35 rfl (sx 36 rfl (sx 37 rfl (sx 38 rfl (sx 50 rfl (sx 51 rfl (sx 52 rfl (sx 53 rfl (sub_nil _))))))))))))))))) (.refl _) ?_
      refine hl_nil ?_
      refine hq_then ?_
      refine hc_seq ?_
      refine hc_region ?_
      refine hl_v rfl rfl rfl (rv_field (k0 := 6) rfl (by kernel_rfl) rfl) ?_
      refine hl_v rfl rfl rfl (rv_load rfl (by kernel_rfl) rfl (box_cell 4 rfl rfl)) ?_
      refine hl_v rfl rfl rfl (rv_ev rfl) ?_
      refine hl_v rfl rfl rfl (rv_index (s := 1) rfl Try.underlying24 (by kernel_rfl) rfl rfl (rd_old ((hr).ks)) (by omega) (by first | omega | (simp only [List.length_set]; omega))) ?_
      refine hl_v rfl rfl rfl (rv_loadEl (u := .int .i64 (x.ks.getD k 0)) rfl (by kernel_rfl) rfl (rd_old ((hr).ks)) (ints_at1 (show _ < x.ks.length by first | omega | (simp only [List.length_set]; omega)))) ?_
      refine hl_callV rfl rfl rfl (rq_call (by kernel_rfl) rfl (fun w hm => ret_ans (ans_of (inRange_any _ _ _ w)))) ?_
      refine hl_bool (fun h17 => ?_) (fun h17 => ?_)
      ·
       obtain ⟨h17a, h17b⟩ := (inR_iff _ _ _).1 h17
       refine hl_v rfl rfl rfl (rv_ev rfl) ?_
       refine hl_less (sx 0 rfl (sx 1 rfl (sx 2 rfl (sx 3 rfl (sx 4 rfl (sx 7 rfl (sx 8 rfl (sx 32 rfl (sx 35 rfl (sx 36 rfl (sx 37 rfl (sx 38 rfl (sx 50 rfl (sx 51 rfl (sx 52 rfl (sx 53 rfl (sx 69 rfl (sub_nil _)))))))))))))))))) (.refl _) ?_
       refine hl_nil ?_
       refine hq_then ?_
       refine hc_false rfl ?_
       refine hc_skip ?_
       refine hq_block_normal ?_
       refine hq_then ?_
       refine hc_region ?_
       refine hl_v rfl rfl rfl (rv_add rfl rfl rfl (by constructor <;> omega)) ?_
       refine hl_v rfl rfl rfl (rv_ev rfl) ?_
       refine hl_less (sx 0 rfl (sx 1 rfl (sx 2 rfl (sx 3 rfl (sx 4 rfl (sx 7 rfl (sx 8 rfl (sx 32 rfl (sx 35 rfl (sx 36 rfl (sx 37 rfl (sx 38 rfl (sx 50 rfl (sx 51 rfl (sx 52 rfl (sx 53 rfl (sx 69 rfl (sub_nil _)))))))))))))))))) (.refl _) ?_
       refine hl_nil ?_
       exact hq_round3 (k + 1) v16 (z2 ++ ([(((x.n.ss.getD k sq0).xs).length : Int)])) ⟨by omega, by rw [hz2]; exact lensL_succ Sq.xs sq0 (by omega), fun q hq => by by_cases e : q = k; (subst e; omega); exact hkq q (by omega)⟩ (by omega) (sx 0 rfl (sx 1 rfl (sx 2 rfl (sx 3 rfl (sx 4 rfl (sx 32 rfl (sx 35 rfl (sx 36 rfl (sx 37 rfl (sx 38 rfl (sx 50 rfl (sx 51 rfl (sx 52 rfl (sub_nil _)))))))))))))) ((.cons _ (.cons _ (.cons_cons _ (.cons_cons _ (.cons_cons _ .slnil))))))
      ·
       have h17a := inR_notL h17
       refine hl_v rfl rfl rfl (rv_ev rfl) ?_
       refine hl_less (sx 0 rfl (sx 1 rfl (sx 2 rfl (sx 3 rfl (sx 4 rfl (sx 7 rfl (sx 8 rfl (sx 32 rfl (sx 35 rfl (sx 36 rfl (sx 37 rfl (sx 38 rfl (sx 50 rfl (sx 51 rfl (sx 52 rfl (sx 53 rfl (sx 69 rfl (sub_nil _)))))))))))))))))) (.refl _) ?_
       refine hl_nil ?_
       refine hq_then ?_
       refine hc_true rfl ?_
       refine hc_seq ?_
       refine hc_region ?_
       refine hl_v rfl rfl rfl (rv_ev rfl) ?_
       refine hl_less (sx 0 rfl (sx 1 rfl (sx 2 rfl (sx 3 rfl (sx 4 rfl (sx 7 rfl (sx 8 rfl (sx 32 rfl (sx 35 rfl (sx 36 rfl (sx 37 rfl (sx 38 rfl (sx 50 rfl (sx 51 rfl (sx 52 rfl (sx 53 rfl (sx 69 rfl (sub_nil _)))))))))))))))))) (.refl _) ?_
       refine hl_nil ?_
       refine hq_then ?_
       refine hc_ret ?_
       refine hq_block_ret ?_
       refine hq_then_ret ?_
       refine hq_then_ret ?_
       refine hq_block_ret ?_
       refine hq_then_ret ?_
       exact hq_ans rfl rfl (congrArg _ (pB_no (fun hp => by first | (exact hSao ⟨hp.n, hp.a⟩) | (exact hSbs ⟨hp.n, hp.b⟩) | (have h9 := hp.k.1; omega) | (have h9 := hp.k.2 k (by omega); omega) | (exact hDdl (hE1.2 ⟨hp.dn, hp.dl⟩)) | (exact hDds (hE2.2 ⟨hp.sn, hp.ds⟩)))).symm)
     ·
      refine hl_less (sx 0 rfl (sx 1 rfl (sx 2 rfl (sx 3 rfl (sx 4 rfl (sx 32 rfl (sx 35 rfl (sx 36 rfl (sx 37 rfl (sx 38 rfl (sx 50 rfl (sx 51 rfl (sx 52 rfl (sx 53 rfl (sub_nil _))))))))))))))) (.refl _) ?_
      refine hl_nil ?_
      refine hq_then ?_
      refine hc_seq ?_
      refine hc_false rfl ?_
      refine hc_exit ?_
      refine hq_then_exit ?_
      refine hq_then_exit ?_
      refine hq_block_exit ?_
      refine hq_then ?_
      refine hc_seq ?_
      refine hc_region ?_
      have hie : i = x.n.ls.length := by omega
      have hke : k = x.n.ss.length := by omega
      have hE1 := dl_iff (rs := x.dl) Lt.xs (es := x.n.ls) lt0
      have hE2 := dl_iff (rs := x.ds) Sq.xs (es := x.n.ss) sq0
      rw [show lensL Lt.xs x.n.ls x.n.ls.length = z1 by rw [hz1, hie]] at hE1
      rw [show lensL Sq.xs x.n.ss x.n.ss.length = z2 by rw [hz2, hke]] at hE2
      refine hl_v rfl rfl rfl (rv_field (k0 := 4) rfl (by kernel_rfl) rfl) ?_
      refine hl_v rfl rfl rfl (rv_field (k0 := 0) rfl (by kernel_rfl) rfl) ?_
      refine hl_v rfl rfl rfl (rv_load rfl (by kernel_rfl) rfl (box_cell 2 rfl rfl)) ?_
      refine hl_v rfl rfl rfl (rv_ev rfl) ?_
      refine hl_callV rfl rfl rfl (rq_call (by kernel_rfl) rfl (fun w hm => ret_ans (delaysOk_ans x.dl z1 _ _ w (hr.dl.below hm.bel) ((rd_row 1 rfl) w hm)))) ?_
      refine hl_bool (fun h18 => ?_) (fun h18 => ?_)
      ·
       have hDdl := of_pB h18
       refine hl_v rfl rfl rfl (rv_ev rfl) ?_
       refine hl_v rfl rfl rfl (rv_field (k0 := 4) rfl (by kernel_rfl) rfl) ?_
       refine hl_v rfl rfl rfl (rv_field (k0 := 1) rfl (by kernel_rfl) rfl) ?_
       refine hl_v rfl rfl rfl (rv_load rfl (by kernel_rfl) rfl (box_cell 2 rfl rfl)) ?_
       refine hl_v rfl rfl rfl (rv_ev rfl) ?_
       refine hl_callV rfl rfl rfl (rq_call (by kernel_rfl) rfl (fun w hm => ret_ans (delaysOk_ans x.ds z2 _ _ w (hr.ds.below hm.bel) ((rd_row 0 rfl) w hm)))) ?_
       refine hl_bool (fun h19 => ?_) (fun h19 => ?_)
       ·
        have hDds := of_pB h19
        refine hl_v rfl rfl rfl (rv_ev rfl) ?_
        refine hl_v rfl rfl rfl (rv_ev rfl) ?_
        refine hl_less (sx 0 rfl (sx 1 rfl (sx 2 rfl (sx 3 rfl (sx 4 rfl (sx 32 rfl (sx 35 rfl (sx 36 rfl (sx 37 rfl (sx 38 rfl (sx 50 rfl (sx 51 rfl (sx 52 rfl (sx 53 rfl (sub_nil _))))))))))))))) (.refl _) ?_
        refine hl_nil ?_
        refine hq_then ?_
        refine hc_ret ?_
        exact hq_ans rfl rfl (congrArg _ (pB_yes ⟨hSao.ok, hSao.sp, hSbs.sp, ⟨by omega, fun q hq => hkq q (by omega)⟩, (hE1.1 hDdl).1, (hE1.1 hDdl).2, (hE2.1 hDds).1, (hE2.1 hDds).2⟩).symm)
       ·
        have hDds := of_pBn h19
        refine hl_v rfl rfl rfl (rv_ev rfl) ?_
        refine hl_v rfl rfl rfl (rv_ev rfl) ?_
        refine hl_less (sx 0 rfl (sx 1 rfl (sx 2 rfl (sx 3 rfl (sx 4 rfl (sx 32 rfl (sx 35 rfl (sx 36 rfl (sx 37 rfl (sx 38 rfl (sx 50 rfl (sx 51 rfl (sx 52 rfl (sx 53 rfl (sub_nil _))))))))))))))) (.refl _) ?_
        refine hl_nil ?_
        refine hq_then ?_
        refine hc_ret ?_
        exact hq_ans rfl rfl (congrArg _ (pB_no (fun hp => by first | (exact hSao ⟨hp.n, hp.a⟩) | (exact hSbs ⟨hp.n, hp.b⟩) | (have h9 := hp.k.1; omega) | (have h9 := hp.k.2 k (by omega); omega) | (exact hDdl (hE1.2 ⟨hp.dn, hp.dl⟩)) | (exact hDds (hE2.2 ⟨hp.sn, hp.ds⟩)))).symm)
      ·
       have hDdl := of_pBn h18
       refine hl_v rfl rfl rfl (rv_ev rfl) ?_
       refine hl_skip rfl rfl rfl ?_
       refine hl_skip rfl rfl rfl ?_
       refine hl_skip rfl rfl rfl ?_
       refine hl_skip rfl rfl rfl ?_
       refine hl_skip rfl rfl rfl ?_
       refine hl_v rfl rfl rfl (rv_ev rfl) ?_
       refine hl_v rfl rfl rfl (rv_ev rfl) ?_
       refine hl_less (sx 0 rfl (sx 1 rfl (sx 2 rfl (sx 3 rfl (sx 4 rfl (sx 32 rfl (sx 35 rfl (sx 36 rfl (sx 37 rfl (sx 38 rfl (sx 50 rfl (sx 51 rfl (sx 52 rfl (sx 53 rfl (sub_nil _))))))))))))))) (.refl _) ?_
       refine hl_nil ?_
       refine hq_then ?_
       refine hc_ret ?_
       exact hq_ans rfl rfl (congrArg _ (pB_no (fun hp => by first | (exact hSao ⟨hp.n, hp.a⟩) | (exact hSbs ⟨hp.n, hp.b⟩) | (have h9 := hp.k.1; omega) | (have h9 := hp.k.2 k (by omega); omega) | (exact hDdl (hE1.2 ⟨hp.dn, hp.dl⟩)) | (exact hDds (hE2.2 ⟨hp.sn, hp.ds⟩)))).symm)
  ·
   have hSbs := of_pBn h3
   refine hl_v rfl rfl rfl (rv_ev rfl) ?_
   refine hl_v rfl rfl rfl (rv_ev rfl) ?_
   refine hl_v rfl rfl rfl (rv_ev rfl) ?_
   refine hl_skip rfl rfl rfl ?_
   refine hl_skip rfl rfl rfl ?_
   refine hl_skip rfl rfl rfl ?_
   refine hl_skip rfl rfl rfl ?_
   refine hl_skip rfl rfl rfl ?_
   refine hl_skip rfl rfl rfl ?_
   refine hl_skip rfl rfl rfl ?_
   refine hl_skip rfl rfl rfl ?_
   refine hl_v rfl rfl rfl (rv_ev rfl) ?_
   refine hl_less (sx 0 rfl (sx 1 rfl (sx 2 rfl (sx 32 rfl (sub_nil _))))) (.refl _) ?_
   refine hl_nil ?_
   refine hq_then ?_
   refine hc_true rfl ?_
   refine hc_seq ?_
   refine hc_region ?_
   refine hl_v rfl rfl rfl (rv_ev rfl) ?_
   refine hl_less (sx 0 rfl (sx 1 rfl (sx 2 rfl (sx 32 rfl (sub_nil _))))) (.refl _) ?_
   refine hl_nil ?_
   refine hq_then ?_
   refine hc_ret ?_
   refine hq_then_ret ?_
   exact hq_ans rfl rfl (congrArg _ (pB_no (fun hp => by first | (exact hSao ⟨hp.n, hp.a⟩) | (exact hSbs ⟨hp.n, hp.b⟩) | (have h9 := hp.k.1; omega) | (have h9 := hp.k.2 k (by omega); omega) | (exact hDdl (hE1.2 ⟨hp.dn, hp.dl⟩)) | (exact hDds (hE2.2 ⟨hp.sn, hp.ds⟩)))).symm)
 ·
  have hSao := of_pBn h2
  refine hl_v rfl rfl rfl (rv_ev rfl) ?_
  refine hl_v rfl rfl rfl (rv_ev rfl) ?_
  refine hl_skip rfl rfl rfl ?_
  refine hl_skip rfl rfl rfl ?_
  refine hl_skip rfl rfl rfl ?_
  refine hl_skip rfl rfl rfl ?_
  refine hl_skip rfl rfl rfl ?_
  refine hl_skip rfl rfl rfl ?_
  refine hl_v rfl rfl rfl (rv_ev rfl) ?_
  refine hl_v rfl rfl rfl (rv_ev rfl) ?_
  refine hl_skip rfl rfl rfl ?_
  refine hl_skip rfl rfl rfl ?_
  refine hl_skip rfl rfl rfl ?_
  refine hl_skip rfl rfl rfl ?_
  refine hl_skip rfl rfl rfl ?_
  refine hl_skip rfl rfl rfl ?_
  refine hl_skip rfl rfl rfl ?_
  refine hl_skip rfl rfl rfl ?_
  refine hl_v rfl rfl rfl (rv_ev rfl) ?_
  refine hl_less (sx 0 rfl (sx 1 rfl (sx 2 rfl (sx 32 rfl (sub_nil _))))) (.refl _) ?_
  refine hl_nil ?_
  refine hq_then ?_
  refine hc_true rfl ?_
  refine hc_seq ?_
  refine hc_region ?_
  refine hl_v rfl rfl rfl (rv_ev rfl) ?_
  refine hl_less (sx 0 rfl (sx 1 rfl (sx 2 rfl (sx 32 rfl (sub_nil _))))) (.refl _) ?_
  refine hl_nil ?_
  refine hq_then ?_
  refine hc_ret ?_
  refine hq_then_ret ?_
  exact hq_ans rfl rfl (congrArg _ (pB_no (fun hp => by first | (exact hSao ⟨hp.n, hp.a⟩) | (exact hSbs ⟨hp.n, hp.b⟩) | (have h9 := hp.k.1; omega) | (have h9 := hp.k.2 k (by omega); omega) | (exact hDdl (hE1.2 ⟨hp.dn, hp.dl⟩)) | (exact hDds (hE2.2 ⟨hp.sn, hp.ds⟩)))).symm)
end Go.Proofs.Ytceebbcoikgocaa
