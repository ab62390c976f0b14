/- Texts of the law FnExactSettleTimes, part 5: what it uses. -/
import Derived.Test.YtceebbcoikgocaaSe4
set_option linter.unusedVariables false
set_option linter.unusedSimpArgs false
namespace Go.Proofs.Ytceebbcoikgocaa
open Go.RowKit Go.ChangeShapes
open Go.RowKit
set_option maxHeartbeats 4000000 in
set_option maxRecDepth 100000 in
theorem implSettleTimes_ret (x : Td) (w : World) (hr : RdsTd w x) :
  Calls Try.prog 29 #[.agg #[.int .i64 x.n.ins, x.n.sv, x.n.lv, x.n.ov, x.pv, x.qv, x.kv, x.av, x.bv, .int .i64 x.oi, .int .i64 x.ni]] w (Ret w (fun v' post => post = [rowE 3 1 v' (setR x).length ((setR x).map (Value.int .i64))])) := by
 have t1 := sml hr.ks
 have t2 := sml hr.ao
 have t3 := sml hr.bs
 have t4 := hr.dl.small
 have t5 := hr.ds.small
 have t6 := hr.n.sq.small
 have t7 := hr.n.lt.small
 have t8 := sml hr.n.ou
 have hcnt : x.n.cnt = 1 + x.n.ins + x.n.ss.length + x.n.ls.length := rfl
 have hfst : x.n.fst = 1 + x.n.ins + x.n.ss.length := rfl
 refine calls_hc (N := 102) (args := [.agg #[.int .i64 x.n.ins, x.n.sv, x.n.lv, x.n.ov, x.pv, x.qv, x.kv, x.av, x.bv, .int .i64 x.oi, .int .i64 x.ni]]) Try.func29 rfl rfl ?_
 refine hc_less _ (sx 0 rfl (sub_nil _)) (.refl _) ?_
 refine hc_seq ?_
 refine hc_region ?_
 refine hl_box rfl rfl rfl (rq_box rfl rfl) ?_
 intro b1
 refine hl_nilRow 3 1 ?_
 refine hl_v rfl rfl rfl (rv_ev rfl) ?_
 refine hl_less (sx 0 rfl (sx 1 rfl (sx 2 rfl (sub_nil _)))) (.refl _) ?_
 refine hl_nil ?_
 refine hq_then ?_
 refine hc_seq ?_
 refine hc_seq ?_
 refine hc_region ?_
 refine hl_v rfl rfl rfl (rv_loadN (cs := [.int .i64 x.n.ins, x.n.sv, x.n.lv, x.n.ov, x.pv, x.qv, x.kv, x.av, x.bv, .int .i64 x.oi, .int .i64 x.ni]) rfl (by kernel_rfl) (by kernel_rfl) rfl rfl (box_part 1 rfl 0 rfl)) ?_
 refine hl_callV rfl rfl rfl (rq_call (by kernel_rfl) rfl (fun w hm => ret_ans (implTimedOk_ans x w (hr.below hm.bel)))) ?_
 refine hl_bool (fun h3 => ?_) (fun h3 => ?_)
 ·
  have hok := of_pB h3
  obtain ⟨ci, cs_, cl, ck, ca, cb, cd, ce⟩ := hok.bnd
  have hi0 := ci.1
  have hi1 := ci.2
  refine hl_v rfl rfl rfl (rv_ev rfl) ?_
  refine hl_less (sx 0 rfl (sx 1 rfl (sx 2 rfl (sx 12 rfl (sub_nil _))))) (.refl _) ?_
  refine hl_nil ?_
  refine hq_then ?_
  refine hc_false rfl ?_
  refine hc_skip ?_
  refine hq_then ?_
  refine hc_seq ?_
  refine hc_region ?_
  refine hl_v rfl rfl rfl (rv_field (k0 := 0) rfl (by kernel_rfl) rfl) ?_
  refine hl_v rfl rfl rfl (rv_loadN (cs := [.int .i64 x.n.ins, x.n.sv, x.n.lv, x.n.ov]) rfl (by kernel_rfl) (by kernel_rfl) rfl rfl (box_part 1 rfl 0 rfl)) ?_
  refine hl_box rfl rfl rfl (rq_alloc (z := .agg #[.int .i64 0, .slice none 0 0, .slice none 0 0, .slice none 0 0]) rfl (by kernel_rfl)) ?_
  intro b4
  refine hl_storeBoxN (i := 0) (off := 0) (us := [.int .i64 x.n.ins, x.n.sv, x.n.lv, x.n.ov])  (l' := [boxE b4 #[.int .i64 x.n.ins, x.n.sv, x.n.lv, x.n.ov] 37, rowE 3 1 (.slice none 0 0) 0 ([]), boxE b1 #[.int .i64 x.n.ins, x.n.sv, x.n.lv, x.n.ov, x.pv, x.qv, x.kv, x.av, x.bv, .int .i64 x.oi, .int .i64 x.ni] 40]) rfl rfl rfl (by kernel_rfl) rfl rfl rfl (all_cons rfl (all_cons hr.n.sq.row.one (all_cons hr.n.lt.row.one (all_cons hr.n.ou.one all_nil)))) rfl rfl rfl ?_
  refine hl_less (sx 0 rfl (sx 1 rfl (sx 2 rfl (sx 3 rfl (sx 12 rfl (sub_nil _)))))) (.refl _) ?_
  refine hl_nil ?_
  refine hq_then ?_
  refine hc_seq ?_
  refine hc_region ?_
  refine hl_v rfl rfl rfl (rv_loadN (cs := [.int .i64 x.n.ins, x.n.sv, x.n.lv, x.n.ov]) rfl (by kernel_rfl) (by kernel_rfl) rfl rfl (box_part 0 rfl 0 rfl)) ?_
  refine hl_callV rfl rfl rfl (rq_call (by kernel_rfl) rfl (fun w hm => ret_ans (lutNodes_ans x.n w (hr.n.below hm.bel) hok.n.sz))) ?_
  refine hl_row rfl rfl rfl (rq_make (z := .int .i64 0) (s := 1) (bytes := 8) (n := (List.replicate (x.n.cnt).toNat (0 : Int)).length) (cs := ((List.replicate (x.n.cnt).toNat (0 : Int)).map (Value.int .i64))) rfl Try.underlying24 (by kernel_rfl) (by decide) rfl rfl (by first | (rw [List.length_replicate]; done) | (rw [List.length_replicate]; omega)) (by first | (rw [List.length_replicate]; done) | (rw [List.length_replicate]; omega)) (by rw [List.length_replicate]; omega) (ints_make _)) ?_
  intro g5
  refine hl_v rfl rfl rfl (rv_ev rfl) ?_
  refine hl_less (sx 0 rfl (sx 1 rfl (sx 2 rfl (sx 3 rfl (sx 4 rfl (sx 12 rfl (sub_nil _))))))) (.refl _) ?_
  refine hl_nil ?_
  refine hq_then ?_
  refine hc_seq ?_
  refine hc_region ?_
  refine hl_v rfl rfl rfl (rv_loadN (cs := [.int .i64 x.n.ins, x.n.sv, x.n.lv, x.n.ov]) rfl (by kernel_rfl) (by kernel_rfl) rfl rfl (box_part 1 rfl 0 rfl)) ?_
  refine hl_callV rfl rfl rfl (rq_call (by kernel_rfl) rfl (fun w hm => ret_ans (lutNodes_ans x.n w (hr.n.below hm.bel) hok.n.sz))) ?_
  refine hl_row rfl rfl rfl (rq_make (z := .bool false) (s := 1) (bytes := 1) (n := (List.replicate (x.n.cnt).toNat bl0).length) (cs := ((List.replicate (x.n.cnt).toNat bl0).flatMap blC)) rfl Try.underlying90 (by kernel_rfl) (by decide) rfl rfl (by first | (rw [List.length_replicate]; done) | (rw [List.length_replicate]; omega)) (by first | (rw [List.length_replicate]; done) | (rw [List.length_replicate]; omega)) (by rw [List.length_replicate]; omega) (made_flat blC 1 (fun _ => rfl) bl0 _ rfl (x.n.cnt).toNat)) ?_
  intro g6
  refine hl_v rfl rfl rfl (rv_ev rfl) ?_
  refine hl_less (sx 0 rfl (sx 1 rfl (sx 2 rfl (sx 3 rfl (sx 4 rfl (sx 5 rfl (sx 12 rfl (sub_nil _)))))))) (.refl _) ?_
  refine hl_nil ?_
  refine hq_then ?_
  refine hc_seq ?_
  refine hc_seq ?_
  refine hc_region ?_
  refine hl_v rfl rfl rfl (rv_ev rfl) ?_
  refine hl_less (sx 0 rfl (sx 1 rfl (sx 2 rfl (sx 3 rfl (sx 4 rfl (sx 5 rfl (sx 6 rfl (sx 12 rfl (sub_nil _))))))))) (.refl _) ?_
  refine hl_nil ?_
  refine hq_then ?_
  refine hc_block ?_
  refine hc_loop3 (α := Nat) (β := List Int) (γ := List Bl) (fun m zs bs => [rowE 4 1 (.slice (some ⟨g6, 0, none⟩) ((List.replicate (x.n.cnt).toNat bl0).length) ((List.replicate (x.n.cnt).toNat bl0).length)) bs.length (bs.flatMap blC), rowE 3 1 (.slice (some ⟨g5, 0, none⟩) ((List.replicate (x.n.cnt).toNat (0 : Int)).length) ((List.replicate (x.n.cnt).toNat (0 : Int)).length)) zs.length (zs.map (Value.int .i64)), boxE b4 #[.int .i64 x.n.ins, x.n.sv, x.n.lv, x.n.ov] 37, rowE 3 1 (.slice none 0 0) 0 ([]), boxE b1 #[.int .i64 x.n.ins, x.n.sv, x.n.lv, x.n.ov, x.pv, x.qv, x.kv, x.av, x.bv, .int .i64 x.oi, .int .i64 x.ni] 40]) (fun m zs bs => [(0, .agg #[.int .i64 x.n.ins, x.n.sv, x.n.lv, x.n.ov, x.pv, x.qv, x.kv, x.av, x.bv, .int .i64 x.oi, .int .i64 x.ni]), (1, .pointer (some ⟨b1, 0, none⟩)), (2, .slice none 0 0), (3, .pointer (some ⟨b4, 0, none⟩)), (4, .slice (some ⟨g5, 0, none⟩) ((List.replicate (x.n.cnt).toNat (0 : Int)).length) ((List.replicate (x.n.cnt).toNat (0 : Int)).length)), (5, .slice (some ⟨g6, 0, none⟩) ((List.replicate (x.n.cnt).toNat bl0).length) ((List.replicate (x.n.cnt).toNat bl0).length)), (6, .int .i64 (m : Int)), (12, .bool false)]) (fun m zs bs => 1 ≤ m ∧ (m : Int) ≤ x.n.cnt ∧ zs = fzT x.n.cnt.toNat (sL x m).1 ∧ bs = fzB x.n.cnt.toNat (sL x m).2) (fun m zs bs => x.n.cnt.toNat - m) 1 _ _ ⟨by omega, by omega, (st_first x (by omega)).1, (st_first x (by omega)).2⟩ (sx 0 rfl (sx 1 rfl (sx 2 rfl (sx 3 rfl (sx 4 rfl (sx 5 rfl (sx 6 rfl (sx 12 rfl (sub_nil _))))))))) ((.cons_cons _ (.cons_cons _ (.cons_cons _ (.cons_cons _ (.cons_cons _ .slnil)))))) ?_
  intro m zs bs hi7
  obtain ⟨hm1, hm2, hz, hb⟩ := hi7
  obtain ⟨hl1, hl2⟩ := sL_len x m
  have hzl : zs.length = x.n.cnt.toNat := by rw [hz]; exact fz_len (by omega)
  have hbl : bs.length = x.n.cnt.toNat := by rw [hb]; exact fzB_len (by omega)
  refine hc_seq ?_
  refine hc_seq ?_
  refine hc_region ?_
  refine hl_v rfl rfl rfl (rv_ev rfl) ?_
  refine hl_v rfl rfl rfl (rv_loadN (cs := [.int .i64 x.n.ins, x.n.sv, x.n.lv, x.n.ov]) rfl (by kernel_rfl) (by kernel_rfl) rfl rfl (box_part 2 rfl 0 rfl)) ?_
  refine hl_callV rfl rfl rfl (rq_call (by kernel_rfl) rfl (fun w hm => ret_ans (lutNodes_ans x.n w (hr.n.below hm.bel) hok.n.sz))) ?_
  refine hl_lss rfl rfl rfl rfl rfl rfl (fun h8 => ?_) (fun h8 => ?_)
  ·
   refine hl_less (sx 0 rfl (sx 1 rfl (sx 2 rfl (sx 3 rfl (sx 4 rfl (sx 5 rfl (sx 6 rfl (sx 12 rfl (sx 24 rfl (sub_nil _)))))))))) (.refl _) ?_
   refine hl_nil ?_
   refine hq_then ?_
   refine hc_true rfl ?_
   refine hc_skip ?_
   refine hq_then ?_
   refine hc_seq ?_
   refine hc_block ?_
   refine hc_block ?_
   refine hc_seq ?_
   refine hc_region ?_
   refine hl_v rfl rfl rfl (rv_ev rfl) ?_
   refine hl_v rfl rfl rfl (rv_field (k0 := 0) rfl (by kernel_rfl) rfl) ?_
   refine hl_v rfl rfl rfl (rv_load rfl (by kernel_rfl) rfl (box_cell 2 rfl rfl)) ?_
   refine hl_leq rfl rfl rfl rfl rfl rfl (fun h9 => ?_) (fun h9 => ?_)
   ·
    refine hl_v rfl rfl rfl (rv_ev rfl) ?_
    refine hl_less (sx 0 rfl (sx 1 rfl (sx 2 rfl (sx 3 rfl (sx 4 rfl (sx 5 rfl (sx 6 rfl (sx 12 rfl (sx 24 rfl (sx 73 rfl (sub_nil _))))))))))) (.refl _) ?_
    refine hl_nil ?_
    refine hq_then ?_
    refine hc_true rfl ?_
    refine hc_region ?_
    refine hl_v rfl rfl rfl (rv_ev rfl) ?_
    refine hl_v rfl rfl rfl (rv_ev rfl) ?_
    refine hl_v rfl rfl rfl (rv_index (s := 1) rfl Try.underlying90 (by kernel_rfl) rfl rfl (rd_row 0 rfl) (by omega) (by first | omega | (simp only [List.length_set]; omega))) ?_
    refine hl_storeEl (i := 0) (n' := (bs.set m { bs.getD m bl0 with b := true }).length) (xs' := ((bs.set m { bs.getD m bl0 with b := true }).flatMap blC)) (l' := [rowE 4 1 (.slice (some ⟨g6, 0, none⟩) ((List.replicate (x.n.cnt).toNat bl0).length) ((List.replicate (x.n.cnt).toNat bl0).length)) ((bs.set m { bs.getD m bl0 with b := true }).length) ((bs.set m { bs.getD m bl0 with b := true }).flatMap blC), rowE 3 1 (.slice (some ⟨g5, 0, none⟩) ((List.replicate (x.n.cnt).toNat (0 : Int)).length) ((List.replicate (x.n.cnt).toNat (0 : Int)).length)) zs.length (zs.map (Value.int .i64)), boxE b4 #[.int .i64 x.n.ins, x.n.sv, x.n.lv, x.n.ov] 37, rowE 3 1 (.slice none 0 0) 0 ([]), boxE b1 #[.int .i64 x.n.ins, x.n.sv, x.n.lv, x.n.ov, x.pv, x.qv, x.kv, x.av, x.bv, .int .i64 x.oi, .int .i64 x.ni] 40]) rfl rfl rfl (by kernel_rfl) rfl rfl rfl rfl (by first | omega | (simp only [List.length_set]; omega)) List.length_set.symm (flat_set1 blC (fun r => .bool r.b) (fun _ => rfl) _ ({ bs.getD m bl0 with b := true }) rfl) rfl ?_
    refine hl_less (sx 0 rfl (sx 1 rfl (sx 2 rfl (sx 3 rfl (sx 4 rfl (sx 5 rfl (sx 6 rfl (sx 12 rfl (sx 24 rfl (sx 73 rfl (sub_nil _))))))))))) (.refl _) ?_
    refine hl_nil ?_
    refine hq_block_normal ?_
    refine hq_block_normal ?_
    refine hq_then ?_
    refine hc_region ?_
    refine hl_v rfl rfl rfl (rv_ev rfl) ?_
    refine hl_v rfl rfl rfl (rv_add rfl rfl rfl (by constructor <;> omega)) ?_
    refine hl_v rfl rfl rfl (rv_ev rfl) ?_
    refine hl_less (sx 0 rfl (sx 1 rfl (sx 2 rfl (sx 3 rfl (sx 4 rfl (sx 5 rfl (sx 6 rfl (sx 12 rfl (sx 24 rfl (sx 73 rfl (sub_nil _))))))))))) (.refl _) ?_
    refine hl_nil ?_
    have hnx := st_in hm1 (by omega) (by omega) hz hb
    exact hq_round3 (m + 1) zs (bs.set m { bs.getD m bl0 with b := true }) ⟨by omega, by omega, hnx.1, hnx.2⟩ (by omega) (sx 0 rfl (sx 1 rfl (sx 2 rfl (sx 3 rfl (sx 4 rfl (sx 5 rfl (sx 6 rfl (sx 12 rfl (sub_nil _))))))))) ((.cons_cons _ (.cons_cons _ (.cons_cons _ (.cons_cons _ (.cons_cons _ .slnil))))))
   ·
    refine hl_v rfl rfl rfl (rv_ev rfl) ?_
    refine hl_less (sx 0 rfl (sx 1 rfl (sx 2 rfl (sx 3 rfl (sx 4 rfl (sx 5 rfl (sx 6 rfl (sx 12 rfl (sx 24 rfl (sx 73 rfl (sub_nil _))))))))))) (.refl _) ?_
    refine hl_nil ?_
    refine hq_then ?_
    refine hc_false rfl ?_
    refine hc_seq ?_
    refine hc_region ?_
    refine hl_v rfl rfl rfl (rv_ev rfl) ?_
    refine hl_v rfl rfl rfl (rv_loadN (cs := [.int .i64 x.n.ins, x.n.sv, x.n.lv, x.n.ov]) rfl (by kernel_rfl) (by kernel_rfl) rfl rfl (box_part 2 rfl 0 rfl)) ?_
    refine hl_callV rfl rfl rfl (rq_call (by kernel_rfl) rfl (fun w hm => ret_ans (firstLut_ans x.n w (hr.n.below hm.bel) hok.n.sz))) ?_
    refine hl_lss rfl rfl rfl rfl rfl rfl (fun h10 => ?_) (fun h10 => ?_)
    ·
     refine hl_v rfl rfl rfl (rv_ev rfl) ?_
     refine hl_less (sx 0 rfl (sx 1 rfl (sx 2 rfl (sx 3 rfl (sx 4 rfl (sx 5 rfl (sx 6 rfl (sx 12 rfl (sx 24 rfl (sx 73 rfl (sx 81 rfl (sub_nil _)))))))))))) (.refl _) ?_
     refine hl_nil ?_
     refine hq_then ?_
     refine hc_true rfl ?_
     refine hc_seq ?_
     refine hc_region ?_
     refine hl_v rfl rfl rfl (rv_ev rfl) ?_
     refine hl_v rfl rfl rfl (rv_ev rfl) ?_
     refine hl_v rfl rfl rfl (rv_index (s := 1) rfl Try.underlying90 (by kernel_rfl) rfl rfl (rd_row 0 rfl) (by omega) (by first | omega | (simp only [List.length_set]; omega))) ?_
     refine hl_storeEl (i := 0) (n' := (bs.set m { bs.getD m bl0 with b := true }).length) (xs' := ((bs.set m { bs.getD m bl0 with b := true }).flatMap blC)) (l' := [rowE 4 1 (.slice (some ⟨g6, 0, none⟩) ((List.replicate (x.n.cnt).toNat bl0).length) ((List.replicate (x.n.cnt).toNat bl0).length)) ((bs.set m { bs.getD m bl0 with b := true }).length) ((bs.set m { bs.getD m bl0 with b := true }).flatMap blC), rowE 3 1 (.slice (some ⟨g5, 0, none⟩) ((List.replicate (x.n.cnt).toNat (0 : Int)).length) ((List.replicate (x.n.cnt).toNat (0 : Int)).length)) zs.length (zs.map (Value.int .i64)), boxE b4 #[.int .i64 x.n.ins, x.n.sv, x.n.lv, x.n.ov] 37, rowE 3 1 (.slice none 0 0) 0 ([]), boxE b1 #[.int .i64 x.n.ins, x.n.sv, x.n.lv, x.n.ov, x.pv, x.qv, x.kv, x.av, x.bv, .int .i64 x.oi, .int .i64 x.ni] 40]) rfl rfl rfl (by kernel_rfl) rfl rfl rfl rfl (by first | omega | (simp only [List.length_set]; omega)) List.length_set.symm (flat_set1 blC (fun r => .bool r.b) (fun _ => rfl) _ ({ bs.getD m bl0 with b := true }) rfl) rfl ?_
     refine hl_less (sx 0 rfl (sx 1 rfl (sx 2 rfl (sx 3 rfl (sx 4 rfl (sx 5 rfl (sx 6 rfl (sx 12 rfl (sx 24 rfl (sx 73 rfl (sx 81 rfl (sub_nil _)))))))))))) (.refl _) ?_
     refine hl_nil ?_
     refine hq_then ?_
     refine hc_region ?_
     refine hl_v rfl rfl rfl (rv_ev rfl) ?_
     refine hl_v rfl rfl rfl (rv_ev rfl) ?_
     refine hl_v rfl rfl rfl (rv_field (k0 := 6) rfl (by kernel_rfl) rfl) ?_
     refine hl_v rfl rfl rfl (rv_load rfl (by kernel_rfl) rfl (box_cell 4 rfl rfl)) ?_
     refine hl_v rfl rfl rfl (rv_ev rfl) ?_
     refine hl_v rfl rfl rfl (rv_sub rfl rfl rfl (by constructor <;> omega)) ?_
     refine hl_v rfl rfl rfl (rv_field (k0 := 0) rfl (by kernel_rfl) rfl) ?_
     refine hl_v rfl rfl rfl (rv_load rfl (by kernel_rfl) rfl (box_cell 2 rfl rfl)) ?_
     refine hl_v rfl rfl rfl (rv_sub rfl rfl rfl (by constructor <;> omega)) ?_
     refine hl_v rfl rfl rfl (rv_index (s := 1) rfl Try.underlying24 (by kernel_rfl) rfl rfl (rd_old ((hr).ks)) (by omega) (by first | omega | (simp only [List.length_set]; omega))) ?_
     refine hl_v rfl rfl rfl (rv_loadEl (u := .int .i64 (x.ks.getD ((((m : Int) - 1) - x.n.ins).toNat) 0)) rfl (by kernel_rfl) rfl (rd_old ((hr).ks)) (ints_at1 (show _ < x.ks.length by first | omega | (simp only [List.length_set]; omega)))) ?_
     refine hl_v rfl rfl rfl (rv_index (s := 1) rfl Try.underlying24 (by kernel_rfl) rfl rfl (rd_row 1 rfl) (by omega) (by first | omega | (simp only [List.length_set]; omega))) ?_
     refine hl_storeEl (i := 1) (n' := (zs.set m (x.ks.getD ((((m : Int) - 1) - x.n.ins).toNat) 0)).length) (xs' := ((zs.set m (x.ks.getD ((((m : Int) - 1) - x.n.ins).toNat) 0)).map (Value.int .i64))) (l' := [rowE 4 1 (.slice (some ⟨g6, 0, none⟩) ((List.replicate (x.n.cnt).toNat bl0).length) ((List.replicate (x.n.cnt).toNat bl0).length)) ((bs.set m { bs.getD m bl0 with b := true }).length) ((bs.set m { bs.getD m bl0 with b := true }).flatMap blC), rowE 3 1 (.slice (some ⟨g5, 0, none⟩) ((List.replicate (x.n.cnt).toNat (0 : Int)).length) ((List.replicate (x.n.cnt).toNat (0 : Int)).length)) ((zs.set m (x.ks.getD ((((m : Int) - 1) - x.n.ins).toNat) 0)).length) ((zs.set m (x.ks.getD ((((m : Int) - 1) - x.n.ins).toNat) 0)).map (Value.int .i64)), boxE b4 #[.int .i64 x.n.ins, x.n.sv, x.n.lv, x.n.ov] 37, rowE 3 1 (.slice none 0 0) 0 ([]), boxE b1 #[.int .i64 x.n.ins, x.n.sv, x.n.lv, x.n.ov, x.pv, x.qv, x.kv, x.av, x.bv, .int .i64 x.oi, .int .i64 x.ni] 40]) rfl rfl rfl (by kernel_rfl) rfl rfl rfl rfl (by first | omega | (simp only [List.length_set]; omega)) List.length_set.symm (ints_set _ _ _) rfl ?_
     refine hl_less (sx 0 rfl (sx 1 rfl (sx 2 rfl (sx 3 rfl (sx 4 rfl (sx 5 rfl (sx 6 rfl (sx 12 rfl (sx 24 rfl (sx 73 rfl (sx 81 rfl (sub_nil _)))))))))))) (.refl _) ?_
     refine hl_nil ?_
     refine hq_block_normal ?_
     refine hq_block_normal ?_
     refine hq_then ?_
     refine hc_region ?_
     refine hl_v rfl rfl rfl (rv_ev rfl) ?_
     refine hl_v rfl rfl rfl (rv_add rfl rfl rfl (by constructor <;> omega)) ?_
     refine hl_v rfl rfl rfl (rv_ev rfl) ?_
     refine hl_less (sx 0 rfl (sx 1 rfl (sx 2 rfl (sx 3 rfl (sx 4 rfl (sx 5 rfl (sx 6 rfl (sx 12 rfl (sx 24 rfl (sx 73 rfl (sx 81 rfl (sub_nil _)))))))))))) (.refl _) ?_
     refine hl_nil ?_
     have hnx := st_seq (by omega) (by omega) (by omega) (by omega) hz hb
     exact hq_round3 (m + 1) (zs.set m (x.ks.getD ((((m : Int) - 1) - x.n.ins).toNat) 0)) (bs.set m { bs.getD m bl0 with b := true }) ⟨by omega, by omega, hnx.1, hnx.2⟩ (by omega) (sx 0 rfl (sx 1 rfl (sx 2 rfl (sx 3 rfl (sx 4 rfl (sx 5 rfl (sx 6 rfl (sx 12 rfl (sub_nil _))))))))) ((.cons_cons _ (.cons_cons _ (.cons_cons _ (.cons_cons _ (.cons_cons _ .slnil))))))
    ·
     refine hl_v rfl rfl rfl (rv_ev rfl) ?_
     refine hl_less (sx 0 rfl (sx 1 rfl (sx 2 rfl (sx 3 rfl (sx 4 rfl (sx 5 rfl (sx 6 rfl (sx 12 rfl (sx 24 rfl (sx 73 rfl (sx 81 rfl (sub_nil _)))))))))))) (.refl _) ?_
     refine hl_nil ?_
     refine hq_then ?_
     refine hc_false rfl ?_
     refine hc_seq ?_
     refine hc_region ?_
     refine hl_v rfl rfl rfl (rv_ev rfl) ?_
     refine hl_v rfl rfl rfl (rv_loadN (cs := [.int .i64 x.n.ins, x.n.sv, x.n.lv, x.n.ov]) rfl (by kernel_rfl) (by kernel_rfl) rfl rfl (box_part 2 rfl 0 rfl)) ?_
     refine hl_callV rfl rfl rfl (rq_call (by kernel_rfl) rfl (fun w hm => ret_ans (firstLut_ans x.n w (hr.n.below hm.bel) hok.n.sz))) ?_
     refine hl_v rfl rfl rfl (rv_sub rfl rfl rfl (by constructor <;> omega)) ?_
     obtain ⟨i, hmi⟩ : ∃ i : Nat, (m : Int) - x.n.fst = (i : Int) := ⟨((m : Int) - x.n.fst).toNat, by omega⟩
     rw [hmi]
     have hil : i < x.n.ls.length := by omega
     have hlt9 := hok.n.lt i hil
     have hx4 := hlt9.1.1
     have hdi : (x.dl.getD i ir0).xs.length = (x.n.ls.getD i lt0).xs.length := by have := (hok.dl i hil).1; omega
     refine hl_v rfl rfl rfl (rv_ev rfl) ?_
     refine hl_less (sx 0 rfl (sx 1 rfl (sx 2 rfl (sx 3 rfl (sx 4 rfl (sx 5 rfl (sx 6 rfl (sx 7 rfl (sx 12 rfl (sx 24 rfl (sx 73 rfl (sx 81 rfl (sub_nil _))))))))))))) (.refl _) ?_
     refine hl_nil ?_
     refine hq_then ?_
     refine hc_seq ?_
     refine hc_region ?_
     refine hl_v rfl rfl rfl (rv_field (k0 := 2) rfl (by kernel_rfl) rfl) ?_
     refine hl_v rfl rfl rfl (rv_load rfl (by kernel_rfl) rfl (box_cell 2 rfl rfl)) ?_
     refine hl_v rfl rfl rfl (rv_ev rfl) ?_
     refine hl_v rfl rfl rfl (rv_index (s := 2) rfl Try.underlying35 (by kernel_rfl) rfl rfl (rd_old ((hr).n.lt.row)) (by omega) (by first | omega | (simp only [List.length_set]; omega))) ?_
     refine hl_v rfl rfl rfl (rv_fieldEl (k0 := 0) rfl (by kernel_rfl) rfl (rd_old ((hr).n.lt.row)) (by first | omega | (simp only [List.length_set]; omega))) ?_
     refine hl_v rfl rfl rfl (rv_loadEl (u := (x.n.ls.getD i lt0).iv) rfl (by kernel_rfl) rfl (rd_old ((hr).n.lt.row)) ((flat_at ltC 2 (fun _ => rfl) x.n.ls lt0 (show i < _ by first | omega | (simp only [List.length_set]; omega)) (by decide)).trans rfl)) ?_
     refine hl_v rfl rfl rfl (rv_len rfl Try.underlying24 rfl (rd_old ((hr).n.lt.at (d := lt0) (k := i) (by omega)))) ?_
     refine hl_v rfl rfl rfl (rv_ev rfl) ?_
     refine hl_less (sx 0 rfl (sx 1 rfl (sx 2 rfl (sx 3 rfl (sx 4 rfl (sx 5 rfl (sx 6 rfl (sx 7 rfl (sx 12 rfl (sx 24 rfl (sx 36 rfl (sx 37 rfl (sx 38 rfl (sx 73 rfl (sx 81 rfl (sub_nil _)))))))))))))))) (.refl _) ?_
     refine hl_nil ?_
     refine hq_then ?_
     refine hc_block ?_
     refine hc_loop3 (α := Nat) (β := List Int) (γ := List Bl) (fun j z2 b2 => [rowE 4 1 (.slice (some ⟨g6, 0, none⟩) ((List.replicate (x.n.cnt).toNat bl0).length) ((List.replicate (x.n.cnt).toNat bl0).length)) b2.length (b2.flatMap blC), rowE 3 1 (.slice (some ⟨g5, 0, none⟩) ((List.replicate (x.n.cnt).toNat (0 : Int)).length) ((List.replicate (x.n.cnt).toNat (0 : Int)).length)) z2.length (z2.map (Value.int .i64)), boxE b4 #[.int .i64 x.n.ins, x.n.sv, x.n.lv, x.n.ov] 37, rowE 3 1 (.slice none 0 0) 0 ([]), boxE b1 #[.int .i64 x.n.ins, x.n.sv, x.n.lv, x.n.ov, x.pv, x.qv, x.kv, x.av, x.bv, .int .i64 x.oi, .int .i64 x.ni] 40]) (fun j z2 b2 => [(0, .agg #[.int .i64 x.n.ins, x.n.sv, x.n.lv, x.n.ov, x.pv, x.qv, x.kv, x.av, x.bv, .int .i64 x.oi, .int .i64 x.ni]), (1, .pointer (some ⟨b1, 0, none⟩)), (2, .slice none 0 0), (3, .pointer (some ⟨b4, 0, none⟩)), (4, .slice (some ⟨g5, 0, none⟩) ((List.replicate (x.n.cnt).toNat (0 : Int)).length) ((List.replicate (x.n.cnt).toNat (0 : Int)).length)), (5, .slice (some ⟨g6, 0, none⟩) ((List.replicate (x.n.cnt).toNat bl0).length) ((List.replicate (x.n.cnt).toNat bl0).length)), (6, .int .i64 (m : Int)), (7, .int .i64 (i : Int)), (12, .bool false), (24, .bool true), (36, (x.n.ls.getD i lt0).iv), (37, .int .i64 (((x.n.ls.getD i lt0).xs).length : Int)), (38, .int .i64 (j : Int)), (73, .bool false), (81, .bool false)]) (fun j z2 b2 => j ≤ (x.n.ls.getD i lt0).xs.length ∧ z2 = fzT x.n.cnt.toNat ((sL x m).1 ++ [(lutS x (sL x m).1 (sL x m).2 i j).1]) ∧ b2 = fzB x.n.cnt.toNat ((sL x m).2 ++ [⟨(lutS x (sL x m).1 (sL x m).2 i j).2⟩])) (fun j z2 b2 => (x.n.ls.getD i lt0).xs.length - j) 0 zs bs ⟨Nat.zero_le _, by show zs = fzT _ (_ ++ [0]); rw [fz_zero (by omega)]; exact hz, by show bs = fzB _ (_ ++ [⟨false⟩]); rw [fzB_zero (by omega)]; exact hb⟩ (sx 0 rfl (sx 1 rfl (sx 2 rfl (sx 3 rfl (sx 4 rfl (sx 5 rfl (sx 6 rfl (sx 7 rfl (sx 12 rfl (sx 24 rfl (sx 36 rfl (sx 37 rfl (sx 38 rfl (sx 73 rfl (sx 81 rfl (sub_nil _)))))))))))))))) ((.cons_cons _ (.cons_cons _ (.cons_cons _ (.cons_cons _ (.cons_cons _ .slnil)))))) ?_
     intro j z2 b2 hi11
     obtain ⟨hj, hz2, hb2⟩ := hi11
     have hzl2 : z2.length = x.n.cnt.toNat := by rw [hz2]; exact fz_len (by rw [List.length_append, List.length_singleton]; omega)
     have hbl2 : b2.length = x.n.cnt.toNat := by rw [hb2]; exact fzB_len (by rw [List.length_append, List.length_singleton]; omega)
     refine hc_seq ?_
     refine hc_region ?_
     refine hl_lss rfl rfl rfl rfl rfl rfl (fun h12 => ?_) (fun h12 => ?_)
     ·
      refine hl_less (sx 0 rfl (sx 1 rfl (sx 2 rfl (sx 3 rfl (sx 4 rfl (sx 5 rfl (sx 6 rfl (sx 7 rfl (sx 12 rfl (sx 24 rfl (sx 36 rfl (sx 37 rfl (sx 38 rfl (sx 39 rfl (sx 73 rfl (sx 81 rfl (sub_nil _))))))))))))))))) (.refl _) ?_
      refine hl_nil ?_
      refine hq_then ?_
      refine hc_seq ?_
      refine hc_true rfl ?_
      refine hc_skip ?_
      refine hq_then ?_
      refine hc_seq ?_
      refine hc_block ?_
      refine hc_seq ?_
      refine hc_region ?_
      refine hl_v rfl rfl rfl (rv_ev rfl) ?_
      refine hl_v rfl rfl rfl (rv_index (s := 1) rfl Try.underlying24 (by kernel_rfl) rfl rfl (rd_old ((hr).n.lt.at (d := lt0) (k := i) (by omega))) (by omega) (by first | omega | (simp only [List.length_set]; omega))) ?_
      refine hl_v rfl rfl rfl (rv_loadEl (u := .int .i64 (((x.n.ls.getD i lt0).xs).getD j 0)) rfl (by kernel_rfl) rfl (rd_old ((hr).n.lt.at (d := lt0) (k := i) (by omega))) (ints_at1 (show _ < ((x.n.ls.getD i lt0).xs).length by first | omega | (simp only [List.length_set]; omega)))) ?_
      refine hl_v rfl rfl rfl (rv_ev rfl) ?_
      refine hl_v rfl rfl rfl (rv_ev rfl) ?_
      refine hl_less (sx 0 rfl (sx 1 rfl (sx 2 rfl (sx 3 rfl (sx 4 rfl (sx 5 rfl (sx 6 rfl (sx 7 rfl (sx 8 rfl (sx 9 rfl (sx 12 rfl (sx 24 rfl (sx 36 rfl (sx 37 rfl (sx 38 rfl (sx 39 rfl (sx 73 rfl (sx 81 rfl (sub_nil _))))))))))))))))))) (.refl _) ?_
      refine hl_nil ?_
      refine hq_then ?_
      refine hc_seq ?_
      refine hc_region ?_
      have hns := hlt9.1.2 j (by omega)
      have hbk : (b2.getD ((x.n.ls.getD i lt0).xs.getD j 0).toNat bl0).b = ((sL x m).2.getD ((x.n.ls.getD i lt0).xs.getD j 0).toNat bl0).b := by rw [hb2]; unfold fzB; rw [getD_left (by rw [List.length_append, List.length_singleton]; omega), getD_left (by omega)]
      have hzk : z2.getD ((x.n.ls.getD i lt0).xs.getD j 0).toNat 0 = (sL x m).1.getD ((x.n.ls.getD i lt0).xs.getD j 0).toNat 0 := by rw [hz2]; unfold fzT; rw [getD_left (by rw [List.length_append, List.length_singleton]; omega), getD_left (by omega)]
      have hzm : z2.getD m 0 = (lutS x (sL x m).1 (sL x m).2 i j).1 := by rw [hz2]; unfold fzT; rw [getD_left (by rw [List.length_append, List.length_singleton]; omega), getD_right (by omega), hl1, Nat.sub_self]; rfl
      have hob := o_bnd hok hm2 (q := ((x.n.ls.getD i lt0).xs.getD j 0).toNat) (by omega)
      have hdj := (hok.dl i hil).2 j (by omega)
      refine hl_v rfl rfl rfl (rv_ev rfl) ?_
      refine hl_v rfl rfl rfl (rv_ev rfl) ?_
      refine hl_v rfl rfl rfl (rv_index (s := 1) rfl Try.underlying90 (by kernel_rfl) rfl rfl (rd_row 0 rfl) (by omega) (by first | omega | (simp only [List.length_set]; omega))) ?_
      refine hl_v rfl rfl rfl (rv_loadEl (u := .bool ((b2.getD ((((x.n.ls.getD i lt0).xs).getD j 0).toNat) bl0).b)) rfl (by kernel_rfl) rfl (rd_row 0 rfl) (flat_one blC (fun r => .bool r.b) (fun _ => rfl) b2 bl0 (show (((x.n.ls.getD i lt0).xs).getD j 0).toNat < _ by first | omega | (simp only [List.length_set]; omega)))) ?_
      refine hl_bool (fun h13 => ?_) (fun h13 => ?_)
      ·
       refine hl_less (sx 0 rfl (sx 1 rfl (sx 2 rfl (sx 3 rfl (sx 4 rfl (sx 5 rfl (sx 6 rfl (sx 7 rfl (sx 8 rfl (sx 9 rfl (sx 12 rfl (sx 24 rfl (sx 36 rfl (sx 37 rfl (sx 38 rfl (sx 39 rfl (sx 46 rfl (sx 73 rfl (sx 81 rfl (sub_nil _)))))))))))))))))))) (.refl _) ?_
       refine hl_nil ?_
       refine hq_then ?_
       refine hc_true rfl ?_
       refine hc_seq ?_
       refine hc_region ?_
       refine hl_v rfl rfl rfl (rv_ev rfl) ?_
       refine hl_v rfl rfl rfl (rv_ev rfl) ?_
       refine hl_v rfl rfl rfl (rv_index (s := 1) rfl Try.underlying90 (by kernel_rfl) rfl rfl (rd_row 0 rfl) (by omega) (by first | omega | (simp only [List.length_set]; omega))) ?_
       refine hl_storeEl (i := 0) (n' := (b2.set m { b2.getD m bl0 with b := true }).length) (xs' := ((b2.set m { b2.getD m bl0 with b := true }).flatMap blC)) (l' := [rowE 4 1 (.slice (some ⟨g6, 0, none⟩) ((List.replicate (x.n.cnt).toNat bl0).length) ((List.replicate (x.n.cnt).toNat bl0).length)) ((b2.set m { b2.getD m bl0 with b := true }).length) ((b2.set m { b2.getD m bl0 with b := true }).flatMap blC), rowE 3 1 (.slice (some ⟨g5, 0, none⟩) ((List.replicate (x.n.cnt).toNat (0 : Int)).length) ((List.replicate (x.n.cnt).toNat (0 : Int)).length)) z2.length (z2.map (Value.int .i64)), boxE b4 #[.int .i64 x.n.ins, x.n.sv, x.n.lv, x.n.ov] 37, rowE 3 1 (.slice none 0 0) 0 ([]), boxE b1 #[.int .i64 x.n.ins, x.n.sv, x.n.lv, x.n.ov, x.pv, x.qv, x.kv, x.av, x.bv, .int .i64 x.oi, .int .i64 x.ni] 40]) rfl rfl rfl (by kernel_rfl) rfl rfl rfl rfl (by first | omega | (simp only [List.length_set]; omega)) List.length_set.symm (flat_set1 blC (fun r => .bool r.b) (fun _ => rfl) _ ({ b2.getD m bl0 with b := true }) rfl) rfl ?_
       refine hl_less (sx 0 rfl (sx 1 rfl (sx 2 rfl (sx 3 rfl (sx 4 rfl (sx 5 rfl (sx 6 rfl (sx 7 rfl (sx 8 rfl (sx 9 rfl (sx 12 rfl (sx 24 rfl (sx 36 rfl (sx 37 rfl (sx 38 rfl (sx 39 rfl (sx 46 rfl (sx 73 rfl (sx 81 rfl (sub_nil _)))))))))))))))))))) (.refl _) ?_
       refine hl_nil ?_
       refine hq_then ?_
       have hz2v : z2.set m (if z2.getD m 0 < (z2.getD ((x.n.ls.getD i lt0).xs.getD j 0).toNat 0 + (x.dl.getD i ir0).xs.getD j 0) then (z2.getD ((x.n.ls.getD i lt0).xs.getD j 0).toNat 0 + (x.dl.getD i ir0).xs.getD j 0) else z2.getD m 0) = (fzT x.n.cnt.toNat ((sL x m).1 ++ [(lutS x (sL x m).1 (sL x m).2 i j).1])).set m (mx (lutS x (sL x m).1 (sL x m).2 i j).1 ((sL x m).1.getD ((x.n.ls.getD i lt0).xs.getD j 0).toNat 0 + (x.dl.getD i ir0).xs.getD j 0)) := by rw [hzm, hzk, ← hz2]; rfl
       refine hc_draw (by kernel_rfl) 22 [0, 1, 2, 3, 4, 5, 6, 7, 8, 9, 10, 11, 12, 13, 14, 15, 16, 17, 18, 19, 20, 21] (List.take 22 _) (List.drop 22 _) [[], [], [], [], [2, 3], [4], [], [], [6, 7], [8], [], [10], [11], [], [12, 13], [14], [], [15, 16], [17], [9, 18], [5, 19], [0, 1]] [50, 51, 52, 53, 54, 55, 56, 57, 58, 59, 60, 61, 62, 63, 64, 65, 66, 67, 68, 69, 70, 71] (fun i_ vs_ v_ p_ => match i_ with | 0 => v_ = .slice (some ⟨g5, 0, none⟩) ((List.replicate (x.n.cnt).toNat (0 : Int)).length) ((List.replicate (x.n.cnt).toNat (0 : Int)).length) ∧ p_ = [] | 1 => v_ = .int .i64 (m : Int) ∧ p_ = [] | 2 => v_ = .slice (some ⟨g5, 0, none⟩) ((List.replicate (x.n.cnt).toNat (0 : Int)).length) ((List.replicate (x.n.cnt).toNat (0 : Int)).length) ∧ p_ = [] | 3 => v_ = .int .i64 (m : Int) ∧ p_ = [] | 4 => v_ = elP (.slice (some ⟨g5, 0, none⟩) ((List.replicate (x.n.cnt).toNat (0 : Int)).length) ((List.replicate (x.n.cnt).toNat (0 : Int)).length)) (((m : Int)).toNat * 1) ∧ p_ = [] | 5 => v_ = .int .i64 (z2.getD m 0) ∧ p_ = [] | 6 => v_ = .slice (some ⟨g5, 0, none⟩) ((List.replicate (x.n.cnt).toNat (0 : Int)).length) ((List.replicate (x.n.cnt).toNat (0 : Int)).length) ∧ p_ = [] | 7 => v_ = .int .i64 (((x.n.ls.getD i lt0).xs).getD j 0) ∧ p_ = [] | 8 => v_ = elP (.slice (some ⟨g5, 0, none⟩) ((List.replicate (x.n.cnt).toNat (0 : Int)).length) ((List.replicate (x.n.cnt).toNat (0 : Int)).length)) ((((x.n.ls.getD i lt0).xs).getD j 0).toNat * 1) ∧ p_ = [] | 9 => v_ = .int .i64 (z2.getD ((((x.n.ls.getD i lt0).xs).getD j 0).toNat) 0) ∧ p_ = [] | 10 => v_ = .pointer (some ⟨b1, 0 + 4, none⟩) ∧ p_ = [] | 11 => v_ = .pointer (some ⟨b1, 0 + 4 + 0, none⟩) ∧ p_ = [] | 12 => v_ = x.pv ∧ p_ = [] | 13 => v_ = .int .i64 (i : Int) ∧ p_ = [] | 14 => v_ = elP x.pv (((i : Int)).toNat * 1) ∧ p_ = [] | 15 => v_ = (x.dl.getD i ir0).v ∧ p_ = [] | 16 => v_ = .int .i64 (j : Int) ∧ p_ = [] | 17 => v_ = elP ((x.dl.getD i ir0).v) (((j : Int)).toNat * 1) ∧ p_ = [] | 18 => v_ = .int .i64 (((x.dl.getD i ir0).xs).getD j 0) ∧ p_ = [] | 19 => v_ = .int .i64 ((z2.getD ((((x.n.ls.getD i lt0).xs).getD j 0).toNat) 0) + (((x.dl.getD i ir0).xs).getD j 0)) ∧ p_ = [] | 20 => v_ = .int .i64 (if z2.getD m 0 < (z2.getD ((((x.n.ls.getD i lt0).xs).getD j 0).toNat) 0) + (((x.dl.getD i ir0).xs).getD j 0) then (z2.getD ((((x.n.ls.getD i lt0).xs).getD j 0).toNat) 0) + (((x.dl.getD i ir0).xs).getD j 0) else z2.getD m 0) ∧ p_ = [] | 21 => v_ = elP (.slice (some ⟨g5, 0, none⟩) ((List.replicate (x.n.cnt).toNat (0 : Int)).length) ((List.replicate (x.n.cnt).toNat (0 : Int)).length)) (((m : Int)).toNat * 1) ∧ p_ = [] | _ => True) (List.take_append_drop 22 _).symm (by kernel_rfl) (by kernel_rfl) rfl rfl ?_ ?_
       ·
        refine ⟨?_, ?_, ?_, ?_, ?_, ?_, ?_, ?_, ?_, ?_, ?_, ?_, ?_, ?_, ?_, ?_, ?_, ?_, ?_, ?_, ?_, ?_, trivial⟩
        ·
         intro vf pf hR
         refine Or.inl ⟨rfl, ?_⟩
         refine rq_less (sx 4 rfl (sub_nil _)) (List.sublist_append_right _ _) ?_
         exact rq_v (rv_ev rfl)
        ·
         intro vf pf hR
         refine Or.inl ⟨rfl, ?_⟩
         refine rq_less (sx 6 rfl (sub_nil _)) (List.sublist_append_right _ _) ?_
         exact rq_v (rv_ev rfl)
        ·
         intro vf pf hR
         refine Or.inl ⟨rfl, ?_⟩
         refine rq_less (sx 4 rfl (sub_nil _)) (List.sublist_append_right _ _) ?_
         exact rq_v (rv_ev rfl)
        ·
         intro vf pf hR
         refine Or.inl ⟨rfl, ?_⟩
         refine rq_less (sx 6 rfl (sub_nil _)) (List.sublist_append_right _ _) ?_
         exact rq_v (rv_ev rfl)
        ·
         intro vf pf hR
         have e2 : (vf 2) = .slice (some ⟨g5, 0, none⟩) ((List.replicate (x.n.cnt).toNat (0 : Int)).length) ((List.replicate (x.n.cnt).toNat (0 : Int)).length) ∧ (pf 2) = [] := hR 2 (by decide)
         have e3 : (vf 3) = .int .i64 (m : Int) ∧ (pf 3) = [] := hR 3 (by decide)
         refine Or.inl ⟨rfl, ?_⟩
         refine rq_less (sx 52 (congrArg some e2.1) (sx 53 (congrArg some e3.1) (sub_nil _))) (List.sublist_append_right _ _) ?_
         exact rq_v (rv_index (s := 1) rfl Try.underlying24 (by kernel_rfl) rfl rfl (rd_row 1 rfl) (by omega) (by first | omega | (simp only [List.length_set]; omega)))
        ·
         intro vf pf hR
         have e4 : (vf 4) = elP (.slice (some ⟨g5, 0, none⟩) ((List.replicate (x.n.cnt).toNat (0 : Int)).length) ((List.replicate (x.n.cnt).toNat (0 : Int)).length)) (((m : Int)).toNat * 1) ∧ (pf 4) = [] := hR 4 (by decide)
         refine Or.inl ⟨rfl, ?_⟩
         refine rq_less (sx 54 (congrArg some e4.1) (sub_nil _)) (List.sublist_append_right _ _) ?_
         exact rq_v (rv_loadEl (u := .int .i64 (z2.getD m 0)) rfl (by kernel_rfl) rfl (rd_row 1 rfl) (ints_at1 (show _ < z2.length by first | omega | (simp only [List.length_set]; omega))))
        ·
         intro vf pf hR
         refine Or.inl ⟨rfl, ?_⟩
         refine rq_less (sx 4 rfl (sub_nil _)) (List.sublist_append_right _ _) ?_
         exact rq_v (rv_ev rfl)
        ·
         intro vf pf hR
         refine Or.inl ⟨rfl, ?_⟩
         refine rq_less (sx 9 rfl (sub_nil _)) (List.sublist_append_right _ _) ?_
         exact rq_v (rv_ev rfl)
        ·
         intro vf pf hR
         have e6 : (vf 6) = .slice (some ⟨g5, 0, none⟩) ((List.replicate (x.n.cnt).toNat (0 : Int)).length) ((List.replicate (x.n.cnt).toNat (0 : Int)).length) ∧ (pf 6) = [] := hR 6 (by decide)
         have e7 : (vf 7) = .int .i64 (((x.n.ls.getD i lt0).xs).getD j 0) ∧ (pf 7) = [] := hR 7 (by decide)
         refine Or.inl ⟨rfl, ?_⟩
         refine rq_less (sx 56 (congrArg some e6.1) (sx 57 (congrArg some e7.1) (sub_nil _))) (List.sublist_append_right _ _) ?_
         exact rq_v (rv_index (s := 1) rfl Try.underlying24 (by kernel_rfl) rfl rfl (rd_row 1 rfl) (by omega) (by first | omega | (simp only [List.length_set]; omega)))
        ·
         intro vf pf hR
         have e8 : (vf 8) = elP (.slice (some ⟨g5, 0, none⟩) ((List.replicate (x.n.cnt).toNat (0 : Int)).length) ((List.replicate (x.n.cnt).toNat (0 : Int)).length)) ((((x.n.ls.getD i lt0).xs).getD j 0).toNat * 1) ∧ (pf 8) = [] := hR 8 (by decide)
         refine Or.inl ⟨rfl, ?_⟩
         refine rq_less (sx 58 (congrArg some e8.1) (sub_nil _)) (List.sublist_append_right _ _) ?_
         exact rq_v (rv_loadEl (u := .int .i64 (z2.getD ((((x.n.ls.getD i lt0).xs).getD j 0).toNat) 0)) rfl (by kernel_rfl) rfl (rd_row 1 rfl) (ints_at1 (show _ < z2.length by first | omega | (simp only [List.length_set]; omega))))
        ·
         intro vf pf hR
         refine Or.inl ⟨rfl, ?_⟩
         refine rq_less (sx 1 rfl (sub_nil _)) (List.sublist_append_right _ _) ?_
         exact rq_v (rv_field (k0 := 4) rfl (by kernel_rfl) rfl)
        ·
         intro vf pf hR
         have e10 : (vf 10) = .pointer (some ⟨b1, 0 + 4, none⟩) ∧ (pf 10) = [] := hR 10 (by decide)
         refine Or.inl ⟨rfl, ?_⟩
         refine rq_less (sx 60 (congrArg some e10.1) (sub_nil _)) (List.sublist_append_right _ _) ?_
         exact rq_v (rv_field (k0 := 0) rfl (by kernel_rfl) rfl)
        ·
         intro vf pf hR
         have e11 : (vf 11) = .pointer (some ⟨b1, 0 + 4 + 0, none⟩) ∧ (pf 11) = [] := hR 11 (by decide)
         refine Or.inl ⟨rfl, ?_⟩
         refine rq_less (sx 61 (congrArg some e11.1) (sub_nil _)) (List.sublist_append_right _ _) ?_
         exact rq_v (rv_load rfl (by kernel_rfl) rfl (box_cell 4 rfl rfl))
        ·
         intro vf pf hR
         refine Or.inl ⟨rfl, ?_⟩
         refine rq_less (sx 7 rfl (sub_nil _)) (List.sublist_append_right _ _) ?_
         exact rq_v (rv_ev rfl)
        ·
         intro vf pf hR
         have e12 : (vf 12) = x.pv ∧ (pf 12) = [] := hR 12 (by decide)
         have e13 : (vf 13) = .int .i64 (i : Int) ∧ (pf 13) = [] := hR 13 (by decide)
         refine Or.inl ⟨rfl, ?_⟩
         refine rq_less (sx 62 (congrArg some e12.1) (sx 63 (congrArg some e13.1) (sub_nil _))) (List.sublist_append_right _ _) ?_
         exact rq_v (rv_index (s := 1) rfl Try.underlying27 (by kernel_rfl) rfl rfl (rd_old ((hr).dl.row)) (by omega) (by first | omega | (simp only [List.length_set]; omega)))
        ·
         intro vf pf hR
         have e14 : (vf 14) = elP x.pv (((i : Int)).toNat * 1) ∧ (pf 14) = [] := hR 14 (by decide)
         refine Or.inl ⟨rfl, ?_⟩
         refine rq_less (sx 64 (congrArg some e14.1) (sub_nil _)) (List.sublist_append_right _ _) ?_
         exact rq_v (rv_loadEl (u := (x.dl.getD i ir0).v) rfl (by kernel_rfl) rfl (rd_old ((hr).dl.row)) (flat_one irC (fun r => r.v) (fun _ => rfl) x.dl ir0 (show i < _ by first | omega | (simp only [List.length_set]; omega))))
        ·
         intro vf pf hR
         refine Or.inl ⟨rfl, ?_⟩
         refine rq_less (sx 8 rfl (sub_nil _)) (List.sublist_append_right _ _) ?_
         exact rq_v (rv_ev rfl)
        ·
         intro vf pf hR
         have e15 : (vf 15) = (x.dl.getD i ir0).v ∧ (pf 15) = [] := hR 15 (by decide)
         have e16 : (vf 16) = .int .i64 (j : Int) ∧ (pf 16) = [] := hR 16 (by decide)
         refine Or.inl ⟨rfl, ?_⟩
         refine rq_less (sx 65 (congrArg some e15.1) (sx 66 (congrArg some e16.1) (sub_nil _))) (List.sublist_append_right _ _) ?_
         exact rq_v (rv_index (s := 1) rfl Try.underlying24 (by kernel_rfl) rfl rfl (rd_old ((hr).dl.at (d := ir0) (k := i) (by omega))) (by omega) (by first | omega | (simp only [List.length_set]; omega)))
        ·
         intro vf pf hR
         have e17 : (vf 17) = elP ((x.dl.getD i ir0).v) (((j : Int)).toNat * 1) ∧ (pf 17) = [] := hR 17 (by decide)
         refine Or.inl ⟨rfl, ?_⟩
         refine rq_less (sx 67 (congrArg some e17.1) (sub_nil _)) (List.sublist_append_right _ _) ?_
         exact rq_v (rv_loadEl (u := .int .i64 (((x.dl.getD i ir0).xs).getD j 0)) rfl (by kernel_rfl) rfl (rd_old ((hr).dl.at (d := ir0) (k := i) (by omega))) (ints_at1 (show _ < ((x.dl.getD i ir0).xs).length by first | omega | (simp only [List.length_set]; omega))))
        ·
         intro vf pf hR
         have e9 : (vf 9) = .int .i64 (z2.getD ((((x.n.ls.getD i lt0).xs).getD j 0).toNat) 0) ∧ (pf 9) = [] := hR 9 (by decide)
         have e18 : (vf 18) = .int .i64 (((x.dl.getD i ir0).xs).getD j 0) ∧ (pf 18) = [] := hR 18 (by decide)
         refine Or.inl ⟨rfl, ?_⟩
         refine rq_less (sx 59 (congrArg some e9.1) (sx 68 (congrArg some e18.1) (sub_nil _))) (List.sublist_append_right _ _) ?_
         exact rq_v (rv_add rfl rfl rfl (by constructor <;> omega))
        ·
         intro vf pf hR
         have e5 : (vf 5) = .int .i64 (z2.getD m 0) ∧ (pf 5) = [] := hR 5 (by decide)
         have e19 : (vf 19) = .int .i64 ((z2.getD ((((x.n.ls.getD i lt0).xs).getD j 0).toNat) 0) + (((x.dl.getD i ir0).xs).getD j 0)) ∧ (pf 19) = [] := hR 19 (by decide)
         refine Or.inl ⟨rfl, ?_⟩
         refine rq_less (sx 55 (congrArg some e5.1) (sx 69 (congrArg some e19.1) (sub_nil _))) (List.sublist_append_right _ _) ?_
         exact rq_v (rv_max rfl rfl rfl)
        ·
         intro vf pf hR
         have e0 : (vf 0) = .slice (some ⟨g5, 0, none⟩) ((List.replicate (x.n.cnt).toNat (0 : Int)).length) ((List.replicate (x.n.cnt).toNat (0 : Int)).length) ∧ (pf 0) = [] := hR 0 (by decide)
         have e1 : (vf 1) = .int .i64 (m : Int) ∧ (pf 1) = [] := hR 1 (by decide)
         refine Or.inl ⟨rfl, ?_⟩
         refine rq_less (sx 50 (congrArg some e0.1) (sx 51 (congrArg some e1.1) (sub_nil _))) (List.sublist_append_right _ _) ?_
         exact rq_v (rv_index (s := 1) rfl Try.underlying24 (by kernel_rfl) rfl rfl (rd_row 1 rfl) (by omega) (by first | omega | (simp only [List.length_set]; omega)))
       ·
        intro vf pf hR
        have e20 : (vf 20) = .int .i64 (if z2.getD m 0 < (z2.getD ((((x.n.ls.getD i lt0).xs).getD j 0).toNat) 0) + (((x.dl.getD i ir0).xs).getD j 0) then (z2.getD ((((x.n.ls.getD i lt0).xs).getD j 0).toNat) 0) + (((x.dl.getD i ir0).xs).getD j 0) else z2.getD m 0) ∧ (pf 20) = [] := hR 20 (by decide)
        have e21 : (vf 21) = elP (.slice (some ⟨g5, 0, none⟩) ((List.replicate (x.n.cnt).toNat (0 : Int)).length) ((List.replicate (x.n.cnt).toNat (0 : Int)).length)) (((m : Int)).toNat * 1) ∧ (pf 21) = [] := hR 21 (by decide)
        refine hl_less (l' := [rowE 4 1 (.slice (some ⟨g6, 0, none⟩) ((List.replicate (x.n.cnt).toNat bl0).length) ((List.replicate (x.n.cnt).toNat bl0).length)) ((b2.set m { b2.getD m bl0 with b := true }).length) ((b2.set m { b2.getD m bl0 with b := true }).flatMap blC), rowE 3 1 (.slice (some ⟨g5, 0, none⟩) ((List.replicate (x.n.cnt).toNat (0 : Int)).length) ((List.replicate (x.n.cnt).toNat (0 : Int)).length)) z2.length (z2.map (Value.int .i64)), boxE b4 #[.int .i64 x.n.ins, x.n.sv, x.n.lv, x.n.ov] 37, rowE 3 1 (.slice none 0 0) 0 ([]), boxE b1 #[.int .i64 x.n.ins, x.n.sv, x.n.lv, x.n.ov, x.pv, x.qv, x.kv, x.av, x.bv, .int .i64 x.oi, .int .i64 x.ni] 40]) (sx 0 rfl (sx 1 rfl (sx 2 rfl (sx 3 rfl (sx 4 rfl (sx 5 rfl (sx 6 rfl (sx 7 rfl (sx 8 rfl (sx 9 rfl (sx 12 rfl (sx 24 rfl (sx 36 rfl (sx 37 rfl (sx 38 rfl (sx 39 rfl (sx 46 rfl (sx 70 (congrArg some e20.1) (sx 71 (congrArg some e21.1) (sx 73 rfl (sx 81 rfl (sub_nil _)))))))))))))))))))))) (List.sublist_append_right _ _) ?_
        simp only [List.drop_succ_cons, List.drop_zero]
        refine hl_storeEl (i := 1) (n' := (z2.set m (if z2.getD m 0 < (z2.getD ((((x.n.ls.getD i lt0).xs).getD j 0).toNat) 0) + (((x.dl.getD i ir0).xs).getD j 0) then (z2.getD ((((x.n.ls.getD i lt0).xs).getD j 0).toNat) 0) + (((x.dl.getD i ir0).xs).getD j 0) else z2.getD m 0)).length) (xs' := ((z2.set m (if z2.getD m 0 < (z2.getD ((((x.n.ls.getD i lt0).xs).getD j 0).toNat) 0) + (((x.dl.getD i ir0).xs).getD j 0) then (z2.getD ((((x.n.ls.getD i lt0).xs).getD j 0).toNat) 0) + (((x.dl.getD i ir0).xs).getD j 0) else z2.getD m 0)).map (Value.int .i64))) (l' := [rowE 4 1 (.slice (some ⟨g6, 0, none⟩) ((List.replicate (x.n.cnt).toNat bl0).length) ((List.replicate (x.n.cnt).toNat bl0).length)) ((b2.set m { b2.getD m bl0 with b := true }).length) ((b2.set m { b2.getD m bl0 with b := true }).flatMap blC), rowE 3 1 (.slice (some ⟨g5, 0, none⟩) ((List.replicate (x.n.cnt).toNat (0 : Int)).length) ((List.replicate (x.n.cnt).toNat (0 : Int)).length)) ((z2.set m (if z2.getD m 0 < (z2.getD ((((x.n.ls.getD i lt0).xs).getD j 0).toNat) 0) + (((x.dl.getD i ir0).xs).getD j 0) then (z2.getD ((((x.n.ls.getD i lt0).xs).getD j 0).toNat) 0) + (((x.dl.getD i ir0).xs).getD j 0) else z2.getD m 0)).length) ((z2.set m (if z2.getD m 0 < (z2.getD ((((x.n.ls.getD i lt0).xs).getD j 0).toNat) 0) + (((x.dl.getD i ir0).xs).getD j 0) then (z2.getD ((((x.n.ls.getD i lt0).xs).getD j 0).toNat) 0) + (((x.dl.getD i ir0).xs).getD j 0) else z2.getD m 0)).map (Value.int .i64)), boxE b4 #[.int .i64 x.n.ins, x.n.sv, x.n.lv, x.n.ov] 37, rowE 3 1 (.slice none 0 0) 0 ([]), boxE b1 #[.int .i64 x.n.ins, x.n.sv, x.n.lv, x.n.ov, x.pv, x.qv, x.kv, x.av, x.bv, .int .i64 x.oi, .int .i64 x.ni] 40]) rfl rfl rfl (by kernel_rfl) rfl rfl rfl rfl (by first | omega | (simp only [List.length_set]; omega)) List.length_set.symm (ints_set _ _ _) rfl ?_
        refine hl_less (sx 0 rfl (sx 1 rfl (sx 2 rfl (sx 3 rfl (sx 4 rfl (sx 5 rfl (sx 6 rfl (sx 7 rfl (sx 8 rfl (sx 9 rfl (sx 12 rfl (sx 24 rfl (sx 36 rfl (sx 37 rfl (sx 38 rfl (sx 39 rfl (sx 46 rfl (sx 73 rfl (sx 81 rfl (sub_nil _)))))))))))))))))))) (.refl _) ?_
        refine hl_nil ?_
        refine hq_block_normal ?_
        refine hq_then ?_
        refine hc_region ?_
        refine hl_v rfl rfl rfl (rv_add rfl rfl rfl (by constructor <;> omega)) ?_
        refine hl_v rfl rfl rfl (rv_ev rfl) ?_
        refine hl_less (sx 0 rfl (sx 1 rfl (sx 2 rfl (sx 3 rfl (sx 4 rfl (sx 5 rfl (sx 6 rfl (sx 7 rfl (sx 8 rfl (sx 9 rfl (sx 12 rfl (sx 24 rfl (sx 36 rfl (sx 37 rfl (sx 38 rfl (sx 39 rfl (sx 46 rfl (sx 73 rfl (sx 81 rfl (sub_nil _)))))))))))))))))))) (.refl _) ?_
        refine hl_nil ?_
        exact hq_round3 (j + 1) (z2.set m (if z2.getD m 0 < (z2.getD ((((x.n.ls.getD i lt0).xs).getD j 0).toNat) 0) + (((x.dl.getD i ir0).xs).getD j 0) then (z2.getD ((((x.n.ls.getD i lt0).xs).getD j 0).toNat) 0) + (((x.dl.getD i ir0).xs).getD j 0) else z2.getD m 0)) (b2.set m { b2.getD m bl0 with b := true }) ⟨by omega, by rw [lut_yes (by rw [← hbk]; assumption), hz2v]; exact fz_reset (by omega) (by omega), by rw [lut_yes (by rw [← hbk]; assumption), hb2]; exact fzB_reset (by omega) (by omega)⟩ (by omega) (sx 0 rfl (sx 1 rfl (sx 2 rfl (sx 3 rfl (sx 4 rfl (sx 5 rfl (sx 6 rfl (sx 7 rfl (sx 12 rfl (sx 24 rfl (sx 36 rfl (sx 37 rfl (sx 38 rfl (sx 73 rfl (sx 81 rfl (sub_nil _)))))))))))))))) ((.cons_cons _ (.cons_cons _ (.cons_cons _ (.cons_cons _ (.cons_cons _ .slnil))))))
      ·
       refine hl_less (sx 0 rfl (sx 1 rfl (sx 2 rfl (sx 3 rfl (sx 4 rfl (sx 5 rfl (sx 6 rfl (sx 7 rfl (sx 8 rfl (sx 9 rfl (sx 12 rfl (sx 24 rfl (sx 36 rfl (sx 37 rfl (sx 38 rfl (sx 39 rfl (sx 46 rfl (sx 73 rfl (sx 81 rfl (sub_nil _)))))))))))))))))))) (.refl _) ?_
       refine hl_nil ?_
       refine hq_then ?_
       refine hc_false rfl ?_
       refine hc_skip ?_
       refine hq_block_normal ?_
       refine hq_then ?_
       refine hc_region ?_
       refine hl_v rfl rfl rfl (rv_add rfl rfl rfl (by constructor <;> omega)) ?_
       refine hl_v rfl rfl rfl (rv_ev rfl) ?_
       refine hl_less (sx 0 rfl (sx 1 rfl (sx 2 rfl (sx 3 rfl (sx 4 rfl (sx 5 rfl (sx 6 rfl (sx 7 rfl (sx 8 rfl (sx 9 rfl (sx 12 rfl (sx 24 rfl (sx 36 rfl (sx 37 rfl (sx 38 rfl (sx 39 rfl (sx 46 rfl (sx 73 rfl (sx 81 rfl (sub_nil _)))))))))))))))))))) (.refl _) ?_
       refine hl_nil ?_
       exact hq_round3 (j + 1) z2 b2 ⟨by omega, by rw [lut_no (by rw [← hbk]; assumption)]; exact hz2, by rw [lut_no (by rw [← hbk]; assumption)]; exact hb2⟩ (by omega) (sx 0 rfl (sx 1 rfl (sx 2 rfl (sx 3 rfl (sx 4 rfl (sx 5 rfl (sx 6 rfl (sx 7 rfl (sx 12 rfl (sx 24 rfl (sx 36 rfl (sx 37 rfl (sx 38 rfl (sx 73 rfl (sx 81 rfl (sub_nil _)))))))))))))))) ((.cons_cons _ (.cons_cons _ (.cons_cons _ (.cons_cons _ (.cons_cons _ .slnil))))))
     ·
      refine hl_less (sx 0 rfl (sx 1 rfl (sx 2 rfl (sx 3 rfl (sx 4 rfl (sx 5 rfl (sx 6 rfl (sx 7 rfl (sx 12 rfl (sx 24 rfl (sx 36 rfl (sx 37 rfl (sx 38 rfl (sx 39 rfl (sx 73 rfl (sx 81 rfl (sub_nil _))))))))))))))))) (.refl _) ?_
      refine hl_nil ?_
      refine hq_then ?_
      refine hc_seq ?_
      refine hc_false rfl ?_
      refine hc_exit ?_
      refine hq_then_exit ?_
      refine hq_then_exit ?_
      refine hq_block_exit ?_
      refine hq_block_normal ?_
      refine hq_block_normal ?_
      refine hq_then ?_
      refine hc_region ?_
      refine hl_v rfl rfl rfl (rv_ev rfl) ?_
      refine hl_v rfl rfl rfl (rv_add rfl rfl rfl (by constructor <;> omega)) ?_
      refine hl_v rfl rfl rfl (rv_ev rfl) ?_
      refine hl_less (sx 0 rfl (sx 1 rfl (sx 2 rfl (sx 3 rfl (sx 4 rfl (sx 5 rfl (sx 6 rfl (sx 7 rfl (sx 12 rfl (sx 24 rfl (sx 36 rfl (sx 37 rfl (sx 38 rfl (sx 39 rfl (sx 73 rfl (sx 81 rfl (sub_nil _))))))))))))))))) (.refl _) ?_
      refine hl_nil ?_
      have hnx := st_lut (zs := z2) (bs := b2) (by omega) hmi (by rw [← show j = (x.n.ls.getD i lt0).xs.length by omega]; exact hz2) (by rw [← show j = (x.n.ls.getD i lt0).xs.length by omega]; exact hb2)
      exact hq_round3 (m + 1) z2 b2 ⟨by omega, by omega, hnx.1, hnx.2⟩ (by omega) (sx 0 rfl (sx 1 rfl (sx 2 rfl (sx 3 rfl (sx 4 rfl (sx 5 rfl (sx 6 rfl (sx 12 rfl (sub_nil _))))))))) ((.cons_cons _ (.cons_cons _ (.cons_cons _ (.cons_cons _ (.cons_cons _ .slnil))))))
  ·
   refine hl_less (sx 0 rfl (sx 1 rfl (sx 2 rfl (sx 3 rfl (sx 4 rfl (sx 5 rfl (sx 6 rfl (sx 12 rfl (sx 24 rfl (sub_nil _)))))))))) (.refl _) ?_
   refine hl_nil ?_
   refine hq_then ?_
   refine hc_false rfl ?_
   refine hc_exit ?_
   refine hq_then_exit ?_
   refine hq_then_exit ?_
   refine hq_block_exit ?_
   refine hq_then ?_
   refine hc_seq ?_
   refine hc_region ?_
   refine hl_v rfl rfl rfl (rv_ev rfl) ?_
   refine hl_v rfl rfl rfl (rv_ev rfl) ?_
   refine hl_less (sx 0 rfl (sx 1 rfl (sx 2 rfl (sx 3 rfl (sx 4 rfl (sx 5 rfl (sx 6 rfl (sx 12 rfl (sx 24 rfl (sub_nil _)))))))))) (.refl _) ?_
   refine hl_nil ?_
   refine hq_then ?_
   refine hc_ret ?_
   have hsR : zs = setR x := by rw [setR_ok hok, ← settle_eq hok, hz, show m = x.n.cnt.toNat by omega, fz_all (by rw [(sL_len x _).1])]
   exact hq_retR (post := [rowE 3 1 (.slice (some ⟨g5, 0, none⟩) ((List.replicate (x.n.cnt).toNat (0 : Int)).length) ((List.replicate (x.n.cnt).toNat (0 : Int)).length)) zs.length (zs.map (Value.int .i64))]) rfl rfl ((.cons _ (.cons_cons _ (.cons _ (.cons _ (.cons _ .slnil)))))) (by first | (rw [hsR]; done) | (rw [hsR]; rfl))
 ·
  have hno := of_pBn h3
  refine hl_v rfl rfl rfl (rv_ev rfl) ?_
  refine hl_less (sx 0 rfl (sx 1 rfl (sx 2 rfl (sx 12 rfl (sub_nil _))))) (.refl _) ?_
  refine hl_nil ?_
  refine hq_then ?_
  refine hc_true rfl ?_
  refine hc_seq ?_
  refine hc_region ?_
  refine hl_nilRow 3 1 ?_
  refine hl_v rfl rfl rfl (rv_ev rfl) ?_
  refine hl_less (sx 0 rfl (sx 1 rfl (sx 2 rfl (sx 12 rfl (sub_nil _))))) (.refl _) ?_
  refine hl_nil ?_
  refine hq_then ?_
  refine hc_ret ?_
  refine hq_then_ret ?_
  have hsR := setR_no hno
  exact hq_retR (post := [rowE 3 1 (.slice none 0 0) 0 ([])]) rfl rfl ((.cons_cons _ (.cons _ (.cons _ .slnil)))) (by first | (rw [hsR]; done) | (rw [hsR]; rfl))
set_option maxHeartbeats 4000000 in
set_option maxRecDepth 100000 in
theorem specSettleTimes_ret (x : Td) (w : World) (hr : RdsTd w x) :
  Calls Try.prog 28 #[.agg #[.int .i64 x.n.ins, x.n.sv, x.n.lv, x.n.ov, x.pv, x.qv, x.kv, x.av, x.bv, .int .i64 x.oi, .int .i64 x.ni]] w (Ret w (fun v' post => post = [rowE 3 1 v' (setR x).length ((setR x).map (Value.int .i64))])) := by
 have t1 := sml hr.ks
 have t2 := sml hr.ao
 have t3 := sml hr.bs
 have t4 := hr.dl.small
 have t5 := hr.ds.small
 have t6 := hr.n.sq.small
 have t7 := hr.n.lt.small
 have t8 := sml hr.n.ou
 have hcnt : x.n.cnt = 1 + x.n.ins + x.n.ss.length + x.n.ls.length := rfl
 have hfst : x.n.fst = 1 + x.n.ins + x.n.ss.length := rfl
 refine calls_hc (N := 68) (args := [.agg #[.int .i64 x.n.ins, x.n.sv, x.n.lv, x.n.ov, x.pv, x.qv, x.kv, x.av, x.bv, .int .i64 x.oi, .int .i64 x.ni]]) Try.func28 rfl rfl ?_
 refine hc_less _ (sx 0 rfl (sub_nil _)) (.refl _) ?_
 refine hc_seq ?_
 refine hc_region ?_
 refine hl_box rfl rfl rfl (rq_box rfl rfl) ?_
 intro b1
 refine hl_nilRow 3 1 ?_
 refine hl_v rfl rfl rfl (rv_ev rfl) ?_
 refine hl_less (sx 0 rfl (sx 1 rfl (sx 2 rfl (sub_nil _)))) (.refl _) ?_
 refine hl_nil ?_
 refine hq_then ?_
 refine hc_seq ?_
 refine hc_seq ?_
 refine hc_region ?_
 refine hl_v rfl rfl rfl (rv_loadN (cs := [.int .i64 x.n.ins, x.n.sv, x.n.lv, x.n.ov, x.pv, x.qv, x.kv, x.av, x.bv, .int .i64 x.oi, .int .i64 x.ni]) rfl (by kernel_rfl) (by kernel_rfl) rfl rfl (box_part 1 rfl 0 rfl)) ?_
 refine hl_callV rfl rfl rfl (rq_call (by kernel_rfl) rfl (fun w hm => ret_ans (specTimedOk_ans x w (hr.below hm.bel)))) ?_
 refine hl_bool (fun h3 => ?_) (fun h3 => ?_)
 ·
  have hok := of_pB h3
  obtain ⟨ci, cs_, cl, ck, ca, cb, cd, ce⟩ := hok.bnd
  have hi0 := ci.1
  have hi1 := ci.2
  refine hl_v rfl rfl rfl (rv_ev rfl) ?_
  refine hl_less (sx 0 rfl (sx 1 rfl (sx 2 rfl (sx 12 rfl (sub_nil _))))) (.refl _) ?_
  refine hl_nil ?_
  refine hq_then ?_
  refine hc_false rfl ?_
  refine hc_skip ?_
  refine hq_then ?_
  refine hc_seq ?_
  refine hc_region ?_
  refine hl_v rfl rfl rfl (rv_loadN (cs := [.int .i64 x.n.ins, x.n.sv, x.n.lv, x.n.ov, x.pv, x.qv, x.kv, x.av, x.bv, .int .i64 x.oi, .int .i64 x.ni]) rfl (by kernel_rfl) (by kernel_rfl) rfl rfl (box_part 1 rfl 0 rfl)) ?_
  refine hl_q rfl rfl rfl (rq_call (by kernel_rfl) rfl (fun w hm => by have h9 := specTimingOf_ret x w (hr.below hm.bel); rw [nodR_ok hok, arcR_ok hok, pB_yes hok] at h9; exact h9)) ?_
  intro v4 p5 hR6
  obtain ⟨uhR6, rfl, rfl, ou⟩ := hR6
  have hgk := gok_x hok
  refine hl_v rfl rfl rfl (rv_ev rfl) ?_
  refine hl_v rfl rfl rfl (rv_ev rfl) ?_
  refine hl_v rfl rfl rfl (rv_ev rfl) ?_
  refine hl_box rfl rfl rfl (rq_alloc (z := .agg #[.int .i64 0, .slice none 0 0]) rfl (by kernel_rfl)) ?_
  intro b7
  refine hl_storeBoxN (i := 0) (off := 0) (us := [.int .i64 (x.n.cnt + (nS x x.n.ss.length : Int)), uhR6])  (l' := [boxE b7 #[.int .i64 (x.n.cnt + (nS x x.n.ss.length : Int)), uhR6] 51, rowE 86 3 uhR6 ((gsX x).length) ((gsX x).flatMap arcC), rowE 3 1 (.slice none 0 0) 0 ([]), boxE b1 #[.int .i64 x.n.ins, x.n.sv, x.n.lv, x.n.ov, x.pv, x.qv, x.kv, x.av, x.bv, .int .i64 x.oi, .int .i64 x.ni] 40]) rfl rfl rfl (by kernel_rfl) rfl rfl rfl (all_cons rfl (all_cons ou all_nil)) rfl rfl rfl ?_
  refine hl_v rfl rfl rfl (rv_ev rfl) ?_
  refine hl_less (sx 0 rfl (sx 1 rfl (sx 2 rfl (sx 3 rfl (sx 12 rfl (sub_nil _)))))) (.refl _) ?_
  refine hl_nil ?_
  refine hq_then ?_
  refine hc_seq ?_
  refine hc_region ?_
  refine hl_v rfl rfl rfl (rv_field (k0 := 0) rfl (by kernel_rfl) rfl) ?_
  refine hl_v rfl rfl rfl (rv_loadN (cs := [.int .i64 x.n.ins, x.n.sv, x.n.lv, x.n.ov]) rfl (by kernel_rfl) (by kernel_rfl) rfl rfl (box_part 3 rfl 0 rfl)) ?_
  refine hl_callV rfl rfl rfl (rq_call (by kernel_rfl) rfl (fun w hm => ret_ans (by have h9 := specLutNodes_ans x.n w (hr.n.below hm.bel); rw [lnN_yes hok.n.sz] at h9; exact h9))) ?_
  refine hl_row rfl rfl rfl (rq_make (z := .int .i64 0) (s := 1) (bytes := 8) (n := (List.replicate (x.n.cnt).toNat (0 : Int)).length) (cs := ((List.replicate (x.n.cnt).toNat (0 : Int)).map (Value.int .i64))) rfl Try.underlying24 (by kernel_rfl) (by decide) rfl rfl (by first | (rw [List.length_replicate]; done) | (rw [List.length_replicate]; omega)) (by first | (rw [List.length_replicate]; done) | (rw [List.length_replicate]; omega)) (by rw [List.length_replicate]; omega) (ints_make _)) ?_
  intro g8
  refine hl_v rfl rfl rfl (rv_ev rfl) ?_
  refine hl_less (sx 0 rfl (sx 1 rfl (sx 2 rfl (sx 3 rfl (sx 5 rfl (sx 12 rfl (sub_nil _))))))) (.refl _) ?_
  refine hl_nil ?_
  refine hq_then ?_
  refine hc_seq ?_
  refine hc_region ?_
  refine hl_v rfl rfl rfl (rv_loadN (cs := [.int .i64 x.n.ins, x.n.sv, x.n.lv, x.n.ov, x.pv, x.qv, x.kv, x.av, x.bv, .int .i64 x.oi, .int .i64 x.ni]) rfl (by kernel_rfl) (by kernel_rfl) rfl rfl (box_part 4 rfl 0 rfl)) ?_
  refine hl_q rfl rfl rfl (rq_call (by kernel_rfl) rfl (fun w hm => by have h9 := specLaunchPoints_ret x w (hr.below hm.bel); rw [lauR_ok hok] at h9; exact h9)) ?_
  intro v9 p10 hR11
  subst hR11
  refine hl_v rfl rfl rfl (rv_ev rfl) ?_
  refine hl_less (sx 0 rfl (sx 1 rfl (sx 2 rfl (sx 3 rfl (sx 5 rfl (sx 6 rfl (sx 12 rfl (sub_nil _)))))))) (.refl _) ?_
  refine hl_nil ?_
  refine hq_then ?_
  refine hc_seq ?_
  refine hc_seq ?_
  refine hc_region ?_
  refine hl_v rfl rfl rfl (rv_ev rfl) ?_
  refine hl_less (sx 0 rfl (sx 1 rfl (sx 2 rfl (sx 3 rfl (sx 5 rfl (sx 6 rfl (sx 7 rfl (sx 12 rfl (sub_nil _))))))))) (.refl _) ?_
  refine hl_nil ?_
  refine hq_then ?_
  refine hc_block ?_
  refine hc_loop2 (α := Nat) (β := List Int) (fun i zs => [rowE 81 2 v9 ((psX x).length) ((psX x).flatMap ptC), rowE 3 1 (.slice (some ⟨g8, 0, none⟩) ((List.replicate (x.n.cnt).toNat (0 : Int)).length) ((List.replicate (x.n.cnt).toNat (0 : Int)).length)) zs.length (zs.map (Value.int .i64)), boxE b7 #[.int .i64 (x.n.cnt + (nS x x.n.ss.length : Int)), uhR6] 51, rowE 86 3 uhR6 ((gsX x).length) ((gsX x).flatMap arcC), rowE 3 1 (.slice none 0 0) 0 ([]), boxE b1 #[.int .i64 x.n.ins, x.n.sv, x.n.lv, x.n.ov, x.pv, x.qv, x.kv, x.av, x.bv, .int .i64 x.oi, .int .i64 x.ni] 40]) (fun i zs => [(0, .agg #[.int .i64 x.n.ins, x.n.sv, x.n.lv, x.n.ov, x.pv, x.qv, x.kv, x.av, x.bv, .int .i64 x.oi, .int .i64 x.ni]), (1, .pointer (some ⟨b1, 0, none⟩)), (2, .slice none 0 0), (3, .pointer (some ⟨b7, 0, none⟩)), (5, .slice (some ⟨g8, 0, none⟩) ((List.replicate (x.n.cnt).toNat (0 : Int)).length) ((List.replicate (x.n.cnt).toNat (0 : Int)).length)), (6, v9), (7, .int .i64 (i : Int)), (12, .bool false)]) (fun i zs => i ≤ (psX x).length ∧ zs = accL x i 0) (fun i zs => (psX x).length - i) 0 _ ⟨Nat.zero_le _, accL_start x⟩ (sx 0 rfl (sx 1 rfl (sx 2 rfl (sx 3 rfl (sx 5 rfl (sx 6 rfl (sx 7 rfl (sx 12 rfl (sub_nil _))))))))) ((.cons_cons _ (.cons_cons _ (.cons_cons _ (.cons_cons _ (.cons_cons _ (.cons_cons _ .slnil))))))) ?_
  intro i zs hi12
  obtain ⟨hi, hz⟩ := hi12
  have hzl : zs.length = x.n.cnt.toNat := by rw [hz]; exact accL_len _ _ _
  have hpl : (psX x).length = x.n.ins.toNat + x.ks.length := lauB_len x _
  refine hc_seq ?_
  refine hc_seq ?_
  refine hc_region ?_
  refine hl_v rfl rfl rfl (rv_ev rfl) ?_
  refine hl_v rfl rfl rfl (rv_ev rfl) ?_
  refine hl_v rfl rfl rfl (rv_len rfl Try.underlying44 rfl (rd_row 0 rfl)) ?_
  refine hl_lss rfl rfl rfl rfl rfl rfl (fun h13 => ?_) (fun h13 => ?_)
  ·
   refine hl_less (sx 0 rfl (sx 1 rfl (sx 2 rfl (sx 3 rfl (sx 5 rfl (sx 6 rfl (sx 7 rfl (sx 12 rfl (sx 28 rfl (sub_nil _)))))))))) (.refl _) ?_
   refine hl_nil ?_
   refine hq_then ?_
   refine hc_true rfl ?_
   refine hc_skip ?_
   refine hq_then ?_
   refine hc_seq ?_
   refine hc_block ?_
   refine hc_seq ?_
   have hpi := ps_at hok (i := i) (by omega)
   refine hc_draw (by kernel_rfl) 7 [0, 1, 2, 3, 4, 5, 6] (List.take 7 _) (List.drop 7 _) [[], [], [], [1, 2], [3], [4], [0, 5]] [31, 32, 33, 34, 35, 36, 37] (fun i_ vs_ v_ p_ => match i_ with | 0 => v_ = .agg #[.int .i64 (x.n.cnt + (nS x x.n.ss.length : Int)), uhR6] ∧ p_ = [] | 1 => v_ = v9 ∧ p_ = [] | 2 => v_ = .int .i64 (i : Int) ∧ p_ = [] | 3 => v_ = elP v9 (((i : Int)).toNat * 2) ∧ p_ = [] | 4 => v_ = elP v9 (((i : Int)).toNat * 2 + 0) ∧ p_ = [] | 5 => v_ = .int .i64 (((psX x).getD i pt0).n) ∧ p_ = [] | 6 => (fun v' post => post = [rowE 3 1 v' (delL true (gsX x) (((psX x).getD i pt0).n) (x.n.cnt + (nS x x.n.ss.length : Int)).toNat).length ((delL true (gsX x) (((psX x).getD i pt0).n) (x.n.cnt + (nS x x.n.ss.length : Int)).toNat).map (Value.int .i64))]) v_ p_ | _ => True) (List.take_append_drop 7 _).symm (by kernel_rfl) (by kernel_rfl) rfl rfl ?_ ?_
   ·
    refine ⟨?_, ?_, ?_, ?_, ?_, ?_, ?_, trivial⟩
    ·
     intro vf pf hR
     refine Or.inl ⟨rfl, ?_⟩
     refine rq_less (sx 3 rfl (sub_nil _)) (List.sublist_append_right _ _) ?_
     exact rq_v (rv_loadN (cs := [.int .i64 (x.n.cnt + (nS x x.n.ss.length : Int)), uhR6]) rfl (by kernel_rfl) (by kernel_rfl) rfl rfl (box_part 2 rfl 0 rfl))
    ·
     intro vf pf hR
     refine Or.inl ⟨rfl, ?_⟩
     refine rq_less (sx 6 rfl (sub_nil _)) (List.sublist_append_right _ _) ?_
     exact rq_v (rv_ev rfl)
    ·
     intro vf pf hR
     refine Or.inl ⟨rfl, ?_⟩
     refine rq_less (sx 7 rfl (sub_nil _)) (List.sublist_append_right _ _) ?_
     exact rq_v (rv_ev rfl)
    ·
     intro vf pf hR
     have e1 : (vf 1) = v9 ∧ (pf 1) = [] := hR 1 (by decide)
     have e2 : (vf 2) = .int .i64 (i : Int) ∧ (pf 2) = [] := hR 2 (by decide)
     refine Or.inl ⟨rfl, ?_⟩
     refine rq_less (sx 32 (congrArg some e1.1) (sx 33 (congrArg some e2.1) (sub_nil _))) (List.sublist_append_right _ _) ?_
     exact rq_v (rv_index (s := 2) rfl Try.underlying44 (by kernel_rfl) rfl rfl (rd_row 0 rfl) (by omega) (by first | omega | (simp only [List.length_set]; omega)))
    ·
     intro vf pf hR
     have e3 : (vf 3) = elP v9 (((i : Int)).toNat * 2) ∧ (pf 3) = [] := hR 3 (by decide)
     refine Or.inl ⟨rfl, ?_⟩
     refine rq_less (sx 34 (congrArg some e3.1) (sub_nil _)) (List.sublist_append_right _ _) ?_
     exact rq_v (rv_fieldEl (k0 := 0) rfl (by kernel_rfl) rfl (rd_row 0 rfl) (by first | omega | (simp only [List.length_set]; omega)))
    ·
     intro vf pf hR
     have e4 : (vf 4) = elP v9 (((i : Int)).toNat * 2 + 0) ∧ (pf 4) = [] := hR 4 (by decide)
     refine Or.inl ⟨rfl, ?_⟩
     refine rq_less (sx 35 (congrArg some e4.1) (sub_nil _)) (List.sublist_append_right _ _) ?_
     exact rq_v (rv_loadEl (u := .int .i64 (((psX x).getD i pt0).n)) rfl (by kernel_rfl) rfl (rd_row 0 rfl) ((flat_at ptC 2 (fun _ => rfl) (psX x) pt0 (show i < _ by first | omega | (simp only [List.length_set]; omega)) (by decide)).trans rfl))
    ·
     intro vf pf hR
     have e0 : (vf 0) = .agg #[.int .i64 (x.n.cnt + (nS x x.n.ss.length : Int)), uhR6] ∧ (pf 0) = [] := hR 0 (by decide)
     have e5 : (vf 5) = .int .i64 (((psX x).getD i pt0).n) ∧ (pf 5) = [] := hR 5 (by decide)
     refine Or.inl ⟨rfl, ?_⟩
     refine rq_less (sx 31 (congrArg some e0.1) (sx 36 (congrArg some e5.1) (sub_nil _))) (List.sublist_append_right _ _) ?_
     exact rq_call (by kernel_rfl) rfl (fun w hm => l36Delays_ret (x.n.cnt + (nS x x.n.ss.length : Int)) (gsX x) _ (((psX x).getD i pt0).n) w hgk ((rd_row 3 rfl) w hm) (by omega))
   ·
    intro vf pf hR
    have e6 : (fun v' post => post = [rowE 3 1 v' (delL true (gsX x) (((psX x).getD i pt0).n) (x.n.cnt + (nS x x.n.ss.length : Int)).toNat).length ((delL true (gsX x) (((psX x).getD i pt0).n) (x.n.cnt + (nS x x.n.ss.length : Int)).toNat).map (Value.int .i64))]) (vf 6) (pf 6) := hR 6 (by decide)
    obtain ⟨v14, v6⟩ : ∃ x, vf 6 = x := ⟨_, rfl⟩
    obtain ⟨p15, p6⟩ : ∃ x, pf 6 = x := ⟨_, rfl⟩
    have hR16 := e6
    rw [v6, p6] at hR16
    subst hR16
    have q0 : (vf 0) = .agg #[.int .i64 (x.n.cnt + (nS x x.n.ss.length : Int)), uhR6] ∧ (pf 0) = [] := hR 0 (by decide)
    have q1 : (vf 1) = v9 ∧ (pf 1) = [] := hR 1 (by decide)
    have q2 : (vf 2) = .int .i64 (i : Int) ∧ (pf 2) = [] := hR 2 (by decide)
    have q3 : (vf 3) = elP v9 (((i : Int)).toNat * 2) ∧ (pf 3) = [] := hR 3 (by decide)
    have q4 : (vf 4) = elP v9 (((i : Int)).toNat * 2 + 0) ∧ (pf 4) = [] := hR 4 (by decide)
    have q5 : (vf 5) = .int .i64 (((psX x).getD i pt0).n) ∧ (pf 5) = [] := hR 5 (by decide)
    refine hl_less (l' := [rowE 3 1 v14 ((delL true (gsX x) (((psX x).getD i pt0).n) (x.n.cnt + (nS x x.n.ss.length : Int)).toNat).length) ((delL true (gsX x) (((psX x).getD i pt0).n) (x.n.cnt + (nS x x.n.ss.length : Int)).toNat).map (Value.int .i64)), rowE 81 2 v9 ((psX x).length) ((psX x).flatMap ptC), rowE 3 1 (.slice (some ⟨g8, 0, none⟩) ((List.replicate (x.n.cnt).toNat (0 : Int)).length) ((List.replicate (x.n.cnt).toNat (0 : Int)).length)) zs.length (zs.map (Value.int .i64)), boxE b7 #[.int .i64 (x.n.cnt + (nS x x.n.ss.length : Int)), uhR6] 51, rowE 86 3 uhR6 ((gsX x).length) ((gsX x).flatMap arcC), rowE 3 1 (.slice none 0 0) 0 ([]), boxE b1 #[.int .i64 x.n.ins, x.n.sv, x.n.lv, x.n.ov, x.pv, x.qv, x.kv, x.av, x.bv, .int .i64 x.oi, .int .i64 x.ni] 40]) (sx 0 rfl (sx 1 rfl (sx 2 rfl (sx 3 rfl (sx 5 rfl (sx 6 rfl (sx 7 rfl (sx 12 rfl (sx 28 rfl (sx 37 (congrArg some v6) (sub_nil _))))))))))) (by first | (simp only [p6, v6, q0.2, q1.2, q2.2, q3.2, q4.2, q5.2, List.flatMap_cons, List.flatMap_nil, List.append_nil, List.nil_append, List.cons_append]; exact List.Sublist.refl _) | simp [p6, v6, q0.2, q1.2, q2.2, q3.2, q4.2, q5.2]) ?_
    simp only [List.drop_succ_cons, List.drop_zero]
    refine hl_v rfl rfl rfl (rv_ev rfl) ?_
    refine hl_less (sx 0 rfl (sx 1 rfl (sx 2 rfl (sx 3 rfl (sx 5 rfl (sx 6 rfl (sx 7 rfl (sx 8 rfl (sx 12 rfl (sx 28 rfl (sub_nil _))))))))))) (.refl _) ?_
    refine hl_nil ?_
    refine hq_then ?_
    refine hc_seq ?_
    refine hc_region ?_
    refine hl_v rfl rfl rfl (rv_ev rfl) ?_
    refine hl_less (sx 0 rfl (sx 1 rfl (sx 2 rfl (sx 3 rfl (sx 5 rfl (sx 6 rfl (sx 7 rfl (sx 8 rfl (sx 9 rfl (sx 12 rfl (sx 28 rfl (sub_nil _)))))))))))) (.refl _) ?_
    refine hl_nil ?_
    refine hq_then ?_
    refine hc_block ?_
    refine hc_loop2 (α := Nat) (β := List Int) (fun k z2 => [rowE 3 1 v14 ((delL true (gsX x) (((psX x).getD i pt0).n) (x.n.cnt + (nS x x.n.ss.length : Int)).toNat).length) ((delL true (gsX x) (((psX x).getD i pt0).n) (x.n.cnt + (nS x x.n.ss.length : Int)).toNat).map (Value.int .i64)), rowE 81 2 v9 ((psX x).length) ((psX x).flatMap ptC), rowE 3 1 (.slice (some ⟨g8, 0, none⟩) ((List.replicate (x.n.cnt).toNat (0 : Int)).length) ((List.replicate (x.n.cnt).toNat (0 : Int)).length)) z2.length (z2.map (Value.int .i64)), boxE b7 #[.int .i64 (x.n.cnt + (nS x x.n.ss.length : Int)), uhR6] 51, rowE 86 3 uhR6 ((gsX x).length) ((gsX x).flatMap arcC), rowE 3 1 (.slice none 0 0) 0 ([]), boxE b1 #[.int .i64 x.n.ins, x.n.sv, x.n.lv, x.n.ov, x.pv, x.qv, x.kv, x.av, x.bv, .int .i64 x.oi, .int .i64 x.ni] 40]) (fun k z2 => [(0, .agg #[.int .i64 x.n.ins, x.n.sv, x.n.lv, x.n.ov, x.pv, x.qv, x.kv, x.av, x.bv, .int .i64 x.oi, .int .i64 x.ni]), (1, .pointer (some ⟨b1, 0, none⟩)), (2, .slice none 0 0), (3, .pointer (some ⟨b7, 0, none⟩)), (5, .slice (some ⟨g8, 0, none⟩) ((List.replicate (x.n.cnt).toNat (0 : Int)).length) ((List.replicate (x.n.cnt).toNat (0 : Int)).length)), (6, v9), (7, .int .i64 (i : Int)), (8, v14), (9, .int .i64 (k : Int)), (12, .bool false), (28, .bool true)]) (fun k z2 => k ≤ x.n.cnt.toNat ∧ z2 = accL x i k) (fun k z2 => x.n.cnt.toNat - k) 0 zs ⟨Nat.zero_le _, hz⟩ (sx 0 rfl (sx 1 rfl (sx 2 rfl (sx 3 rfl (sx 5 rfl (sx 6 rfl (sx 7 rfl (sx 8 rfl (sx 9 rfl (sx 12 rfl (sx 28 rfl (sub_nil _)))))))))))) ((.cons_cons _ (.cons_cons _ (.cons_cons _ (.cons_cons _ (.cons_cons _ (.cons_cons _ (.cons_cons _ .slnil)))))))) ?_
    intro k z2 hi17
    obtain ⟨hk, hz2⟩ := hi17
    have hzl2 : z2.length = x.n.cnt.toNat := by rw [hz2]; exact accL_len _ _ _
    refine hc_seq ?_
    refine hc_seq ?_
    refine hc_region ?_
    refine hl_v rfl rfl rfl (rv_ev rfl) ?_
    refine hl_v rfl rfl rfl (rv_ev rfl) ?_
    refine hl_v rfl rfl rfl (rv_len rfl Try.underlying24 rfl (rd_row 2 rfl)) ?_
    refine hl_lss rfl rfl rfl rfl rfl rfl (fun h18 => ?_) (fun h18 => ?_)
    ·
     refine hl_less (sx 0 rfl (sx 1 rfl (sx 2 rfl (sx 3 rfl (sx 5 rfl (sx 6 rfl (sx 7 rfl (sx 8 rfl (sx 9 rfl (sx 12 rfl (sx 28 rfl (sx 41 rfl (sub_nil _))))))))))))) (.refl _) ?_
     refine hl_nil ?_
     refine hq_then ?_
     refine hc_true rfl ?_
     refine hc_skip ?_
     refine hq_then ?_
     refine hc_seq ?_
     refine hc_block ?_
     refine hc_seq ?_
     refine hc_region ?_
     have hgl := del_len true (gsX x) ((psX x).getD i pt0).n (x.n.cnt + (nS x x.n.ss.length : Int)).toNat
     have hdk : (delL true (gsX x) ((psX x).getD i pt0).n (x.n.cnt + (nS x x.n.ss.length : Int)).toNat).getD k 0 = DX x ((psX x).getD i pt0).n k := del_at true (gsX x) _ _ _ (by omega)
     have hdr := Dl_rng hgk true ((psX x).getD i pt0).n (k + 1) k (by omega)
     have hdr2 : -1 ≤ (delL true (gsX x) ((psX x).getD i pt0).n (x.n.cnt + (nS x x.n.ss.length : Int)).toNat).getD k 0 ∧ (delL true (gsX x) ((psX x).getD i pt0).n (x.n.cnt + (nS x x.n.ss.length : Int)).toNat).getD k 0 ≤ 100 * (k : Int) := by rw [hdk]; exact hdr
     refine hl_v rfl rfl rfl (rv_ev rfl) ?_
     refine hl_v rfl rfl rfl (rv_ev rfl) ?_
     refine hl_v rfl rfl rfl (rv_index (s := 1) rfl Try.underlying24 (by kernel_rfl) rfl rfl (rd_row 0 rfl) (by omega) (by first | omega | (simp only [List.length_set]; omega))) ?_
     refine hl_v rfl rfl rfl (rv_loadEl (u := .int .i64 ((delL true (gsX x) (((psX x).getD i pt0).n) (x.n.cnt + (nS x x.n.ss.length : Int)).toNat).getD k 0)) rfl (by kernel_rfl) rfl (rd_row 0 rfl) (ints_at1 (show _ < (delL true (gsX x) (((psX x).getD i pt0).n) (x.n.cnt + (nS x x.n.ss.length : Int)).toNat).length by first | omega | (simp only [List.length_set]; omega)))) ?_
     refine hl_geq rfl rfl rfl rfl rfl rfl (fun h19 => ?_) (fun h19 => ?_)
     ·
      refine hl_less (sx 0 rfl (sx 1 rfl (sx 2 rfl (sx 3 rfl (sx 5 rfl (sx 6 rfl (sx 7 rfl (sx 8 rfl (sx 9 rfl (sx 12 rfl (sx 28 rfl (sx 41 rfl (sx 48 rfl (sub_nil _)))))))))))))) (.refl _) ?_
      refine hl_nil ?_
      refine hq_then ?_
      refine hc_true rfl ?_
      refine hc_draw (by kernel_rfl) 18 [0, 1, 2, 3, 4, 5, 6, 7, 8, 9, 10, 11, 12, 13, 14, 15, 16, 17] (List.take 18 _) (List.drop 18 _) [[], [], [], [], [2, 3], [4], [], [], [6, 7], [8], [9], [], [], [11, 12], [13], [10, 14], [5, 15], [0, 1]] [49, 50, 51, 52, 53, 54, 55, 56, 57, 58, 59, 60, 61, 62, 63, 64, 65, 66] (fun i_ vs_ v_ p_ => match i_ with | 0 => v_ = .slice (some ⟨g8, 0, none⟩) ((List.replicate (x.n.cnt).toNat (0 : Int)).length) ((List.replicate (x.n.cnt).toNat (0 : Int)).length) ∧ p_ = [] | 1 => v_ = .int .i64 (k : Int) ∧ p_ = [] | 2 => v_ = .slice (some ⟨g8, 0, none⟩) ((List.replicate (x.n.cnt).toNat (0 : Int)).length) ((List.replicate (x.n.cnt).toNat (0 : Int)).length) ∧ p_ = [] | 3 => v_ = .int .i64 (k : Int) ∧ p_ = [] | 4 => v_ = elP (.slice (some ⟨g8, 0, none⟩) ((List.replicate (x.n.cnt).toNat (0 : Int)).length) ((List.replicate (x.n.cnt).toNat (0 : Int)).length)) (((k : Int)).toNat * 1) ∧ p_ = [] | 5 => v_ = .int .i64 (z2.getD k 0) ∧ p_ = [] | 6 => v_ = v9 ∧ p_ = [] | 7 => v_ = .int .i64 (i : Int) ∧ p_ = [] | 8 => v_ = elP v9 (((i : Int)).toNat * 2) ∧ p_ = [] | 9 => v_ = elP v9 (((i : Int)).toNat * 2 + 1) ∧ p_ = [] | 10 => v_ = .int .i64 (((psX x).getD i pt0).s) ∧ p_ = [] | 11 => v_ = v14 ∧ p_ = [] | 12 => v_ = .int .i64 (k : Int) ∧ p_ = [] | 13 => v_ = elP v14 (((k : Int)).toNat * 1) ∧ p_ = [] | 14 => v_ = .int .i64 ((delL true (gsX x) (((psX x).getD i pt0).n) (x.n.cnt + (nS x x.n.ss.length : Int)).toNat).getD k 0) ∧ p_ = [] | 15 => v_ = .int .i64 ((((psX x).getD i pt0).s) + ((delL true (gsX x) (((psX x).getD i pt0).n) (x.n.cnt + (nS x x.n.ss.length : Int)).toNat).getD k 0)) ∧ p_ = [] | 16 => v_ = .int .i64 (if z2.getD k 0 < (((psX x).getD i pt0).s) + ((delL true (gsX x) (((psX x).getD i pt0).n) (x.n.cnt + (nS x x.n.ss.length : Int)).toNat).getD k 0) then (((psX x).getD i pt0).s) + ((delL true (gsX x) (((psX x).getD i pt0).n) (x.n.cnt + (nS x x.n.ss.length : Int)).toNat).getD k 0) else z2.getD k 0) ∧ p_ = [] | 17 => v_ = elP (.slice (some ⟨g8, 0, none⟩) ((List.replicate (x.n.cnt).toNat (0 : Int)).length) ((List.replicate (x.n.cnt).toNat (0 : Int)).length)) (((k : Int)).toNat * 1) ∧ p_ = [] | _ => True) (List.take_append_drop 18 _).symm (by kernel_rfl) (by kernel_rfl) rfl rfl ?_ ?_
      ·
       refine ⟨?_, ?_, ?_, ?_, ?_, ?_, ?_, ?_, ?_, ?_, ?_, ?_, ?_, ?_, ?_, ?_, ?_, ?_, trivial⟩
       ·
        intro vf pf hR
        refine Or.inl ⟨rfl, ?_⟩
        refine rq_less (sx 5 rfl (sub_nil _)) (List.sublist_append_right _ _) ?_
        exact rq_v (rv_ev rfl)
       ·
        intro vf pf hR
        refine Or.inl ⟨rfl, ?_⟩
        refine rq_less (sx 9 rfl (sub_nil _)) (List.sublist_append_right _ _) ?_
        exact rq_v (rv_ev rfl)
       ·
        intro vf pf hR
        refine Or.inl ⟨rfl, ?_⟩
        refine rq_less (sx 5 rfl (sub_nil _)) (List.sublist_append_right _ _) ?_
        exact rq_v (rv_ev rfl)
       ·
        intro vf pf hR
        refine Or.inl ⟨rfl, ?_⟩
        refine rq_less (sx 9 rfl (sub_nil _)) (List.sublist_append_right _ _) ?_
        exact rq_v (rv_ev rfl)
       ·
        intro vf pf hR
        have e2 : (vf 2) = .slice (some ⟨g8, 0, none⟩) ((List.replicate (x.n.cnt).toNat (0 : Int)).length) ((List.replicate (x.n.cnt).toNat (0 : Int)).length) ∧ (pf 2) = [] := hR 2 (by decide)
        have e3 : (vf 3) = .int .i64 (k : Int) ∧ (pf 3) = [] := hR 3 (by decide)
        refine Or.inl ⟨rfl, ?_⟩
        refine rq_less (sx 51 (congrArg some e2.1) (sx 52 (congrArg some e3.1) (sub_nil _))) (List.sublist_append_right _ _) ?_
        exact rq_v (rv_index (s := 1) rfl Try.underlying24 (by kernel_rfl) rfl rfl (rd_row 2 rfl) (by omega) (by first | omega | (simp only [List.length_set]; omega)))
       ·
        intro vf pf hR
        have e4 : (vf 4) = elP (.slice (some ⟨g8, 0, none⟩) ((List.replicate (x.n.cnt).toNat (0 : Int)).length) ((List.replicate (x.n.cnt).toNat (0 : Int)).length)) (((k : Int)).toNat * 1) ∧ (pf 4) = [] := hR 4 (by decide)
        refine Or.inl ⟨rfl, ?_⟩
        refine rq_less (sx 53 (congrArg some e4.1) (sub_nil _)) (List.sublist_append_right _ _) ?_
        exact rq_v (rv_loadEl (u := .int .i64 (z2.getD k 0)) rfl (by kernel_rfl) rfl (rd_row 2 rfl) (ints_at1 (show _ < z2.length by first | omega | (simp only [List.length_set]; omega))))
       ·
        intro vf pf hR
        refine Or.inl ⟨rfl, ?_⟩
        refine rq_less (sx 6 rfl (sub_nil _)) (List.sublist_append_right _ _) ?_
        exact rq_v (rv_ev rfl)
       ·
        intro vf pf hR
        refine Or.inl ⟨rfl, ?_⟩
        refine rq_less (sx 7 rfl (sub_nil _)) (List.sublist_append_right _ _) ?_
        exact rq_v (rv_ev rfl)
       ·
        intro vf pf hR
        have e6 : (vf 6) = v9 ∧ (pf 6) = [] := hR 6 (by decide)
        have e7 : (vf 7) = .int .i64 (i : Int) ∧ (pf 7) = [] := hR 7 (by decide)
        refine Or.inl ⟨rfl, ?_⟩
        refine rq_less (sx 55 (congrArg some e6.1) (sx 56 (congrArg some e7.1) (sub_nil _))) (List.sublist_append_right _ _) ?_
        exact rq_v (rv_index (s := 2) rfl Try.underlying44 (by kernel_rfl) rfl rfl (rd_row 1 rfl) (by omega) (by first | omega | (simp only [List.length_set]; omega)))
       ·
        intro vf pf hR
        have e8 : (vf 8) = elP v9 (((i : Int)).toNat * 2) ∧ (pf 8) = [] := hR 8 (by decide)
        refine Or.inl ⟨rfl, ?_⟩
        refine rq_less (sx 57 (congrArg some e8.1) (sub_nil _)) (List.sublist_append_right _ _) ?_
        exact rq_v (rv_fieldEl (k0 := 1) rfl (by kernel_rfl) rfl (rd_row 1 rfl) (by first | omega | (simp only [List.length_set]; omega)))
       ·
        intro vf pf hR
        have e9 : (vf 9) = elP v9 (((i : Int)).toNat * 2 + 1) ∧ (pf 9) = [] := hR 9 (by decide)
        refine Or.inl ⟨rfl, ?_⟩
        refine rq_less (sx 58 (congrArg some e9.1) (sub_nil _)) (List.sublist_append_right _ _) ?_
        exact rq_v (rv_loadEl (u := .int .i64 (((psX x).getD i pt0).s)) rfl (by kernel_rfl) rfl (rd_row 1 rfl) ((flat_at ptC 2 (fun _ => rfl) (psX x) pt0 (show i < _ by first | omega | (simp only [List.length_set]; omega)) (by decide)).trans rfl))
       ·
        intro vf pf hR
        refine Or.inl ⟨rfl, ?_⟩
        refine rq_less (sx 8 rfl (sub_nil _)) (List.sublist_append_right _ _) ?_
        exact rq_v (rv_ev rfl)
       ·
        intro vf pf hR
        refine Or.inl ⟨rfl, ?_⟩
        refine rq_less (sx 9 rfl (sub_nil _)) (List.sublist_append_right _ _) ?_
        exact rq_v (rv_ev rfl)
       ·
        intro vf pf hR
        have e11 : (vf 11) = v14 ∧ (pf 11) = [] := hR 11 (by decide)
        have e12 : (vf 12) = .int .i64 (k : Int) ∧ (pf 12) = [] := hR 12 (by decide)
        refine Or.inl ⟨rfl, ?_⟩
        refine rq_less (sx 60 (congrArg some e11.1) (sx 61 (congrArg some e12.1) (sub_nil _))) (List.sublist_append_right _ _) ?_
        exact rq_v (rv_index (s := 1) rfl Try.underlying24 (by kernel_rfl) rfl rfl (rd_row 0 rfl) (by omega) (by first | omega | (simp only [List.length_set]; omega)))
       ·
        intro vf pf hR
        have e13 : (vf 13) = elP v14 (((k : Int)).toNat * 1) ∧ (pf 13) = [] := hR 13 (by decide)
        refine Or.inl ⟨rfl, ?_⟩
        refine rq_less (sx 62 (congrArg some e13.1) (sub_nil _)) (List.sublist_append_right _ _) ?_
        exact rq_v (rv_loadEl (u := .int .i64 ((delL true (gsX x) (((psX x).getD i pt0).n) (x.n.cnt + (nS x x.n.ss.length : Int)).toNat).getD k 0)) rfl (by kernel_rfl) rfl (rd_row 0 rfl) (ints_at1 (show _ < (delL true (gsX x) (((psX x).getD i pt0).n) (x.n.cnt + (nS x x.n.ss.length : Int)).toNat).length by first | omega | (simp only [List.length_set]; omega))))
       ·
        intro vf pf hR
        have e10 : (vf 10) = .int .i64 (((psX x).getD i pt0).s) ∧ (pf 10) = [] := hR 10 (by decide)
        have e14 : (vf 14) = .int .i64 ((delL true (gsX x) (((psX x).getD i pt0).n) (x.n.cnt + (nS x x.n.ss.length : Int)).toNat).getD k 0) ∧ (pf 14) = [] := hR 14 (by decide)
        refine Or.inl ⟨rfl, ?_⟩
        refine rq_less (sx 59 (congrArg some e10.1) (sx 63 (congrArg some e14.1) (sub_nil _))) (List.sublist_append_right _ _) ?_
        exact rq_v (rv_add rfl rfl rfl (by constructor <;> omega))
       ·
        intro vf pf hR
        have e5 : (vf 5) = .int .i64 (z2.getD k 0) ∧ (pf 5) = [] := hR 5 (by decide)
        have e15 : (vf 15) = .int .i64 ((((psX x).getD i pt0).s) + ((delL true (gsX x) (((psX x).getD i pt0).n) (x.n.cnt + (nS x x.n.ss.length : Int)).toNat).getD k 0)) ∧ (pf 15) = [] := hR 15 (by decide)
        refine Or.inl ⟨rfl, ?_⟩
        refine rq_less (sx 54 (congrArg some e5.1) (sx 64 (congrArg some e15.1) (sub_nil _))) (List.sublist_append_right _ _) ?_
        exact rq_v (rv_max rfl rfl rfl)
       ·
        intro vf pf hR
        have e0 : (vf 0) = .slice (some ⟨g8, 0, none⟩) ((List.replicate (x.n.cnt).toNat (0 : Int)).length) ((List.replicate (x.n.cnt).toNat (0 : Int)).length) ∧ (pf 0) = [] := hR 0 (by decide)
        have e1 : (vf 1) = .int .i64 (k : Int) ∧ (pf 1) = [] := hR 1 (by decide)
        refine Or.inl ⟨rfl, ?_⟩
        refine rq_less (sx 49 (congrArg some e0.1) (sx 50 (congrArg some e1.1) (sub_nil _))) (List.sublist_append_right _ _) ?_
        exact rq_v (rv_index (s := 1) rfl Try.underlying24 (by kernel_rfl) rfl rfl (rd_row 2 rfl) (by omega) (by first | omega | (simp only [List.length_set]; omega)))
      ·
       intro vf pf hR
       have e16 : (vf 16) = .int .i64 (if z2.getD k 0 < (((psX x).getD i pt0).s) + ((delL true (gsX x) (((psX x).getD i pt0).n) (x.n.cnt + (nS x x.n.ss.length : Int)).toNat).getD k 0) then (((psX x).getD i pt0).s) + ((delL true (gsX x) (((psX x).getD i pt0).n) (x.n.cnt + (nS x x.n.ss.length : Int)).toNat).getD k 0) else z2.getD k 0) ∧ (pf 16) = [] := hR 16 (by decide)
       have e17 : (vf 17) = elP (.slice (some ⟨g8, 0, none⟩) ((List.replicate (x.n.cnt).toNat (0 : Int)).length) ((List.replicate (x.n.cnt).toNat (0 : Int)).length)) (((k : Int)).toNat * 1) ∧ (pf 17) = [] := hR 17 (by decide)
       refine hl_less (l' := [rowE 3 1 v14 ((delL true (gsX x) (((psX x).getD i pt0).n) (x.n.cnt + (nS x x.n.ss.length : Int)).toNat).length) ((delL true (gsX x) (((psX x).getD i pt0).n) (x.n.cnt + (nS x x.n.ss.length : Int)).toNat).map (Value.int .i64)), rowE 81 2 v9 ((psX x).length) ((psX x).flatMap ptC), rowE 3 1 (.slice (some ⟨g8, 0, none⟩) ((List.replicate (x.n.cnt).toNat (0 : Int)).length) ((List.replicate (x.n.cnt).toNat (0 : Int)).length)) z2.length (z2.map (Value.int .i64)), boxE b7 #[.int .i64 (x.n.cnt + (nS x x.n.ss.length : Int)), uhR6] 51, rowE 86 3 uhR6 ((gsX x).length) ((gsX x).flatMap arcC), rowE 3 1 (.slice none 0 0) 0 ([]), boxE b1 #[.int .i64 x.n.ins, x.n.sv, x.n.lv, x.n.ov, x.pv, x.qv, x.kv, x.av, x.bv, .int .i64 x.oi, .int .i64 x.ni] 40]) (sx 0 rfl (sx 1 rfl (sx 2 rfl (sx 3 rfl (sx 5 rfl (sx 6 rfl (sx 7 rfl (sx 8 rfl (sx 9 rfl (sx 12 rfl (sx 28 rfl (sx 41 rfl (sx 48 rfl (sx 65 (congrArg some e16.1) (sx 66 (congrArg some e17.1) (sub_nil _)))))))))))))))) (List.sublist_append_right _ _) ?_
       simp only [List.drop_succ_cons, List.drop_zero]
       refine hl_storeEl (i := 2) (n' := (z2.set k (if z2.getD k 0 < (((psX x).getD i pt0).s) + ((delL true (gsX x) (((psX x).getD i pt0).n) (x.n.cnt + (nS x x.n.ss.length : Int)).toNat).getD k 0) then (((psX x).getD i pt0).s) + ((delL true (gsX x) (((psX x).getD i pt0).n) (x.n.cnt + (nS x x.n.ss.length : Int)).toNat).getD k 0) else z2.getD k 0)).length) (xs' := ((z2.set k (if z2.getD k 0 < (((psX x).getD i pt0).s) + ((delL true (gsX x) (((psX x).getD i pt0).n) (x.n.cnt + (nS x x.n.ss.length : Int)).toNat).getD k 0) then (((psX x).getD i pt0).s) + ((delL true (gsX x) (((psX x).getD i pt0).n) (x.n.cnt + (nS x x.n.ss.length : Int)).toNat).getD k 0) else z2.getD k 0)).map (Value.int .i64))) (l' := [rowE 3 1 v14 ((delL true (gsX x) (((psX x).getD i pt0).n) (x.n.cnt + (nS x x.n.ss.length : Int)).toNat).length) ((delL true (gsX x) (((psX x).getD i pt0).n) (x.n.cnt + (nS x x.n.ss.length : Int)).toNat).map (Value.int .i64)), rowE 81 2 v9 ((psX x).length) ((psX x).flatMap ptC), rowE 3 1 (.slice (some ⟨g8, 0, none⟩) ((List.replicate (x.n.cnt).toNat (0 : Int)).length) ((List.replicate (x.n.cnt).toNat (0 : Int)).length)) ((z2.set k (if z2.getD k 0 < (((psX x).getD i pt0).s) + ((delL true (gsX x) (((psX x).getD i pt0).n) (x.n.cnt + (nS x x.n.ss.length : Int)).toNat).getD k 0) then (((psX x).getD i pt0).s) + ((delL true (gsX x) (((psX x).getD i pt0).n) (x.n.cnt + (nS x x.n.ss.length : Int)).toNat).getD k 0) else z2.getD k 0)).length) ((z2.set k (if z2.getD k 0 < (((psX x).getD i pt0).s) + ((delL true (gsX x) (((psX x).getD i pt0).n) (x.n.cnt + (nS x x.n.ss.length : Int)).toNat).getD k 0) then (((psX x).getD i pt0).s) + ((delL true (gsX x) (((psX x).getD i pt0).n) (x.n.cnt + (nS x x.n.ss.length : Int)).toNat).getD k 0) else z2.getD k 0)).map (Value.int .i64)), boxE b7 #[.int .i64 (x.n.cnt + (nS x x.n.ss.length : Int)), uhR6] 51, rowE 86 3 uhR6 ((gsX x).length) ((gsX x).flatMap arcC), rowE 3 1 (.slice none 0 0) 0 ([]), boxE b1 #[.int .i64 x.n.ins, x.n.sv, x.n.lv, x.n.ov, x.pv, x.qv, x.kv, x.av, x.bv, .int .i64 x.oi, .int .i64 x.ni] 40]) rfl rfl rfl (by kernel_rfl) rfl rfl rfl rfl (by first | omega | (simp only [List.length_set]; omega)) List.length_set.symm (ints_set _ _ _) rfl ?_
       refine hl_less (sx 0 rfl (sx 1 rfl (sx 2 rfl (sx 3 rfl (sx 5 rfl (sx 6 rfl (sx 7 rfl (sx 8 rfl (sx 9 rfl (sx 12 rfl (sx 28 rfl (sx 41 rfl (sx 48 rfl (sub_nil _)))))))))))))) (.refl _) ?_
       refine hl_nil ?_
       refine hq_block_normal ?_
       refine hq_then ?_
       refine hc_region ?_
       refine hl_v rfl rfl rfl (rv_ev rfl) ?_
       refine hl_v rfl rfl rfl (rv_add rfl rfl rfl (by constructor <;> omega)) ?_
       refine hl_v rfl rfl rfl (rv_ev rfl) ?_
       refine hl_less (sx 0 rfl (sx 1 rfl (sx 2 rfl (sx 3 rfl (sx 5 rfl (sx 6 rfl (sx 7 rfl (sx 8 rfl (sx 9 rfl (sx 12 rfl (sx 28 rfl (sx 41 rfl (sx 48 rfl (sub_nil _)))))))))))))) (.refl _) ?_
       refine hl_nil ?_
       exact hq_round2 (k + 1) (z2.set k (if z2.getD k 0 < (((psX x).getD i pt0).s) + ((delL true (gsX x) (((psX x).getD i pt0).n) (x.n.cnt + (nS x x.n.ss.length : Int)).toNat).getD k 0) then (((psX x).getD i pt0).s) + ((delL true (gsX x) (((psX x).getD i pt0).n) (x.n.cnt + (nS x x.n.ss.length : Int)).toNat).getD k 0) else z2.getD k 0)) ⟨by omega, by rw [hz2]; exact accL_yes (by omega) (by omega) (by rw [← hdk]; omega) (by rw [← hdk]; rfl)⟩ (by omega) (sx 0 rfl (sx 1 rfl (sx 2 rfl (sx 3 rfl (sx 5 rfl (sx 6 rfl (sx 7 rfl (sx 8 rfl (sx 9 rfl (sx 12 rfl (sx 28 rfl (sub_nil _)))))))))))) ((.cons_cons _ (.cons_cons _ (.cons_cons _ (.cons_cons _ (.cons_cons _ (.cons_cons _ (.cons_cons _ .slnil))))))))
     ·
      refine hl_less (sx 0 rfl (sx 1 rfl (sx 2 rfl (sx 3 rfl (sx 5 rfl (sx 6 rfl (sx 7 rfl (sx 8 rfl (sx 9 rfl (sx 12 rfl (sx 28 rfl (sx 41 rfl (sx 48 rfl (sub_nil _)))))))))))))) (.refl _) ?_
      refine hl_nil ?_
      refine hq_then ?_
      refine hc_false rfl ?_
      refine hc_skip ?_
      refine hq_block_normal ?_
      refine hq_then ?_
      refine hc_region ?_
      refine hl_v rfl rfl rfl (rv_ev rfl) ?_
      refine hl_v rfl rfl rfl (rv_add rfl rfl rfl (by constructor <;> omega)) ?_
      refine hl_v rfl rfl rfl (rv_ev rfl) ?_
      refine hl_less (sx 0 rfl (sx 1 rfl (sx 2 rfl (sx 3 rfl (sx 5 rfl (sx 6 rfl (sx 7 rfl (sx 8 rfl (sx 9 rfl (sx 12 rfl (sx 28 rfl (sx 41 rfl (sx 48 rfl (sub_nil _)))))))))))))) (.refl _) ?_
      refine hl_nil ?_
      exact hq_round2 (k + 1) z2 ⟨by omega, by rw [hz2]; exact accL_no (by omega) (by rw [← hdk]; omega)⟩ (by omega) (sx 0 rfl (sx 1 rfl (sx 2 rfl (sx 3 rfl (sx 5 rfl (sx 6 rfl (sx 7 rfl (sx 8 rfl (sx 9 rfl (sx 12 rfl (sx 28 rfl (sub_nil _)))))))))))) ((.cons_cons _ (.cons_cons _ (.cons_cons _ (.cons_cons _ (.cons_cons _ (.cons_cons _ (.cons_cons _ .slnil))))))))
    ·
     refine hl_less (sx 0 rfl (sx 1 rfl (sx 2 rfl (sx 3 rfl (sx 5 rfl (sx 6 rfl (sx 7 rfl (sx 8 rfl (sx 9 rfl (sx 12 rfl (sx 28 rfl (sx 41 rfl (sub_nil _))))))))))))) (.refl _) ?_
     refine hl_nil ?_
     refine hq_then ?_
     refine hc_false rfl ?_
     refine hc_exit ?_
     refine hq_then_exit ?_
     refine hq_then_exit ?_
     refine hq_block_exit ?_
     refine hq_block_normal ?_
     refine hq_then ?_
     refine hc_region ?_
     refine hl_v rfl rfl rfl (rv_ev rfl) ?_
     refine hl_v rfl rfl rfl (rv_add rfl rfl rfl (by constructor <;> omega)) ?_
     refine hl_v rfl rfl rfl (rv_ev rfl) ?_
     refine hl_less (sx 0 rfl (sx 1 rfl (sx 2 rfl (sx 3 rfl (sx 5 rfl (sx 6 rfl (sx 7 rfl (sx 8 rfl (sx 9 rfl (sx 12 rfl (sx 28 rfl (sx 41 rfl (sub_nil _))))))))))))) (.refl _) ?_
     refine hl_nil ?_
     exact hq_round2 (i + 1) z2 ⟨by omega, by rw [hz2, show k = x.n.cnt.toNat by omega]; exact accL_next x i⟩ (by omega) (sx 0 rfl (sx 1 rfl (sx 2 rfl (sx 3 rfl (sx 5 rfl (sx 6 rfl (sx 7 rfl (sx 12 rfl (sub_nil _))))))))) ((.cons _ (.cons_cons _ (.cons_cons _ (.cons_cons _ (.cons_cons _ (.cons_cons _ (.cons_cons _ .slnil))))))))
  ·
   refine hl_less (sx 0 rfl (sx 1 rfl (sx 2 rfl (sx 3 rfl (sx 5 rfl (sx 6 rfl (sx 7 rfl (sx 12 rfl (sx 28 rfl (sub_nil _)))))))))) (.refl _) ?_
   refine hl_nil ?_
   refine hq_then ?_
   refine hc_false rfl ?_
   refine hc_exit ?_
   refine hq_then_exit ?_
   refine hq_then_exit ?_
   refine hq_block_exit ?_
   refine hq_then ?_
   refine hc_seq ?_
   refine hc_region ?_
   refine hl_v rfl rfl rfl (rv_ev rfl) ?_
   refine hl_v rfl rfl rfl (rv_ev rfl) ?_
   refine hl_less (sx 0 rfl (sx 1 rfl (sx 2 rfl (sx 3 rfl (sx 5 rfl (sx 6 rfl (sx 7 rfl (sx 12 rfl (sx 28 rfl (sub_nil _)))))))))) (.refl _) ?_
   refine hl_nil ?_
   refine hq_then ?_
   refine hc_ret ?_
   have hsR : zs = setR x := by rw [setR_ok hok, hz, show i = (psX x).length by omega, accL_all]
   exact hq_retR (post := [rowE 3 1 (.slice (some ⟨g8, 0, none⟩) ((List.replicate (x.n.cnt).toNat (0 : Int)).length) ((List.replicate (x.n.cnt).toNat (0 : Int)).length)) zs.length (zs.map (Value.int .i64))]) rfl rfl ((.cons _ (.cons_cons _ (.cons _ (.cons _ (.cons _ (.cons _ .slnil))))))) (by first | (rw [hsR]; done) | (rw [hsR]; rfl))
 ·
  have hno := of_pBn h3
  refine hl_v rfl rfl rfl (rv_ev rfl) ?_
  refine hl_less (sx 0 rfl (sx 1 rfl (sx 2 rfl (sx 12 rfl (sub_nil _))))) (.refl _) ?_
  refine hl_nil ?_
  refine hq_then ?_
  refine hc_true rfl ?_
  refine hc_seq ?_
  refine hc_region ?_
  refine hl_row rfl rfl rfl (rq_slice0 (s := 1) rfl Try.underlying24 (by kernel_rfl)) ?_
  intro g20
  refine hl_v rfl rfl rfl (rv_ev rfl) ?_
  refine hl_less (sx 0 rfl (sx 1 rfl (sx 2 rfl (sx 12 rfl (sub_nil _))))) (.refl _) ?_
  refine hl_nil ?_
  refine hq_then ?_
  refine hc_ret ?_
  refine hq_then_ret ?_
  have hsR := setR_no hno
  exact hq_retR (post := [rowE 3 1 (.slice (some ⟨g20, 0, none⟩) 0 0) 0 ([])]) rfl rfl ((.cons_cons _ (.cons _ (.cons _ .slnil)))) (by first | (rw [hsR]; done) | (rw [hsR]; rfl))
open Go.RowKit
theorem setR_le (x : Td) : (setR x).length ≤ 500 := by
  by_cases h : TdOk x
  · rw [setR_ok h]; unfold setL; rw [List.length_map, List.length_range]
    have hb := h.bnd
    have hi := hb.i
    have hs := hb.s
    have hl := hb.l
    have hc : x.n.cnt = 1 + x.n.ins + x.n.ss.length + x.n.ls.length := rfl
    omega
  · rw [setR_no h]; simp
set_option maxHeartbeats 4000000 in
set_option maxRecDepth 100000 in
theorem walk_FnExactSettleTimes (x : Td) (w : World) (hr : RdsTd w x) :
  Calls Try.prog 7 #[.agg #[.int .i64 x.n.ins, x.n.sv, x.n.lv, x.n.ov, x.pv, x.qv, x.kv, x.av, x.bv, .int .i64 x.oi, .int .i64 x.ni]] w (Ans w (.bool true)) := by
 refine calls_hc (N := 69) (args := [.agg #[.int .i64 x.n.ins, x.n.sv, x.n.lv, x.n.ov, x.pv, x.qv, x.kv, x.av, x.bv, .int .i64 x.oi, .int .i64 x.ni]]) Try.func7 rfl rfl ?_
 refine hc_less _ (sx 0 rfl (sub_nil _)) (.refl _) ?_
 refine hc_seq ?_
 refine hc_region ?_
 refine hl_box rfl rfl rfl (rq_box rfl rfl) ?_
 intro b1
 refine hl_v rfl rfl rfl (rv_ev rfl) ?_
 refine hl_less (sx 0 rfl (sx 1 rfl (sx 2 rfl (sub_nil _)))) (.refl _) ?_
 refine hl_nil ?_
 refine hq_then ?_
 refine hc_seq ?_
 refine hc_region ?_
 refine hl_v rfl rfl rfl (rv_ev rfl) ?_
 refine hl_less (sx 0 rfl (sx 1 rfl (sx 2 rfl (sx 3 rfl (sub_nil _))))) (.refl _) ?_
 refine hl_nil ?_
 refine hq_then ?_
 refine hc_seq ?_
 refine hc_region ?_
 refine hl_v rfl rfl rfl (rv_loadN (cs := [.int .i64 x.n.ins, x.n.sv, x.n.lv, x.n.ov, x.pv, x.qv, x.kv, x.av, x.bv, .int .i64 x.oi, .int .i64 x.ni]) rfl (by kernel_rfl) (by kernel_rfl) rfl rfl (box_part 0 rfl 0 rfl)) ?_
 refine hl_v rfl rfl rfl (rv_ev rfl) ?_
 refine hl_q rfl rfl rfl (rq_call (by kernel_rfl) rfl (fun w hm => szTimed_ret x 1048576 w (hr.below hm.bel) (by omega))) ?_
 intro v2 p3 hR4
 obtain ⟨rfl, rhR4, rfl, hszx⟩ := hR4
 refine hl_v rfl rfl rfl (rv_ev rfl) ?_
 refine hl_less (sx 0 rfl (sx 1 rfl (sx 2 rfl (sx 3 rfl (sub_nil _))))) (.refl _) ?_
 refine hl_nil ?_
 refine hq_then ?_
 refine hc_seq ?_
 refine hc_seq ?_
 refine hc_region ?_
 refine hl_v rfl rfl rfl (rv_ev rfl) ?_
 refine hl_lss rfl rfl rfl rfl rfl rfl (fun h5 => ?_) (fun h5 => ?_)
 ·
  refine hl_less (sx 0 rfl (sx 1 rfl (sx 2 rfl (sx 3 rfl (sx 15 rfl (sub_nil _)))))) (.refl _) ?_
  refine hl_nil ?_
  refine hq_then ?_
  refine hc_true rfl ?_
  refine hc_seq ?_
  refine hc_region ?_
  refine hl_v rfl rfl rfl (rv_ev rfl) ?_
  refine hl_less (sx 0 rfl (sx 1 rfl (sx 2 rfl (sx 3 rfl (sx 15 rfl (sub_nil _)))))) (.refl _) ?_
  refine hl_nil ?_
  refine hq_then ?_
  refine hc_ret ?_
  refine hq_then_ret ?_
  exact hq_ans rfl rfl rfl
 ·
  refine hl_less (sx 0 rfl (sx 1 rfl (sx 2 rfl (sx 3 rfl (sx 15 rfl (sub_nil _)))))) (.refl _) ?_
  refine hl_nil ?_
  refine hq_then ?_
  refine hc_false rfl ?_
  refine hc_skip ?_
  refine hq_then ?_
  refine hc_seq ?_
  refine hc_region ?_
  have hz := hszx (by omega)
  have hrl := setR_le x
  refine hl_v rfl rfl rfl (rv_loadN (cs := [.int .i64 x.n.ins, x.n.sv, x.n.lv, x.n.ov, x.pv, x.qv, x.kv, x.av, x.bv, .int .i64 x.oi, .int .i64 x.ni]) rfl (by kernel_rfl) (by kernel_rfl) rfl rfl (box_part 0 rfl 0 rfl)) ?_
  refine hl_q rfl rfl rfl (rq_call (by kernel_rfl) rfl (fun w hm => toTimed_ret x w (hr.below hm.bel) hz)) ?_
  intro v6 p7 hR8
  obtain ⟨yhR8, rfl, rfl, hshR8, hohR8⟩ := hR8
  have hzhR8 := hz.same hshR8
  refine hl_q rfl rfl rfl (rq_call (by kernel_rfl) rfl (fun w hm => by have h9 := specSettleTimes_ret yhR8 w (td_rds 0 rfl w hm); rw [setR_same hshR8] at h9; exact h9)) ?_
  intro v9 p10 hR11
  subst hR11
  refine hl_v rfl rfl rfl (rv_ev rfl) ?_
  refine hl_less (sx 0 rfl (sx 1 rfl (sx 2 rfl (sx 3 rfl (sx 4 rfl (sx 15 rfl (sub_nil _))))))) (.refl _) ?_
  refine hl_nil ?_
  refine hq_then ?_
  refine hc_seq ?_
  refine hc_region ?_
  refine hl_v rfl rfl rfl (rv_loadN (cs := [.int .i64 x.n.ins, x.n.sv, x.n.lv, x.n.ov, x.pv, x.qv, x.kv, x.av, x.bv, .int .i64 x.oi, .int .i64 x.ni]) rfl (by kernel_rfl) (by kernel_rfl) rfl rfl (box_part 2 rfl 0 rfl)) ?_
  refine hl_q rfl rfl rfl (rq_call (by kernel_rfl) rfl (fun w hm => toTimed_ret x w (hr.below hm.bel) hz)) ?_
  intro v12 p13 hR14
  obtain ⟨yhR14, rfl, rfl, hshR14, hohR14⟩ := hR14
  have hzhR14 := hz.same hshR14
  refine hl_box rfl rfl rfl (rq_alloc (z := .agg #[.int .i64 0, .slice none 0 0, .slice none 0 0, .slice none 0 0, .slice none 0 0, .slice none 0 0, .slice none 0 0, .slice none 0 0, .slice none 0 0, .int .i64 0, .int .i64 0]) rfl (by kernel_rfl)) ?_
  intro b15
  refine hl_storeBoxN (i := 0) (off := 0) (us := [.int .i64 yhR14.n.ins, yhR14.n.sv, yhR14.n.lv, yhR14.n.ov, yhR14.pv, yhR14.qv, yhR14.kv, yhR14.av, yhR14.bv, .int .i64 yhR14.oi, .int .i64 yhR14.ni]) (cs' := #[.int .i64 yhR14.n.ins, yhR14.n.sv, yhR14.n.lv, yhR14.n.ov, yhR14.pv, yhR14.qv, yhR14.kv, yhR14.av, yhR14.bv, .int .i64 yhR14.oi, .int .i64 yhR14.ni]) (l' := [boxE b15 #[.int .i64 yhR14.n.ins, yhR14.n.sv, yhR14.n.lv, yhR14.n.ov, yhR14.pv, yhR14.qv, yhR14.kv, yhR14.av, yhR14.bv, .int .i64 yhR14.oi, .int .i64 yhR14.ni] 40, tdE yhR14, rowE 3 1 v9 ((setR x).length) ((setR x).map (Value.int .i64)), tdE yhR8, boxE b1 #[.int .i64 x.n.ins, x.n.sv, x.n.lv, x.n.ov, x.pv, x.qv, x.kv, x.av, x.bv, .int .i64 x.oi, .int .i64 x.ni] 31]) rfl rfl rfl (by kernel_rfl) rfl rfl rfl (all_cons rfl (all_cons hohR14.sv (all_cons hohR14.lv (all_cons hohR14.ov (all_cons hohR14.pv (all_cons hohR14.qv (all_cons hohR14.kv (all_cons hohR14.av (all_cons hohR14.bv (all_cons rfl (all_cons rfl all_nil))))))))))) rfl (by kernel_rfl) rfl ?_
  refine hl_less (sx 0 rfl (sx 1 rfl (sx 2 rfl (sx 3 rfl (sx 4 rfl (sx 5 rfl (sx 15 rfl (sub_nil _)))))))) (.refl _) ?_
  refine hl_nil ?_
  refine hq_then ?_
  refine hc_seq ?_
  refine hc_region ?_
  refine hl_v rfl rfl rfl (rv_loadN (cs := [.int .i64 yhR14.n.ins, yhR14.n.sv, yhR14.n.lv, yhR14.n.ov, yhR14.pv, yhR14.qv, yhR14.kv, yhR14.av, yhR14.bv, .int .i64 yhR14.oi, .int .i64 yhR14.ni]) rfl (by kernel_rfl) (by kernel_rfl) rfl rfl (box_part 0 rfl 0 rfl)) ?_
  refine hl_q rfl rfl rfl (rq_call (by kernel_rfl) rfl (fun w hm => by have h9 := implSettleTimes_ret yhR14 w (td_rds 1 rfl w hm); rw [setR_same hshR14] at h9; exact h9)) ?_
  intro v16 p17 hR18
  subst hR18
  refine hl_v rfl rfl rfl (rv_ev rfl) ?_
  refine hl_less (sx 0 rfl (sx 1 rfl (sx 2 rfl (sx 3 rfl (sx 4 rfl (sx 5 rfl (sx 6 rfl (sx 15 rfl (sub_nil _))))))))) (.refl _) ?_
  refine hl_nil ?_
  refine hq_then ?_
  refine hc_seq ?_
  refine hc_seq ?_
  refine hc_region ?_
  refine hl_v rfl rfl rfl (rv_ev rfl) ?_
  refine hl_v rfl rfl rfl (rv_ev rfl) ?_
  refine hl_callV rfl rfl rfl (rq_call (by kernel_rfl) rfl (fun w hm => ret_ans (eqIntS_ans (setR x) (setR x) _ _ w ((rd_row 0 rfl) w hm) ((rd_row 3 rfl) w hm) (by omega)))) ?_
  refine hl_bool (fun h19 => ?_) (fun h19 => absurd (((decide_eq_true (by first | rfl | assumption | (symm; assumption)))).symm.trans h19) (by decide))
  refine hl_v rfl rfl rfl (rv_ev rfl) ?_
  refine hl_less (sx 0 rfl (sx 1 rfl (sx 2 rfl (sx 3 rfl (sx 4 rfl (sx 5 rfl (sx 6 rfl (sx 15 rfl (sx 26 rfl (sub_nil _)))))))))) (.refl _) ?_
  refine hl_nil ?_
  refine hq_then ?_
  refine hc_false rfl ?_
  refine hc_skip ?_
  refine hq_then ?_
  refine hc_seq ?_
  refine hc_seq ?_
  refine hc_draw (by kernel_rfl) 5 [0, 1, 2, 3, 4] (List.take 5 _) (List.drop 5 _) [[], [], [1], [0, 2], [2, 3]] [27, 28, 29, 30, 31] (fun i_ vs_ v_ p_ => match i_ with | 0 => v_ = .agg #[.int .i64 yhR14.n.ins, yhR14.n.sv, yhR14.n.lv, yhR14.n.ov, yhR14.pv, yhR14.qv, yhR14.kv, yhR14.av, yhR14.bv, .int .i64 yhR14.oi, .int .i64 yhR14.ni] ∧ p_ = [] | 1 => v_ = .agg #[.int .i64 x.n.ins, x.n.sv, x.n.lv, x.n.ov, x.pv, x.qv, x.kv, x.av, x.bv, .int .i64 x.oi, .int .i64 x.ni] ∧ p_ = [] | 2 => (fun v_ p_ => ∃ y : Td, v_ = y.agg ∧ p_ = [tdE y] ∧ Same x y ∧ OneTd y) v_ p_ | 3 => v_ = .bool true ∧ p_ = [] | 4 => v_ = .bool false ∧ p_ = [] | _ => True) (List.take_append_drop 5 _).symm (by kernel_rfl) (by kernel_rfl) rfl rfl ?_ ?_
  ·
   refine ⟨?_, ?_, ?_, ?_, ?_, trivial⟩
   ·
    intro vf pf hR
    refine Or.inl ⟨rfl, ?_⟩
    refine rq_less (sx 5 rfl (sub_nil _)) (List.sublist_append_right _ _) ?_
    exact rq_v (rv_loadN (cs := [.int .i64 yhR14.n.ins, yhR14.n.sv, yhR14.n.lv, yhR14.n.ov, yhR14.pv, yhR14.qv, yhR14.kv, yhR14.av, yhR14.bv, .int .i64 yhR14.oi, .int .i64 yhR14.ni]) rfl (by kernel_rfl) (by kernel_rfl) rfl rfl (box_part 1 rfl 0 rfl))
   ·
    intro vf pf hR
    refine Or.inl ⟨rfl, ?_⟩
    refine rq_less (sx 1 rfl (sub_nil _)) (List.sublist_append_right _ _) ?_
    exact rq_v (rv_loadN (cs := [.int .i64 x.n.ins, x.n.sv, x.n.lv, x.n.ov, x.pv, x.qv, x.kv, x.av, x.bv, .int .i64 x.oi, .int .i64 x.ni]) rfl (by kernel_rfl) (by kernel_rfl) rfl rfl (box_part 5 rfl 0 rfl))
   ·
    intro vf pf hR
    have e1 : (vf 1) = .agg #[.int .i64 x.n.ins, x.n.sv, x.n.lv, x.n.ov, x.pv, x.qv, x.kv, x.av, x.bv, .int .i64 x.oi, .int .i64 x.ni] ∧ (pf 1) = [] := hR 1 (by decide)
    refine Or.inl ⟨rfl, ?_⟩
    refine rq_less (sx 28 (congrArg some e1.1) (sub_nil _)) (List.sublist_append_right _ _) ?_
    exact rq_call (by kernel_rfl) rfl (fun w hm => toTimed_ret x w (hr.below hm.bel) hz)
   ·
    intro vf pf hR
    have e0 : (vf 0) = .agg #[.int .i64 yhR14.n.ins, yhR14.n.sv, yhR14.n.lv, yhR14.n.ov, yhR14.pv, yhR14.qv, yhR14.kv, yhR14.av, yhR14.bv, .int .i64 yhR14.oi, .int .i64 yhR14.ni] ∧ (pf 0) = [] := hR 0 (by decide)
    have e2 : (fun v_ p_ => ∃ y : Td, v_ = y.agg ∧ p_ = [tdE y] ∧ Same x y ∧ OneTd y) (vf 2) (pf 2) := hR 2 (by decide)
    obtain ⟨v20, v2⟩ : ∃ x, vf 2 = x := ⟨_, rfl⟩
    obtain ⟨p21, p2⟩ : ∃ x, pf 2 = x := ⟨_, rfl⟩
    have hR22 := e2
    rw [v2, p2] at hR22
    obtain ⟨yhR22, rfl, rfl, hshR22, hohR22⟩ := hR22
    have hzhR22 := hz.same hshR22
    refine Or.inl ⟨rfl, ?_⟩
    refine rq_less (l' := [tdE yhR22, rowE 3 1 v16 ((setR x).length) ((setR x).map (Value.int .i64)), boxE b15 #[.int .i64 yhR14.n.ins, yhR14.n.sv, yhR14.n.lv, yhR14.n.ov, yhR14.pv, yhR14.qv, yhR14.kv, yhR14.av, yhR14.bv, .int .i64 yhR14.oi, .int .i64 yhR14.ni] 40, tdE yhR14, rowE 3 1 v9 ((setR x).length) ((setR x).map (Value.int .i64)), tdE yhR8, boxE b1 #[.int .i64 x.n.ins, x.n.sv, x.n.lv, x.n.ov, x.pv, x.qv, x.kv, x.av, x.bv, .int .i64 x.oi, .int .i64 x.ni] 31]) (sx 27 (congrArg some e0.1) (sx 29 (congrArg some v2) (sub_nil _))) (by first | (simp only [p2, v2, e0.2, List.flatMap_cons, List.flatMap_nil, List.append_nil, List.nil_append, List.cons_append]; exact List.Sublist.refl _) | simp [p2, v2, e0.2]) ?_
    exact (rq_call (by kernel_rfl) rfl (fun w hm => ret_ans (eqTimed_yes yhR14 yhR22 w (td_rds 3 rfl w hm) (td_rds 0 rfl w hm) (hshR22.symm.trans hshR14) hzhR14)))
   ·
    intro vf pf hR
    have e2 : (fun v_ p_ => ∃ y : Td, v_ = y.agg ∧ p_ = [tdE y] ∧ Same x y ∧ OneTd y) (vf 2) (pf 2) := hR 2 (by decide)
    obtain ⟨v20, v2⟩ : ∃ x, vf 2 = x := ⟨_, rfl⟩
    obtain ⟨p21, p2⟩ : ∃ x, pf 2 = x := ⟨_, rfl⟩
    have hR22 := e2
    rw [v2, p2] at hR22
    obtain ⟨yhR22, rfl, rfl, hshR22, hohR22⟩ := hR22
    have hzhR22 := hz.same hshR22
    have e3 : (vf 3) = .bool true ∧ (pf 3) = [] := hR 3 (by decide)
    refine Or.inl ⟨rfl, ?_⟩
    refine rq_less (l' := [tdE yhR22, rowE 3 1 v16 ((setR x).length) ((setR x).map (Value.int .i64)), boxE b15 #[.int .i64 yhR14.n.ins, yhR14.n.sv, yhR14.n.lv, yhR14.n.ov, yhR14.pv, yhR14.qv, yhR14.kv, yhR14.av, yhR14.bv, .int .i64 yhR14.oi, .int .i64 yhR14.ni] 40, tdE yhR14, rowE 3 1 v9 ((setR x).length) ((setR x).map (Value.int .i64)), tdE yhR8, boxE b1 #[.int .i64 x.n.ins, x.n.sv, x.n.lv, x.n.ov, x.pv, x.qv, x.kv, x.av, x.bv, .int .i64 x.oi, .int .i64 x.ni] 31]) (sx 30 (congrArg some e3.1) (sub_nil _)) (by first | (simp only [p2, v2, e3.2, List.flatMap_cons, List.flatMap_nil, List.append_nil, List.nil_append, List.cons_append]; exact List.Sublist.refl _) | simp [p2, v2, e3.2]) ?_
    exact rq_v (rv_ev rfl)
  ·
   intro vf pf hR
   have e2 : (fun v_ p_ => ∃ y : Td, v_ = y.agg ∧ p_ = [tdE y] ∧ Same x y ∧ OneTd y) (vf 2) (pf 2) := hR 2 (by decide)
   obtain ⟨v20, v2⟩ : ∃ x, vf 2 = x := ⟨_, rfl⟩
   obtain ⟨p21, p2⟩ : ∃ x, pf 2 = x := ⟨_, rfl⟩
   have hR22 := e2
   rw [v2, p2] at hR22
   obtain ⟨yhR22, rfl, rfl, hshR22, hohR22⟩ := hR22
   have hzhR22 := hz.same hshR22
   have e4 : (vf 4) = .bool false ∧ (pf 4) = [] := hR 4 (by decide)
   have q0 : (vf 0) = .agg #[.int .i64 yhR14.n.ins, yhR14.n.sv, yhR14.n.lv, yhR14.n.ov, yhR14.pv, yhR14.qv, yhR14.kv, yhR14.av, yhR14.bv, .int .i64 yhR14.oi, .int .i64 yhR14.ni] ∧ (pf 0) = [] := hR 0 (by decide)
   have q1 : (vf 1) = .agg #[.int .i64 x.n.ins, x.n.sv, x.n.lv, x.n.ov, x.pv, x.qv, x.kv, x.av, x.bv, .int .i64 x.oi, .int .i64 x.ni] ∧ (pf 1) = [] := hR 1 (by decide)
   have q3 : (vf 3) = .bool true ∧ (pf 3) = [] := hR 3 (by decide)
   have q4 : (vf 4) = .bool false ∧ (pf 4) = [] := hR 4 (by decide)
   refine hl_less (l' := [tdE yhR22, rowE 3 1 v16 ((setR x).length) ((setR x).map (Value.int .i64)), boxE b15 #[.int .i64 yhR14.n.ins, yhR14.n.sv, yhR14.n.lv, yhR14.n.ov, yhR14.pv, yhR14.qv, yhR14.kv, yhR14.av, yhR14.bv, .int .i64 yhR14.oi, .int .i64 yhR14.ni] 40, tdE yhR14, rowE 3 1 v9 ((setR x).length) ((setR x).map (Value.int .i64)), tdE yhR8, boxE b1 #[.int .i64 x.n.ins, x.n.sv, x.n.lv, x.n.ov, x.pv, x.qv, x.kv, x.av, x.bv, .int .i64 x.oi, .int .i64 x.ni] 31]) (sx 0 rfl (sx 1 rfl (sx 2 rfl (sx 3 rfl (sx 4 rfl (sx 5 rfl (sx 6 rfl (sx 15 rfl (sx 26 rfl (sx 31 (congrArg some e4.1) (sub_nil _))))))))))) (by first | (simp only [p2, v2, q0.2, q1.2, q3.2, q4.2, List.flatMap_cons, List.flatMap_nil, List.append_nil, List.nil_append, List.cons_append]; exact List.Sublist.refl _) | simp [p2, v2, q0.2, q1.2, q3.2, q4.2]) ?_
   simp only [List.drop_succ_cons, List.drop_zero]
   refine hl_less (sx 0 rfl (sx 1 rfl (sx 2 rfl (sx 3 rfl (sx 4 rfl (sx 5 rfl (sx 6 rfl (sx 15 rfl (sx 26 rfl (sx 31 rfl (sub_nil _))))))))))) (.refl _) ?_
   refine hl_nil ?_
   refine hq_then ?_
   refine hc_false rfl ?_
   refine hc_skip ?_
   refine hq_then ?_
   refine hc_seq ?_
   refine hc_region ?_
   refine hl_v rfl rfl rfl (rv_ev rfl) ?_
   refine hl_less (sx 0 rfl (sx 1 rfl (sx 2 rfl (sx 3 rfl (sx 4 rfl (sx 5 rfl (sx 6 rfl (sx 7 rfl (sx 15 rfl (sx 26 rfl (sx 31 rfl (sub_nil _)))))))))))) (.refl _) ?_
   refine hl_nil ?_
   refine hq_then ?_
   refine hc_seq ?_
   refine hc_region ?_
   refine hl_v rfl rfl rfl (rv_loadN (cs := [.int .i64 yhR14.n.ins, yhR14.n.sv, yhR14.n.lv, yhR14.n.ov, yhR14.pv, yhR14.qv, yhR14.kv, yhR14.av, yhR14.bv, .int .i64 yhR14.oi, .int .i64 yhR14.ni]) rfl (by kernel_rfl) (by kernel_rfl) rfl rfl (box_part 2 rfl 0 rfl)) ?_
   refine hl_v rfl rfl rfl (rv_ev rfl) ?_
   refine hl_callM (R := (fun u_ p_ => ∃ q : Int, u_ = .int .i64 q ∧ 1 ≤ q ∧ q ≤ 1 + 30000000000000)) 3 rfl rfl (by kernel_rfl) rfl rfl (fun l' w hm => markTimed_mut yhR14 1 _ _ w hm (by omega) hzhR14 hohR14) ?_
   intro v23 p24 hR25
   obtain ⟨qhR25, rfl, ahR25, bhR25⟩ := hR25
   refine hl_eqL (l' := [tdE yhR22, rowE 3 1 v16 ((setR x).length) ((setR x).map (Value.int .i64)), boxE b15 #[.int .i64 yhR14.n.ins, yhR14.n.sv, yhR14.n.lv, yhR14.n.ov, yhR14.pv, yhR14.qv, yhR14.kv, yhR14.av, yhR14.bv, .int .i64 yhR14.oi, .int .i64 yhR14.ni] 40, p24, rowE 3 1 v9 ((setR x).length) ((setR x).map (Value.int .i64)), tdE yhR8, boxE b1 #[.int .i64 x.n.ins, x.n.sv, x.n.lv, x.n.ov, x.pv, x.qv, x.kv, x.av, x.bv, .int .i64 x.oi, .int .i64 x.ni] 31]) rfl ?_
   refine hl_v rfl rfl rfl (rv_ev rfl) ?_
   refine hl_less (sx 0 rfl (sx 1 rfl (sx 2 rfl (sx 3 rfl (sx 4 rfl (sx 5 rfl (sx 6 rfl (sx 7 rfl (sx 15 rfl (sx 26 rfl (sx 31 rfl (sub_nil _)))))))))))) (.refl _) ?_
   refine hl_nil ?_
   refine hq_then ?_
   refine hc_seq ?_
   refine hc_seq ?_
   refine hc_region ?_
   refine hl_v rfl rfl rfl (rv_ev rfl) ?_
   refine hl_lss rfl rfl rfl rfl rfl rfl (fun h26 => ?_) (fun h26 => ?_)
   ·
    refine hl_v rfl rfl rfl (rv_ev rfl) ?_
    refine hl_skip rfl rfl rfl ?_
    refine hl_skip rfl rfl rfl ?_
    refine hl_skip rfl rfl rfl ?_
    refine hl_skip rfl rfl rfl ?_
    refine hl_v rfl rfl rfl (rv_ev rfl) ?_
    refine hl_less (sx 0 rfl (sx 1 rfl (sx 2 rfl (sx 3 rfl (sx 4 rfl (sx 5 rfl (sx 6 rfl (sx 7 rfl (sx 15 rfl (sx 26 rfl (sx 31 rfl (sx 42 rfl (sub_nil _))))))))))))) (.refl _) ?_
    refine hl_nil ?_
    refine hq_then ?_
    refine hc_true rfl ?_
    refine hc_seq ?_
    refine hc_region ?_
    refine hl_v rfl rfl rfl (rv_ev rfl) ?_
    refine hl_less (sx 0 rfl (sx 1 rfl (sx 2 rfl (sx 3 rfl (sx 4 rfl (sx 5 rfl (sx 6 rfl (sx 7 rfl (sx 15 rfl (sx 26 rfl (sx 31 rfl (sx 42 rfl (sub_nil _))))))))))))) (.refl _) ?_
    refine hl_nil ?_
    refine hq_then ?_
    refine hc_ret ?_
    refine hq_then_ret ?_
    exfalso
    omega
   ·
    refine hl_v rfl rfl rfl (rv_ev rfl) ?_
    refine hl_v rfl rfl rfl (rv_ev rfl) ?_
    refine hl_v rfl rfl rfl (rv_ev rfl) ?_
    refine hl_callV rfl rfl rfl (rq_call (by kernel_rfl) rfl (fun w hm => ret_ans (eqIntS_ans (setR x) (setR x) _ _ w ((rd_row 1 rfl) w hm) ((rd_row 4 rfl) w hm) (by omega)))) ?_
    refine hl_bool (fun h27 => ?_) (fun h27 => absurd (((decide_eq_true (by first | rfl | assumption | (symm; assumption)))).symm.trans h27) (by decide))
    refine hl_v rfl rfl rfl (rv_ev rfl) ?_
    refine hl_v rfl rfl rfl (rv_ev rfl) ?_
    refine hl_less (sx 0 rfl (sx 1 rfl (sx 2 rfl (sx 3 rfl (sx 4 rfl (sx 5 rfl (sx 6 rfl (sx 7 rfl (sx 15 rfl (sx 26 rfl (sx 31 rfl (sx 42 rfl (sub_nil _))))))))))))) (.refl _) ?_
    refine hl_nil ?_
    refine hq_then ?_
    refine hc_false rfl ?_
    refine hc_skip ?_
    refine hq_then ?_
    refine hc_seq ?_
    refine hc_region ?_
    refine hl_v rfl rfl rfl (rv_ev rfl) ?_
    refine hl_less (sx 0 rfl (sx 1 rfl (sx 2 rfl (sx 3 rfl (sx 4 rfl (sx 5 rfl (sx 6 rfl (sx 7 rfl (sx 8 rfl (sx 15 rfl (sx 26 rfl (sx 31 rfl (sx 42 rfl (sub_nil _)))))))))))))) (.refl _) ?_
    refine hl_nil ?_
    refine hq_then ?_
    refine hc_seq ?_
    refine hc_region ?_
    refine hl_v rfl rfl rfl (rv_ev rfl) ?_
    refine hl_v rfl rfl rfl (rv_ev rfl) ?_
    refine hl_callM (R := (fun u_ p_ => u_ = .int .i64 (1 + (setR x).length) ∧ p_ = rowE 3 1 v16 (setR x).length ((seqL 1 (setR x).length).map (Value.int .i64)))) 1 rfl rfl (by kernel_rfl) rfl rfl (fun l' w hm => markIntS_mut (setR x) 1 v16 _ _ w hm (by omega) (by omega)) ?_
    intro v28 p29 hR30
    obtain ⟨rfl, rfl⟩ := hR30
    refine hl_eqL (l' := [tdE yhR22, rowE 3 1 v16 ((setR x).length) ((seqL 1 (setR x).length).map (Value.int .i64)), boxE b15 #[.int .i64 yhR14.n.ins, yhR14.n.sv, yhR14.n.lv, yhR14.n.ov, yhR14.pv, yhR14.qv, yhR14.kv, yhR14.av, yhR14.bv, .int .i64 yhR14.oi, .int .i64 yhR14.ni] 40, p24, rowE 3 1 v9 ((setR x).length) ((setR x).map (Value.int .i64)), tdE yhR8, boxE b1 #[.int .i64 x.n.ins, x.n.sv, x.n.lv, x.n.ov, x.pv, x.qv, x.kv, x.av, x.bv, .int .i64 x.oi, .int .i64 x.ni] 31]) rfl ?_
    refine hl_v rfl rfl rfl (rv_ev rfl) ?_
    refine hl_less (sx 0 rfl (sx 1 rfl (sx 2 rfl (sx 3 rfl (sx 4 rfl (sx 5 rfl (sx 6 rfl (sx 7 rfl (sx 8 rfl (sx 15 rfl (sx 26 rfl (sx 31 rfl (sx 42 rfl (sub_nil _)))))))))))))) (.refl _) ?_
    refine hl_nil ?_
    refine hq_then ?_
    refine hc_seq ?_
    refine hc_region ?_
    refine hl_v rfl rfl rfl (rv_ev rfl) ?_
    refine hl_less (sx 0 rfl (sx 1 rfl (sx 2 rfl (sx 3 rfl (sx 4 rfl (sx 5 rfl (sx 6 rfl (sx 7 rfl (sx 8 rfl (sx 9 rfl (sx 15 rfl (sx 26 rfl (sx 31 rfl (sx 42 rfl (sub_nil _))))))))))))))) (.refl _) ?_
    refine hl_nil ?_
    refine hq_then ?_
    refine hc_seq ?_
    refine hc_region ?_
    refine hl_v rfl rfl rfl (rv_ev rfl) ?_
    refine hl_v rfl rfl rfl (rv_ev rfl) ?_
    refine hl_callV rfl rfl rfl (rq_call (by kernel_rfl) rfl (fun w hm => ret_ans (heldIntS_ans (setR x).length 1 v16 w (rd_row 1 rfl w hm) (by omega) (by omega)))) ?_
    refine hl_v rfl rfl rfl (rv_ev rfl) ?_
    refine hl_less (sx 0 rfl (sx 1 rfl (sx 2 rfl (sx 3 rfl (sx 4 rfl (sx 5 rfl (sx 6 rfl (sx 7 rfl (sx 8 rfl (sx 9 rfl (sx 15 rfl (sx 26 rfl (sx 31 rfl (sx 42 rfl (sub_nil _))))))))))))))) (.refl _) ?_
    refine hl_nil ?_
    refine hq_then ?_
    refine hc_seq ?_
    refine hc_seq ?_
    refine hc_region ?_
    refine hl_v rfl rfl rfl (rv_ev rfl) ?_
    refine hl_lss rfl rfl rfl rfl rfl rfl (fun h31 => ?_) (fun h31 => ?_)
    ·
     refine hl_less (sx 0 rfl (sx 1 rfl (sx 2 rfl (sx 3 rfl (sx 4 rfl (sx 5 rfl (sx 6 rfl (sx 7 rfl (sx 8 rfl (sx 9 rfl (sx 15 rfl (sx 26 rfl (sx 31 rfl (sx 42 rfl (sx 50 rfl (sub_nil _)))))))))))))))) (.refl _) ?_
     refine hl_nil ?_
     refine hq_then ?_
     refine hc_true rfl ?_
     refine hc_seq ?_
     refine hc_region ?_
     refine hl_v rfl rfl rfl (rv_ev rfl) ?_
     refine hl_less (sx 0 rfl (sx 1 rfl (sx 2 rfl (sx 3 rfl (sx 4 rfl (sx 5 rfl (sx 6 rfl (sx 7 rfl (sx 8 rfl (sx 9 rfl (sx 15 rfl (sx 26 rfl (sx 31 rfl (sx 42 rfl (sx 50 rfl (sub_nil _)))))))))))))))) (.refl _) ?_
     refine hl_nil ?_
     refine hq_then ?_
     refine hc_ret ?_
     refine hq_then_ret ?_
     exfalso
     omega
    ·
     refine hl_less (sx 0 rfl (sx 1 rfl (sx 2 rfl (sx 3 rfl (sx 4 rfl (sx 5 rfl (sx 6 rfl (sx 7 rfl (sx 8 rfl (sx 9 rfl (sx 15 rfl (sx 26 rfl (sx 31 rfl (sx 42 rfl (sx 50 rfl (sub_nil _)))))))))))))))) (.refl _) ?_
     refine hl_nil ?_
     refine hq_then ?_
     refine hc_false rfl ?_
     refine hc_skip ?_
     refine hq_then ?_
     refine hc_seq ?_
     refine hc_seq ?_
     refine hc_region ?_
     refine hl_v rfl rfl rfl (rv_ev rfl) ?_
     refine hl_v rfl rfl rfl (rv_ev rfl) ?_
     refine hl_neq rfl rfl rfl rfl rfl rfl (fun h32 => ?_) (fun h32 => ?_)
     ·
      refine hl_less (sx 0 rfl (sx 1 rfl (sx 2 rfl (sx 3 rfl (sx 4 rfl (sx 5 rfl (sx 6 rfl (sx 7 rfl (sx 8 rfl (sx 9 rfl (sx 15 rfl (sx 26 rfl (sx 31 rfl (sx 42 rfl (sx 50 rfl (sx 53 rfl (sub_nil _))))))))))))))))) (.refl _) ?_
      refine hl_nil ?_
      refine hq_then ?_
      refine hc_true rfl ?_
      refine hc_seq ?_
      refine hc_region ?_
      refine hl_v rfl rfl rfl (rv_ev rfl) ?_
      refine hl_less (sx 0 rfl (sx 1 rfl (sx 2 rfl (sx 3 rfl (sx 4 rfl (sx 5 rfl (sx 6 rfl (sx 7 rfl (sx 8 rfl (sx 9 rfl (sx 15 rfl (sx 26 rfl (sx 31 rfl (sx 42 rfl (sx 50 rfl (sx 53 rfl (sub_nil _))))))))))))))))) (.refl _) ?_
      refine hl_nil ?_
      refine hq_then ?_
      refine hc_ret ?_
      refine hq_then_ret ?_
      exfalso
      omega
     ·
      refine hl_less (sx 0 rfl (sx 1 rfl (sx 2 rfl (sx 3 rfl (sx 4 rfl (sx 5 rfl (sx 6 rfl (sx 7 rfl (sx 8 rfl (sx 9 rfl (sx 15 rfl (sx 26 rfl (sx 31 rfl (sx 42 rfl (sx 50 rfl (sx 53 rfl (sub_nil _))))))))))))))))) (.refl _) ?_
      refine hl_nil ?_
      refine hq_then ?_
      refine hc_false rfl ?_
      refine hc_skip ?_
      refine hq_then ?_
      refine hc_seq ?_
      refine hc_region ?_
      refine hl_v rfl rfl rfl (rv_loadN (cs := [.int .i64 x.n.ins, x.n.sv, x.n.lv, x.n.ov, x.pv, x.qv, x.kv, x.av, x.bv, .int .i64 x.oi, .int .i64 x.ni]) rfl (by kernel_rfl) (by kernel_rfl) rfl rfl (box_part 6 rfl 0 rfl)) ?_
      refine hl_q rfl rfl rfl (rq_call (by kernel_rfl) rfl (fun w hm => toTimed_ret x w (hr.below hm.bel) hz)) ?_
      intro v33 p34 hR35
      obtain ⟨yhR35, rfl, rfl, hshR35, hohR35⟩ := hR35
      have hzhR35 := hz.same hshR35
      refine hl_q rfl rfl rfl (rq_call (by kernel_rfl) rfl (fun w hm => by have h9 := implSettleTimes_ret yhR35 w (td_rds 0 rfl w hm); rw [setR_same hshR35] at h9; exact h9)) ?_
      intro v36 p37 hR38
      subst hR38
      refine hl_v rfl rfl rfl (rv_ev rfl) ?_
      refine hl_less (sx 0 rfl (sx 1 rfl (sx 2 rfl (sx 3 rfl (sx 4 rfl (sx 5 rfl (sx 6 rfl (sx 7 rfl (sx 8 rfl (sx 9 rfl (sx 10 rfl (sx 15 rfl (sx 26 rfl (sx 31 rfl (sx 42 rfl (sx 50 rfl (sx 53 rfl (sub_nil _)))))))))))))))))) (.refl _) ?_
      refine hl_nil ?_
      refine hq_then ?_
      refine hc_seq ?_
      refine hc_seq ?_
      refine hc_region ?_
      refine hl_v rfl rfl rfl (rv_ev rfl) ?_
      refine hl_v rfl rfl rfl (rv_ev rfl) ?_
      refine hl_callV rfl rfl rfl (rq_call (by kernel_rfl) rfl (fun w hm => ret_ans (eqIntS_ans (setR x) (setR x) _ _ w ((rd_row 0 rfl) w hm) ((rd_row 6 rfl) w hm) (by omega)))) ?_
      refine hl_bool (fun h39 => ?_) (fun h39 => absurd (((decide_eq_true (by first | rfl | assumption | (symm; assumption)))).symm.trans h39) (by decide))
      refine hl_v rfl rfl rfl (rv_ev rfl) ?_
      refine hl_less (sx 0 rfl (sx 1 rfl (sx 2 rfl (sx 3 rfl (sx 4 rfl (sx 5 rfl (sx 6 rfl (sx 7 rfl (sx 8 rfl (sx 9 rfl (sx 10 rfl (sx 15 rfl (sx 26 rfl (sx 31 rfl (sx 42 rfl (sx 50 rfl (sx 53 rfl (sx 60 rfl (sub_nil _))))))))))))))))))) (.refl _) ?_
      refine hl_nil ?_
      refine hq_then ?_
      refine hc_false rfl ?_
      refine hc_skip ?_
      refine hq_then ?_
      refine hc_seq ?_
      refine hc_region ?_
      refine hl_v rfl rfl rfl (rv_ev rfl) ?_
      refine hl_less (sx 0 rfl (sx 1 rfl (sx 2 rfl (sx 3 rfl (sx 4 rfl (sx 5 rfl (sx 6 rfl (sx 7 rfl (sx 8 rfl (sx 9 rfl (sx 10 rfl (sx 15 rfl (sx 26 rfl (sx 31 rfl (sx 42 rfl (sx 50 rfl (sx 53 rfl (sx 60 rfl (sub_nil _))))))))))))))))))) (.refl _) ?_
      refine hl_nil ?_
      refine hq_then ?_
      refine hc_seq ?_
      refine hc_region ?_
      refine hl_v rfl rfl rfl (rv_ev rfl) ?_
      refine hl_v rfl rfl rfl (rv_ev rfl) ?_
      refine hl_callV rfl rfl rfl (rq_call (by kernel_rfl) rfl (fun w hm => ret_ans (heldIntS_ans (setR x).length 1 v16 w (rd_row 3 rfl w hm) (by omega) (by omega)))) ?_
      refine hl_v rfl rfl rfl (rv_ev rfl) ?_
      refine hl_less (sx 0 rfl (sx 1 rfl (sx 2 rfl (sx 3 rfl (sx 4 rfl (sx 5 rfl (sx 6 rfl (sx 7 rfl (sx 8 rfl (sx 9 rfl (sx 10 rfl (sx 15 rfl (sx 26 rfl (sx 31 rfl (sx 42 rfl (sx 50 rfl (sx 53 rfl (sx 60 rfl (sub_nil _))))))))))))))))))) (.refl _) ?_
      refine hl_nil ?_
      refine hq_then ?_
      refine hc_seq ?_
      refine hc_seq ?_
      refine hc_region ?_
      refine hl_v rfl rfl rfl (rv_ev rfl) ?_
      refine hl_lss rfl rfl rfl rfl rfl rfl (fun h40 => ?_) (fun h40 => ?_)
      ·
       refine hl_less (sx 0 rfl (sx 1 rfl (sx 2 rfl (sx 3 rfl (sx 4 rfl (sx 5 rfl (sx 6 rfl (sx 7 rfl (sx 8 rfl (sx 9 rfl (sx 10 rfl (sx 15 rfl (sx 26 rfl (sx 31 rfl (sx 42 rfl (sx 50 rfl (sx 53 rfl (sx 60 rfl (sx 65 rfl (sub_nil _)))))))))))))))))))) (.refl _) ?_
       refine hl_nil ?_
       refine hq_then ?_
       refine hc_true rfl ?_
       refine hc_seq ?_
       refine hc_region ?_
       refine hl_v rfl rfl rfl (rv_ev rfl) ?_
       refine hl_less (sx 0 rfl (sx 1 rfl (sx 2 rfl (sx 3 rfl (sx 4 rfl (sx 5 rfl (sx 6 rfl (sx 7 rfl (sx 8 rfl (sx 9 rfl (sx 10 rfl (sx 15 rfl (sx 26 rfl (sx 31 rfl (sx 42 rfl (sx 50 rfl (sx 53 rfl (sx 60 rfl (sx 65 rfl (sub_nil _)))))))))))))))))))) (.refl _) ?_
       refine hl_nil ?_
       refine hq_then ?_
       refine hc_ret ?_
       refine hq_then_ret ?_
       exfalso
       omega
      ·
       refine hl_less (sx 0 rfl (sx 1 rfl (sx 2 rfl (sx 3 rfl (sx 4 rfl (sx 5 rfl (sx 6 rfl (sx 7 rfl (sx 8 rfl (sx 9 rfl (sx 10 rfl (sx 15 rfl (sx 26 rfl (sx 31 rfl (sx 42 rfl (sx 50 rfl (sx 53 rfl (sx 60 rfl (sx 65 rfl (sub_nil _)))))))))))))))))))) (.refl _) ?_
       refine hl_nil ?_
       refine hq_then ?_
       refine hc_false rfl ?_
       refine hc_skip ?_
       refine hq_then ?_
       refine hc_seq ?_
       refine hc_seq ?_
       refine hc_region ?_
       refine hl_v rfl rfl rfl (rv_ev rfl) ?_
       refine hl_v rfl rfl rfl (rv_ev rfl) ?_
       refine hl_neq rfl rfl rfl rfl rfl rfl (fun h41 => ?_) (fun h41 => ?_)
       ·
        refine hl_less (sx 0 rfl (sx 1 rfl (sx 2 rfl (sx 3 rfl (sx 4 rfl (sx 5 rfl (sx 6 rfl (sx 7 rfl (sx 8 rfl (sx 9 rfl (sx 10 rfl (sx 15 rfl (sx 26 rfl (sx 31 rfl (sx 42 rfl (sx 50 rfl (sx 53 rfl (sx 60 rfl (sx 65 rfl (sx 68 rfl (sub_nil _))))))))))))))))))))) (.refl _) ?_
        refine hl_nil ?_
        refine hq_then ?_
        refine hc_true rfl ?_
        refine hc_seq ?_
        refine hc_region ?_
        refine hl_v rfl rfl rfl (rv_ev rfl) ?_
        refine hl_less (sx 0 rfl (sx 1 rfl (sx 2 rfl (sx 3 rfl (sx 4 rfl (sx 5 rfl (sx 6 rfl (sx 7 rfl (sx 8 rfl (sx 9 rfl (sx 10 rfl (sx 15 rfl (sx 26 rfl (sx 31 rfl (sx 42 rfl (sx 50 rfl (sx 53 rfl (sx 60 rfl (sx 65 rfl (sx 68 rfl (sub_nil _))))))))))))))))))))) (.refl _) ?_
        refine hl_nil ?_
        refine hq_then ?_
        refine hc_ret ?_
        refine hq_then_ret ?_
        exfalso
        omega
       ·
        refine hl_less (sx 0 rfl (sx 1 rfl (sx 2 rfl (sx 3 rfl (sx 4 rfl (sx 5 rfl (sx 6 rfl (sx 7 rfl (sx 8 rfl (sx 9 rfl (sx 10 rfl (sx 15 rfl (sx 26 rfl (sx 31 rfl (sx 42 rfl (sx 50 rfl (sx 53 rfl (sx 60 rfl (sx 65 rfl (sx 68 rfl (sub_nil _))))))))))))))))))))) (.refl _) ?_
        refine hl_nil ?_
        refine hq_then ?_
        refine hc_false rfl ?_
        refine hc_skip ?_
        refine hq_then ?_
        refine hc_seq ?_
        refine hc_region ?_
        refine hl_v rfl rfl rfl (rv_ev rfl) ?_
        refine hl_less (sx 0 rfl (sx 1 rfl (sx 2 rfl (sx 3 rfl (sx 4 rfl (sx 5 rfl (sx 6 rfl (sx 7 rfl (sx 8 rfl (sx 9 rfl (sx 10 rfl (sx 15 rfl (sx 26 rfl (sx 31 rfl (sx 42 rfl (sx 50 rfl (sx 53 rfl (sx 60 rfl (sx 65 rfl (sx 68 rfl (sub_nil _))))))))))))))))))))) (.refl _) ?_
        refine hl_nil ?_
        refine hq_then ?_
        refine hc_ret ?_
        exact hq_ans rfl rfl rfl
end Go.Proofs.Ytceebbcoikgocaa
