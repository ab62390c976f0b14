/- Texts of the law FnExactTimedOk, part 2: what it uses. -/
import Derived.Test.YtceebbcoikgocaaTo1
set_option linter.unusedVariables false
set_option linter.unusedSimpArgs false
namespace Go.Proofs.Ytceebbcoikgocaa
open Go.RowKit Go.ChangeShapes
open Go.RowKit
set_option maxHeartbeats 4000000 in
set_option maxRecDepth 100000 in
theorem toLutNet_ret (n : Ln) (w : World) (hr : RdsLn w n) (n1 : n.ss.length ≤ 1048576 ∧ ∀ s ∈ n.ss, s.xs.length ≤ 1048576) (n2 : n.ls.length ≤ 1048576 ∧ ∀ s ∈ n.ls, s.xs.length ≤ 1048576) (n3 : n.os.length ≤ 1048576) :
  Calls Try.prog 45 #[.agg #[.int .i64 n.ins, n.sv, n.lv, n.ov]] w (Ret w (fun v_ p_ => ∃ m : Ln, v_ = m.agg ∧ p_ = [bigE (lnE m)] ∧ (m.ins = n.ins ∧ m.ss.map Sq.val = n.ss.map Sq.val ∧ m.ls.map Lt.val = n.ls.map Lt.val ∧ m.os = n.os) ∧ (m.sv.oneCell' = true ∧ m.lv.oneCell' = true ∧ m.ov.oneCell' = true))) := by
 refine calls_hc (N := 20) (args := [.agg #[.int .i64 n.ins, n.sv, n.lv, n.ov]]) Try.func45 rfl rfl ?_
 refine hc_less _ (sx 0 rfl (sub_nil _)) (.refl _) ?_
 refine hc_seq ?_
 refine hc_region ?_
 refine hl_box rfl rfl rfl (rq_box rfl rfl) ?_
 intro b1
 refine hl_box rfl rfl rfl (rq_alloc (z := .agg #[.int .i64 0, .slice none 0 0, .slice none 0 0, .slice none 0 0]) rfl (by kernel_rfl)) ?_
 intro b2
 refine hl_less (sx 0 rfl (sx 1 rfl (sx 2 rfl (sub_nil _)))) (.refl _) ?_
 refine hl_nil ?_
 refine hq_then ?_
 refine hc_seq ?_
 refine hc_region ?_
 refine hl_box rfl rfl rfl (rq_alloc (z := .agg #[.int .i64 0, .slice none 0 0, .slice none 0 0, .slice none 0 0]) rfl (by kernel_rfl)) ?_
 intro b3
 refine hl_less (sx 0 rfl (sx 1 rfl (sx 2 rfl (sx 3 rfl (sub_nil _))))) (.refl _) ?_
 refine hl_nil ?_
 refine hq_then ?_
 refine hc_seq ?_
 refine hc_region ?_
 refine hl_v rfl rfl rfl (rv_field (k0 := 0) rfl (by kernel_rfl) rfl) ?_
 refine hl_v rfl rfl rfl (rv_load rfl (by kernel_rfl) rfl (box_cell 2 rfl rfl)) ?_
 refine hl_v rfl rfl rfl (rv_field (k0 := 0) rfl (by kernel_rfl) rfl) ?_
 refine hl_storeBox (i := 0) (l' := [boxE b3 #[.int .i64 n.ins, .slice none 0 0, .slice none 0 0, .slice none 0 0] 37, boxE b2 #[.int .i64 0, .slice none 0 0, .slice none 0 0, .slice none 0 0] 37, boxE b1 #[.int .i64 n.ins, n.sv, n.lv, n.ov] 26]) rfl rfl rfl (by kernel_rfl) rfl rfl rfl rfl rfl rfl ?_
 refine hl_less (sx 0 rfl (sx 1 rfl (sx 2 rfl (sx 3 rfl (sub_nil _))))) (.refl _) ?_
 refine hl_nil ?_
 refine hq_then ?_
 refine hc_seq ?_
 refine hc_region ?_
 refine hl_v rfl rfl rfl (rv_field (k0 := 1) rfl (by kernel_rfl) rfl) ?_
 refine hl_v rfl rfl rfl (rv_load rfl (by kernel_rfl) rfl (box_cell 2 rfl rfl)) ?_
 refine hl_q rfl rfl rfl (rq_call (by kernel_rfl) rfl (fun w hm => toSeqR_ret n.ss _ w (hr.sq.below hm.bel) n1.2 (by have := n1.1; omega))) ?_
 intro v4 p5 hR6
 obtain ⟨zhR6, rfl, chR6⟩ := hR6
 refine hl_v rfl rfl rfl (rv_field (k0 := 1) rfl (by kernel_rfl) rfl) ?_
 refine hl_rx (i := 0) rfl (fun ho7 => ?_)
 refine hl_storeBox (i := 1) (l' := [sqsE v4 zhR6, boxE b3 #[.int .i64 n.ins, v4, .slice none 0 0, .slice none 0 0] 37, boxE b2 #[.int .i64 0, .slice none 0 0, .slice none 0 0, .slice none 0 0] 37, boxE b1 #[.int .i64 n.ins, n.sv, n.lv, n.ov] 26]) rfl rfl rfl (by kernel_rfl) rfl rfl ho7 rfl rfl rfl ?_
 refine hl_less (sx 0 rfl (sx 1 rfl (sx 2 rfl (sx 3 rfl (sub_nil _))))) (.refl _) ?_
 refine hl_nil ?_
 refine hq_then ?_
 refine hc_seq ?_
 refine hc_region ?_
 refine hl_v rfl rfl rfl (rv_field (k0 := 2) rfl (by kernel_rfl) rfl) ?_
 refine hl_v rfl rfl rfl (rv_load rfl (by kernel_rfl) rfl (box_cell 3 rfl rfl)) ?_
 refine hl_q rfl rfl rfl (rq_call (by kernel_rfl) rfl (fun w hm => toLutR_ret n.ls _ w (hr.lt.below hm.bel) n2.2 (by have := n2.1; omega))) ?_
 intro v8 p9 hR10
 obtain ⟨zhR10, rfl, chR10⟩ := hR10
 refine hl_v rfl rfl rfl (rv_field (k0 := 2) rfl (by kernel_rfl) rfl) ?_
 refine hl_rx (i := 0) rfl (fun ho11 => ?_)
 refine hl_storeBox (i := 2) (l' := [ltsE v8 zhR10, sqsE v4 zhR6, boxE b3 #[.int .i64 n.ins, v4, v8, .slice none 0 0] 37, boxE b2 #[.int .i64 0, .slice none 0 0, .slice none 0 0, .slice none 0 0] 37, boxE b1 #[.int .i64 n.ins, n.sv, n.lv, n.ov] 26]) rfl rfl rfl (by kernel_rfl) rfl rfl ho11 rfl rfl rfl ?_
 refine hl_less (sx 0 rfl (sx 1 rfl (sx 2 rfl (sx 3 rfl (sub_nil _))))) (.refl _) ?_
 refine hl_nil ?_
 refine hq_then ?_
 refine hc_seq ?_
 refine hc_region ?_
 refine hl_v rfl rfl rfl (rv_field (k0 := 3) rfl (by kernel_rfl) rfl) ?_
 refine hl_v rfl rfl rfl (rv_load rfl (by kernel_rfl) rfl (box_cell 4 rfl rfl)) ?_
 refine hl_q rfl rfl rfl (rq_call (by kernel_rfl) rfl (fun w hm => toIntS_ret n.os _ w ((rd_old (hr).ou) w hm) (by omega))) ?_
 intro v12 p13 hR14
 subst hR14
 refine hl_v rfl rfl rfl (rv_field (k0 := 3) rfl (by kernel_rfl) rfl) ?_
 refine hl_one (i := 0) rfl (fun ho15 => ?_)
 refine hl_storeBox (i := 3) (l' := [rowE 3 1 v12 n.os.length (n.os.map (Value.int .i64)), ltsE v8 zhR10, sqsE v4 zhR6, boxE b3 #[.int .i64 n.ins, v4, v8, v12] 37, boxE b2 #[.int .i64 0, .slice none 0 0, .slice none 0 0, .slice none 0 0] 37, boxE b1 #[.int .i64 n.ins, n.sv, n.lv, n.ov] 26]) rfl rfl rfl (by kernel_rfl) rfl rfl ho15 rfl rfl rfl ?_
 refine hl_less (sx 0 rfl (sx 1 rfl (sx 2 rfl (sx 3 rfl (sub_nil _))))) (.refl _) ?_
 refine hl_nil ?_
 refine hq_then ?_
 refine hc_seq ?_
 refine hc_region ?_
 refine hl_v rfl rfl rfl (rv_loadN (cs := [.int .i64 n.ins, v4, v8, v12]) rfl (by kernel_rfl) (by kernel_rfl) rfl rfl (box_part 3 rfl 0 rfl)) ?_
 refine hl_storeBoxN (i := 4) (off := 0) (us := [.int .i64 n.ins, v4, v8, v12])  (l' := [rowE 3 1 v12 n.os.length (n.os.map (Value.int .i64)), ltsE v8 zhR10, sqsE v4 zhR6, boxE b3 #[.int .i64 n.ins, v4, v8, v12] 37, boxE b2 #[.int .i64 n.ins, v4, v8, v12] 37, boxE b1 #[.int .i64 n.ins, n.sv, n.lv, n.ov] 26]) rfl rfl rfl (by kernel_rfl) rfl rfl rfl (all_cons rfl (all_cons ho7 (all_cons ho11 (all_cons ho15 all_nil)))) rfl rfl rfl ?_
 refine hl_less (sx 0 rfl (sx 1 rfl (sx 2 rfl (sx 3 rfl (sub_nil _))))) (.refl _) ?_
 refine hl_nil ?_
 refine hq_then ?_
 refine hc_ret ?_
 refine hq_conv [sqsE v4 zhR6, ltsE v8 zhR10, rowE 3 1 v12 n.os.length (n.os.map (Value.int .i64)), boxE b3 #[.int .i64 n.ins, v4, v8, v12] 37, boxE b2 #[.int .i64 n.ins, v4, v8, v12] 37, boxE b1 #[.int .i64 n.ins, n.sv, n.lv, n.ov] 26] (conv_pick (src := [rowE 3 1 v12 n.os.length (n.os.map (Value.int .i64)), ltsE v8 zhR10, sqsE v4 zhR6, boxE b3 #[.int .i64 n.ins, v4, v8, v12] 37, boxE b2 #[.int .i64 n.ins, v4, v8, v12] 37, boxE b1 #[.int .i64 n.ins, n.sv, n.lv, n.ov] 26]) (dst := [sqsE v4 zhR6, ltsE v8 zhR10, rowE 3 1 v12 n.os.length (n.os.map (Value.int .i64)), boxE b3 #[.int .i64 n.ins, v4, v8, v12] 37, boxE b2 #[.int .i64 n.ins, v4, v8, v12] 37, boxE b1 #[.int .i64 n.ins, n.sv, n.lv, n.ov] 26]) (l := []) [2, 1, 0, 3, 4, 5] (by decide) rfl) ?_
 refine hq_conv [bigE (lnE (Ln.mk n.ins v4 v8 v12 zhR6 zhR10 n.os)), boxE b3 #[.int .i64 n.ins, v4, v8, v12] 37, boxE b2 #[.int .i64 n.ins, v4, v8, v12] 37, boxE b1 #[.int .i64 n.ins, n.sv, n.lv, n.ov] 26] (conv_big (ps := [sqsE v4 zhR6, ltsE v8 zhR10, rowE 3 1 v12 n.os.length (n.os.map (Value.int .i64))])) ?_
 exact hq_retM (rs := [.cell 2 37]) (vs := [.agg #[.int .i64 n.ins, v4, v8, v12]]) (post := [bigE (lnE (Ln.mk n.ins v4 v8 v12 zhR6 zhR10 n.os))]) rfl ⟨⟨b2, 0, [.int .i64 n.ins, v4, v8, v12], rfl, rfl, by kernel_rfl, by kernel_rfl, box_part 2 rfl 0 rfl⟩, trivial⟩ rfl ((.cons_cons _ (.cons _ (.cons _ (.cons _ .slnil))))) ⟨(Ln.mk n.ins v4 v8 v12 zhR6 zhR10 n.os), rfl, rfl, ⟨rfl, chR6, chR10, rfl⟩, ho7, ho11, ho15⟩
set_option maxHeartbeats 4000000 in
set_option maxRecDepth 100000 in
theorem toTimed_ret (x : Td) (w : World) (hr : RdsTd w x) (hz : SzTd x) :
  Calls Try.prog 12 #[.agg #[.int .i64 x.n.ins, x.n.sv, x.n.lv, x.n.ov, x.pv, x.qv, x.kv, x.av, x.bv, .int .i64 x.oi, .int .i64 x.ni]] w (Ret w (fun v_ p_ => ∃ y : Td, v_ = y.agg ∧ p_ = [tdE y] ∧ Same x y ∧ OneTd y)) := by
 have z1 := hz.ks
 have z2 := hz.ao
 have z3 := hz.bs
 refine calls_hc (N := 31) (args := [.agg #[.int .i64 x.n.ins, x.n.sv, x.n.lv, x.n.ov, x.pv, x.qv, x.kv, x.av, x.bv, .int .i64 x.oi, .int .i64 x.ni]]) Try.func12 rfl rfl ?_
 refine hc_less _ (sx 0 rfl (sub_nil _)) (.refl _) ?_
 refine hc_seq ?_
 refine hc_region ?_
 refine hl_box rfl rfl rfl (rq_box rfl rfl) ?_
 intro b1
 refine hl_box rfl rfl rfl (rq_alloc (z := .agg #[.int .i64 0, .slice none 0 0, .slice none 0 0, .slice none 0 0, .slice none 0 0, .slice none 0 0, .slice none 0 0, .slice none 0 0, .slice none 0 0, .int .i64 0, .int .i64 0]) rfl (by kernel_rfl)) ?_
 intro b2
 refine hl_less (sx 0 rfl (sx 1 rfl (sx 2 rfl (sub_nil _)))) (.refl _) ?_
 refine hl_nil ?_
 refine hq_then ?_
 refine hc_seq ?_
 refine hc_region ?_
 refine hl_box rfl rfl rfl (rq_alloc (z := .agg #[.int .i64 0, .slice none 0 0, .slice none 0 0, .slice none 0 0, .slice none 0 0, .slice none 0 0, .slice none 0 0, .slice none 0 0, .slice none 0 0, .int .i64 0, .int .i64 0]) rfl (by kernel_rfl)) ?_
 intro b3
 refine hl_less (sx 0 rfl (sx 1 rfl (sx 2 rfl (sx 3 rfl (sub_nil _))))) (.refl _) ?_
 refine hl_nil ?_
 refine hq_then ?_
 refine hc_seq ?_
 refine hc_region ?_
 refine hl_v rfl rfl rfl (rv_field (k0 := 0) rfl (by kernel_rfl) rfl) ?_
 refine hl_v rfl rfl rfl (rv_loadN (cs := [.int .i64 x.n.ins, x.n.sv, x.n.lv, x.n.ov]) rfl (by kernel_rfl) (by kernel_rfl) rfl rfl (box_part 2 rfl 0 rfl)) ?_
 refine hl_q rfl rfl rfl (rq_call (by kernel_rfl) rfl (fun w hm => toLutNet_ret x.n w (hr.n.below hm.bel) hz.ss hz.ls hz.os)) ?_
 intro v4 p5 hR6
 obtain ⟨m, rfl, rfl, ⟨m1, m2, m3, m4⟩, o1, o2, o3⟩ := hR6
 refine hl_v rfl rfl rfl (rv_field (k0 := 0) rfl (by kernel_rfl) rfl) ?_
 refine hl_storeBoxN (i := 1) (off := 0) (us := [.int .i64 m.ins, m.sv, m.lv, m.ov])  (l' := [bigE (lnE m), boxE b3 #[.int .i64 m.ins, m.sv, m.lv, m.ov, .slice none 0 0, .slice none 0 0, .slice none 0 0, .slice none 0 0, .slice none 0 0, .int .i64 0, .int .i64 0] 40, boxE b2 #[.int .i64 0, .slice none 0 0, .slice none 0 0, .slice none 0 0, .slice none 0 0, .slice none 0 0, .slice none 0 0, .slice none 0 0, .slice none 0 0, .int .i64 0, .int .i64 0] 40, boxE b1 #[.int .i64 x.n.ins, x.n.sv, x.n.lv, x.n.ov, x.pv, x.qv, x.kv, x.av, x.bv, .int .i64 x.oi, .int .i64 x.ni] 31]) rfl rfl rfl (by kernel_rfl) rfl rfl rfl (all_cons rfl (all_cons o1 (all_cons o2 (all_cons o3 all_nil)))) rfl rfl rfl ?_
 refine hl_less (sx 0 rfl (sx 1 rfl (sx 2 rfl (sx 3 rfl (sub_nil _))))) (.refl _) ?_
 refine hl_nil ?_
 refine hq_then ?_
 refine hc_seq ?_
 refine hc_region ?_
 refine hl_v rfl rfl rfl (rv_field (k0 := 4) rfl (by kernel_rfl) rfl) ?_
 refine hl_v rfl rfl rfl (rv_loadN (cs := [x.pv, x.qv]) rfl (by kernel_rfl) (by kernel_rfl) rfl rfl (box_part 3 rfl 4 rfl)) ?_
 refine hl_q rfl rfl rfl (rq_call (by kernel_rfl) rfl (fun w hm => toDelays_ret x.dl x.ds _ _ w (hr.dl.below hm.bel) (hr.ds.below hm.bel) hz.dl hz.ds)) ?_
 intro v7 p8 hR9
 obtain ⟨da, ea, db, eb, rfl, rfl, d1, d2, o4, o5⟩ := hR9
 refine hl_v rfl rfl rfl (rv_field (k0 := 4) rfl (by kernel_rfl) rfl) ?_
 refine hl_storeBoxN (i := 2) (off := 4) (us := [da, db])  (l' := [bigE [irsE da ea, irsE db eb], bigE (lnE m), boxE b3 #[.int .i64 m.ins, m.sv, m.lv, m.ov, da, db, .slice none 0 0, .slice none 0 0, .slice none 0 0, .int .i64 0, .int .i64 0] 40, boxE b2 #[.int .i64 0, .slice none 0 0, .slice none 0 0, .slice none 0 0, .slice none 0 0, .slice none 0 0, .slice none 0 0, .slice none 0 0, .slice none 0 0, .int .i64 0, .int .i64 0] 40, boxE b1 #[.int .i64 x.n.ins, x.n.sv, x.n.lv, x.n.ov, x.pv, x.qv, x.kv, x.av, x.bv, .int .i64 x.oi, .int .i64 x.ni] 31]) rfl rfl rfl (by kernel_rfl) rfl rfl rfl (all_cons o4 (all_cons o5 all_nil)) rfl rfl rfl ?_
 refine hl_less (sx 0 rfl (sx 1 rfl (sx 2 rfl (sx 3 rfl (sub_nil _))))) (.refl _) ?_
 refine hl_nil ?_
 refine hq_then ?_
 refine hc_seq ?_
 refine hc_region ?_
 refine hl_v rfl rfl rfl (rv_field (k0 := 6) rfl (by kernel_rfl) rfl) ?_
 refine hl_v rfl rfl rfl (rv_load rfl (by kernel_rfl) rfl (box_cell 4 rfl rfl)) ?_
 refine hl_q rfl rfl rfl (rq_call (by kernel_rfl) rfl (fun w hm => toIntS_ret x.ks _ w ((rd_old (hr).ks) w hm) (by omega))) ?_
 intro v10 p11 hR12
 subst hR12
 refine hl_v rfl rfl rfl (rv_field (k0 := 6) rfl (by kernel_rfl) rfl) ?_
 refine hl_one (i := 0) rfl (fun ho13 => ?_)
 refine hl_storeBox (i := 3) (l' := [rowE 3 1 v10 x.ks.length (x.ks.map (Value.int .i64)), bigE [irsE da ea, irsE db eb], bigE (lnE m), boxE b3 #[.int .i64 m.ins, m.sv, m.lv, m.ov, da, db, v10, .slice none 0 0, .slice none 0 0, .int .i64 0, .int .i64 0] 40, boxE b2 #[.int .i64 0, .slice none 0 0, .slice none 0 0, .slice none 0 0, .slice none 0 0, .slice none 0 0, .slice none 0 0, .slice none 0 0, .slice none 0 0, .int .i64 0, .int .i64 0] 40, boxE b1 #[.int .i64 x.n.ins, x.n.sv, x.n.lv, x.n.ov, x.pv, x.qv, x.kv, x.av, x.bv, .int .i64 x.oi, .int .i64 x.ni] 31]) rfl rfl rfl (by kernel_rfl) rfl rfl ho13 rfl rfl rfl ?_
 refine hl_less (sx 0 rfl (sx 1 rfl (sx 2 rfl (sx 3 rfl (sub_nil _))))) (.refl _) ?_
 refine hl_nil ?_
 refine hq_then ?_
 refine hc_seq ?_
 refine hc_region ?_
 refine hl_v rfl rfl rfl (rv_field (k0 := 7) rfl (by kernel_rfl) rfl) ?_
 refine hl_v rfl rfl rfl (rv_load rfl (by kernel_rfl) rfl (box_cell 5 rfl rfl)) ?_
 refine hl_q rfl rfl rfl (rq_call (by kernel_rfl) rfl (fun w hm => toIntS_ret x.ao _ w ((rd_old (hr).ao) w hm) (by omega))) ?_
 intro v14 p15 hR16
 subst hR16
 refine hl_v rfl rfl rfl (rv_field (k0 := 7) rfl (by kernel_rfl) rfl) ?_
 refine hl_one (i := 0) rfl (fun ho17 => ?_)
 refine hl_storeBox (i := 4) (l' := [rowE 3 1 v14 x.ao.length (x.ao.map (Value.int .i64)), rowE 3 1 v10 x.ks.length (x.ks.map (Value.int .i64)), bigE [irsE da ea, irsE db eb], bigE (lnE m), boxE b3 #[.int .i64 m.ins, m.sv, m.lv, m.ov, da, db, v10, v14, .slice none 0 0, .int .i64 0, .int .i64 0] 40, boxE b2 #[.int .i64 0, .slice none 0 0, .slice none 0 0, .slice none 0 0, .slice none 0 0, .slice none 0 0, .slice none 0 0, .slice none 0 0, .slice none 0 0, .int .i64 0, .int .i64 0] 40, boxE b1 #[.int .i64 x.n.ins, x.n.sv, x.n.lv, x.n.ov, x.pv, x.qv, x.kv, x.av, x.bv, .int .i64 x.oi, .int .i64 x.ni] 31]) rfl rfl rfl (by kernel_rfl) rfl rfl ho17 rfl rfl rfl ?_
 refine hl_less (sx 0 rfl (sx 1 rfl (sx 2 rfl (sx 3 rfl (sub_nil _))))) (.refl _) ?_
 refine hl_nil ?_
 refine hq_then ?_
 refine hc_seq ?_
 refine hc_region ?_
 refine hl_v rfl rfl rfl (rv_field (k0 := 8) rfl (by kernel_rfl) rfl) ?_
 refine hl_v rfl rfl rfl (rv_load rfl (by kernel_rfl) rfl (box_cell 6 rfl rfl)) ?_
 refine hl_q rfl rfl rfl (rq_call (by kernel_rfl) rfl (fun w hm => toIntS_ret x.bs _ w ((rd_old (hr).bs) w hm) (by omega))) ?_
 intro v18 p19 hR20
 subst hR20
 refine hl_v rfl rfl rfl (rv_field (k0 := 8) rfl (by kernel_rfl) rfl) ?_
 refine hl_one (i := 0) rfl (fun ho21 => ?_)
 refine hl_storeBox (i := 5) (l' := [rowE 3 1 v18 x.bs.length (x.bs.map (Value.int .i64)), rowE 3 1 v14 x.ao.length (x.ao.map (Value.int .i64)), rowE 3 1 v10 x.ks.length (x.ks.map (Value.int .i64)), bigE [irsE da ea, irsE db eb], bigE (lnE m), boxE b3 #[.int .i64 m.ins, m.sv, m.lv, m.ov, da, db, v10, v14, v18, .int .i64 0, .int .i64 0] 40, boxE b2 #[.int .i64 0, .slice none 0 0, .slice none 0 0, .slice none 0 0, .slice none 0 0, .slice none 0 0, .slice none 0 0, .slice none 0 0, .slice none 0 0, .int .i64 0, .int .i64 0] 40, boxE b1 #[.int .i64 x.n.ins, x.n.sv, x.n.lv, x.n.ov, x.pv, x.qv, x.kv, x.av, x.bv, .int .i64 x.oi, .int .i64 x.ni] 31]) rfl rfl rfl (by kernel_rfl) rfl rfl ho21 rfl rfl rfl ?_
 refine hl_less (sx 0 rfl (sx 1 rfl (sx 2 rfl (sx 3 rfl (sub_nil _))))) (.refl _) ?_
 refine hl_nil ?_
 refine hq_then ?_
 refine hc_seq ?_
 refine hc_region ?_
 refine hl_v rfl rfl rfl (rv_field (k0 := 9) rfl (by kernel_rfl) rfl) ?_
 refine hl_v rfl rfl rfl (rv_load rfl (by kernel_rfl) rfl (box_cell 7 rfl rfl)) ?_
 refine hl_v rfl rfl rfl (rv_field (k0 := 9) rfl (by kernel_rfl) rfl) ?_
 refine hl_storeBox (i := 5) (l' := [rowE 3 1 v18 x.bs.length (x.bs.map (Value.int .i64)), rowE 3 1 v14 x.ao.length (x.ao.map (Value.int .i64)), rowE 3 1 v10 x.ks.length (x.ks.map (Value.int .i64)), bigE [irsE da ea, irsE db eb], bigE (lnE m), boxE b3 #[.int .i64 m.ins, m.sv, m.lv, m.ov, da, db, v10, v14, v18, .int .i64 x.oi, .int .i64 0] 40, boxE b2 #[.int .i64 0, .slice none 0 0, .slice none 0 0, .slice none 0 0, .slice none 0 0, .slice none 0 0, .slice none 0 0, .slice none 0 0, .slice none 0 0, .int .i64 0, .int .i64 0] 40, boxE b1 #[.int .i64 x.n.ins, x.n.sv, x.n.lv, x.n.ov, x.pv, x.qv, x.kv, x.av, x.bv, .int .i64 x.oi, .int .i64 x.ni] 31]) rfl rfl rfl (by kernel_rfl) rfl rfl rfl rfl rfl rfl ?_
 refine hl_less (sx 0 rfl (sx 1 rfl (sx 2 rfl (sx 3 rfl (sub_nil _))))) (.refl _) ?_
 refine hl_nil ?_
 refine hq_then ?_
 refine hc_seq ?_
 refine hc_region ?_
 refine hl_v rfl rfl rfl (rv_field (k0 := 10) rfl (by kernel_rfl) rfl) ?_
 refine hl_v rfl rfl rfl (rv_load rfl (by kernel_rfl) rfl (box_cell 7 rfl rfl)) ?_
 refine hl_v rfl rfl rfl (rv_field (k0 := 10) rfl (by kernel_rfl) rfl) ?_
 refine hl_storeBox (i := 5) (l' := [rowE 3 1 v18 x.bs.length (x.bs.map (Value.int .i64)), rowE 3 1 v14 x.ao.length (x.ao.map (Value.int .i64)), rowE 3 1 v10 x.ks.length (x.ks.map (Value.int .i64)), bigE [irsE da ea, irsE db eb], bigE (lnE m), boxE b3 #[.int .i64 m.ins, m.sv, m.lv, m.ov, da, db, v10, v14, v18, .int .i64 x.oi, .int .i64 x.ni] 40, boxE b2 #[.int .i64 0, .slice none 0 0, .slice none 0 0, .slice none 0 0, .slice none 0 0, .slice none 0 0, .slice none 0 0, .slice none 0 0, .slice none 0 0, .int .i64 0, .int .i64 0] 40, boxE b1 #[.int .i64 x.n.ins, x.n.sv, x.n.lv, x.n.ov, x.pv, x.qv, x.kv, x.av, x.bv, .int .i64 x.oi, .int .i64 x.ni] 31]) rfl rfl rfl (by kernel_rfl) rfl rfl rfl rfl rfl rfl ?_
 refine hl_less (sx 0 rfl (sx 1 rfl (sx 2 rfl (sx 3 rfl (sub_nil _))))) (.refl _) ?_
 refine hl_nil ?_
 refine hq_then ?_
 refine hc_seq ?_
 refine hc_region ?_
 refine hl_v rfl rfl rfl (rv_loadN (cs := [.int .i64 m.ins, m.sv, m.lv, m.ov, da, db, v10, v14, v18, .int .i64 x.oi, .int .i64 x.ni]) rfl (by kernel_rfl) (by kernel_rfl) rfl rfl (box_part 5 rfl 0 rfl)) ?_
 refine hl_storeBoxN (i := 6) (off := 0) (us := [.int .i64 m.ins, m.sv, m.lv, m.ov, da, db, v10, v14, v18, .int .i64 x.oi, .int .i64 x.ni]) (cs' := #[.int .i64 m.ins, m.sv, m.lv, m.ov, da, db, v10, v14, v18, .int .i64 x.oi, .int .i64 x.ni]) (l' := [rowE 3 1 v18 x.bs.length (x.bs.map (Value.int .i64)), rowE 3 1 v14 x.ao.length (x.ao.map (Value.int .i64)), rowE 3 1 v10 x.ks.length (x.ks.map (Value.int .i64)), bigE [irsE da ea, irsE db eb], bigE (lnE m), boxE b3 #[.int .i64 m.ins, m.sv, m.lv, m.ov, da, db, v10, v14, v18, .int .i64 x.oi, .int .i64 x.ni] 40, boxE b2 #[.int .i64 m.ins, m.sv, m.lv, m.ov, da, db, v10, v14, v18, .int .i64 x.oi, .int .i64 x.ni] 40, boxE b1 #[.int .i64 x.n.ins, x.n.sv, x.n.lv, x.n.ov, x.pv, x.qv, x.kv, x.av, x.bv, .int .i64 x.oi, .int .i64 x.ni] 31]) rfl rfl rfl (by kernel_rfl) rfl rfl rfl (all_cons rfl (all_cons o1 (all_cons o2 (all_cons o3 (all_cons o4 (all_cons o5 (all_cons ho13 (all_cons ho17 (all_cons ho21 (all_cons rfl (all_cons rfl all_nil))))))))))) rfl (by kernel_rfl) rfl ?_
 refine hl_less (sx 0 rfl (sx 1 rfl (sx 2 rfl (sx 3 rfl (sub_nil _))))) (.refl _) ?_
 refine hl_nil ?_
 refine hq_then ?_
 refine hc_ret ?_
 refine hq_conv [bigE (lnE m), bigE [irsE da ea, irsE db eb], rowE 3 1 v10 x.ks.length (x.ks.map (Value.int .i64)), rowE 3 1 v14 x.ao.length (x.ao.map (Value.int .i64)), rowE 3 1 v18 x.bs.length (x.bs.map (Value.int .i64)), boxE b3 #[.int .i64 m.ins, m.sv, m.lv, m.ov, da, db, v10, v14, v18, .int .i64 x.oi, .int .i64 x.ni] 40, boxE b2 #[.int .i64 m.ins, m.sv, m.lv, m.ov, da, db, v10, v14, v18, .int .i64 x.oi, .int .i64 x.ni] 40, boxE b1 #[.int .i64 x.n.ins, x.n.sv, x.n.lv, x.n.ov, x.pv, x.qv, x.kv, x.av, x.bv, .int .i64 x.oi, .int .i64 x.ni] 31] (conv_pick (src := [rowE 3 1 v18 x.bs.length (x.bs.map (Value.int .i64)), rowE 3 1 v14 x.ao.length (x.ao.map (Value.int .i64)), rowE 3 1 v10 x.ks.length (x.ks.map (Value.int .i64)), bigE [irsE da ea, irsE db eb], bigE (lnE m), boxE b3 #[.int .i64 m.ins, m.sv, m.lv, m.ov, da, db, v10, v14, v18, .int .i64 x.oi, .int .i64 x.ni] 40, boxE b2 #[.int .i64 m.ins, m.sv, m.lv, m.ov, da, db, v10, v14, v18, .int .i64 x.oi, .int .i64 x.ni] 40, boxE b1 #[.int .i64 x.n.ins, x.n.sv, x.n.lv, x.n.ov, x.pv, x.qv, x.kv, x.av, x.bv, .int .i64 x.oi, .int .i64 x.ni] 31]) (dst := [bigE (lnE m), bigE [irsE da ea, irsE db eb], rowE 3 1 v10 x.ks.length (x.ks.map (Value.int .i64)), rowE 3 1 v14 x.ao.length (x.ao.map (Value.int .i64)), rowE 3 1 v18 x.bs.length (x.bs.map (Value.int .i64)), boxE b3 #[.int .i64 m.ins, m.sv, m.lv, m.ov, da, db, v10, v14, v18, .int .i64 x.oi, .int .i64 x.ni] 40, boxE b2 #[.int .i64 m.ins, m.sv, m.lv, m.ov, da, db, v10, v14, v18, .int .i64 x.oi, .int .i64 x.ni] 40, boxE b1 #[.int .i64 x.n.ins, x.n.sv, x.n.lv, x.n.ov, x.pv, x.qv, x.kv, x.av, x.bv, .int .i64 x.oi, .int .i64 x.ni] 31]) (l := []) [4, 3, 2, 1, 0, 5, 6, 7] (by decide) rfl) ?_
 refine hq_conv [tdE (Td.mk m da ea db eb v10 x.ks v14 x.ao v18 x.bs x.oi x.ni), boxE b3 #[.int .i64 m.ins, m.sv, m.lv, m.ov, da, db, v10, v14, v18, .int .i64 x.oi, .int .i64 x.ni] 40, boxE b2 #[.int .i64 m.ins, m.sv, m.lv, m.ov, da, db, v10, v14, v18, .int .i64 x.oi, .int .i64 x.ni] 40, boxE b1 #[.int .i64 x.n.ins, x.n.sv, x.n.lv, x.n.ov, x.pv, x.qv, x.kv, x.av, x.bv, .int .i64 x.oi, .int .i64 x.ni] 31] (conv_big (ps := [bigE (lnE m), bigE [irsE da ea, irsE db eb], rowE 3 1 v10 x.ks.length (x.ks.map (Value.int .i64)), rowE 3 1 v14 x.ao.length (x.ao.map (Value.int .i64)), rowE 3 1 v18 x.bs.length (x.bs.map (Value.int .i64))])) ?_
 exact hq_retM (rs := [.cell 2 40]) (vs := [.agg #[.int .i64 m.ins, m.sv, m.lv, m.ov, da, db, v10, v14, v18, .int .i64 x.oi, .int .i64 x.ni]]) (post := [tdE (Td.mk m da ea db eb v10 x.ks v14 x.ao v18 x.bs x.oi x.ni)]) rfl ⟨⟨b2, 0, [.int .i64 m.ins, m.sv, m.lv, m.ov, da, db, v10, v14, v18, .int .i64 x.oi, .int .i64 x.ni], rfl, rfl, by kernel_rfl, by kernel_rfl, box_part 2 rfl 0 rfl⟩, trivial⟩ rfl ((.cons_cons _ (.cons _ (.cons _ (.cons _ .slnil))))) ⟨(Td.mk m da ea db eb v10 x.ks v14 x.ao v18 x.bs x.oi x.ni), rfl, rfl, ⟨m1, m2, m3, m4, d1, d2, rfl, rfl, rfl, rfl, rfl⟩, ⟨o1, o2, o3, o4, o5, ho13, ho17, ho21⟩⟩
structure Arc where
  f : Int
  t : Int
  d : Int
abbrev arc0 : Arc := ⟨0, 0, 0⟩
def arcC (a : Arc) : List Value := [.int .i64 a.f, .int .i64 a.t, .int .i64 a.d]
def ArcOk (n : Int) (a : Arc) : Prop := (0 ≤ a.f ∧ a.f < a.t) ∧ a.t < n ∧ 0 ≤ a.d ∧ a.d ≤ 100
structure GOk (n : Int) (gs : List Arc) : Prop where
  n0 : 1 ≤ n
  n1 : n ≤ 500
  len : gs.length ≤ 2000
  ok : ∀ a ∈ gs, ArcOk n a
theorem GOk.at {n : Int} {gs : List Arc} (h : GOk n gs) {i : Nat} (hi : i < gs.length) : (0 ≤ (gs.getD i arc0).f ∧ (gs.getD i arc0).f < (gs.getD i arc0).t) ∧ (gs.getD i arc0).t < n ∧ 0 ≤ (gs.getD i arc0).d ∧ (gs.getD i arc0).d ≤ 100 := h.ok _ (getD_mem' hi)
structure ARow where
  v : Value
  ar : List Arc
abbrev row0 : ARow := ⟨.slice none 0 0, []⟩
def rowC (r : ARow) : List Value := [r.v]
structure RdsInto (w : World) (v : Value) (rs : List ARow) : Prop where
  row : RdsW w v 1 rs.length (rs.flatMap rowC)
  ar : ∀ r ∈ rs, RdsW w r.v 3 r.ar.length (r.ar.flatMap arcC)
theorem RdsInto.below {w w' : World} {v : Value} {rs : List ARow} (h : RdsInto w v rs) (hb : Below w.heap.size w w') : RdsInto w' v rs := ⟨h.row.below hb, fun r hr => (h.ar r hr).below hb⟩
theorem RdsInto.at {w : World} {v : Value} {rs : List ARow} (h : RdsInto w v rs) {k : Nat} (hk : k < rs.length) : RdsW w (rs.getD k row0).v 3 (rs.getD k row0).ar.length ((rs.getD k row0).ar.flatMap arcC) := h.ar _ (getD_mem' hk)
open Go.RowKit
theorem map_getD {α β : Type} {g : α → β} {ea eb : List α} (h : ea.map g = eb.map g) (k : Nat) (d : α) : g (ea.getD k d) = g (eb.getD k d) := by rw [← getD_mapv g ea, ← getD_mapv g eb, h]
theorem map_len {α β : Type} {g : α → β} {ea eb : List α} (h : ea.map g = eb.map g) : ea.length = eb.length := by simpa using congrArg List.length h
set_option maxHeartbeats 4000000 in
set_option maxRecDepth 100000 in
theorem eqSeq_yes (a b : Sq) (w : World) (ha : RdsW w a.iv 1 a.xs.length (a.xs.map (Value.int .i64))) (hb : RdsW w b.iv 1 b.xs.length (b.xs.map (Value.int .i64))) (hv : Sq.val a = Sq.val b) (hl : a.xs.length ≤ 1048576) :
  Calls Try.prog 97 #[.agg #[.int .i64 a.kd, .int .i64 a.it, a.iv], .agg #[.int .i64 b.kd, .int .i64 b.it, b.iv]] w (Ans w (.bool true)) := by
 simp only [Sq.val, Prod.mk.injEq] at hv
 obtain ⟨e1, e2, e3⟩ := hv
 refine calls_hc (N := 21) (args := [.agg #[.int .i64 a.kd, .int .i64 a.it, a.iv], .agg #[.int .i64 b.kd, .int .i64 b.it, b.iv]]) Try.func97 rfl rfl ?_
 refine hc_less _ (sx 0 rfl (sx 1 rfl (sub_nil _))) (.refl _) ?_
 refine hc_seq ?_
 refine hc_region ?_
 refine hl_box rfl rfl rfl (rq_box rfl rfl) ?_
 intro b1
 refine hl_box rfl rfl rfl (rq_box rfl rfl) ?_
 intro b2
 refine hl_v rfl rfl rfl (rv_ev rfl) ?_
 refine hl_less (sx 0 rfl (sx 1 rfl (sx 2 rfl (sx 3 rfl (sx 4 rfl (sub_nil _)))))) (.refl _) ?_
 refine hl_nil ?_
 refine hq_then ?_
 refine hc_seq ?_
 refine hc_seq ?_
 refine hc_region ?_
 refine hl_v rfl rfl rfl (rv_field (k0 := 0) rfl (by kernel_rfl) rfl) ?_
 refine hl_v rfl rfl rfl (rv_load rfl (by kernel_rfl) rfl (box_cell 1 rfl rfl)) ?_
 refine hl_v rfl rfl rfl (rv_field (k0 := 0) rfl (by kernel_rfl) rfl) ?_
 refine hl_v rfl rfl rfl (rv_load rfl (by kernel_rfl) rfl (box_cell 0 rfl rfl)) ?_
 refine hl_neq rfl rfl rfl rfl rfl rfl (fun h3 => absurd h3 (by omega)) (fun h3 => ?_)
 refine hl_less (sx 0 rfl (sx 1 rfl (sx 2 rfl (sx 3 rfl (sx 4 rfl (sx 9 rfl (sub_nil _))))))) (.refl _) ?_
 refine hl_nil ?_
 refine hq_then ?_
 refine hc_false rfl ?_
 refine hc_skip ?_
 refine hq_then ?_
 refine hc_seq ?_
 refine hc_seq ?_
 refine hc_region ?_
 refine hl_v rfl rfl rfl (rv_field (k0 := 1) rfl (by kernel_rfl) rfl) ?_
 refine hl_v rfl rfl rfl (rv_load rfl (by kernel_rfl) rfl (box_cell 1 rfl rfl)) ?_
 refine hl_v rfl rfl rfl (rv_field (k0 := 1) rfl (by kernel_rfl) rfl) ?_
 refine hl_v rfl rfl rfl (rv_load rfl (by kernel_rfl) rfl (box_cell 0 rfl rfl)) ?_
 refine hl_neq rfl rfl rfl rfl rfl rfl (fun h4 => absurd h4 (by omega)) (fun h4 => ?_)
 refine hl_less (sx 0 rfl (sx 1 rfl (sx 2 rfl (sx 3 rfl (sx 4 rfl (sx 9 rfl (sx 14 rfl (sub_nil _)))))))) (.refl _) ?_
 refine hl_nil ?_
 refine hq_then ?_
 refine hc_false rfl ?_
 refine hc_skip ?_
 refine hq_then ?_
 refine hc_seq ?_
 refine hc_seq ?_
 refine hc_region ?_
 refine hl_v rfl rfl rfl (rv_field (k0 := 2) rfl (by kernel_rfl) rfl) ?_
 refine hl_v rfl rfl rfl (rv_load rfl (by kernel_rfl) rfl (box_cell 1 rfl rfl)) ?_
 refine hl_v rfl rfl rfl (rv_field (k0 := 2) rfl (by kernel_rfl) rfl) ?_
 refine hl_v rfl rfl rfl (rv_load rfl (by kernel_rfl) rfl (box_cell 0 rfl rfl)) ?_
 refine hl_callV rfl rfl rfl (rq_call (by kernel_rfl) rfl (fun w hm => ret_ans (eqIntS_ans a.xs b.xs _ _ w ((rd_old ha) w hm) ((rd_old hb) w hm) (by omega)))) ?_
 refine hl_bool (fun h5 => ?_) (fun h5 => absurd (((decide_eq_true (by first | rfl | assumption | (symm; assumption)))).symm.trans h5) (by decide))
 refine hl_v rfl rfl rfl (rv_ev rfl) ?_
 refine hl_less (sx 0 rfl (sx 1 rfl (sx 2 rfl (sx 3 rfl (sx 4 rfl (sx 9 rfl (sx 14 rfl (sx 20 rfl (sub_nil _))))))))) (.refl _) ?_
 refine hl_nil ?_
 refine hq_then ?_
 refine hc_false rfl ?_
 refine hc_skip ?_
 refine hq_then ?_
 refine hc_seq ?_
 refine hc_region ?_
 refine hl_v rfl rfl rfl (rv_ev rfl) ?_
 refine hl_less (sx 0 rfl (sx 1 rfl (sx 2 rfl (sx 3 rfl (sx 4 rfl (sx 9 rfl (sx 14 rfl (sx 20 rfl (sub_nil _))))))))) (.refl _) ?_
 refine hl_nil ?_
 refine hq_then ?_
 refine hc_ret ?_
 exact hq_ans rfl rfl rfl
set_option maxHeartbeats 4000000 in
set_option maxRecDepth 100000 in
theorem eqSeqR_yes (ea eb : List Sq) (u v : Value) (w : World) (ha : RdsSq w u ea) (hb : RdsSq w v eb) (hv : ea.map Sq.val = eb.map Sq.val) (hz : ea.length ≤ 1048576 ∧ ∀ s ∈ ea, s.xs.length ≤ 1048576) :
  Calls Try.prog 80 #[u, v] w (Ans w (.bool true)) := by
 have hlen := map_len hv
 obtain ⟨hz1, hz2⟩ := hz
 refine calls_hc (N := 27) (args := [u, v]) Try.func80 rfl rfl ?_
 refine hc_less _ (sx 0 rfl (sx 1 rfl (sub_nil _))) (.refl _) ?_
 refine hc_seq ?_
 refine hc_region ?_
 refine hl_v rfl rfl rfl (rv_ev rfl) ?_
 refine hl_less (sx 0 rfl (sx 1 rfl (sx 4 rfl (sub_nil _)))) (.refl _) ?_
 refine hl_nil ?_
 refine hq_then ?_
 refine hc_seq ?_
 refine hc_seq ?_
 refine hc_region ?_
 refine hl_v rfl rfl rfl (rv_ev rfl) ?_
 refine hl_v rfl rfl rfl (rv_len rfl Try.underlying34 rfl (rd_old ((ha).row))) ?_
 refine hl_v rfl rfl rfl (rv_ev rfl) ?_
 refine hl_v rfl rfl rfl (rv_len rfl Try.underlying34 rfl (rd_old ((hb).row))) ?_
 refine hl_neq rfl rfl rfl rfl rfl rfl (fun h1 => absurd h1 (by omega)) (fun h1 => ?_)
 refine hl_less (sx 0 rfl (sx 1 rfl (sx 4 rfl (sx 10 rfl (sub_nil _))))) (.refl _) ?_
 refine hl_nil ?_
 refine hq_then ?_
 refine hc_false rfl ?_
 refine hc_skip ?_
 refine hq_then ?_
 refine hc_seq ?_
 refine hc_seq ?_
 refine hc_region ?_
 refine hl_v rfl rfl rfl (rv_ev rfl) ?_
 refine hl_less (sx 0 rfl (sx 1 rfl (sx 4 rfl (sx 5 rfl (sx 10 rfl (sub_nil _)))))) (.refl _) ?_
 refine hl_nil ?_
 refine hq_then ?_
 refine hc_block ?_
 refine hc_loop1 (α := Nat) (fun j => []) (fun j => [(0, u), (1, v), (4, .bool false), (5, .int .i64 (j : Int)), (10, .bool false)]) (fun j => j ≤ ea.length) (fun j => ea.length - j) 0 (Nat.zero_le _) (sx 0 rfl (sx 1 rfl (sx 4 rfl (sx 5 rfl (sx 10 rfl (sub_nil _)))))) (.slnil) ?_
 intro j hi2
 have hj := hi2
 refine hc_seq ?_
 refine hc_seq ?_
 refine hc_region ?_
 refine hl_v rfl rfl rfl (rv_ev rfl) ?_
 refine hl_v rfl rfl rfl (rv_ev rfl) ?_
 refine hl_v rfl rfl rfl (rv_len rfl Try.underlying34 rfl (rd_old ((ha).row))) ?_
 refine hl_lss rfl rfl rfl rfl rfl rfl (fun h3 => ?_) (fun h3 => ?_)
 ·
  refine hl_less (sx 0 rfl (sx 1 rfl (sx 4 rfl (sx 5 rfl (sx 10 rfl (sx 14 rfl (sub_nil _))))))) (.refl _) ?_
  refine hl_nil ?_
  refine hq_then ?_
  refine hc_true rfl ?_
  refine hc_skip ?_
  refine hq_then ?_
  refine hc_seq ?_
  refine hc_block ?_
  refine hc_seq ?_
  have hel := hz2 _ (getD_memX (d := sq0) (show j < ea.length by omega))
  have hevj := map_getD hv j sq0
  refine hc_draw (by kernel_rfl) 10 [0, 1, 2, 3, 4, 5, 6, 7, 8, 9] (List.take 10 _) (List.drop 10 _) [[], [], [0, 1], [2], [], [], [4, 5], [6], [3, 7], [8]] [17, 18, 19, 20, 21, 22, 23, 24, 25, 26] (fun i_ vs_ v_ p_ => match i_ with | 0 => v_ = u ∧ p_ = [] | 1 => v_ = .int .i64 (j : Int) ∧ p_ = [] | 2 => v_ = elP u (((j : Int)).toNat * 3) ∧ p_ = [] | 3 => v_ = .agg #[.int .i64 ((ea.getD j sq0).kd), .int .i64 ((ea.getD j sq0).it), (ea.getD j sq0).iv] ∧ p_ = [] | 4 => v_ = v ∧ p_ = [] | 5 => v_ = .int .i64 (j : Int) ∧ p_ = [] | 6 => v_ = elP v (((j : Int)).toNat * 3) ∧ p_ = [] | 7 => v_ = .agg #[.int .i64 ((eb.getD j sq0).kd), .int .i64 ((eb.getD j sq0).it), (eb.getD j sq0).iv] ∧ p_ = [] | 8 => v_ = .bool true ∧ p_ = [] | 9 => v_ = .bool false ∧ p_ = [] | _ => True) (List.take_append_drop 10 _).symm (by kernel_rfl) (by kernel_rfl) rfl rfl ?_ ?_
  ·
   refine ⟨?_, ?_, ?_, ?_, ?_, ?_, ?_, ?_, ?_, ?_, trivial⟩
   ·
    intro vf pf hR
    refine Or.inl ⟨rfl, ?_⟩
    refine rq_less (sx 0 rfl (sub_nil _)) (List.sublist_append_right _ _) ?_
    exact rq_v (rv_ev rfl)
   ·
    intro vf pf hR
    refine Or.inl ⟨rfl, ?_⟩
    refine rq_less (sx 5 rfl (sub_nil _)) (List.sublist_append_right _ _) ?_
    exact rq_v (rv_ev rfl)
   ·
    intro vf pf hR
    have e0 : (vf 0) = u ∧ (pf 0) = [] := hR 0 (by decide)
    have e1 : (vf 1) = .int .i64 (j : Int) ∧ (pf 1) = [] := hR 1 (by decide)
    refine Or.inl ⟨rfl, ?_⟩
    refine rq_less (sx 17 (congrArg some e0.1) (sx 18 (congrArg some e1.1) (sub_nil _))) (List.sublist_append_right _ _) ?_
    exact rq_v (rv_index (s := 3) rfl Try.underlying34 (by kernel_rfl) rfl rfl (rd_old ((ha).row)) (by omega) (by first | omega | (simp only [List.length_set]; omega)))
   ·
    intro vf pf hR
    have e2 : (vf 2) = elP u (((j : Int)).toNat * 3) ∧ (pf 2) = [] := hR 2 (by decide)
    refine Or.inl ⟨rfl, ?_⟩
    refine rq_less (sx 19 (congrArg some e2.1) (sub_nil _)) (List.sublist_append_right _ _) ?_
    exact rq_v (rv_loadElN (us := [.int .i64 ((ea.getD j sq0).kd), .int .i64 ((ea.getD j sq0).it), (ea.getD j sq0).iv]) rfl (by kernel_rfl) (by kernel_rfl) rfl (rd_old ((ha).row)) (by omega) rfl (flat_atN sqC 3 (fun _ => rfl) ea sq0 (show j < _ by first | omega | (simp only [List.length_set]; omega)) rfl))
   ·
    intro vf pf hR
    refine Or.inl ⟨rfl, ?_⟩
    refine rq_less (sx 1 rfl (sub_nil _)) (List.sublist_append_right _ _) ?_
    exact rq_v (rv_ev rfl)
   ·
    intro vf pf hR
    refine Or.inl ⟨rfl, ?_⟩
    refine rq_less (sx 5 rfl (sub_nil _)) (List.sublist_append_right _ _) ?_
    exact rq_v (rv_ev rfl)
   ·
    intro vf pf hR
    have e4 : (vf 4) = v ∧ (pf 4) = [] := hR 4 (by decide)
    have e5 : (vf 5) = .int .i64 (j : Int) ∧ (pf 5) = [] := hR 5 (by decide)
    refine Or.inl ⟨rfl, ?_⟩
    refine rq_less (sx 21 (congrArg some e4.1) (sx 22 (congrArg some e5.1) (sub_nil _))) (List.sublist_append_right _ _) ?_
    exact rq_v (rv_index (s := 3) rfl Try.underlying34 (by kernel_rfl) rfl rfl (rd_old ((hb).row)) (by omega) (by first | omega | (simp only [List.length_set]; omega)))
   ·
    intro vf pf hR
    have e6 : (vf 6) = elP v (((j : Int)).toNat * 3) ∧ (pf 6) = [] := hR 6 (by decide)
    refine Or.inl ⟨rfl, ?_⟩
    refine rq_less (sx 23 (congrArg some e6.1) (sub_nil _)) (List.sublist_append_right _ _) ?_
    exact rq_v (rv_loadElN (us := [.int .i64 ((eb.getD j sq0).kd), .int .i64 ((eb.getD j sq0).it), (eb.getD j sq0).iv]) rfl (by kernel_rfl) (by kernel_rfl) rfl (rd_old ((hb).row)) (by omega) rfl (flat_atN sqC 3 (fun _ => rfl) eb sq0 (show j < _ by first | omega | (simp only [List.length_set]; omega)) rfl))
   ·
    intro vf pf hR
    have e3 : (vf 3) = .agg #[.int .i64 ((ea.getD j sq0).kd), .int .i64 ((ea.getD j sq0).it), (ea.getD j sq0).iv] ∧ (pf 3) = [] := hR 3 (by decide)
    have e7 : (vf 7) = .agg #[.int .i64 ((eb.getD j sq0).kd), .int .i64 ((eb.getD j sq0).it), (eb.getD j sq0).iv] ∧ (pf 7) = [] := hR 7 (by decide)
    refine Or.inl ⟨rfl, ?_⟩
    refine rq_less (sx 20 (congrArg some e3.1) (sx 24 (congrArg some e7.1) (sub_nil _))) (List.sublist_append_right _ _) ?_
    exact (rq_call (by kernel_rfl) rfl (fun w hm => ret_ans (eqSeq_yes (ea.getD j sq0) (eb.getD j sq0) w ((ha.at (d := sq0) (k := j) (by omega)).below hm.bel) ((hb.at (d := sq0) (k := j) (by omega)).below hm.bel) (map_getD hv j sq0) hel)))
   ·
    intro vf pf hR
    have e8 : (vf 8) = .bool true ∧ (pf 8) = [] := hR 8 (by decide)
    refine Or.inl ⟨rfl, ?_⟩
    refine rq_less (sx 25 (congrArg some e8.1) (sub_nil _)) (List.sublist_append_right _ _) ?_
    exact rq_v (rv_ev rfl)
  ·
   intro vf pf hR
   have e9 : (vf 9) = .bool false ∧ (pf 9) = [] := hR 9 (by decide)
   refine hl_less (l' := []) (sx 0 rfl (sx 1 rfl (sx 4 rfl (sx 5 rfl (sx 10 rfl (sx 14 rfl (sx 26 (congrArg some e9.1) (sub_nil _)))))))) (List.sublist_append_right _ _) ?_
   simp only [List.drop_succ_cons, List.drop_zero]
   refine hl_less (sx 0 rfl (sx 1 rfl (sx 4 rfl (sx 5 rfl (sx 10 rfl (sx 14 rfl (sx 26 rfl (sub_nil _)))))))) (.refl _) ?_
   refine hl_nil ?_
   refine hq_then ?_
   refine hc_false rfl ?_
   refine hc_skip ?_
   refine hq_block_normal ?_
   refine hq_then ?_
   refine hc_region ?_
   refine hl_v rfl rfl rfl (rv_ev rfl) ?_
   refine hl_v rfl rfl rfl (rv_add rfl rfl rfl (by constructor <;> omega)) ?_
   refine hl_v rfl rfl rfl (rv_ev rfl) ?_
   refine hl_less (sx 0 rfl (sx 1 rfl (sx 4 rfl (sx 5 rfl (sx 10 rfl (sx 14 rfl (sx 26 rfl (sub_nil _)))))))) (.refl _) ?_
   refine hl_nil ?_
   exact hq_round1 (j + 1) (by omega) (by omega) (sx 0 rfl (sx 1 rfl (sx 4 rfl (sx 5 rfl (sx 10 rfl (sub_nil _)))))) (.slnil)
 ·
  refine hl_less (sx 0 rfl (sx 1 rfl (sx 4 rfl (sx 5 rfl (sx 10 rfl (sx 14 rfl (sub_nil _))))))) (.refl _) ?_
  refine hl_nil ?_
  refine hq_then ?_
  refine hc_false rfl ?_
  refine hc_exit ?_
  refine hq_then_exit ?_
  refine hq_then_exit ?_
  refine hq_block_exit ?_
  refine hq_then ?_
  refine hc_seq ?_
  refine hc_region ?_
  refine hl_v rfl rfl rfl (rv_ev rfl) ?_
  refine hl_less (sx 0 rfl (sx 1 rfl (sx 4 rfl (sx 5 rfl (sx 10 rfl (sx 14 rfl (sub_nil _))))))) (.refl _) ?_
  refine hl_nil ?_
  refine hq_then ?_
  refine hc_ret ?_
  exact hq_ans rfl rfl rfl
set_option maxHeartbeats 4000000 in
set_option maxRecDepth 100000 in
theorem eqLut_yes (a b : Lt) (w : World) (ha : RdsW w a.iv 1 a.xs.length (a.xs.map (Value.int .i64))) (hb : RdsW w b.iv 1 b.xs.length (b.xs.map (Value.int .i64))) (hv : Lt.val a = Lt.val b) (hl : a.xs.length ≤ 1048576) :
  Calls Try.prog 98 #[.agg #[a.iv, .int .i64 a.ma], .agg #[b.iv, .int .i64 b.ma]] w (Ans w (.bool true)) := by
 simp only [Lt.val, Prod.mk.injEq] at hv
 obtain ⟨e3, e1⟩ := hv
 refine calls_hc (N := 16) (args := [.agg #[a.iv, .int .i64 a.ma], .agg #[b.iv, .int .i64 b.ma]]) Try.func98 rfl rfl ?_
 refine hc_less _ (sx 0 rfl (sx 1 rfl (sub_nil _))) (.refl _) ?_
 refine hc_seq ?_
 refine hc_region ?_
 refine hl_box rfl rfl rfl (rq_box rfl rfl) ?_
 intro b1
 refine hl_box rfl rfl rfl (rq_box rfl rfl) ?_
 intro b2
 refine hl_v rfl rfl rfl (rv_ev rfl) ?_
 refine hl_less (sx 0 rfl (sx 1 rfl (sx 2 rfl (sx 3 rfl (sx 4 rfl (sub_nil _)))))) (.refl _) ?_
 refine hl_nil ?_
 refine hq_then ?_
 refine hc_seq ?_
 refine hc_seq ?_
 refine hc_region ?_
 refine hl_v rfl rfl rfl (rv_field (k0 := 0) rfl (by kernel_rfl) rfl) ?_
 refine hl_v rfl rfl rfl (rv_load rfl (by kernel_rfl) rfl (box_cell 1 rfl rfl)) ?_
 refine hl_v rfl rfl rfl (rv_field (k0 := 0) rfl (by kernel_rfl) rfl) ?_
 refine hl_v rfl rfl rfl (rv_load rfl (by kernel_rfl) rfl (box_cell 0 rfl rfl)) ?_
 refine hl_callV rfl rfl rfl (rq_call (by kernel_rfl) rfl (fun w hm => ret_ans (eqIntS_ans a.xs b.xs _ _ w ((rd_old ha) w hm) ((rd_old hb) w hm) (by omega)))) ?_
 refine hl_bool (fun h3 => ?_) (fun h3 => absurd (((decide_eq_true (by first | rfl | assumption | (symm; assumption)))).symm.trans h3) (by decide))
 refine hl_v rfl rfl rfl (rv_ev rfl) ?_
 refine hl_less (sx 0 rfl (sx 1 rfl (sx 2 rfl (sx 3 rfl (sx 4 rfl (sx 10 rfl (sub_nil _))))))) (.refl _) ?_
 refine hl_nil ?_
 refine hq_then ?_
 refine hc_false rfl ?_
 refine hc_skip ?_
 refine hq_then ?_
 refine hc_seq ?_
 refine hc_seq ?_
 refine hc_region ?_
 refine hl_v rfl rfl rfl (rv_field (k0 := 1) rfl (by kernel_rfl) rfl) ?_
 refine hl_v rfl rfl rfl (rv_load rfl (by kernel_rfl) rfl (box_cell 1 rfl rfl)) ?_
 refine hl_v rfl rfl rfl (rv_field (k0 := 1) rfl (by kernel_rfl) rfl) ?_
 refine hl_v rfl rfl rfl (rv_load rfl (by kernel_rfl) rfl (box_cell 0 rfl rfl)) ?_
 refine hl_neq rfl rfl rfl rfl rfl rfl (fun h4 => absurd h4 (by omega)) (fun h4 => ?_)
 refine hl_less (sx 0 rfl (sx 1 rfl (sx 2 rfl (sx 3 rfl (sx 4 rfl (sx 10 rfl (sx 15 rfl (sub_nil _)))))))) (.refl _) ?_
 refine hl_nil ?_
 refine hq_then ?_
 refine hc_false rfl ?_
 refine hc_skip ?_
 refine hq_then ?_
 refine hc_seq ?_
 refine hc_region ?_
 refine hl_v rfl rfl rfl (rv_ev rfl) ?_
 refine hl_less (sx 0 rfl (sx 1 rfl (sx 2 rfl (sx 3 rfl (sx 4 rfl (sx 10 rfl (sx 15 rfl (sub_nil _)))))))) (.refl _) ?_
 refine hl_nil ?_
 refine hq_then ?_
 refine hc_ret ?_
 exact hq_ans rfl rfl rfl
set_option maxHeartbeats 4000000 in
set_option maxRecDepth 100000 in
theorem eqLutR_yes (ea eb : List Lt) (u v : Value) (w : World) (ha : RdsLt w u ea) (hb : RdsLt w v eb) (hv : ea.map Lt.val = eb.map Lt.val) (hz : ea.length ≤ 1048576 ∧ ∀ s ∈ ea, s.xs.length ≤ 1048576) :
  Calls Try.prog 81 #[u, v] w (Ans w (.bool true)) := by
 have hlen := map_len hv
 obtain ⟨hz1, hz2⟩ := hz
 refine calls_hc (N := 27) (args := [u, v]) Try.func81 rfl rfl ?_
 refine hc_less _ (sx 0 rfl (sx 1 rfl (sub_nil _))) (.refl _) ?_
 refine hc_seq ?_
 refine hc_region ?_
 refine hl_v rfl rfl rfl (rv_ev rfl) ?_
 refine hl_less (sx 0 rfl (sx 1 rfl (sx 4 rfl (sub_nil _)))) (.refl _) ?_
 refine hl_nil ?_
 refine hq_then ?_
 refine hc_seq ?_
 refine hc_seq ?_
 refine hc_region ?_
 refine hl_v rfl rfl rfl (rv_ev rfl) ?_
 refine hl_v rfl rfl rfl (rv_len rfl Try.underlying35 rfl (rd_old ((ha).row))) ?_
 refine hl_v rfl rfl rfl (rv_ev rfl) ?_
 refine hl_v rfl rfl rfl (rv_len rfl Try.underlying35 rfl (rd_old ((hb).row))) ?_
 refine hl_neq rfl rfl rfl rfl rfl rfl (fun h1 => absurd h1 (by omega)) (fun h1 => ?_)
 refine hl_less (sx 0 rfl (sx 1 rfl (sx 4 rfl (sx 10 rfl (sub_nil _))))) (.refl _) ?_
 refine hl_nil ?_
 refine hq_then ?_
 refine hc_false rfl ?_
 refine hc_skip ?_
 refine hq_then ?_
 refine hc_seq ?_
 refine hc_seq ?_
 refine hc_region ?_
 refine hl_v rfl rfl rfl (rv_ev rfl) ?_
 refine hl_less (sx 0 rfl (sx 1 rfl (sx 4 rfl (sx 5 rfl (sx 10 rfl (sub_nil _)))))) (.refl _) ?_
 refine hl_nil ?_
 refine hq_then ?_
 refine hc_block ?_
 refine hc_loop1 (α := Nat) (fun j => []) (fun j => [(0, u), (1, v), (4, .bool false), (5, .int .i64 (j : Int)), (10, .bool false)]) (fun j => j ≤ ea.length) (fun j => ea.length - j) 0 (Nat.zero_le _) (sx 0 rfl (sx 1 rfl (sx 4 rfl (sx 5 rfl (sx 10 rfl (sub_nil _)))))) (.slnil) ?_
 intro j hi2
 have hj := hi2
 refine hc_seq ?_
 refine hc_seq ?_
 refine hc_region ?_
 refine hl_v rfl rfl rfl (rv_ev rfl) ?_
 refine hl_v rfl rfl rfl (rv_ev rfl) ?_
 refine hl_v rfl rfl rfl (rv_len rfl Try.underlying35 rfl (rd_old ((ha).row))) ?_
 refine hl_lss rfl rfl rfl rfl rfl rfl (fun h3 => ?_) (fun h3 => ?_)
 ·
  refine hl_less (sx 0 rfl (sx 1 rfl (sx 4 rfl (sx 5 rfl (sx 10 rfl (sx 14 rfl (sub_nil _))))))) (.refl _) ?_
  refine hl_nil ?_
  refine hq_then ?_
  refine hc_true rfl ?_
  refine hc_skip ?_
  refine hq_then ?_
  refine hc_seq ?_
  refine hc_block ?_
  refine hc_seq ?_
  have hel := hz2 _ (getD_memX (d := lt0) (show j < ea.length by omega))
  have hevj := map_getD hv j lt0
  refine hc_draw (by kernel_rfl) 10 [0, 1, 2, 3, 4, 5, 6, 7, 8, 9] (List.take 10 _) (List.drop 10 _) [[], [], [0, 1], [2], [], [], [4, 5], [6], [3, 7], [8]] [17, 18, 19, 20, 21, 22, 23, 24, 25, 26] (fun i_ vs_ v_ p_ => match i_ with | 0 => v_ = u ∧ p_ = [] | 1 => v_ = .int .i64 (j : Int) ∧ p_ = [] | 2 => v_ = elP u (((j : Int)).toNat * 2) ∧ p_ = [] | 3 => v_ = .agg #[(ea.getD j lt0).iv, .int .i64 ((ea.getD j lt0).ma)] ∧ p_ = [] | 4 => v_ = v ∧ p_ = [] | 5 => v_ = .int .i64 (j : Int) ∧ p_ = [] | 6 => v_ = elP v (((j : Int)).toNat * 2) ∧ p_ = [] | 7 => v_ = .agg #[(eb.getD j lt0).iv, .int .i64 ((eb.getD j lt0).ma)] ∧ p_ = [] | 8 => v_ = .bool true ∧ p_ = [] | 9 => v_ = .bool false ∧ p_ = [] | _ => True) (List.take_append_drop 10 _).symm (by kernel_rfl) (by kernel_rfl) rfl rfl ?_ ?_
  ·
   refine ⟨?_, ?_, ?_, ?_, ?_, ?_, ?_, ?_, ?_, ?_, trivial⟩
   ·
    intro vf pf hR
    refine Or.inl ⟨rfl, ?_⟩
    refine rq_less (sx 0 rfl (sub_nil _)) (List.sublist_append_right _ _) ?_
    exact rq_v (rv_ev rfl)
   ·
    intro vf pf hR
    refine Or.inl ⟨rfl, ?_⟩
    refine rq_less (sx 5 rfl (sub_nil _)) (List.sublist_append_right _ _) ?_
    exact rq_v (rv_ev rfl)
   ·
    intro vf pf hR
    have e0 : (vf 0) = u ∧ (pf 0) = [] := hR 0 (by decide)
    have e1 : (vf 1) = .int .i64 (j : Int) ∧ (pf 1) = [] := hR 1 (by decide)
    refine Or.inl ⟨rfl, ?_⟩
    refine rq_less (sx 17 (congrArg some e0.1) (sx 18 (congrArg some e1.1) (sub_nil _))) (List.sublist_append_right _ _) ?_
    exact rq_v (rv_index (s := 2) rfl Try.underlying35 (by kernel_rfl) rfl rfl (rd_old ((ha).row)) (by omega) (by first | omega | (simp only [List.length_set]; omega)))
   ·
    intro vf pf hR
    have e2 : (vf 2) = elP u (((j : Int)).toNat * 2) ∧ (pf 2) = [] := hR 2 (by decide)
    refine Or.inl ⟨rfl, ?_⟩
    refine rq_less (sx 19 (congrArg some e2.1) (sub_nil _)) (List.sublist_append_right _ _) ?_
    exact rq_v (rv_loadElN (us := [(ea.getD j lt0).iv, .int .i64 ((ea.getD j lt0).ma)]) rfl (by kernel_rfl) (by kernel_rfl) rfl (rd_old ((ha).row)) (by omega) rfl (flat_atN ltC 2 (fun _ => rfl) ea lt0 (show j < _ by first | omega | (simp only [List.length_set]; omega)) rfl))
   ·
    intro vf pf hR
    refine Or.inl ⟨rfl, ?_⟩
    refine rq_less (sx 1 rfl (sub_nil _)) (List.sublist_append_right _ _) ?_
    exact rq_v (rv_ev rfl)
   ·
    intro vf pf hR
    refine Or.inl ⟨rfl, ?_⟩
    refine rq_less (sx 5 rfl (sub_nil _)) (List.sublist_append_right _ _) ?_
    exact rq_v (rv_ev rfl)
   ·
    intro vf pf hR
    have e4 : (vf 4) = v ∧ (pf 4) = [] := hR 4 (by decide)
    have e5 : (vf 5) = .int .i64 (j : Int) ∧ (pf 5) = [] := hR 5 (by decide)
    refine Or.inl ⟨rfl, ?_⟩
    refine rq_less (sx 21 (congrArg some e4.1) (sx 22 (congrArg some e5.1) (sub_nil _))) (List.sublist_append_right _ _) ?_
    exact rq_v (rv_index (s := 2) rfl Try.underlying35 (by kernel_rfl) rfl rfl (rd_old ((hb).row)) (by omega) (by first | omega | (simp only [List.length_set]; omega)))
   ·
    intro vf pf hR
    have e6 : (vf 6) = elP v (((j : Int)).toNat * 2) ∧ (pf 6) = [] := hR 6 (by decide)
    refine Or.inl ⟨rfl, ?_⟩
    refine rq_less (sx 23 (congrArg some e6.1) (sub_nil _)) (List.sublist_append_right _ _) ?_
    exact rq_v (rv_loadElN (us := [(eb.getD j lt0).iv, .int .i64 ((eb.getD j lt0).ma)]) rfl (by kernel_rfl) (by kernel_rfl) rfl (rd_old ((hb).row)) (by omega) rfl (flat_atN ltC 2 (fun _ => rfl) eb lt0 (show j < _ by first | omega | (simp only [List.length_set]; omega)) rfl))
   ·
    intro vf pf hR
    have e3 : (vf 3) = .agg #[(ea.getD j lt0).iv, .int .i64 ((ea.getD j lt0).ma)] ∧ (pf 3) = [] := hR 3 (by decide)
    have e7 : (vf 7) = .agg #[(eb.getD j lt0).iv, .int .i64 ((eb.getD j lt0).ma)] ∧ (pf 7) = [] := hR 7 (by decide)
    refine Or.inl ⟨rfl, ?_⟩
    refine rq_less (sx 20 (congrArg some e3.1) (sx 24 (congrArg some e7.1) (sub_nil _))) (List.sublist_append_right _ _) ?_
    exact (rq_call (by kernel_rfl) rfl (fun w hm => ret_ans (eqLut_yes (ea.getD j lt0) (eb.getD j lt0) w ((ha.at (d := lt0) (k := j) (by omega)).below hm.bel) ((hb.at (d := lt0) (k := j) (by omega)).below hm.bel) (map_getD hv j lt0) hel)))
   ·
    intro vf pf hR
    have e8 : (vf 8) = .bool true ∧ (pf 8) = [] := hR 8 (by decide)
    refine Or.inl ⟨rfl, ?_⟩
    refine rq_less (sx 25 (congrArg some e8.1) (sub_nil _)) (List.sublist_append_right _ _) ?_
    exact rq_v (rv_ev rfl)
  ·
   intro vf pf hR
   have e9 : (vf 9) = .bool false ∧ (pf 9) = [] := hR 9 (by decide)
   refine hl_less (l' := []) (sx 0 rfl (sx 1 rfl (sx 4 rfl (sx 5 rfl (sx 10 rfl (sx 14 rfl (sx 26 (congrArg some e9.1) (sub_nil _)))))))) (List.sublist_append_right _ _) ?_
   simp only [List.drop_succ_cons, List.drop_zero]
   refine hl_less (sx 0 rfl (sx 1 rfl (sx 4 rfl (sx 5 rfl (sx 10 rfl (sx 14 rfl (sx 26 rfl (sub_nil _)))))))) (.refl _) ?_
   refine hl_nil ?_
   refine hq_then ?_
   refine hc_false rfl ?_
   refine hc_skip ?_
   refine hq_block_normal ?_
   refine hq_then ?_
   refine hc_region ?_
   refine hl_v rfl rfl rfl (rv_ev rfl) ?_
   refine hl_v rfl rfl rfl (rv_add rfl rfl rfl (by constructor <;> omega)) ?_
   refine hl_v rfl rfl rfl (rv_ev rfl) ?_
   refine hl_less (sx 0 rfl (sx 1 rfl (sx 4 rfl (sx 5 rfl (sx 10 rfl (sx 14 rfl (sx 26 rfl (sub_nil _)))))))) (.refl _) ?_
   refine hl_nil ?_
   exact hq_round1 (j + 1) (by omega) (by omega) (sx 0 rfl (sx 1 rfl (sx 4 rfl (sx 5 rfl (sx 10 rfl (sub_nil _)))))) (.slnil)
 ·
  refine hl_less (sx 0 rfl (sx 1 rfl (sx 4 rfl (sx 5 rfl (sx 10 rfl (sx 14 rfl (sub_nil _))))))) (.refl _) ?_
  refine hl_nil ?_
  refine hq_then ?_
  refine hc_false rfl ?_
  refine hc_exit ?_
  refine hq_then_exit ?_
  refine hq_then_exit ?_
  refine hq_block_exit ?_
  refine hq_then ?_
  refine hc_seq ?_
  refine hc_region ?_
  refine hl_v rfl rfl rfl (rv_ev rfl) ?_
  refine hl_less (sx 0 rfl (sx 1 rfl (sx 4 rfl (sx 5 rfl (sx 10 rfl (sx 14 rfl (sub_nil _))))))) (.refl _) ?_
  refine hl_nil ?_
  refine hq_then ?_
  refine hc_ret ?_
  exact hq_ans rfl rfl rfl
set_option maxHeartbeats 4000000 in
set_option maxRecDepth 100000 in
theorem eqIntR_yes (ea eb : List IR) (u v : Value) (w : World) (ha : RdsIr w u ea) (hb : RdsIr w v eb) (hv : ea.map IR.xs = eb.map IR.xs) (hz : ea.length ≤ 1048576 ∧ ∀ s ∈ ea, s.xs.length ≤ 1048576) :
  Calls Try.prog 35 #[u, v] w (Ans w (.bool true)) := by
 have hlen := map_len hv
 obtain ⟨hz1, hz2⟩ := hz
 refine calls_hc (N := 27) (args := [u, v]) Try.func35 rfl rfl ?_
 refine hc_less _ (sx 0 rfl (sx 1 rfl (sub_nil _))) (.refl _) ?_
 refine hc_seq ?_
 refine hc_region ?_
 refine hl_v rfl rfl rfl (rv_ev rfl) ?_
 refine hl_less (sx 0 rfl (sx 1 rfl (sx 4 rfl (sub_nil _)))) (.refl _) ?_
 refine hl_nil ?_
 refine hq_then ?_
 refine hc_seq ?_
 refine hc_seq ?_
 refine hc_region ?_
 refine hl_v rfl rfl rfl (rv_ev rfl) ?_
 refine hl_v rfl rfl rfl (rv_len rfl Try.underlying27 rfl (rd_old ((ha).row))) ?_
 refine hl_v rfl rfl rfl (rv_ev rfl) ?_
 refine hl_v rfl rfl rfl (rv_len rfl Try.underlying27 rfl (rd_old ((hb).row))) ?_
 refine hl_neq rfl rfl rfl rfl rfl rfl (fun h1 => absurd h1 (by omega)) (fun h1 => ?_)
 refine hl_less (sx 0 rfl (sx 1 rfl (sx 4 rfl (sx 10 rfl (sub_nil _))))) (.refl _) ?_
 refine hl_nil ?_
 refine hq_then ?_
 refine hc_false rfl ?_
 refine hc_skip ?_
 refine hq_then ?_
 refine hc_seq ?_
 refine hc_seq ?_
 refine hc_region ?_
 refine hl_v rfl rfl rfl (rv_ev rfl) ?_
 refine hl_less (sx 0 rfl (sx 1 rfl (sx 4 rfl (sx 5 rfl (sx 10 rfl (sub_nil _)))))) (.refl _) ?_
 refine hl_nil ?_
 refine hq_then ?_
 refine hc_block ?_
 refine hc_loop1 (α := Nat) (fun j => []) (fun j => [(0, u), (1, v), (4, .bool false), (5, .int .i64 (j : Int)), (10, .bool false)]) (fun j => j ≤ ea.length) (fun j => ea.length - j) 0 (Nat.zero_le _) (sx 0 rfl (sx 1 rfl (sx 4 rfl (sx 5 rfl (sx 10 rfl (sub_nil _)))))) (.slnil) ?_
 intro j hi2
 have hj := hi2
 refine hc_seq ?_
 refine hc_seq ?_
 refine hc_region ?_
 refine hl_v rfl rfl rfl (rv_ev rfl) ?_
 refine hl_v rfl rfl rfl (rv_ev rfl) ?_
 refine hl_v rfl rfl rfl (rv_len rfl Try.underlying27 rfl (rd_old ((ha).row))) ?_
 refine hl_lss rfl rfl rfl rfl rfl rfl (fun h3 => ?_) (fun h3 => ?_)
 ·
  refine hl_less (sx 0 rfl (sx 1 rfl (sx 4 rfl (sx 5 rfl (sx 10 rfl (sx 14 rfl (sub_nil _))))))) (.refl _) ?_
  refine hl_nil ?_
  refine hq_then ?_
  refine hc_true rfl ?_
  refine hc_skip ?_
  refine hq_then ?_
  refine hc_seq ?_
  refine hc_block ?_
  refine hc_seq ?_
  have hel := hz2 _ (getD_memX (d := ir0) (show j < ea.length by omega))
  have hevj := map_getD hv j ir0
  have hb4 : (decide ((ea.getD j ir0).xs = (eb.getD j ir0).xs)) = true := (decide_eq_true (by first | rfl | assumption | (symm; assumption)))
  refine hc_draw (by kernel_rfl) 10 [0, 1, 2, 3, 4, 5, 6, 7, 8, 9] (List.take 10 _) (List.drop 10 _) [[], [], [0, 1], [2], [], [], [4, 5], [6], [3, 7], [8]] [17, 18, 19, 20, 21, 22, 23, 24, 25, 26] (fun i_ vs_ v_ p_ => match i_ with | 0 => v_ = u ∧ p_ = [] | 1 => v_ = .int .i64 (j : Int) ∧ p_ = [] | 2 => v_ = elP u (((j : Int)).toNat * 1) ∧ p_ = [] | 3 => v_ = (ea.getD j ir0).v ∧ p_ = [] | 4 => v_ = v ∧ p_ = [] | 5 => v_ = .int .i64 (j : Int) ∧ p_ = [] | 6 => v_ = elP v (((j : Int)).toNat * 1) ∧ p_ = [] | 7 => v_ = (eb.getD j ir0).v ∧ p_ = [] | 8 => v_ = .bool true ∧ p_ = [] | 9 => v_ = .bool false ∧ p_ = [] | _ => True) (List.take_append_drop 10 _).symm (by kernel_rfl) (by kernel_rfl) rfl rfl ?_ ?_
  ·
   refine ⟨?_, ?_, ?_, ?_, ?_, ?_, ?_, ?_, ?_, ?_, trivial⟩
   ·
    intro vf pf hR
    refine Or.inl ⟨rfl, ?_⟩
    refine rq_less (sx 0 rfl (sub_nil _)) (List.sublist_append_right _ _) ?_
    exact rq_v (rv_ev rfl)
   ·
    intro vf pf hR
    refine Or.inl ⟨rfl, ?_⟩
    refine rq_less (sx 5 rfl (sub_nil _)) (List.sublist_append_right _ _) ?_
    exact rq_v (rv_ev rfl)
   ·
    intro vf pf hR
    have e0 : (vf 0) = u ∧ (pf 0) = [] := hR 0 (by decide)
    have e1 : (vf 1) = .int .i64 (j : Int) ∧ (pf 1) = [] := hR 1 (by decide)
    refine Or.inl ⟨rfl, ?_⟩
    refine rq_less (sx 17 (congrArg some e0.1) (sx 18 (congrArg some e1.1) (sub_nil _))) (List.sublist_append_right _ _) ?_
    exact rq_v (rv_index (s := 1) rfl Try.underlying27 (by kernel_rfl) rfl rfl (rd_old ((ha).row)) (by omega) (by first | omega | (simp only [List.length_set]; omega)))
   ·
    intro vf pf hR
    have e2 : (vf 2) = elP u (((j : Int)).toNat * 1) ∧ (pf 2) = [] := hR 2 (by decide)
    refine Or.inl ⟨rfl, ?_⟩
    refine rq_less (sx 19 (congrArg some e2.1) (sub_nil _)) (List.sublist_append_right _ _) ?_
    exact rq_v (rv_loadEl (u := (ea.getD j ir0).v) rfl (by kernel_rfl) rfl (rd_old ((ha).row)) (flat_one irC (fun r => r.v) (fun _ => rfl) ea ir0 (show j < _ by first | omega | (simp only [List.length_set]; omega))))
   ·
    intro vf pf hR
    refine Or.inl ⟨rfl, ?_⟩
    refine rq_less (sx 1 rfl (sub_nil _)) (List.sublist_append_right _ _) ?_
    exact rq_v (rv_ev rfl)
   ·
    intro vf pf hR
    refine Or.inl ⟨rfl, ?_⟩
    refine rq_less (sx 5 rfl (sub_nil _)) (List.sublist_append_right _ _) ?_
    exact rq_v (rv_ev rfl)
   ·
    intro vf pf hR
    have e4 : (vf 4) = v ∧ (pf 4) = [] := hR 4 (by decide)
    have e5 : (vf 5) = .int .i64 (j : Int) ∧ (pf 5) = [] := hR 5 (by decide)
    refine Or.inl ⟨rfl, ?_⟩
    refine rq_less (sx 21 (congrArg some e4.1) (sx 22 (congrArg some e5.1) (sub_nil _))) (List.sublist_append_right _ _) ?_
    exact rq_v (rv_index (s := 1) rfl Try.underlying27 (by kernel_rfl) rfl rfl (rd_old ((hb).row)) (by omega) (by first | omega | (simp only [List.length_set]; omega)))
   ·
    intro vf pf hR
    have e6 : (vf 6) = elP v (((j : Int)).toNat * 1) ∧ (pf 6) = [] := hR 6 (by decide)
    refine Or.inl ⟨rfl, ?_⟩
    refine rq_less (sx 23 (congrArg some e6.1) (sub_nil _)) (List.sublist_append_right _ _) ?_
    exact rq_v (rv_loadEl (u := (eb.getD j ir0).v) rfl (by kernel_rfl) rfl (rd_old ((hb).row)) (flat_one irC (fun r => r.v) (fun _ => rfl) eb ir0 (show j < _ by first | omega | (simp only [List.length_set]; omega))))
   ·
    intro vf pf hR
    have e3 : (vf 3) = (ea.getD j ir0).v ∧ (pf 3) = [] := hR 3 (by decide)
    have e7 : (vf 7) = (eb.getD j ir0).v ∧ (pf 7) = [] := hR 7 (by decide)
    refine Or.inl ⟨rfl, ?_⟩
    refine rq_less (sx 20 (congrArg some e3.1) (sx 24 (congrArg some e7.1) (sub_nil _))) (List.sublist_append_right _ _) ?_
    exact rq_mono (rq_call (by kernel_rfl) rfl (fun w hm => ret_ans (eqIntS_ans ((ea.getD j ir0).xs) ((eb.getD j ir0).xs) _ _ w ((rd_old ((ha).at (d := ir0) (k := j) (by omega))) w hm) ((rd_old ((hb).at (d := ir0) (k := j) (by omega))) w hm) (by omega)))) (fun _ _ h => ⟨h.1.trans (congrArg Value.bool hb4), h.2⟩)
   ·
    intro vf pf hR
    have e8 : (vf 8) = .bool true ∧ (pf 8) = [] := hR 8 (by decide)
    refine Or.inl ⟨rfl, ?_⟩
    refine rq_less (sx 25 (congrArg some e8.1) (sub_nil _)) (List.sublist_append_right _ _) ?_
    exact rq_v (rv_ev rfl)
  ·
   intro vf pf hR
   have e9 : (vf 9) = .bool false ∧ (pf 9) = [] := hR 9 (by decide)
   refine hl_less (l' := []) (sx 0 rfl (sx 1 rfl (sx 4 rfl (sx 5 rfl (sx 10 rfl (sx 14 rfl (sx 26 (congrArg some e9.1) (sub_nil _)))))))) (List.sublist_append_right _ _) ?_
   simp only [List.drop_succ_cons, List.drop_zero]
   refine hl_less (sx 0 rfl (sx 1 rfl (sx 4 rfl (sx 5 rfl (sx 10 rfl (sx 14 rfl (sx 26 rfl (sub_nil _)))))))) (.refl _) ?_
   refine hl_nil ?_
   refine hq_then ?_
   refine hc_false rfl ?_
   refine hc_skip ?_
   refine hq_block_normal ?_
   refine hq_then ?_
   refine hc_region ?_
   refine hl_v rfl rfl rfl (rv_ev rfl) ?_
   refine hl_v rfl rfl rfl (rv_add rfl rfl rfl (by constructor <;> omega)) ?_
   refine hl_v rfl rfl rfl (rv_ev rfl) ?_
   refine hl_less (sx 0 rfl (sx 1 rfl (sx 4 rfl (sx 5 rfl (sx 10 rfl (sx 14 rfl (sx 26 rfl (sub_nil _)))))))) (.refl _) ?_
   refine hl_nil ?_
   exact hq_round1 (j + 1) (by omega) (by omega) (sx 0 rfl (sx 1 rfl (sx 4 rfl (sx 5 rfl (sx 10 rfl (sub_nil _)))))) (.slnil)
 ·
  refine hl_less (sx 0 rfl (sx 1 rfl (sx 4 rfl (sx 5 rfl (sx 10 rfl (sx 14 rfl (sub_nil _))))))) (.refl _) ?_
  refine hl_nil ?_
  refine hq_then ?_
  refine hc_false rfl ?_
  refine hc_exit ?_
  refine hq_then_exit ?_
  refine hq_then_exit ?_
  refine hq_block_exit ?_
  refine hq_then ?_
  refine hc_seq ?_
  refine hc_region ?_
  refine hl_v rfl rfl rfl (rv_ev rfl) ?_
  refine hl_less (sx 0 rfl (sx 1 rfl (sx 4 rfl (sx 5 rfl (sx 10 rfl (sx 14 rfl (sub_nil _))))))) (.refl _) ?_
  refine hl_nil ?_
  refine hq_then ?_
  refine hc_ret ?_
  exact hq_ans rfl rfl rfl
set_option maxHeartbeats 4000000 in
set_option maxRecDepth 100000 in
theorem eqDelays_yes (a b : Td) (w : World) (ha : RdsTd w a) (hb : RdsTd w b) (hs : Same b a) (hz : SzTd a) :
  Calls Try.prog 52 #[.agg #[a.pv, a.qv], .agg #[b.pv, b.qv]] w (Ans w (.bool true)) := by
 have z1 := hz.os
 have z2 := hz.ks
 have z3 := hz.ao
 have z4 := hz.bs
 have q1 := hs.ins
 have q2 := hs.os
 have q3 := hs.ks
 have q4 := hs.ao
 have q5 := hs.bs
 have q6 := hs.oi
 have q7 := hs.ni
 refine calls_hc (N := 17) (args := [.agg #[a.pv, a.qv], .agg #[b.pv, b.qv]]) Try.func52 rfl rfl ?_
 refine hc_less _ (sx 0 rfl (sx 1 rfl (sub_nil _))) (.refl _) ?_
 refine hc_seq ?_
 refine hc_region ?_
 refine hl_box rfl rfl rfl (rq_box rfl rfl) ?_
 intro b1
 refine hl_box rfl rfl rfl (rq_box rfl rfl) ?_
 intro b2
 refine hl_v rfl rfl rfl (rv_ev rfl) ?_
 refine hl_less (sx 0 rfl (sx 1 rfl (sx 2 rfl (sx 3 rfl (sx 4 rfl (sub_nil _)))))) (.refl _) ?_
 refine hl_nil ?_
 refine hq_then ?_
 refine hc_seq ?_
 refine hc_seq ?_
 refine hc_region ?_
 refine hl_v rfl rfl rfl (rv_field (k0 := 0) rfl (by kernel_rfl) rfl) ?_
 refine hl_v rfl rfl rfl (rv_load rfl (by kernel_rfl) rfl (box_cell 1 rfl rfl)) ?_
 refine hl_v rfl rfl rfl (rv_field (k0 := 0) rfl (by kernel_rfl) rfl) ?_
 refine hl_v rfl rfl rfl (rv_load rfl (by kernel_rfl) rfl (box_cell 0 rfl rfl)) ?_
 refine hl_callV rfl rfl rfl (rq_call (by kernel_rfl) rfl (fun w hm => ret_ans (eqIntR_yes _ _ _ _ w (ha.dl.below hm.bel) (hb.dl.below hm.bel) hs.dl hz.dl))) ?_
 refine hl_v rfl rfl rfl (rv_ev rfl) ?_
 refine hl_less (sx 0 rfl (sx 1 rfl (sx 2 rfl (sx 3 rfl (sx 4 rfl (sx 10 rfl (sub_nil _))))))) (.refl _) ?_
 refine hl_nil ?_
 refine hq_then ?_
 refine hc_false rfl ?_
 refine hc_skip ?_
 refine hq_then ?_
 refine hc_seq ?_
 refine hc_seq ?_
 refine hc_region ?_
 refine hl_v rfl rfl rfl (rv_field (k0 := 1) rfl (by kernel_rfl) rfl) ?_
 refine hl_v rfl rfl rfl (rv_load rfl (by kernel_rfl) rfl (box_cell 1 rfl rfl)) ?_
 refine hl_v rfl rfl rfl (rv_field (k0 := 1) rfl (by kernel_rfl) rfl) ?_
 refine hl_v rfl rfl rfl (rv_load rfl (by kernel_rfl) rfl (box_cell 0 rfl rfl)) ?_
 refine hl_callV rfl rfl rfl (rq_call (by kernel_rfl) rfl (fun w hm => ret_ans (eqIntR_yes _ _ _ _ w (ha.ds.below hm.bel) (hb.ds.below hm.bel) hs.ds hz.ds))) ?_
 refine hl_v rfl rfl rfl (rv_ev rfl) ?_
 refine hl_less (sx 0 rfl (sx 1 rfl (sx 2 rfl (sx 3 rfl (sx 4 rfl (sx 10 rfl (sx 16 rfl (sub_nil _)))))))) (.refl _) ?_
 refine hl_nil ?_
 refine hq_then ?_
 refine hc_false rfl ?_
 refine hc_skip ?_
 refine hq_then ?_
 refine hc_seq ?_
 refine hc_region ?_
 refine hl_v rfl rfl rfl (rv_ev rfl) ?_
 refine hl_less (sx 0 rfl (sx 1 rfl (sx 2 rfl (sx 3 rfl (sx 4 rfl (sx 10 rfl (sx 16 rfl (sub_nil _)))))))) (.refl _) ?_
 refine hl_nil ?_
 refine hq_then ?_
 refine hc_ret ?_
 exact hq_ans rfl rfl rfl
set_option maxHeartbeats 4000000 in
set_option maxRecDepth 100000 in
theorem eqLutNet_yes (a b : Td) (w : World) (ha : RdsTd w a) (hb : RdsTd w b) (hs : Same b a) (hz : SzTd a) :
  Calls Try.prog 51 #[.agg #[.int .i64 a.n.ins, a.n.sv, a.n.lv, a.n.ov], .agg #[.int .i64 b.n.ins, b.n.sv, b.n.lv, b.n.ov]] w (Ans w (.bool true)) := by
 have z1 := hz.os
 have z2 := hz.ks
 have z3 := hz.ao
 have z4 := hz.bs
 have q1 := hs.ins
 have q2 := hs.os
 have q3 := hs.ks
 have q4 := hs.ao
 have q5 := hs.bs
 have q6 := hs.oi
 have q7 := hs.ni
 refine calls_hc (N := 28) (args := [.agg #[.int .i64 a.n.ins, a.n.sv, a.n.lv, a.n.ov], .agg #[.int .i64 b.n.ins, b.n.sv, b.n.lv, b.n.ov]]) Try.func51 rfl rfl ?_
 refine hc_less _ (sx 0 rfl (sx 1 rfl (sub_nil _))) (.refl _) ?_
 refine hc_seq ?_
 refine hc_region ?_
 refine hl_box rfl rfl rfl (rq_box rfl rfl) ?_
 intro b1
 refine hl_box rfl rfl rfl (rq_box rfl rfl) ?_
 intro b2
 refine hl_v rfl rfl rfl (rv_ev rfl) ?_
 refine hl_less (sx 0 rfl (sx 1 rfl (sx 2 rfl (sx 3 rfl (sx 4 rfl (sub_nil _)))))) (.refl _) ?_
 refine hl_nil ?_
 refine hq_then ?_
 refine hc_seq ?_
 refine hc_seq ?_
 refine hc_region ?_
 refine hl_v rfl rfl rfl (rv_field (k0 := 0) rfl (by kernel_rfl) rfl) ?_
 refine hl_v rfl rfl rfl (rv_load rfl (by kernel_rfl) rfl (box_cell 1 rfl rfl)) ?_
 refine hl_v rfl rfl rfl (rv_field (k0 := 0) rfl (by kernel_rfl) rfl) ?_
 refine hl_v rfl rfl rfl (rv_load rfl (by kernel_rfl) rfl (box_cell 0 rfl rfl)) ?_
 refine hl_neq rfl rfl rfl rfl rfl rfl (fun h3 => absurd h3 (by omega)) (fun h3 => ?_)
 refine hl_less (sx 0 rfl (sx 1 rfl (sx 2 rfl (sx 3 rfl (sx 4 rfl (sx 9 rfl (sub_nil _))))))) (.refl _) ?_
 refine hl_nil ?_
 refine hq_then ?_
 refine hc_false rfl ?_
 refine hc_skip ?_
 refine hq_then ?_
 refine hc_seq ?_
 refine hc_seq ?_
 refine hc_region ?_
 refine hl_v rfl rfl rfl (rv_field (k0 := 1) rfl (by kernel_rfl) rfl) ?_
 refine hl_v rfl rfl rfl (rv_load rfl (by kernel_rfl) rfl (box_cell 1 rfl rfl)) ?_
 refine hl_v rfl rfl rfl (rv_field (k0 := 1) rfl (by kernel_rfl) rfl) ?_
 refine hl_v rfl rfl rfl (rv_load rfl (by kernel_rfl) rfl (box_cell 0 rfl rfl)) ?_
 refine hl_callV rfl rfl rfl (rq_call (by kernel_rfl) rfl (fun w hm => ret_ans (eqSeqR_yes _ _ _ _ w (ha.n.sq.below hm.bel) (hb.n.sq.below hm.bel) hs.ss hz.ss))) ?_
 refine hl_v rfl rfl rfl (rv_ev rfl) ?_
 refine hl_less (sx 0 rfl (sx 1 rfl (sx 2 rfl (sx 3 rfl (sx 4 rfl (sx 9 rfl (sx 15 rfl (sub_nil _)))))))) (.refl _) ?_
 refine hl_nil ?_
 refine hq_then ?_
 refine hc_false rfl ?_
 refine hc_skip ?_
 refine hq_then ?_
 refine hc_seq ?_
 refine hc_seq ?_
 refine hc_region ?_
 refine hl_v rfl rfl rfl (rv_field (k0 := 2) rfl (by kernel_rfl) rfl) ?_
 refine hl_v rfl rfl rfl (rv_load rfl (by kernel_rfl) rfl (box_cell 1 rfl rfl)) ?_
 refine hl_v rfl rfl rfl (rv_field (k0 := 2) rfl (by kernel_rfl) rfl) ?_
 refine hl_v rfl rfl rfl (rv_load rfl (by kernel_rfl) rfl (box_cell 0 rfl rfl)) ?_
 refine hl_callV rfl rfl rfl (rq_call (by kernel_rfl) rfl (fun w hm => ret_ans (eqLutR_yes _ _ _ _ w (ha.n.lt.below hm.bel) (hb.n.lt.below hm.bel) hs.ls hz.ls))) ?_
 refine hl_v rfl rfl rfl (rv_ev rfl) ?_
 refine hl_less (sx 0 rfl (sx 1 rfl (sx 2 rfl (sx 3 rfl (sx 4 rfl (sx 9 rfl (sx 15 rfl (sx 21 rfl (sub_nil _))))))))) (.refl _) ?_
 refine hl_nil ?_
 refine hq_then ?_
 refine hc_false rfl ?_
 refine hc_skip ?_
 refine hq_then ?_
 refine hc_seq ?_
 refine hc_seq ?_
 refine hc_region ?_
 refine hl_v rfl rfl rfl (rv_field (k0 := 3) rfl (by kernel_rfl) rfl) ?_
 refine hl_v rfl rfl rfl (rv_load rfl (by kernel_rfl) rfl (box_cell 1 rfl rfl)) ?_
 refine hl_v rfl rfl rfl (rv_field (k0 := 3) rfl (by kernel_rfl) rfl) ?_
 refine hl_v rfl rfl rfl (rv_load rfl (by kernel_rfl) rfl (box_cell 0 rfl rfl)) ?_
 refine hl_callV rfl rfl rfl (rq_call (by kernel_rfl) rfl (fun w hm => ret_ans (eqIntS_ans a.n.os b.n.os _ _ w ((rd_old ((ha).n.ou)) w hm) ((rd_old ((hb).n.ou)) w hm) (by omega)))) ?_
 refine hl_bool (fun h4 => ?_) (fun h4 => absurd (((decide_eq_true (by first | rfl | assumption | (symm; assumption)))).symm.trans h4) (by decide))
 refine hl_v rfl rfl rfl (rv_ev rfl) ?_
 refine hl_less (sx 0 rfl (sx 1 rfl (sx 2 rfl (sx 3 rfl (sx 4 rfl (sx 9 rfl (sx 15 rfl (sx 21 rfl (sx 27 rfl (sub_nil _)))))))))) (.refl _) ?_
 refine hl_nil ?_
 refine hq_then ?_
 refine hc_false rfl ?_
 refine hc_skip ?_
 refine hq_then ?_
 refine hc_seq ?_
 refine hc_region ?_
 refine hl_v rfl rfl rfl (rv_ev rfl) ?_
 refine hl_less (sx 0 rfl (sx 1 rfl (sx 2 rfl (sx 3 rfl (sx 4 rfl (sx 9 rfl (sx 15 rfl (sx 21 rfl (sx 27 rfl (sub_nil _)))))))))) (.refl _) ?_
 refine hl_nil ?_
 refine hq_then ?_
 refine hc_ret ?_
 exact hq_ans rfl rfl rfl
set_option maxHeartbeats 4000000 in
set_option maxRecDepth 100000 in
theorem eqTimed_yes (a b : Td) (w : World) (ha : RdsTd w a) (hb : RdsTd w b) (hs : Same b a) (hz : SzTd a) :
  Calls Try.prog 14 #[.agg #[.int .i64 a.n.ins, a.n.sv, a.n.lv, a.n.ov, a.pv, a.qv, a.kv, a.av, a.bv, .int .i64 a.oi, .int .i64 a.ni], .agg #[.int .i64 b.n.ins, b.n.sv, b.n.lv, b.n.ov, b.pv, b.qv, b.kv, b.av, b.bv, .int .i64 b.oi, .int .i64 b.ni]] w (Ans w (.bool true)) := by
 have z1 := hz.os
 have z2 := hz.ks
 have z3 := hz.ao
 have z4 := hz.bs
 have q1 := hs.ins
 have q2 := hs.os
 have q3 := hs.ks
 have q4 := hs.ao
 have q5 := hs.bs
 have q6 := hs.oi
 have q7 := hs.ni
 refine calls_hc (N := 45) (args := [.agg #[.int .i64 a.n.ins, a.n.sv, a.n.lv, a.n.ov, a.pv, a.qv, a.kv, a.av, a.bv, .int .i64 a.oi, .int .i64 a.ni], .agg #[.int .i64 b.n.ins, b.n.sv, b.n.lv, b.n.ov, b.pv, b.qv, b.kv, b.av, b.bv, .int .i64 b.oi, .int .i64 b.ni]]) Try.func14 rfl rfl ?_
 refine hc_less _ (sx 0 rfl (sx 1 rfl (sub_nil _))) (.refl _) ?_
 refine hc_seq ?_
 refine hc_region ?_
 refine hl_box rfl rfl rfl (rq_box rfl rfl) ?_
 intro b1
 refine hl_box rfl rfl rfl (rq_box rfl rfl) ?_
 intro b2
 refine hl_v rfl rfl rfl (rv_ev rfl) ?_
 refine hl_less (sx 0 rfl (sx 1 rfl (sx 2 rfl (sx 3 rfl (sx 4 rfl (sub_nil _)))))) (.refl _) ?_
 refine hl_nil ?_
 refine hq_then ?_
 refine hc_seq ?_
 refine hc_seq ?_
 refine hc_region ?_
 refine hl_v rfl rfl rfl (rv_field (k0 := 0) rfl (by kernel_rfl) rfl) ?_
 refine hl_v rfl rfl rfl (rv_loadN (cs := [.int .i64 a.n.ins, a.n.sv, a.n.lv, a.n.ov]) rfl (by kernel_rfl) (by kernel_rfl) rfl rfl (box_part 1 rfl 0 rfl)) ?_
 refine hl_v rfl rfl rfl (rv_field (k0 := 0) rfl (by kernel_rfl) rfl) ?_
 refine hl_v rfl rfl rfl (rv_loadN (cs := [.int .i64 b.n.ins, b.n.sv, b.n.lv, b.n.ov]) rfl (by kernel_rfl) (by kernel_rfl) rfl rfl (box_part 0 rfl 0 rfl)) ?_
 refine hl_callV rfl rfl rfl (rq_call (by kernel_rfl) rfl (fun w hm => ret_ans (eqLutNet_yes a b w (ha.below hm.bel) (hb.below hm.bel) hs hz))) ?_
 refine hl_v rfl rfl rfl (rv_ev rfl) ?_
 refine hl_less (sx 0 rfl (sx 1 rfl (sx 2 rfl (sx 3 rfl (sx 4 rfl (sx 10 rfl (sub_nil _))))))) (.refl _) ?_
 refine hl_nil ?_
 refine hq_then ?_
 refine hc_false rfl ?_
 refine hc_skip ?_
 refine hq_then ?_
 refine hc_seq ?_
 refine hc_seq ?_
 refine hc_region ?_
 refine hl_v rfl rfl rfl (rv_field (k0 := 4) rfl (by kernel_rfl) rfl) ?_
 refine hl_v rfl rfl rfl (rv_loadN (cs := [a.pv, a.qv]) rfl (by kernel_rfl) (by kernel_rfl) rfl rfl (box_part 1 rfl 4 rfl)) ?_
 refine hl_v rfl rfl rfl (rv_field (k0 := 4) rfl (by kernel_rfl) rfl) ?_
 refine hl_v rfl rfl rfl (rv_loadN (cs := [b.pv, b.qv]) rfl (by kernel_rfl) (by kernel_rfl) rfl rfl (box_part 0 rfl 4 rfl)) ?_
 refine hl_callV rfl rfl rfl (rq_call (by kernel_rfl) rfl (fun w hm => ret_ans (eqDelays_yes a b w (ha.below hm.bel) (hb.below hm.bel) hs hz))) ?_
 refine hl_v rfl rfl rfl (rv_ev rfl) ?_
 refine hl_less (sx 0 rfl (sx 1 rfl (sx 2 rfl (sx 3 rfl (sx 4 rfl (sx 10 rfl (sx 16 rfl (sub_nil _)))))))) (.refl _) ?_
 refine hl_nil ?_
 refine hq_then ?_
 refine hc_false rfl ?_
 refine hc_skip ?_
 refine hq_then ?_
 refine hc_seq ?_
 refine hc_seq ?_
 refine hc_region ?_
 refine hl_v rfl rfl rfl (rv_field (k0 := 6) rfl (by kernel_rfl) rfl) ?_
 refine hl_v rfl rfl rfl (rv_load rfl (by kernel_rfl) rfl (box_cell 1 rfl rfl)) ?_
 refine hl_v rfl rfl rfl (rv_field (k0 := 6) rfl (by kernel_rfl) rfl) ?_
 refine hl_v rfl rfl rfl (rv_load rfl (by kernel_rfl) rfl (box_cell 0 rfl rfl)) ?_
 refine hl_callV rfl rfl rfl (rq_call (by kernel_rfl) rfl (fun w hm => ret_ans (eqIntS_ans a.ks b.ks _ _ w ((rd_old ((ha).ks)) w hm) ((rd_old ((hb).ks)) w hm) (by omega)))) ?_
 refine hl_bool (fun h3 => ?_) (fun h3 => absurd (((decide_eq_true (by first | rfl | assumption | (symm; assumption)))).symm.trans h3) (by decide))
 refine hl_v rfl rfl rfl (rv_ev rfl) ?_
 refine hl_less (sx 0 rfl (sx 1 rfl (sx 2 rfl (sx 3 rfl (sx 4 rfl (sx 10 rfl (sx 16 rfl (sx 22 rfl (sub_nil _))))))))) (.refl _) ?_
 refine hl_nil ?_
 refine hq_then ?_
 refine hc_false rfl ?_
 refine hc_skip ?_
 refine hq_then ?_
 refine hc_seq ?_
 refine hc_seq ?_
 refine hc_region ?_
 refine hl_v rfl rfl rfl (rv_field (k0 := 7) rfl (by kernel_rfl) rfl) ?_
 refine hl_v rfl rfl rfl (rv_load rfl (by kernel_rfl) rfl (box_cell 1 rfl rfl)) ?_
 refine hl_v rfl rfl rfl (rv_field (k0 := 7) rfl (by kernel_rfl) rfl) ?_
 refine hl_v rfl rfl rfl (rv_load rfl (by kernel_rfl) rfl (box_cell 0 rfl rfl)) ?_
 refine hl_callV rfl rfl rfl (rq_call (by kernel_rfl) rfl (fun w hm => ret_ans (eqIntS_ans a.ao b.ao _ _ w ((rd_old ((ha).ao)) w hm) ((rd_old ((hb).ao)) w hm) (by omega)))) ?_
 refine hl_bool (fun h4 => ?_) (fun h4 => absurd (((decide_eq_true (by first | rfl | assumption | (symm; assumption)))).symm.trans h4) (by decide))
 refine hl_v rfl rfl rfl (rv_ev rfl) ?_
 refine hl_less (sx 0 rfl (sx 1 rfl (sx 2 rfl (sx 3 rfl (sx 4 rfl (sx 10 rfl (sx 16 rfl (sx 22 rfl (sx 28 rfl (sub_nil _)))))))))) (.refl _) ?_
 refine hl_nil ?_
 refine hq_then ?_
 refine hc_false rfl ?_
 refine hc_skip ?_
 refine hq_then ?_
 refine hc_seq ?_
 refine hc_seq ?_
 refine hc_region ?_
 refine hl_v rfl rfl rfl (rv_field (k0 := 8) rfl (by kernel_rfl) rfl) ?_
 refine hl_v rfl rfl rfl (rv_load rfl (by kernel_rfl) rfl (box_cell 1 rfl rfl)) ?_
 refine hl_v rfl rfl rfl (rv_field (k0 := 8) rfl (by kernel_rfl) rfl) ?_
 refine hl_v rfl rfl rfl (rv_load rfl (by kernel_rfl) rfl (box_cell 0 rfl rfl)) ?_
 refine hl_callV rfl rfl rfl (rq_call (by kernel_rfl) rfl (fun w hm => ret_ans (eqIntS_ans a.bs b.bs _ _ w ((rd_old ((ha).bs)) w hm) ((rd_old ((hb).bs)) w hm) (by omega)))) ?_
 refine hl_bool (fun h5 => ?_) (fun h5 => absurd (((decide_eq_true (by first | rfl | assumption | (symm; assumption)))).symm.trans h5) (by decide))
 refine hl_v rfl rfl rfl (rv_ev rfl) ?_
 refine hl_less (sx 0 rfl (sx 1 rfl (sx 2 rfl (sx 3 rfl (sx 4 rfl (sx 10 rfl (sx 16 rfl (sx 22 rfl (sx 28 rfl (sx 34 rfl (sub_nil _))))))))))) (.refl _) ?_
 refine hl_nil ?_
 refine hq_then ?_
 refine hc_false rfl ?_
 refine hc_skip ?_
 refine hq_then ?_
 refine hc_seq ?_
 refine hc_seq ?_
 refine hc_region ?_
 refine hl_v rfl rfl rfl (rv_field (k0 := 9) rfl (by kernel_rfl) rfl) ?_
 refine hl_v rfl rfl rfl (rv_load rfl (by kernel_rfl) rfl (box_cell 1 rfl rfl)) ?_
 refine hl_v rfl rfl rfl (rv_field (k0 := 9) rfl (by kernel_rfl) rfl) ?_
 refine hl_v rfl rfl rfl (rv_load rfl (by kernel_rfl) rfl (box_cell 0 rfl rfl)) ?_
 refine hl_neq rfl rfl rfl rfl rfl rfl (fun h6 => absurd h6 (by omega)) (fun h6 => ?_)
 refine hl_less (sx 0 rfl (sx 1 rfl (sx 2 rfl (sx 3 rfl (sx 4 rfl (sx 10 rfl (sx 16 rfl (sx 22 rfl (sx 28 rfl (sx 34 rfl (sx 39 rfl (sub_nil _)))))))))))) (.refl _) ?_
 refine hl_nil ?_
 refine hq_then ?_
 refine hc_false rfl ?_
 refine hc_skip ?_
 refine hq_then ?_
 refine hc_seq ?_
 refine hc_seq ?_
 refine hc_region ?_
 refine hl_v rfl rfl rfl (rv_field (k0 := 10) rfl (by kernel_rfl) rfl) ?_
 refine hl_v rfl rfl rfl (rv_load rfl (by kernel_rfl) rfl (box_cell 1 rfl rfl)) ?_
 refine hl_v rfl rfl rfl (rv_field (k0 := 10) rfl (by kernel_rfl) rfl) ?_
 refine hl_v rfl rfl rfl (rv_load rfl (by kernel_rfl) rfl (box_cell 0 rfl rfl)) ?_
 refine hl_neq rfl rfl rfl rfl rfl rfl (fun h7 => absurd h7 (by omega)) (fun h7 => ?_)
 refine hl_less (sx 0 rfl (sx 1 rfl (sx 2 rfl (sx 3 rfl (sx 4 rfl (sx 10 rfl (sx 16 rfl (sx 22 rfl (sx 28 rfl (sx 34 rfl (sx 39 rfl (sx 44 rfl (sub_nil _))))))))))))) (.refl _) ?_
 refine hl_nil ?_
 refine hq_then ?_
 refine hc_false rfl ?_
 refine hc_skip ?_
 refine hq_then ?_
 refine hc_seq ?_
 refine hc_region ?_
 refine hl_v rfl rfl rfl (rv_ev rfl) ?_
 refine hl_less (sx 0 rfl (sx 1 rfl (sx 2 rfl (sx 3 rfl (sx 4 rfl (sx 10 rfl (sx 16 rfl (sx 22 rfl (sx 28 rfl (sx 34 rfl (sx 39 rfl (sx 44 rfl (sub_nil _))))))))))))) (.refl _) ?_
 refine hl_nil ?_
 refine hq_then ?_
 refine hc_ret ?_
 exact hq_ans rfl rfl rfl
open Go.RowKit
def pT (n : Int) : Nat := 2 ^ n.toNat
def qT (n : Int) : Int := 2 ^ (2 ^ n.toNat)
theorem fiveT {n : Int} (h : 0 ≤ n ∧ n ≤ 4) : n = 0 ∨ n = 1 ∨ n = 2 ∨ n = 3 ∨ n = 4 := by omega
theorem pT_rng {n : Int} (h : 0 ≤ n ∧ n ≤ 4) : 1 ≤ pT n ∧ pT n ≤ 16 := by
  rcases fiveT h with rfl | rfl | rfl | rfl | rfl <;> decide
theorem qT_rng {n : Int} (h : 0 ≤ n ∧ n ≤ 4) : 2 ≤ qT n ∧ qT n ≤ 65536 := by
  rcases fiveT h with rfl | rfl | rfl | rfl | rfl <;> decide
theorem wruT {n : Int} (h : 0 ≤ n ∧ n ≤ 4) : IntKind.u64.wrap (1 * 2 ^ n.toNat) = (pT n : Int) := by
  rcases fiveT h with rfl | rfl | rfl | rfl | rfl <;> exact IntWalk.u64_in _ (by decide)
theorem wrqT {n : Int} (h : 0 ≤ n ∧ n ≤ 4) : IntKind.i64.wrap (1 * 2 ^ ((pT n : Int)).toNat) = qT n := by
  rcases fiveT h with rfl | rfl | rfl | rfl | rfl <;> exact IntWalk.i64_in _ (by decide)
def TabP (n b : Int) : Prop := (0 ≤ n ∧ n ≤ 4) ∧ 0 ≤ b ∧ b ≤ qT n - 1
def BelowP (xs : List Int) (m : Int) : Prop := ∀ j, j < xs.length → 0 ≤ xs.getD j 0 ∧ xs.getD j 0 < m
def LiP (xs : List Int) (n m : Int) : Prop := (xs.length : Int) = n ∧ ∀ j, j < xs.length → 0 ≤ xs.getD j 0 ∧ xs.getD j 0 ≤ m
def Ln.fst (n : Ln) : Int := 1 + n.ins + n.ss.length
def Ln.cnt (n : Ln) : Int := 1 + n.ins + n.ss.length + n.ls.length
structure LnSz (n : Ln) : Prop where
  i : 0 ≤ n.ins ∧ n.ins ≤ 20
  s : n.ss.length ≤ 12
  l : n.ls.length ≤ 400
  o : n.os.length ≤ 16
noncomputable def lnN (n : Ln) : Int := if pB (LnSz n) = true then n.cnt else 0
theorem lnN_yes {n : Ln} (h : LnSz n) : lnN n = n.cnt := by unfold lnN; rw [if_pos (pB_yes h)]
theorem lnN_no {n : Ln} (h : ¬ LnSz n) : lnN n = 0 := by unfold lnN; rw [pB_no h]; rfl
theorem lnN_sz {n : Ln} (h : lnN n ≠ 0) : LnSz n := Classical.byContradiction fun hn => h (lnN_no hn)
theorem lnN_pos {n : Ln} (h : LnSz n) : lnN n ≠ 0 := by
  rw [lnN_yes h]; have := h.i; show 1 + n.ins + (n.ss.length : Int) + n.ls.length ≠ 0; omega
def LutP (f : Int) (l : Lt) : Prop := (l.xs.length ≤ 4 ∧ BelowP l.xs f) ∧ TabP l.xs.length l.ma
structure LnOk (n : Ln) : Prop where
  sz : LnSz n
  ou : BelowP n.os n.cnt
  sq : ∀ k, k < n.ss.length → SqOk (n.ss.getD k sq0) ∧ BelowP (n.ss.getD k sq0).xs n.cnt
  lt : ∀ i, i < n.ls.length → LutP (n.fst + i) (n.ls.getD i lt0)
def StR (kd v : Int) : Prop := 0 ≤ v ∧ v ≤ 31 ∧ (kd = 0 → v ≤ 1)
structure StP (n : Ln) (st : List Int) : Prop where
  len : st.length = n.ss.length
  rng : ∀ k, k < n.ss.length → StR (n.ss.getD k sq0).kd (st.getD k 0)
structure StAll (n : Ln) (st : List Int) : Prop where
  ok : LnOk n
  sp : StP n st
structure DlP (rs : List IR) (sz : List Int) : Prop where
  len : rs.length = sz.length
  el : ∀ i, i < rs.length → LiP (rs.getD i ir0).xs (sz.getD i 0) 100
structure TdOk (x : Td) : Prop where
  n : LnOk x.n
  a : StP x.n x.ao
  b : StP x.n x.bs
  k : LiP x.ks x.n.ss.length 50
  dn : x.dl.length = x.n.ls.length
  dl : ∀ i, i < x.n.ls.length → LiP (x.dl.getD i ir0).xs (x.n.ls.getD i lt0).xs.length 100
  sn : x.ds.length = x.n.ss.length
  ds : ∀ i, i < x.n.ss.length → LiP (x.ds.getD i ir0).xs (x.n.ss.getD i sq0).xs.length 100
/-- lengths of rows -/
def lensL {α : Type} (xs : α → List Int) (es : List α) (k : Nat) : List Int := (es.take k).map (fun e => ((xs e).length : Int))
theorem lensL_len {α : Type} (xs : α → List Int) {es : List α} {k : Nat} (h : k ≤ es.length) : (lensL xs es k).length = k := by simp [lensL]; omega
theorem lensL_succ {α : Type} (xs : α → List Int) {es : List α} {k : Nat} (d : α) (h : k < es.length) : lensL xs es k ++ [((xs (es.getD k d)).length : Int)] = lensL xs es (k + 1) := by
  unfold lensL; rw [take_snocG d h, List.map_append]; rfl
theorem lensL_at {α : Type} (xs : α → List Int) {es : List α} {i : Nat} (d : α) (h : i < es.length) : (lensL xs es es.length).getD i 0 = ((xs (es.getD i d)).length : Int) := by
  unfold lensL; rw [List.take_length]
  simp [h]
theorem dl_iff {α : Type} (xs : α → List Int) {rs : List IR} {es : List α} (d : α) : DlP rs (lensL xs es es.length) ↔ (rs.length = es.length ∧ ∀ i, i < es.length → LiP (rs.getD i ir0).xs ((xs (es.getD i d)).length : Int) 100) := by
  have hl := lensL_len xs (es := es) (Nat.le_refl _)
  constructor
  · intro h
    refine ⟨by rw [h.len, hl], fun i hi => ?_⟩
    have := h.el i (by rw [h.len, hl]; exact hi)
    rw [lensL_at xs d hi] at this; exact this
  · rintro ⟨h1, h2⟩
    refine ⟨by rw [hl, h1], fun i hi => ?_⟩
    rw [lensL_at xs d (by omega)]; exact h2 i (by omega)
theorem inR_notL {a b c : Int} (h : inR a b c = false) : ¬ (b ≤ a ∧ a ≤ c) := fun hh => by rw [(inR_iff _ _ _).2 hh] at h; cases h
set_option maxHeartbeats 4000000 in
set_option maxRecDepth 100000 in
theorem l01In_ans (x lo hi : Int) (w : World)  :
  Calls Try.prog 64 #[.int .i64 x, .int .i64 lo, .int .i64 hi] w (Ans w (.bool (inR x lo hi))) := by
 refine calls_hc (N := 15) (args := [.int .i64 x, .int .i64 lo, .int .i64 hi]) Try.func64 rfl rfl ?_
 refine hc_less _ (sx 0 rfl (sx 1 rfl (sx 2 rfl (sub_nil _)))) (.refl _) ?_
 refine hc_seq ?_
 refine hc_region ?_
 refine hl_v rfl rfl rfl (rv_ev rfl) ?_
 refine hl_less (sx 0 rfl (sx 1 rfl (sx 2 rfl (sx 6 rfl (sub_nil _))))) (.refl _) ?_
 refine hl_nil ?_
 refine hq_then ?_
 refine hc_seq ?_
 refine hc_region ?_
 refine hl_v rfl rfl rfl (rv_ev rfl) ?_
 refine hl_v rfl rfl rfl (rv_ev rfl) ?_
 refine hl_geq rfl rfl rfl rfl rfl rfl (fun h1 => ?_) (fun h1 => ?_)
 ·
  refine hl_v rfl rfl rfl (rv_ev rfl) ?_
  refine hl_v rfl rfl rfl (rv_ev rfl) ?_
  refine hl_v rfl rfl rfl (rv_ev rfl) ?_
  refine hl_leq rfl rfl rfl rfl rfl rfl (fun h2 => ?_) (fun h2 => ?_)
  ·
   refine hl_v rfl rfl rfl (rv_ev rfl) ?_
   refine hl_v rfl rfl rfl (rv_ev rfl) ?_
   refine hl_less (sx 0 rfl (sx 1 rfl (sx 2 rfl (sx 6 rfl (sub_nil _))))) (.refl _) ?_
   refine hl_nil ?_
   refine hq_then ?_
   refine hc_ret ?_
   exact hq_ans rfl rfl (congrArg _ (((inR_iff _ _ _).2 (by omega)).symm))
  ·
   refine hl_v rfl rfl rfl (rv_ev rfl) ?_
   refine hl_v rfl rfl rfl (rv_ev rfl) ?_
   refine hl_less (sx 0 rfl (sx 1 rfl (sx 2 rfl (sx 6 rfl (sub_nil _))))) (.refl _) ?_
   refine hl_nil ?_
   refine hq_then ?_
   refine hc_ret ?_
   exact hq_ans rfl rfl (congrArg _ ((Bool.eq_false_iff.2 (fun h => by have := (inR_iff _ _ _).1 h; omega)).symm))
 ·
  refine hl_v rfl rfl rfl (rv_ev rfl) ?_
  refine hl_skip rfl rfl rfl ?_
  refine hl_skip rfl rfl rfl ?_
  refine hl_skip rfl rfl rfl ?_
  refine hl_v rfl rfl rfl (rv_ev rfl) ?_
  refine hl_v rfl rfl rfl (rv_ev rfl) ?_
  refine hl_less (sx 0 rfl (sx 1 rfl (sx 2 rfl (sx 6 rfl (sub_nil _))))) (.refl _) ?_
  refine hl_nil ?_
  refine hq_then ?_
  refine hc_ret ?_
  exact hq_ans rfl rfl (congrArg _ ((Bool.eq_false_iff.2 (fun h => by have := (inR_iff _ _ _).1 h; omega)).symm))
set_option maxHeartbeats 4000000 in
set_option maxRecDepth 100000 in
theorem lutNodes_ans (n : Ln) (w : World) (hr : RdsLn w n) (hsz : LnSz n) :
  Calls Try.prog 54 #[.agg #[.int .i64 n.ins, n.sv, n.lv, n.ov]] w (Ans w (.int .i64 n.cnt)) := by
 have hso := sml hr.ou
 have hss := hr.sq.small
 have hsl := hr.lt.small
 have hcnt : n.cnt = 1 + n.ins + n.ss.length + n.ls.length := rfl
 have hfst : n.fst = 1 + n.ins + n.ss.length := rfl
 obtain ⟨si, s2, s3, s4⟩ := hsz
 refine calls_hc (N := 14) (args := [.agg #[.int .i64 n.ins, n.sv, n.lv, n.ov]]) Try.func54 rfl rfl ?_
 refine hc_less _ (sx 0 rfl (sub_nil _)) (.refl _) ?_
 refine hc_seq ?_
 refine hc_region ?_
 refine hl_box rfl rfl rfl (rq_box rfl rfl) ?_
 intro b1
 refine hl_v rfl rfl rfl (rv_ev rfl) ?_
 refine hl_less (sx 0 rfl (sx 1 rfl (sx 2 rfl (sub_nil _)))) (.refl _) ?_
 refine hl_nil ?_
 refine hq_then ?_
 refine hc_seq ?_
 refine hc_region ?_
 refine hl_v rfl rfl rfl (rv_field (k0 := 0) rfl (by kernel_rfl) rfl) ?_
 refine hl_v rfl rfl rfl (rv_load rfl (by kernel_rfl) rfl (box_cell 0 rfl rfl)) ?_
 refine hl_v rfl rfl rfl (rv_add rfl rfl rfl (by constructor <;> omega)) ?_
 refine hl_v rfl rfl rfl (rv_field (k0 := 1) rfl (by kernel_rfl) rfl) ?_
 refine hl_v rfl rfl rfl (rv_load rfl (by kernel_rfl) rfl (box_cell 0 rfl rfl)) ?_
 refine hl_v rfl rfl rfl (rv_len rfl Try.underlying34 rfl (rd_old ((hr).sq.row))) ?_
 refine hl_v rfl rfl rfl (rv_add rfl rfl rfl (by constructor <;> omega)) ?_
 refine hl_v rfl rfl rfl (rv_field (k0 := 2) rfl (by kernel_rfl) rfl) ?_
 refine hl_v rfl rfl rfl (rv_load rfl (by kernel_rfl) rfl (box_cell 0 rfl rfl)) ?_
 refine hl_v rfl rfl rfl (rv_len rfl Try.underlying35 rfl (rd_old ((hr).lt.row))) ?_
 refine hl_v rfl rfl rfl (rv_add rfl rfl rfl (by constructor <;> omega)) ?_
 refine hl_v rfl rfl rfl (rv_ev rfl) ?_
 refine hl_less (sx 0 rfl (sx 1 rfl (sx 2 rfl (sub_nil _)))) (.refl _) ?_
 refine hl_nil ?_
 refine hq_then ?_
 refine hc_ret ?_
 exact hq_ans rfl rfl rfl
set_option maxHeartbeats 4000000 in
set_option maxRecDepth 100000 in
theorem firstLut_ans (n : Ln) (w : World) (hr : RdsLn w n) (hsz : LnSz n) :
  Calls Try.prog 59 #[.agg #[.int .i64 n.ins, n.sv, n.lv, n.ov]] w (Ans w (.int .i64 n.fst)) := by
 have hso := sml hr.ou
 have hss := hr.sq.small
 have hsl := hr.lt.small
 have hcnt : n.cnt = 1 + n.ins + n.ss.length + n.ls.length := rfl
 have hfst : n.fst = 1 + n.ins + n.ss.length := rfl
 obtain ⟨si, s2, s3, s4⟩ := hsz
 refine calls_hc (N := 10) (args := [.agg #[.int .i64 n.ins, n.sv, n.lv, n.ov]]) Try.func59 rfl rfl ?_
 refine hc_less _ (sx 0 rfl (sub_nil _)) (.refl _) ?_
 refine hc_seq ?_
 refine hc_region ?_
 refine hl_box rfl rfl rfl (rq_box rfl rfl) ?_
 intro b1
 refine hl_v rfl rfl rfl (rv_ev rfl) ?_
 refine hl_less (sx 0 rfl (sx 1 rfl (sx 2 rfl (sub_nil _)))) (.refl _) ?_
 refine hl_nil ?_
 refine hq_then ?_
 refine hc_seq ?_
 refine hc_region ?_
 refine hl_v rfl rfl rfl (rv_field (k0 := 0) rfl (by kernel_rfl) rfl) ?_
 refine hl_v rfl rfl rfl (rv_load rfl (by kernel_rfl) rfl (box_cell 0 rfl rfl)) ?_
 refine hl_v rfl rfl rfl (rv_add rfl rfl rfl (by constructor <;> omega)) ?_
 refine hl_v rfl rfl rfl (rv_field (k0 := 1) rfl (by kernel_rfl) rfl) ?_
 refine hl_v rfl rfl rfl (rv_load rfl (by kernel_rfl) rfl (box_cell 0 rfl rfl)) ?_
 refine hl_v rfl rfl rfl (rv_len rfl Try.underlying34 rfl (rd_old ((hr).sq.row))) ?_
 refine hl_v rfl rfl rfl (rv_add rfl rfl rfl (by constructor <;> omega)) ?_
 refine hl_v rfl rfl rfl (rv_ev rfl) ?_
 refine hl_less (sx 0 rfl (sx 1 rfl (sx 2 rfl (sub_nil _)))) (.refl _) ?_
 refine hl_nil ?_
 refine hq_then ?_
 refine hc_ret ?_
 exact hq_ans rfl rfl rfl
set_option maxHeartbeats 4000000 in
set_option maxRecDepth 100000 in
theorem l20First_ans (n : Ln) (w : World) (hr : RdsLn w n) (hsz : LnSz n) :
  Calls Try.prog 58 #[.agg #[.int .i64 n.ins, n.sv, n.lv, n.ov]] w (Ans w (.int .i64 n.fst)) := by
 have hso := sml hr.ou
 have hss := hr.sq.small
 have hsl := hr.lt.small
 have hcnt : n.cnt = 1 + n.ins + n.ss.length + n.ls.length := rfl
 have hfst : n.fst = 1 + n.ins + n.ss.length := rfl
 obtain ⟨si, s2, s3, s4⟩ := hsz
 refine calls_hc (N := 10) (args := [.agg #[.int .i64 n.ins, n.sv, n.lv, n.ov]]) Try.func58 rfl rfl ?_
 refine hc_less _ (sx 0 rfl (sub_nil _)) (.refl _) ?_
 refine hc_seq ?_
 refine hc_region ?_
 refine hl_box rfl rfl rfl (rq_box rfl rfl) ?_
 intro b1
 refine hl_v rfl rfl rfl (rv_ev rfl) ?_
 refine hl_less (sx 0 rfl (sx 1 rfl (sx 2 rfl (sub_nil _)))) (.refl _) ?_
 refine hl_nil ?_
 refine hq_then ?_
 refine hc_seq ?_
 refine hc_region ?_
 refine hl_v rfl rfl rfl (rv_field (k0 := 0) rfl (by kernel_rfl) rfl) ?_
 refine hl_v rfl rfl rfl (rv_load rfl (by kernel_rfl) rfl (box_cell 0 rfl rfl)) ?_
 refine hl_v rfl rfl rfl (rv_add rfl rfl rfl (by constructor <;> omega)) ?_
 refine hl_v rfl rfl rfl (rv_field (k0 := 1) rfl (by kernel_rfl) rfl) ?_
 refine hl_v rfl rfl rfl (rv_load rfl (by kernel_rfl) rfl (box_cell 0 rfl rfl)) ?_
 refine hl_v rfl rfl rfl (rv_len rfl Try.underlying34 rfl (rd_old ((hr).sq.row))) ?_
 refine hl_v rfl rfl rfl (rv_add rfl rfl rfl (by constructor <;> omega)) ?_
 refine hl_v rfl rfl rfl (rv_ev rfl) ?_
 refine hl_less (sx 0 rfl (sx 1 rfl (sx 2 rfl (sub_nil _)))) (.refl _) ?_
 refine hl_nil ?_
 refine hq_then ?_
 refine hc_ret ?_
 exact hq_ans rfl rfl rfl
set_option maxHeartbeats 4000000 in
set_option maxRecDepth 100000 in
theorem implLutNodes_ans (n : Ln) (w : World) (hr : RdsLn w n) :
  Calls Try.prog 93 #[.agg #[.int .i64 n.ins, n.sv, n.lv, n.ov]] w (Ans w (.int .i64 (lnN n))) := by
 have hso := sml hr.ou
 have hss := hr.sq.small
 have hsl := hr.lt.small
 have hcnt : n.cnt = 1 + n.ins + n.ss.length + n.ls.length := rfl
 have hfst : n.fst = 1 + n.ins + n.ss.length := rfl
 refine calls_hc (N := 27) (args := [.agg #[.int .i64 n.ins, n.sv, n.lv, n.ov]]) Try.func93 rfl rfl ?_
 refine hc_less _ (sx 0 rfl (sub_nil _)) (.refl _) ?_
 refine hc_seq ?_
 refine hc_region ?_
 refine hl_box rfl rfl rfl (rq_box rfl rfl) ?_
 intro b1
 refine hl_v rfl rfl rfl (rv_ev rfl) ?_
 refine hl_less (sx 0 rfl (sx 1 rfl (sx 2 rfl (sub_nil _)))) (.refl _) ?_
 refine hl_nil ?_
 refine hq_then ?_
 refine hc_seq ?_
 refine hc_seq ?_
 refine hc_region ?_
 refine hl_v rfl rfl rfl (rv_field (k0 := 0) rfl (by kernel_rfl) rfl) ?_
 refine hl_v rfl rfl rfl (rv_load rfl (by kernel_rfl) rfl (box_cell 0 rfl rfl)) ?_
 refine hl_callV rfl rfl rfl (rq_call (by kernel_rfl) rfl (fun w hm => ret_ans (ans_of (inRange_any _ _ _ w)))) ?_
 refine hl_bool (fun h2 => ?_) (fun h2 => ?_)
 ·
  obtain ⟨h2a, h2b⟩ := (inR_iff _ _ _).1 h2
  refine hl_v rfl rfl rfl (rv_ev rfl) ?_
  refine hl_v rfl rfl rfl (rv_ev rfl) ?_
  refine hl_v rfl rfl rfl (rv_field (k0 := 1) rfl (by kernel_rfl) rfl) ?_
  refine hl_v rfl rfl rfl (rv_load rfl (by kernel_rfl) rfl (box_cell 0 rfl rfl)) ?_
  refine hl_v rfl rfl rfl (rv_len rfl Try.underlying34 rfl (rd_old ((hr).sq.row))) ?_
  refine hl_gtr rfl rfl rfl rfl rfl rfl (fun h3 => ?_) (fun h3 => ?_)
  ·
   refine hl_v rfl rfl rfl (rv_ev rfl) ?_
   refine hl_v rfl rfl rfl (rv_ev rfl) ?_
   refine hl_skip rfl rfl rfl ?_
   refine hl_skip rfl rfl rfl ?_
   refine hl_skip rfl rfl rfl ?_
   refine hl_skip rfl rfl rfl ?_
   refine hl_v rfl rfl rfl (rv_ev rfl) ?_
   refine hl_v rfl rfl rfl (rv_ev rfl) ?_
   refine hl_skip rfl rfl rfl ?_
   refine hl_skip rfl rfl rfl ?_
   refine hl_skip rfl rfl rfl ?_
   refine hl_skip rfl rfl rfl ?_
   refine hl_v rfl rfl rfl (rv_ev rfl) ?_
   refine hl_less (sx 0 rfl (sx 1 rfl (sx 2 rfl (sx 24 rfl (sub_nil _))))) (.refl _) ?_
   refine hl_nil ?_
   refine hq_then ?_
   refine hc_true rfl ?_
   refine hc_seq ?_
   refine hc_region ?_
   refine hl_v rfl rfl rfl (rv_ev rfl) ?_
   refine hl_less (sx 0 rfl (sx 1 rfl (sx 2 rfl (sx 24 rfl (sub_nil _))))) (.refl _) ?_
   refine hl_nil ?_
   refine hq_then ?_
   refine hc_ret ?_
   refine hq_then_ret ?_
   exact hq_ans rfl rfl (congrArg _ (lnN_no (fun hp => by obtain ⟨si, s2, s3, s4⟩ := hp; omega)).symm)
  ·
   refine hl_v rfl rfl rfl (rv_ev rfl) ?_
   refine hl_v rfl rfl rfl (rv_ev rfl) ?_
   refine hl_v rfl rfl rfl (rv_field (k0 := 2) rfl (by kernel_rfl) rfl) ?_
   refine hl_v rfl rfl rfl (rv_load rfl (by kernel_rfl) rfl (box_cell 0 rfl rfl)) ?_
   refine hl_v rfl rfl rfl (rv_len rfl Try.underlying35 rfl (rd_old ((hr).lt.row))) ?_
   refine hl_gtr rfl rfl rfl rfl rfl rfl (fun h4 => ?_) (fun h4 => ?_)
   ·
    refine hl_v rfl rfl rfl (rv_ev rfl) ?_
    refine hl_v rfl rfl rfl (rv_ev rfl) ?_
    refine hl_skip rfl rfl rfl ?_
    refine hl_skip rfl rfl rfl ?_
    refine hl_skip rfl rfl rfl ?_
    refine hl_skip rfl rfl rfl ?_
    refine hl_v rfl rfl rfl (rv_ev rfl) ?_
    refine hl_less (sx 0 rfl (sx 1 rfl (sx 2 rfl (sx 24 rfl (sub_nil _))))) (.refl _) ?_
    refine hl_nil ?_
    refine hq_then ?_
    refine hc_true rfl ?_
    refine hc_seq ?_
    refine hc_region ?_
    refine hl_v rfl rfl rfl (rv_ev rfl) ?_
    refine hl_less (sx 0 rfl (sx 1 rfl (sx 2 rfl (sx 24 rfl (sub_nil _))))) (.refl _) ?_
    refine hl_nil ?_
    refine hq_then ?_
    refine hc_ret ?_
    refine hq_then_ret ?_
    exact hq_ans rfl rfl (congrArg _ (lnN_no (fun hp => by obtain ⟨si, s2, s3, s4⟩ := hp; omega)).symm)
   ·
    refine hl_v rfl rfl rfl (rv_ev rfl) ?_
    refine hl_v rfl rfl rfl (rv_ev rfl) ?_
    refine hl_v rfl rfl rfl (rv_field (k0 := 3) rfl (by kernel_rfl) rfl) ?_
    refine hl_v rfl rfl rfl (rv_load rfl (by kernel_rfl) rfl (box_cell 0 rfl rfl)) ?_
    refine hl_v rfl rfl rfl (rv_len rfl Try.underlying24 rfl (rd_old ((hr).ou))) ?_
    refine hl_gtr rfl rfl rfl rfl rfl rfl (fun h5 => ?_) (fun h5 => ?_)
    ·
     refine hl_v rfl rfl rfl (rv_ev rfl) ?_
     refine hl_less (sx 0 rfl (sx 1 rfl (sx 2 rfl (sx 24 rfl (sub_nil _))))) (.refl _) ?_
     refine hl_nil ?_
     refine hq_then ?_
     refine hc_true rfl ?_
     refine hc_seq ?_
     refine hc_region ?_
     refine hl_v rfl rfl rfl (rv_ev rfl) ?_
     refine hl_less (sx 0 rfl (sx 1 rfl (sx 2 rfl (sx 24 rfl (sub_nil _))))) (.refl _) ?_
     refine hl_nil ?_
     refine hq_then ?_
     refine hc_ret ?_
     refine hq_then_ret ?_
     exact hq_ans rfl rfl (congrArg _ (lnN_no (fun hp => by obtain ⟨si, s2, s3, s4⟩ := hp; omega)).symm)
    ·
     refine hl_v rfl rfl rfl (rv_ev rfl) ?_
     refine hl_less (sx 0 rfl (sx 1 rfl (sx 2 rfl (sx 24 rfl (sub_nil _))))) (.refl _) ?_
     refine hl_nil ?_
     refine hq_then ?_
     refine hc_false rfl ?_
     refine hc_skip ?_
     refine hq_then ?_
     refine hc_seq ?_
     refine hc_region ?_
     refine hl_v rfl rfl rfl (rv_loadN (cs := [.int .i64 n.ins, n.sv, n.lv, n.ov]) rfl (by kernel_rfl) (by kernel_rfl) rfl rfl (box_part 0 rfl 0 rfl)) ?_
     refine hl_callV rfl rfl rfl (rq_call (by kernel_rfl) rfl (fun w hm => ret_ans (lutNodes_ans n w (hr.below hm.bel) ⟨by omega, by omega, by omega, by omega⟩))) ?_
     refine hl_v rfl rfl rfl (rv_ev rfl) ?_
     refine hl_less (sx 0 rfl (sx 1 rfl (sx 2 rfl (sx 24 rfl (sub_nil _))))) (.refl _) ?_
     refine hl_nil ?_
     refine hq_then ?_
     refine hc_ret ?_
     exact hq_ans rfl rfl (congrArg (Value.int .i64) (show n.cnt = lnN n from (lnN_yes ⟨by omega, by omega, by omega, by omega⟩).symm))
 ·
  have h2a := inR_notL h2
  refine hl_v rfl rfl rfl (rv_ev rfl) ?_
  refine hl_v rfl rfl rfl (rv_ev rfl) ?_
  refine hl_skip rfl rfl rfl ?_
  refine hl_skip rfl rfl rfl ?_
  refine hl_skip rfl rfl rfl ?_
  refine hl_skip rfl rfl rfl ?_
  refine hl_v rfl rfl rfl (rv_ev rfl) ?_
  refine hl_v rfl rfl rfl (rv_ev rfl) ?_
  refine hl_skip rfl rfl rfl ?_
  refine hl_skip rfl rfl rfl ?_
  refine hl_skip rfl rfl rfl ?_
  refine hl_skip rfl rfl rfl ?_
  refine hl_v rfl rfl rfl (rv_ev rfl) ?_
  refine hl_v rfl rfl rfl (rv_ev rfl) ?_
  refine hl_skip rfl rfl rfl ?_
  refine hl_skip rfl rfl rfl ?_
  refine hl_skip rfl rfl rfl ?_
  refine hl_skip rfl rfl rfl ?_
  refine hl_v rfl rfl rfl (rv_ev rfl) ?_
  refine hl_less (sx 0 rfl (sx 1 rfl (sx 2 rfl (sx 24 rfl (sub_nil _))))) (.refl _) ?_
  refine hl_nil ?_
  refine hq_then ?_
  refine hc_true rfl ?_
  refine hc_seq ?_
  refine hc_region ?_
  refine hl_v rfl rfl rfl (rv_ev rfl) ?_
  refine hl_less (sx 0 rfl (sx 1 rfl (sx 2 rfl (sx 24 rfl (sub_nil _))))) (.refl _) ?_
  refine hl_nil ?_
  refine hq_then ?_
  refine hc_ret ?_
  refine hq_then_ret ?_
  exact hq_ans rfl rfl (congrArg _ (lnN_no (fun hp => by obtain ⟨si, s2, s3, s4⟩ := hp; omega)).symm)
set_option maxHeartbeats 4000000 in
set_option maxRecDepth 100000 in
theorem specLutNodes_ans (n : Ln) (w : World) (hr : RdsLn w n) :
  Calls Try.prog 53 #[.agg #[.int .i64 n.ins, n.sv, n.lv, n.ov]] w (Ans w (.int .i64 (lnN n))) := by
 have hso := sml hr.ou
 have hss := hr.sq.small
 have hsl := hr.lt.small
 have hcnt : n.cnt = 1 + n.ins + n.ss.length + n.ls.length := rfl
 have hfst : n.fst = 1 + n.ins + n.ss.length := rfl
 refine calls_hc (N := 36) (args := [.agg #[.int .i64 n.ins, n.sv, n.lv, n.ov]]) Try.func53 rfl rfl ?_
 refine hc_less _ (sx 0 rfl (sub_nil _)) (.refl _) ?_
 refine hc_seq ?_
 refine hc_region ?_
 refine hl_box rfl rfl rfl (rq_box rfl rfl) ?_
 intro b1
 refine hl_v rfl rfl rfl (rv_ev rfl) ?_
 refine hl_less (sx 0 rfl (sx 1 rfl (sx 2 rfl (sub_nil _)))) (.refl _) ?_
 refine hl_nil ?_
 refine hq_then ?_
 refine hc_seq ?_
 refine hc_seq ?_
 refine hc_region ?_
 refine hl_v rfl rfl rfl (rv_field (k0 := 0) rfl (by kernel_rfl) rfl) ?_
 refine hl_v rfl rfl rfl (rv_load rfl (by kernel_rfl) rfl (box_cell 0 rfl rfl)) ?_
 refine hl_callV rfl rfl rfl (rq_call (by kernel_rfl) rfl (fun w hm => ret_ans (l01In_ans n.ins 0 20 w))) ?_
 refine hl_bool (fun h2 => ?_) (fun h2 => ?_)
 ·
  obtain ⟨h2a, h2b⟩ := (inR_iff _ _ _).1 h2
  refine hl_v rfl rfl rfl (rv_ev rfl) ?_
  refine hl_v rfl rfl rfl (rv_ev rfl) ?_
  refine hl_v rfl rfl rfl (rv_field (k0 := 1) rfl (by kernel_rfl) rfl) ?_
  refine hl_v rfl rfl rfl (rv_load rfl (by kernel_rfl) rfl (box_cell 0 rfl rfl)) ?_
  refine hl_v rfl rfl rfl (rv_len rfl Try.underlying34 rfl (rd_old ((hr).sq.row))) ?_
  refine hl_gtr rfl rfl rfl rfl rfl rfl (fun h3 => ?_) (fun h3 => ?_)
  ·
   refine hl_v rfl rfl rfl (rv_ev rfl) ?_
   refine hl_v rfl rfl rfl (rv_ev rfl) ?_
   refine hl_skip rfl rfl rfl ?_
   refine hl_skip rfl rfl rfl ?_
   refine hl_skip rfl rfl rfl ?_
   refine hl_skip rfl rfl rfl ?_
   refine hl_v rfl rfl rfl (rv_ev rfl) ?_
   refine hl_v rfl rfl rfl (rv_ev rfl) ?_
   refine hl_skip rfl rfl rfl ?_
   refine hl_skip rfl rfl rfl ?_
   refine hl_skip rfl rfl rfl ?_
   refine hl_skip rfl rfl rfl ?_
   refine hl_v rfl rfl rfl (rv_ev rfl) ?_
   refine hl_less (sx 0 rfl (sx 1 rfl (sx 2 rfl (sx 24 rfl (sub_nil _))))) (.refl _) ?_
   refine hl_nil ?_
   refine hq_then ?_
   refine hc_true rfl ?_
   refine hc_seq ?_
   refine hc_region ?_
   refine hl_v rfl rfl rfl (rv_ev rfl) ?_
   refine hl_less (sx 0 rfl (sx 1 rfl (sx 2 rfl (sx 24 rfl (sub_nil _))))) (.refl _) ?_
   refine hl_nil ?_
   refine hq_then ?_
   refine hc_ret ?_
   refine hq_then_ret ?_
   exact hq_ans rfl rfl (congrArg _ (lnN_no (fun hp => by obtain ⟨si, s2, s3, s4⟩ := hp; omega)).symm)
  ·
   refine hl_v rfl rfl rfl (rv_ev rfl) ?_
   refine hl_v rfl rfl rfl (rv_ev rfl) ?_
   refine hl_v rfl rfl rfl (rv_field (k0 := 2) rfl (by kernel_rfl) rfl) ?_
   refine hl_v rfl rfl rfl (rv_load rfl (by kernel_rfl) rfl (box_cell 0 rfl rfl)) ?_
   refine hl_v rfl rfl rfl (rv_len rfl Try.underlying35 rfl (rd_old ((hr).lt.row))) ?_
   refine hl_gtr rfl rfl rfl rfl rfl rfl (fun h4 => ?_) (fun h4 => ?_)
   ·
    refine hl_v rfl rfl rfl (rv_ev rfl) ?_
    refine hl_v rfl rfl rfl (rv_ev rfl) ?_
    refine hl_skip rfl rfl rfl ?_
    refine hl_skip rfl rfl rfl ?_
    refine hl_skip rfl rfl rfl ?_
    refine hl_skip rfl rfl rfl ?_
    refine hl_v rfl rfl rfl (rv_ev rfl) ?_
    refine hl_less (sx 0 rfl (sx 1 rfl (sx 2 rfl (sx 24 rfl (sub_nil _))))) (.refl _) ?_
    refine hl_nil ?_
    refine hq_then ?_
    refine hc_true rfl ?_
    refine hc_seq ?_
    refine hc_region ?_
    refine hl_v rfl rfl rfl (rv_ev rfl) ?_
    refine hl_less (sx 0 rfl (sx 1 rfl (sx 2 rfl (sx 24 rfl (sub_nil _))))) (.refl _) ?_
    refine hl_nil ?_
    refine hq_then ?_
    refine hc_ret ?_
    refine hq_then_ret ?_
    exact hq_ans rfl rfl (congrArg _ (lnN_no (fun hp => by obtain ⟨si, s2, s3, s4⟩ := hp; omega)).symm)
   ·
    refine hl_v rfl rfl rfl (rv_ev rfl) ?_
    refine hl_v rfl rfl rfl (rv_ev rfl) ?_
    refine hl_v rfl rfl rfl (rv_field (k0 := 3) rfl (by kernel_rfl) rfl) ?_
    refine hl_v rfl rfl rfl (rv_load rfl (by kernel_rfl) rfl (box_cell 0 rfl rfl)) ?_
    refine hl_v rfl rfl rfl (rv_len rfl Try.underlying24 rfl (rd_old ((hr).ou))) ?_
    refine hl_gtr rfl rfl rfl rfl rfl rfl (fun h5 => ?_) (fun h5 => ?_)
    ·
     refine hl_v rfl rfl rfl (rv_ev rfl) ?_
     refine hl_less (sx 0 rfl (sx 1 rfl (sx 2 rfl (sx 24 rfl (sub_nil _))))) (.refl _) ?_
     refine hl_nil ?_
     refine hq_then ?_
     refine hc_true rfl ?_
     refine hc_seq ?_
     refine hc_region ?_
     refine hl_v rfl rfl rfl (rv_ev rfl) ?_
     refine hl_less (sx 0 rfl (sx 1 rfl (sx 2 rfl (sx 24 rfl (sub_nil _))))) (.refl _) ?_
     refine hl_nil ?_
     refine hq_then ?_
     refine hc_ret ?_
     refine hq_then_ret ?_
     exact hq_ans rfl rfl (congrArg _ (lnN_no (fun hp => by obtain ⟨si, s2, s3, s4⟩ := hp; omega)).symm)
    ·
     refine hl_v rfl rfl rfl (rv_ev rfl) ?_
     refine hl_less (sx 0 rfl (sx 1 rfl (sx 2 rfl (sx 24 rfl (sub_nil _))))) (.refl _) ?_
     refine hl_nil ?_
     refine hq_then ?_
     refine hc_false rfl ?_
     refine hc_skip ?_
     refine hq_then ?_
     refine hc_seq ?_
     refine hc_region ?_
     refine hl_v rfl rfl rfl (rv_field (k0 := 0) rfl (by kernel_rfl) rfl) ?_
     refine hl_v rfl rfl rfl (rv_load rfl (by kernel_rfl) rfl (box_cell 0 rfl rfl)) ?_
     refine hl_v rfl rfl rfl (rv_add rfl rfl rfl (by constructor <;> omega)) ?_
     refine hl_v rfl rfl rfl (rv_field (k0 := 1) rfl (by kernel_rfl) rfl) ?_
     refine hl_v rfl rfl rfl (rv_load rfl (by kernel_rfl) rfl (box_cell 0 rfl rfl)) ?_
     refine hl_v rfl rfl rfl (rv_len rfl Try.underlying34 rfl (rd_old ((hr).sq.row))) ?_
     refine hl_v rfl rfl rfl (rv_add rfl rfl rfl (by constructor <;> omega)) ?_
     refine hl_v rfl rfl rfl (rv_field (k0 := 2) rfl (by kernel_rfl) rfl) ?_
     refine hl_v rfl rfl rfl (rv_load rfl (by kernel_rfl) rfl (box_cell 0 rfl rfl)) ?_
     refine hl_v rfl rfl rfl (rv_len rfl Try.underlying35 rfl (rd_old ((hr).lt.row))) ?_
     refine hl_v rfl rfl rfl (rv_add rfl rfl rfl (by constructor <;> omega)) ?_
     refine hl_v rfl rfl rfl (rv_ev rfl) ?_
     refine hl_less (sx 0 rfl (sx 1 rfl (sx 2 rfl (sx 24 rfl (sub_nil _))))) (.refl _) ?_
     refine hl_nil ?_
     refine hq_then ?_
     refine hc_ret ?_
     exact hq_ans rfl rfl (congrArg (Value.int .i64) (show n.cnt = lnN n from (lnN_yes ⟨by omega, by omega, by omega, by omega⟩).symm))
 ·
  have h2a := inR_notL h2
  refine hl_v rfl rfl rfl (rv_ev rfl) ?_
  refine hl_v rfl rfl rfl (rv_ev rfl) ?_
  refine hl_skip rfl rfl rfl ?_
  refine hl_skip rfl rfl rfl ?_
  refine hl_skip rfl rfl rfl ?_
  refine hl_skip rfl rfl rfl ?_
  refine hl_v rfl rfl rfl (rv_ev rfl) ?_
  refine hl_v rfl rfl rfl (rv_ev rfl) ?_
  refine hl_skip rfl rfl rfl ?_
  refine hl_skip rfl rfl rfl ?_
  refine hl_skip rfl rfl rfl ?_
  refine hl_skip rfl rfl rfl ?_
  refine hl_v rfl rfl rfl (rv_ev rfl) ?_
  refine hl_v rfl rfl rfl (rv_ev rfl) ?_
  refine hl_skip rfl rfl rfl ?_
  refine hl_skip rfl rfl rfl ?_
  refine hl_skip rfl rfl rfl ?_
  refine hl_skip rfl rfl rfl ?_
  refine hl_v rfl rfl rfl (rv_ev rfl) ?_
  refine hl_less (sx 0 rfl (sx 1 rfl (sx 2 rfl (sx 24 rfl (sub_nil _))))) (.refl _) ?_
  refine hl_nil ?_
  refine hq_then ?_
  refine hc_true rfl ?_
  refine hc_seq ?_
  refine hc_region ?_
  refine hl_v rfl rfl rfl (rv_ev rfl) ?_
  refine hl_less (sx 0 rfl (sx 1 rfl (sx 2 rfl (sx 24 rfl (sub_nil _))))) (.refl _) ?_
  refine hl_nil ?_
  refine hq_then ?_
  refine hc_ret ?_
  refine hq_then_ret ?_
  exact hq_ans rfl rfl (congrArg _ (lnN_no (fun hp => by obtain ⟨si, s2, s3, s4⟩ := hp; omega)).symm)
set_option maxHeartbeats 4000000 in
set_option maxRecDepth 100000 in
theorem nodesBelow_ans (xs : List Int) (m : Int) (v : Value) (w : World) (hv : RdsW w v 1 xs.length (xs.map (Value.int .i64))) (hm0 : -1000 ≤ m ∧ m ≤ 1000000) :
  Calls Try.prog 94 #[v, .int .i64 m] w (Ans w (.bool (pB (BelowP xs m)))) := by
 have hsm := sml hv
 refine calls_hc (N := 19) (args := [v, .int .i64 m]) Try.func94 rfl rfl ?_
 refine hc_less _ (sx 0 rfl (sx 1 rfl (sub_nil _))) (.refl _) ?_
 refine hc_seq ?_
 refine hc_region ?_
 refine hl_v rfl rfl rfl (rv_ev rfl) ?_
 refine hl_less (sx 0 rfl (sx 1 rfl (sx 4 rfl (sub_nil _)))) (.refl _) ?_
 refine hl_nil ?_
 refine hq_then ?_
 refine hc_seq ?_
 refine hc_seq ?_
 refine hc_region ?_
 refine hl_v rfl rfl rfl (rv_ev rfl) ?_
 refine hl_v rfl rfl rfl (rv_len rfl Try.underlying24 rfl (rd_old hv)) ?_
 refine hl_v rfl rfl rfl (rv_ev rfl) ?_
 refine hl_less (sx 0 rfl (sx 1 rfl (sx 4 rfl (sx 7 rfl (sx 8 rfl (sx 9 rfl (sub_nil _))))))) (.refl _) ?_
 refine hl_nil ?_
 refine hq_then ?_
 refine hc_block ?_
 refine hc_loop1 (α := Nat) (fun j => []) (fun j => [(0, v), (1, .int .i64 m), (4, .bool false), (7, v), (8, .int .i64 (xs.length : Int)), (9, .int .i64 (j : Int))]) (fun j => j ≤ xs.length ∧ ∀ i, i < j → 0 ≤ xs.getD i 0 ∧ xs.getD i 0 < m) (fun j => xs.length - j) 0 ⟨Nat.zero_le _, fun i hi => absurd hi (by omega)⟩ (sx 0 rfl (sx 1 rfl (sx 4 rfl (sx 7 rfl (sx 8 rfl (sx 9 rfl (sub_nil _))))))) (.slnil) ?_
 intro j hi1
 obtain ⟨hj, hq⟩ := hi1
 refine hc_seq ?_
 refine hc_region ?_
 refine hl_lss rfl rfl rfl rfl rfl rfl (fun h2 => ?_) (fun h2 => ?_)
 ·
  refine hl_less (sx 0 rfl (sx 1 rfl (sx 4 rfl (sx 7 rfl (sx 8 rfl (sx 9 rfl (sx 10 rfl (sub_nil _)))))))) (.refl _) ?_
  refine hl_nil ?_
  refine hq_then ?_
  refine hc_seq ?_
  refine hc_true rfl ?_
  refine hc_skip ?_
  refine hq_then ?_
  refine hc_seq ?_
  refine hc_block ?_
  refine hc_seq ?_
  refine hc_region ?_
  refine hl_v rfl rfl rfl (rv_index (s := 1) rfl Try.underlying24 (by kernel_rfl) rfl rfl (rd_old hv) (by omega) (by first | omega | (simp only [List.length_set]; omega))) ?_
  refine hl_v rfl rfl rfl (rv_loadEl (u := .int .i64 (xs.getD j 0)) rfl (by kernel_rfl) rfl (rd_old hv) (ints_at1 (show _ < xs.length by first | omega | (simp only [List.length_set]; omega)))) ?_
  refine hl_v rfl rfl rfl (rv_ev rfl) ?_
  refine hl_less (sx 0 rfl (sx 1 rfl (sx 4 rfl (sx 6 rfl (sx 7 rfl (sx 8 rfl (sx 9 rfl (sx 10 rfl (sub_nil _))))))))) (.refl _) ?_
  refine hl_nil ?_
  refine hq_then ?_
  refine hc_seq ?_
  refine hc_region ?_
  refine hl_v rfl rfl rfl (rv_ev rfl) ?_
  refine hl_v rfl rfl rfl (rv_ev rfl) ?_
  refine hl_v rfl rfl rfl (rv_sub rfl rfl rfl (by constructor <;> omega)) ?_
  refine hl_callV rfl rfl rfl (rq_call (by kernel_rfl) rfl (fun w hm => ret_ans (ans_of (inRange_any _ _ _ w)))) ?_
  refine hl_bool (fun h3 => ?_) (fun h3 => ?_)
  ·
   obtain ⟨h3a, h3b⟩ := (inR_iff _ _ _).1 h3
   refine hl_v rfl rfl rfl (rv_ev rfl) ?_
   refine hl_less (sx 0 rfl (sx 1 rfl (sx 4 rfl (sx 6 rfl (sx 7 rfl (sx 8 rfl (sx 9 rfl (sx 10 rfl (sx 17 rfl (sub_nil _)))))))))) (.refl _) ?_
   refine hl_nil ?_
   refine hq_then ?_
   refine hc_false rfl ?_
   refine hc_skip ?_
   refine hq_block_normal ?_
   refine hq_then ?_
   refine hc_region ?_
   refine hl_v rfl rfl rfl (rv_add rfl rfl rfl (by constructor <;> omega)) ?_
   refine hl_v rfl rfl rfl (rv_ev rfl) ?_
   refine hl_less (sx 0 rfl (sx 1 rfl (sx 4 rfl (sx 6 rfl (sx 7 rfl (sx 8 rfl (sx 9 rfl (sx 10 rfl (sx 17 rfl (sub_nil _)))))))))) (.refl _) ?_
   refine hl_nil ?_
   exact hq_round1 (j + 1) ⟨by omega, fun i hi => by by_cases e : i = j; (subst e; omega); exact hq i (by omega)⟩ (by omega) (sx 0 rfl (sx 1 rfl (sx 4 rfl (sx 7 rfl (sx 8 rfl (sx 9 rfl (sub_nil _))))))) (.slnil)
  ·
   have h3a := inR_notL h3
   refine hl_v rfl rfl rfl (rv_ev rfl) ?_
   refine hl_less (sx 0 rfl (sx 1 rfl (sx 4 rfl (sx 6 rfl (sx 7 rfl (sx 8 rfl (sx 9 rfl (sx 10 rfl (sx 17 rfl (sub_nil _)))))))))) (.refl _) ?_
   refine hl_nil ?_
   refine hq_then ?_
   refine hc_true rfl ?_
   refine hc_seq ?_
   refine hc_region ?_
   refine hl_v rfl rfl rfl (rv_ev rfl) ?_
   refine hl_less (sx 0 rfl (sx 1 rfl (sx 4 rfl (sx 6 rfl (sx 7 rfl (sx 8 rfl (sx 9 rfl (sx 10 rfl (sx 17 rfl (sub_nil _)))))))))) (.refl _) ?_
   refine hl_nil ?_
   refine hq_then ?_
   refine hc_ret ?_
   refine hq_block_ret ?_
   refine hq_then_ret ?_
   refine hq_then_ret ?_
   refine hq_block_ret ?_
   refine hq_then_ret ?_
   exact hq_ans rfl rfl (congrArg _ (pB_no (fun hp => by first | (have h9 := hp j (by omega); omega))).symm)
 ·
  refine hl_less (sx 0 rfl (sx 1 rfl (sx 4 rfl (sx 7 rfl (sx 8 rfl (sx 9 rfl (sx 10 rfl (sub_nil _)))))))) (.refl _) ?_
  refine hl_nil ?_
  refine hq_then ?_
  refine hc_seq ?_
  refine hc_false rfl ?_
  refine hc_exit ?_
  refine hq_then_exit ?_
  refine hq_then_exit ?_
  refine hq_block_exit ?_
  refine hq_then ?_
  refine hc_seq ?_
  refine hc_region ?_
  refine hl_v rfl rfl rfl (rv_ev rfl) ?_
  refine hl_less (sx 0 rfl (sx 1 rfl (sx 4 rfl (sx 7 rfl (sx 8 rfl (sx 9 rfl (sx 10 rfl (sub_nil _)))))))) (.refl _) ?_
  refine hl_nil ?_
  refine hq_then ?_
  refine hc_ret ?_
  exact hq_ans rfl rfl (congrArg _ (pB_yes (fun i hi => hq i (by omega))).symm)
set_option maxHeartbeats 4000000 in
set_option maxRecDepth 100000 in
theorem l20Below_ans (xs : List Int) (m : Int) (v : Value) (w : World) (hv : RdsW w v 1 xs.length (xs.map (Value.int .i64))) (hm0 : -1000 ≤ m ∧ m ≤ 1000000) :
  Calls Try.prog 89 #[v, .int .i64 m] w (Ans w (.bool (pB (BelowP xs m)))) := by
 have hsm := sml hv
 refine calls_hc (N := 25) (args := [v, .int .i64 m]) Try.func89 rfl rfl ?_
 refine hc_less _ (sx 0 rfl (sx 1 rfl (sub_nil _))) (.refl _) ?_
 refine hc_seq ?_
 refine hc_region ?_
 refine hl_v rfl rfl rfl (rv_ev rfl) ?_
 refine hl_less (sx 0 rfl (sx 1 rfl (sx 4 rfl (sub_nil _)))) (.refl _) ?_
 refine hl_nil ?_
 refine hq_then ?_
 refine hc_seq ?_
 refine hc_seq ?_
 refine hc_region ?_
 refine hl_v rfl rfl rfl (rv_ev rfl) ?_
 refine hl_less (sx 0 rfl (sx 1 rfl (sx 4 rfl (sx 5 rfl (sub_nil _))))) (.refl _) ?_
 refine hl_nil ?_
 refine hq_then ?_
 refine hc_block ?_
 refine hc_loop1 (α := Nat) (fun j => []) (fun j => [(0, v), (1, .int .i64 m), (4, .bool false), (5, .int .i64 (j : Int))]) (fun j => j ≤ xs.length ∧ ∀ i, i < j → 0 ≤ xs.getD i 0 ∧ xs.getD i 0 < m) (fun j => xs.length - j) 0 ⟨Nat.zero_le _, fun i hi => absurd hi (by omega)⟩ (sx 0 rfl (sx 1 rfl (sx 4 rfl (sx 5 rfl (sub_nil _))))) (.slnil) ?_
 intro j hi1
 obtain ⟨hj, hq⟩ := hi1
 refine hc_seq ?_
 refine hc_seq ?_
 refine hc_region ?_
 refine hl_v rfl rfl rfl (rv_ev rfl) ?_
 refine hl_v rfl rfl rfl (rv_ev rfl) ?_
 refine hl_v rfl rfl rfl (rv_len rfl Try.underlying24 rfl (rd_old hv)) ?_
 refine hl_lss rfl rfl rfl rfl rfl rfl (fun h2 => ?_) (fun h2 => ?_)
 ·
  refine hl_less (sx 0 rfl (sx 1 rfl (sx 4 rfl (sx 5 rfl (sx 9 rfl (sub_nil _)))))) (.refl _) ?_
  refine hl_nil ?_
  refine hq_then ?_
  refine hc_true rfl ?_
  refine hc_skip ?_
  refine hq_then ?_
  refine hc_seq ?_
  refine hc_block ?_
  refine hc_seq ?_
  refine hc_region ?_
  refine hl_v rfl rfl rfl (rv_ev rfl) ?_
  refine hl_v rfl rfl rfl (rv_ev rfl) ?_
  refine hl_v rfl rfl rfl (rv_index (s := 1) rfl Try.underlying24 (by kernel_rfl) rfl rfl (rd_old hv) (by omega) (by first | omega | (simp only [List.length_set]; omega))) ?_
  refine hl_v rfl rfl rfl (rv_loadEl (u := .int .i64 (xs.getD j 0)) rfl (by kernel_rfl) rfl (rd_old hv) (ints_at1 (show _ < xs.length by first | omega | (simp only [List.length_set]; omega)))) ?_
  refine hl_lss rfl rfl rfl rfl rfl rfl (fun h3 => ?_) (fun h3 => ?_)
  ·
   refine hl_v rfl rfl rfl (rv_ev rfl) ?_
   refine hl_skip rfl rfl rfl ?_
   refine hl_skip rfl rfl rfl ?_
   refine hl_skip rfl rfl rfl ?_
   refine hl_skip rfl rfl rfl ?_
   refine hl_skip rfl rfl rfl ?_
   refine hl_skip rfl rfl rfl ?_
   refine hl_v rfl rfl rfl (rv_ev rfl) ?_
   refine hl_less (sx 0 rfl (sx 1 rfl (sx 4 rfl (sx 5 rfl (sx 9 rfl (sx 24 rfl (sub_nil _))))))) (.refl _) ?_
   refine hl_nil ?_
   refine hq_then ?_
   refine hc_true rfl ?_
   refine hc_seq ?_
   refine hc_region ?_
   refine hl_v rfl rfl rfl (rv_ev rfl) ?_
   refine hl_less (sx 0 rfl (sx 1 rfl (sx 4 rfl (sx 5 rfl (sx 9 rfl (sx 24 rfl (sub_nil _))))))) (.refl _) ?_
   refine hl_nil ?_
   refine hq_then ?_
   refine hc_ret ?_
   refine hq_block_ret ?_
   refine hq_then_ret ?_
   refine hq_then_ret ?_
   refine hq_block_ret ?_
   refine hq_then_ret ?_
   exact hq_ans rfl rfl (congrArg _ (pB_no (fun hp => by first | (have h9 := hp j (by omega); omega))).symm)
  ·
   refine hl_v rfl rfl rfl (rv_ev rfl) ?_
   refine hl_v rfl rfl rfl (rv_ev rfl) ?_
   refine hl_v rfl rfl rfl (rv_ev rfl) ?_
   refine hl_v rfl rfl rfl (rv_index (s := 1) rfl Try.underlying24 (by kernel_rfl) rfl rfl (rd_old hv) (by omega) (by first | omega | (simp only [List.length_set]; omega))) ?_
   refine hl_v rfl rfl rfl (rv_loadEl (u := .int .i64 (xs.getD j 0)) rfl (by kernel_rfl) rfl (rd_old hv) (ints_at1 (show _ < xs.length by first | omega | (simp only [List.length_set]; omega)))) ?_
   refine hl_v rfl rfl rfl (rv_ev rfl) ?_
   refine hl_geq rfl rfl rfl rfl rfl rfl (fun h4 => ?_) (fun h4 => ?_)
   ·
    refine hl_v rfl rfl rfl (rv_ev rfl) ?_
    refine hl_less (sx 0 rfl (sx 1 rfl (sx 4 rfl (sx 5 rfl (sx 9 rfl (sx 24 rfl (sub_nil _))))))) (.refl _) ?_
    refine hl_nil ?_
    refine hq_then ?_
    refine hc_true rfl ?_
    refine hc_seq ?_
    refine hc_region ?_
    refine hl_v rfl rfl rfl (rv_ev rfl) ?_
    refine hl_less (sx 0 rfl (sx 1 rfl (sx 4 rfl (sx 5 rfl (sx 9 rfl (sx 24 rfl (sub_nil _))))))) (.refl _) ?_
    refine hl_nil ?_
    refine hq_then ?_
    refine hc_ret ?_
    refine hq_block_ret ?_
    refine hq_then_ret ?_
    refine hq_then_ret ?_
    refine hq_block_ret ?_
    refine hq_then_ret ?_
    exact hq_ans rfl rfl (congrArg _ (pB_no (fun hp => by first | (have h9 := hp j (by omega); omega))).symm)
   ·
    refine hl_v rfl rfl rfl (rv_ev rfl) ?_
    refine hl_less (sx 0 rfl (sx 1 rfl (sx 4 rfl (sx 5 rfl (sx 9 rfl (sx 24 rfl (sub_nil _))))))) (.refl _) ?_
    refine hl_nil ?_
    refine hq_then ?_
    refine hc_false rfl ?_
    refine hc_skip ?_
    refine hq_block_normal ?_
    refine hq_then ?_
    refine hc_region ?_
    refine hl_v rfl rfl rfl (rv_ev rfl) ?_
    refine hl_v rfl rfl rfl (rv_add rfl rfl rfl (by constructor <;> omega)) ?_
    refine hl_v rfl rfl rfl (rv_ev rfl) ?_
    refine hl_less (sx 0 rfl (sx 1 rfl (sx 4 rfl (sx 5 rfl (sx 9 rfl (sx 24 rfl (sub_nil _))))))) (.refl _) ?_
    refine hl_nil ?_
    exact hq_round1 (j + 1) ⟨by omega, fun i hi => by by_cases e : i = j; (subst e; omega); exact hq i (by omega)⟩ (by omega) (sx 0 rfl (sx 1 rfl (sx 4 rfl (sx 5 rfl (sub_nil _))))) (.slnil)
 ·
  refine hl_less (sx 0 rfl (sx 1 rfl (sx 4 rfl (sx 5 rfl (sx 9 rfl (sub_nil _)))))) (.refl _) ?_
  refine hl_nil ?_
  refine hq_then ?_
  refine hc_false rfl ?_
  refine hc_exit ?_
  refine hq_then_exit ?_
  refine hq_then_exit ?_
  refine hq_block_exit ?_
  refine hq_then ?_
  refine hc_seq ?_
  refine hc_region ?_
  refine hl_v rfl rfl rfl (rv_ev rfl) ?_
  refine hl_less (sx 0 rfl (sx 1 rfl (sx 4 rfl (sx 5 rfl (sx 9 rfl (sub_nil _)))))) (.refl _) ?_
  refine hl_nil ?_
  refine hq_then ?_
  refine hc_ret ?_
  exact hq_ans rfl rfl (congrArg _ (pB_yes (fun i hi => hq i (by omega))).symm)
set_option maxHeartbeats 4000000 in
set_option maxRecDepth 100000 in
theorem l37List_ans (xs : List Int) (n m : Int) (v : Value) (w : World) (hv : RdsW w v 1 xs.length (xs.map (Value.int .i64))) :
  Calls Try.prog 44 #[v, .int .i64 n, .int .i64 m] w (Ans w (.bool (pB (LiP xs n m)))) := by
 have hsm := sml hv
 refine calls_hc (N := 25) (args := [v, .int .i64 n, .int .i64 m]) Try.func44 rfl rfl ?_
 refine hc_less _ (sx 0 rfl (sx 1 rfl (sx 2 rfl (sub_nil _)))) (.refl _) ?_
 refine hc_seq ?_
 refine hc_region ?_
 refine hl_v rfl rfl rfl (rv_ev rfl) ?_
 refine hl_less (sx 0 rfl (sx 1 rfl (sx 2 rfl (sx 6 rfl (sub_nil _))))) (.refl _) ?_
 refine hl_nil ?_
 refine hq_then ?_
 refine hc_seq ?_
 refine hc_seq ?_
 refine hc_region ?_
 refine hl_v rfl rfl rfl (rv_ev rfl) ?_
 refine hl_less (sx 0 rfl (sx 1 rfl (sx 2 rfl (sx 6 rfl (sx 7 rfl (sub_nil _)))))) (.refl _) ?_
 refine hl_nil ?_
 refine hq_then ?_
 refine hc_block ?_
 refine hc_loop1 (α := Nat) (fun j => []) (fun j => [(0, v), (1, .int .i64 n), (2, .int .i64 m), (6, .bool false), (7, .int .i64 (j : Int))]) (fun j => j ≤ xs.length ∧ ∀ i, i < j → 0 ≤ xs.getD i 0 ∧ xs.getD i 0 ≤ m) (fun j => xs.length - j) 0 ⟨Nat.zero_le _, fun i hi => absurd hi (by omega)⟩ (sx 0 rfl (sx 1 rfl (sx 2 rfl (sx 6 rfl (sx 7 rfl (sub_nil _)))))) (.slnil) ?_
 intro j hi1
 obtain ⟨hj, hq⟩ := hi1
 refine hc_seq ?_
 refine hc_seq ?_
 refine hc_region ?_
 refine hl_v rfl rfl rfl (rv_ev rfl) ?_
 refine hl_v rfl rfl rfl (rv_ev rfl) ?_
 refine hl_v rfl rfl rfl (rv_len rfl Try.underlying24 rfl (rd_old hv)) ?_
 refine hl_lss rfl rfl rfl rfl rfl rfl (fun h2 => ?_) (fun h2 => ?_)
 ·
  refine hl_less (sx 0 rfl (sx 1 rfl (sx 2 rfl (sx 6 rfl (sx 7 rfl (sx 11 rfl (sub_nil _))))))) (.refl _) ?_
  refine hl_nil ?_
  refine hq_then ?_
  refine hc_true rfl ?_
  refine hc_skip ?_
  refine hq_then ?_
  refine hc_seq ?_
  refine hc_block ?_
  refine hc_seq ?_
  refine hc_region ?_
  refine hl_v rfl rfl rfl (rv_ev rfl) ?_
  refine hl_v rfl rfl rfl (rv_ev rfl) ?_
  refine hl_v rfl rfl rfl (rv_index (s := 1) rfl Try.underlying24 (by kernel_rfl) rfl rfl (rd_old hv) (by omega) (by first | omega | (simp only [List.length_set]; omega))) ?_
  refine hl_v rfl rfl rfl (rv_loadEl (u := .int .i64 (xs.getD j 0)) rfl (by kernel_rfl) rfl (rd_old hv) (ints_at1 (show _ < xs.length by first | omega | (simp only [List.length_set]; omega)))) ?_
  refine hl_v rfl rfl rfl (rv_ev rfl) ?_
  refine hl_callV rfl rfl rfl (rq_call (by kernel_rfl) rfl (fun w hm => ret_ans (l01In_ans (xs.getD j 0) 0 m w))) ?_
  refine hl_bool (fun h3 => ?_) (fun h3 => ?_)
  ·
   obtain ⟨h3a, h3b⟩ := (inR_iff _ _ _).1 h3
   refine hl_v rfl rfl rfl (rv_ev rfl) ?_
   refine hl_less (sx 0 rfl (sx 1 rfl (sx 2 rfl (sx 6 rfl (sx 7 rfl (sx 11 rfl (sx 20 rfl (sub_nil _)))))))) (.refl _) ?_
   refine hl_nil ?_
   refine hq_then ?_
   refine hc_false rfl ?_
   refine hc_skip ?_
   refine hq_block_normal ?_
   refine hq_then ?_
   refine hc_region ?_
   refine hl_v rfl rfl rfl (rv_ev rfl) ?_
   refine hl_v rfl rfl rfl (rv_add rfl rfl rfl (by constructor <;> omega)) ?_
   refine hl_v rfl rfl rfl (rv_ev rfl) ?_
   refine hl_less (sx 0 rfl (sx 1 rfl (sx 2 rfl (sx 6 rfl (sx 7 rfl (sx 11 rfl (sx 20 rfl (sub_nil _)))))))) (.refl _) ?_
   refine hl_nil ?_
   exact hq_round1 (j + 1) ⟨by omega, fun i hi => by by_cases e : i = j; (subst e; omega); exact hq i (by omega)⟩ (by omega) (sx 0 rfl (sx 1 rfl (sx 2 rfl (sx 6 rfl (sx 7 rfl (sub_nil _)))))) (.slnil)
  ·
   have h3a := inR_notL h3
   refine hl_v rfl rfl rfl (rv_ev rfl) ?_
   refine hl_less (sx 0 rfl (sx 1 rfl (sx 2 rfl (sx 6 rfl (sx 7 rfl (sx 11 rfl (sx 20 rfl (sub_nil _)))))))) (.refl _) ?_
   refine hl_nil ?_
   refine hq_then ?_
   refine hc_true rfl ?_
   refine hc_seq ?_
   refine hc_region ?_
   refine hl_v rfl rfl rfl (rv_ev rfl) ?_
   refine hl_less (sx 0 rfl (sx 1 rfl (sx 2 rfl (sx 6 rfl (sx 7 rfl (sx 11 rfl (sx 20 rfl (sub_nil _)))))))) (.refl _) ?_
   refine hl_nil ?_
   refine hq_then ?_
   refine hc_ret ?_
   refine hq_block_ret ?_
   refine hq_then_ret ?_
   refine hq_then_ret ?_
   refine hq_block_ret ?_
   refine hq_then_ret ?_
   exact hq_ans rfl rfl (congrArg _ (pB_no (fun hp => by first | (have h9 := hp.1; omega) | (have h9 := hp.2 j (by omega); omega))).symm)
 ·
  refine hl_less (sx 0 rfl (sx 1 rfl (sx 2 rfl (sx 6 rfl (sx 7 rfl (sx 11 rfl (sub_nil _))))))) (.refl _) ?_
  refine hl_nil ?_
  refine hq_then ?_
  refine hc_false rfl ?_
  refine hc_exit ?_
  refine hq_then_exit ?_
  refine hq_then_exit ?_
  refine hq_block_exit ?_
  refine hq_then ?_
  refine hc_seq ?_
  refine hc_region ?_
  refine hl_v rfl rfl rfl (rv_ev rfl) ?_
  refine hl_v rfl rfl rfl (rv_len rfl Try.underlying24 rfl (rd_old hv)) ?_
  refine hl_v rfl rfl rfl (rv_ev rfl) ?_
  refine hl_eql rfl rfl rfl rfl rfl rfl (fun h4 => ?_) (fun h4 => ?_)
  ·
   refine hl_v rfl rfl rfl (rv_ev rfl) ?_
   refine hl_less (sx 0 rfl (sx 1 rfl (sx 2 rfl (sx 6 rfl (sx 7 rfl (sx 11 rfl (sub_nil _))))))) (.refl _) ?_
   refine hl_nil ?_
   refine hq_then ?_
   refine hc_ret ?_
   exact hq_ans rfl rfl (congrArg _ (pB_yes ⟨by omega, fun i hi => hq i (by omega)⟩).symm)
  ·
   refine hl_v rfl rfl rfl (rv_ev rfl) ?_
   refine hl_less (sx 0 rfl (sx 1 rfl (sx 2 rfl (sx 6 rfl (sx 7 rfl (sx 11 rfl (sub_nil _))))))) (.refl _) ?_
   refine hl_nil ?_
   refine hq_then ?_
   refine hc_ret ?_
   exact hq_ans rfl rfl (congrArg _ (pB_no (fun hp => by first | (have h9 := hp.1; omega) | (have h9 := hp.2 j (by omega); omega))).symm)
set_option maxHeartbeats 4000000 in
set_option maxRecDepth 100000 in
theorem seqOk_ans (s : Sq) (w : World) (hx : RdsW w s.iv 1 s.xs.length (s.xs.map (Value.int .i64))) :
  Calls Try.prog 95 #[.agg #[.int .i64 s.kd, .int .i64 s.it, s.iv]] w (Ans w (.bool (pB (SqOk s)))) := by
 refine calls_hc (N := 27) (args := [.agg #[.int .i64 s.kd, .int .i64 s.it, s.iv]]) Try.func95 rfl rfl ?_
 refine hc_less _ (sx 0 rfl (sub_nil _)) (.refl _) ?_
 refine hc_seq ?_
 refine hc_region ?_
 refine hl_box rfl rfl rfl (rq_box rfl rfl) ?_
 intro b1
 refine hl_v rfl rfl rfl (rv_ev rfl) ?_
 refine hl_less (sx 0 rfl (sx 1 rfl (sx 2 rfl (sub_nil _)))) (.refl _) ?_
 refine hl_nil ?_
 refine hq_then ?_
 refine hc_seq ?_
 refine hc_seq ?_
 refine hc_region ?_
 refine hl_v rfl rfl rfl (rv_field (k0 := 0) rfl (by kernel_rfl) rfl) ?_
 refine hl_v rfl rfl rfl (rv_load rfl (by kernel_rfl) rfl (box_cell 0 rfl rfl)) ?_
 refine hl_less (sx 0 rfl (sx 1 rfl (sx 2 rfl (sx 4 rfl (sub_nil _))))) (.refl _) ?_
 refine hl_nil ?_
 refine hq_then ?_
 refine hc_block ?_
 refine hc_seq ?_
 refine hc_region ?_
 refine hl_eql rfl rfl rfl rfl rfl rfl (fun h2 => ?_) (fun h2 => ?_)
 ·
  refine hl_v rfl rfl rfl (rv_ev rfl) ?_
  refine hl_less (sx 0 rfl (sx 1 rfl (sx 2 rfl (sx 4 rfl (sx 5 rfl (sub_nil _)))))) (.refl _) ?_
  refine hl_nil ?_
  refine hq_then ?_
  refine hc_true rfl ?_
  refine hc_seq ?_
  refine hc_region ?_
  refine hl_v rfl rfl rfl (rv_field (k0 := 1) rfl (by kernel_rfl) rfl) ?_
  refine hl_v rfl rfl rfl (rv_load rfl (by kernel_rfl) rfl (box_cell 0 rfl rfl)) ?_
  refine hl_callV rfl rfl rfl (rq_call (by kernel_rfl) rfl (fun w hm => ret_ans (ans_of (inRange_any _ _ _ w)))) ?_
  refine hl_bool (fun h3 => ?_) (fun h3 => ?_)
  ·
   obtain ⟨h3a, h3b⟩ := (inR_iff _ _ _).1 h3
   refine hl_v rfl rfl rfl (rv_ev rfl) ?_
   refine hl_v rfl rfl rfl (rv_field (k0 := 2) rfl (by kernel_rfl) rfl) ?_
   refine hl_v rfl rfl rfl (rv_load rfl (by kernel_rfl) rfl (box_cell 0 rfl rfl)) ?_
   refine hl_v rfl rfl rfl (rv_len rfl Try.underlying24 rfl (rd_old hx)) ?_
   refine hl_eql rfl rfl rfl rfl rfl rfl (fun h4 => ?_) (fun h4 => ?_)
   ·
    refine hl_v rfl rfl rfl (rv_ev rfl) ?_
    refine hl_v rfl rfl rfl (rv_ev rfl) ?_
    refine hl_less (sx 0 rfl (sx 1 rfl (sx 2 rfl (sx 4 rfl (sx 5 rfl (sub_nil _)))))) (.refl _) ?_
    refine hl_nil ?_
    refine hq_then ?_
    refine hc_ret ?_
    refine hq_block_ret ?_
    refine hq_then_ret ?_
    exact hq_ans rfl rfl (congrArg _ (pB_yes ⟨by omega⟩).symm)
   ·
    refine hl_v rfl rfl rfl (rv_ev rfl) ?_
    refine hl_v rfl rfl rfl (rv_ev rfl) ?_
    refine hl_less (sx 0 rfl (sx 1 rfl (sx 2 rfl (sx 4 rfl (sx 5 rfl (sub_nil _)))))) (.refl _) ?_
    refine hl_nil ?_
    refine hq_then ?_
    refine hc_ret ?_
    refine hq_block_ret ?_
    refine hq_then_ret ?_
    exact hq_ans rfl rfl (congrArg _ (pB_no (fun hp => by first | (rcases hp.kind with ⟨a, b, c⟩ | ⟨a, b, c⟩ <;> omega))).symm)
  ·
   have h3a := inR_notL h3
   refine hl_v rfl rfl rfl (rv_ev rfl) ?_
   refine hl_skip rfl rfl rfl ?_
   refine hl_skip rfl rfl rfl ?_
   refine hl_skip rfl rfl rfl ?_
   refine hl_skip rfl rfl rfl ?_
   refine hl_v rfl rfl rfl (rv_ev rfl) ?_
   refine hl_v rfl rfl rfl (rv_ev rfl) ?_
   refine hl_less (sx 0 rfl (sx 1 rfl (sx 2 rfl (sx 4 rfl (sx 5 rfl (sub_nil _)))))) (.refl _) ?_
   refine hl_nil ?_
   refine hq_then ?_
   refine hc_ret ?_
   refine hq_block_ret ?_
   refine hq_then_ret ?_
   exact hq_ans rfl rfl (congrArg _ (pB_no (fun hp => by first | (rcases hp.kind with ⟨a, b, c⟩ | ⟨a, b, c⟩ <;> omega))).symm)
 ·
  refine hl_v rfl rfl rfl (rv_ev rfl) ?_
  refine hl_less (sx 0 rfl (sx 1 rfl (sx 2 rfl (sx 4 rfl (sx 5 rfl (sub_nil _)))))) (.refl _) ?_
  refine hl_nil ?_
  refine hq_then ?_
  refine hc_false rfl ?_
  refine hc_seq ?_
  refine hc_region ?_
  refine hl_eql rfl rfl rfl rfl rfl rfl (fun h5 => ?_) (fun h5 => ?_)
  ·
   refine hl_v rfl rfl rfl (rv_ev rfl) ?_
   refine hl_less (sx 0 rfl (sx 1 rfl (sx 2 rfl (sx 4 rfl (sx 5 rfl (sx 16 rfl (sub_nil _))))))) (.refl _) ?_
   refine hl_nil ?_
   refine hq_then ?_
   refine hc_true rfl ?_
   refine hc_seq ?_
   refine hc_region ?_
   refine hl_v rfl rfl rfl (rv_field (k0 := 1) rfl (by kernel_rfl) rfl) ?_
   refine hl_v rfl rfl rfl (rv_load rfl (by kernel_rfl) rfl (box_cell 0 rfl rfl)) ?_
   refine hl_callV rfl rfl rfl (rq_call (by kernel_rfl) rfl (fun w hm => ret_ans (ans_of (inRange_any _ _ _ w)))) ?_
   refine hl_bool (fun h6 => ?_) (fun h6 => ?_)
   ·
    obtain ⟨h6a, h6b⟩ := (inR_iff _ _ _).1 h6
    refine hl_v rfl rfl rfl (rv_ev rfl) ?_
    refine hl_v rfl rfl rfl (rv_field (k0 := 2) rfl (by kernel_rfl) rfl) ?_
    refine hl_v rfl rfl rfl (rv_load rfl (by kernel_rfl) rfl (box_cell 0 rfl rfl)) ?_
    refine hl_v rfl rfl rfl (rv_len rfl Try.underlying24 rfl (rd_old hx)) ?_
    refine hl_eql rfl rfl rfl rfl rfl rfl (fun h7 => ?_) (fun h7 => ?_)
    ·
     refine hl_v rfl rfl rfl (rv_ev rfl) ?_
     refine hl_v rfl rfl rfl (rv_ev rfl) ?_
     refine hl_less (sx 0 rfl (sx 1 rfl (sx 2 rfl (sx 4 rfl (sx 5 rfl (sx 16 rfl (sub_nil _))))))) (.refl _) ?_
     refine hl_nil ?_
     refine hq_then ?_
     refine hc_ret ?_
     refine hq_block_ret ?_
     refine hq_then_ret ?_
     exact hq_ans rfl rfl (congrArg _ (pB_yes ⟨by omega⟩).symm)
    ·
     refine hl_v rfl rfl rfl (rv_ev rfl) ?_
     refine hl_v rfl rfl rfl (rv_ev rfl) ?_
     refine hl_less (sx 0 rfl (sx 1 rfl (sx 2 rfl (sx 4 rfl (sx 5 rfl (sx 16 rfl (sub_nil _))))))) (.refl _) ?_
     refine hl_nil ?_
     refine hq_then ?_
     refine hc_ret ?_
     refine hq_block_ret ?_
     refine hq_then_ret ?_
     exact hq_ans rfl rfl (congrArg _ (pB_no (fun hp => by first | (rcases hp.kind with ⟨a, b, c⟩ | ⟨a, b, c⟩ <;> omega))).symm)
   ·
    have h6a := inR_notL h6
    refine hl_v rfl rfl rfl (rv_ev rfl) ?_
    refine hl_skip rfl rfl rfl ?_
    refine hl_skip rfl rfl rfl ?_
    refine hl_skip rfl rfl rfl ?_
    refine hl_skip rfl rfl rfl ?_
    refine hl_v rfl rfl rfl (rv_ev rfl) ?_
    refine hl_v rfl rfl rfl (rv_ev rfl) ?_
    refine hl_less (sx 0 rfl (sx 1 rfl (sx 2 rfl (sx 4 rfl (sx 5 rfl (sx 16 rfl (sub_nil _))))))) (.refl _) ?_
    refine hl_nil ?_
    refine hq_then ?_
    refine hc_ret ?_
    refine hq_block_ret ?_
    refine hq_then_ret ?_
    exact hq_ans rfl rfl (congrArg _ (pB_no (fun hp => by first | (rcases hp.kind with ⟨a, b, c⟩ | ⟨a, b, c⟩ <;> omega))).symm)
  ·
   refine hl_v rfl rfl rfl (rv_ev rfl) ?_
   refine hl_less (sx 0 rfl (sx 1 rfl (sx 2 rfl (sx 4 rfl (sx 5 rfl (sx 16 rfl (sub_nil _))))))) (.refl _) ?_
   refine hl_nil ?_
   refine hq_then ?_
   refine hc_false rfl ?_
   refine hc_skip ?_
   refine hq_block_normal ?_
   refine hq_then ?_
   refine hc_seq ?_
   refine hc_region ?_
   refine hl_v rfl rfl rfl (rv_ev rfl) ?_
   refine hl_less (sx 0 rfl (sx 1 rfl (sx 2 rfl (sx 4 rfl (sx 5 rfl (sx 16 rfl (sub_nil _))))))) (.refl _) ?_
   refine hl_nil ?_
   refine hq_then ?_
   refine hc_ret ?_
   exact hq_ans rfl rfl (congrArg _ (pB_no (fun hp => by first | (rcases hp.kind with ⟨a, b, c⟩ | ⟨a, b, c⟩ <;> omega))).symm)
set_option maxHeartbeats 4000000 in
set_option maxRecDepth 100000 in
theorem l02FullT_ans (n : Int) (w : World) (hn : 0 ≤ n ∧ n ≤ 4) :
  Calls Try.prog 100 #[.int .i64 n] w (Ans w (.int .i64 (qT n - 1))) := by
 have hp := pT_rng hn
 have hq := qT_rng hn
 refine calls_hc (N := 7) (args := [.int .i64 n]) Try.func100 rfl rfl ?_
 refine hc_less _ (sx 0 rfl (sub_nil _)) (.refl _) ?_
 refine hc_seq ?_
 refine hc_region ?_
 refine hl_v rfl rfl rfl (rv_ev rfl) ?_
 refine hl_less (sx 0 rfl (sx 2 rfl (sub_nil _))) (.refl _) ?_
 refine hl_nil ?_
 refine hq_then ?_
 refine hc_seq ?_
 refine hc_region ?_
 refine hl_v rfl rfl rfl (rv_ev rfl) ?_
 refine hl_v rfl rfl rfl (rv_shlG (k := .u64) (kk := .i64) (r := (pT n : Int)) rfl rfl rfl rfl (by omega) (wruT hn)) ?_
 refine hl_v rfl rfl rfl (rv_shlG (k := .i64) (kk := .u64) (r := qT n) rfl rfl rfl rfl (by omega) (wrqT (by omega))) ?_
 refine hl_v rfl rfl rfl (rv_sub rfl rfl rfl (by constructor <;> omega)) ?_
 refine hl_v rfl rfl rfl (rv_ev rfl) ?_
 refine hl_less (sx 0 rfl (sx 2 rfl (sub_nil _))) (.refl _) ?_
 refine hl_nil ?_
 refine hq_then ?_
 refine hc_ret ?_
 exact hq_ans rfl rfl rfl
set_option maxHeartbeats 4000000 in
set_option maxRecDepth 100000 in
theorem implTabOk_ans (n b : Int) (w : World)  :
  Calls Try.prog 96 #[.agg #[.int .i64 n, .int .i64 b]] w (Ans w (.bool (pB (TabP n b)))) := by
 refine calls_hc (N := 17) (args := [.agg #[.int .i64 n, .int .i64 b]]) Try.func96 rfl rfl ?_
 refine hc_less _ (sx 0 rfl (sub_nil _)) (.refl _) ?_
 refine hc_seq ?_
 refine hc_region ?_
 refine hl_box rfl rfl rfl (rq_box rfl rfl) ?_
 intro b1
 refine hl_v rfl rfl rfl (rv_ev rfl) ?_
 refine hl_less (sx 0 rfl (sx 1 rfl (sx 2 rfl (sub_nil _)))) (.refl _) ?_
 refine hl_nil ?_
 refine hq_then ?_
 refine hc_seq ?_
 refine hc_region ?_
 refine hl_v rfl rfl rfl (rv_field (k0 := 0) rfl (by kernel_rfl) rfl) ?_
 refine hl_v rfl rfl rfl (rv_load rfl (by kernel_rfl) rfl (box_cell 0 rfl rfl)) ?_
 refine hl_callV rfl rfl rfl (rq_call (by kernel_rfl) rfl (fun w hm => ret_ans (ans_of (inRange_any _ _ _ w)))) ?_
 refine hl_bool (fun h2 => ?_) (fun h2 => ?_)
 ·
  obtain ⟨h2a, h2b⟩ := (inR_iff _ _ _).1 h2
  refine hl_v rfl rfl rfl (rv_ev rfl) ?_
  refine hl_v rfl rfl rfl (rv_field (k0 := 1) rfl (by kernel_rfl) rfl) ?_
  have hpT := pT_rng (n := n) (by omega)
  have hqT := qT_rng (n := n) (by omega)
  refine hl_v rfl rfl rfl (rv_load rfl (by kernel_rfl) rfl (box_cell 0 rfl rfl)) ?_
  refine hl_v rfl rfl rfl (rv_field (k0 := 0) rfl (by kernel_rfl) rfl) ?_
  refine hl_v rfl rfl rfl (rv_load rfl (by kernel_rfl) rfl (box_cell 0 rfl rfl)) ?_
  refine hl_v rfl rfl rfl (rv_conv rfl Try.underlying3 Try.underlying112 rfl (IntWalk.u64_in _ (by omega))) ?_
  refine hl_v rfl rfl rfl (rv_shlG (k := .u64) (kk := .u64) (r := (pT n : Int)) rfl rfl rfl rfl (by omega) (wruT (by omega))) ?_
  refine hl_v rfl rfl rfl (rv_shlG (k := .i64) (kk := .u64) (r := qT n) rfl rfl rfl rfl (by omega) (wrqT (by omega))) ?_
  refine hl_v rfl rfl rfl (rv_sub rfl rfl rfl (by constructor <;> omega)) ?_
  refine hl_callV rfl rfl rfl (rq_call (by kernel_rfl) rfl (fun w hm => ret_ans (ans_of (inRange_any _ _ _ w)))) ?_
  refine hl_bool (fun h3 => ?_) (fun h3 => ?_)
  ·
   obtain ⟨h3a, h3b⟩ := (inR_iff _ _ _).1 h3
   refine hl_v rfl rfl rfl (rv_ev rfl) ?_
   refine hl_v rfl rfl rfl (rv_ev rfl) ?_
   refine hl_less (sx 0 rfl (sx 1 rfl (sx 2 rfl (sub_nil _)))) (.refl _) ?_
   refine hl_nil ?_
   refine hq_then ?_
   refine hc_ret ?_
   exact hq_ans rfl rfl (congrArg _ (pB_yes ⟨by omega, by omega, by omega⟩).symm)
  ·
   have h3a := inR_notL h3
   refine hl_v rfl rfl rfl (rv_ev rfl) ?_
   refine hl_v rfl rfl rfl (rv_ev rfl) ?_
   refine hl_less (sx 0 rfl (sx 1 rfl (sx 2 rfl (sub_nil _)))) (.refl _) ?_
   refine hl_nil ?_
   refine hq_then ?_
   refine hc_ret ?_
   exact hq_ans rfl rfl (congrArg _ (pB_no (fun hp => by first | (obtain ⟨p1, p2, p3⟩ := hp; omega))).symm)
 ·
  have h2a := inR_notL h2
  refine hl_v rfl rfl rfl (rv_ev rfl) ?_
  refine hl_skip rfl rfl rfl ?_
  refine hl_skip rfl rfl rfl ?_
  refine hl_skip rfl rfl rfl ?_
  refine hl_skip rfl rfl rfl ?_
  refine hl_skip rfl rfl rfl ?_
  refine hl_skip rfl rfl rfl ?_
  refine hl_skip rfl rfl rfl ?_
  refine hl_skip rfl rfl rfl ?_
  refine hl_skip rfl rfl rfl ?_
  refine hl_v rfl rfl rfl (rv_ev rfl) ?_
  refine hl_v rfl rfl rfl (rv_ev rfl) ?_
  refine hl_less (sx 0 rfl (sx 1 rfl (sx 2 rfl (sub_nil _)))) (.refl _) ?_
  refine hl_nil ?_
  refine hq_then ?_
  refine hc_ret ?_
  exact hq_ans rfl rfl (congrArg _ (pB_no (fun hp => by first | (obtain ⟨p1, p2, p3⟩ := hp; omega))).symm)
set_option maxHeartbeats 4000000 in
set_option maxRecDepth 100000 in
theorem specTabOk_ans (n b : Int) (w : World)  :
  Calls Try.prog 90 #[.agg #[.int .i64 n, .int .i64 b]] w (Ans w (.bool (pB (TabP n b)))) := by
 refine calls_hc (N := 19) (args := [.agg #[.int .i64 n, .int .i64 b]]) Try.func90 rfl rfl ?_
 refine hc_less _ (sx 0 rfl (sub_nil _)) (.refl _) ?_
 refine hc_seq ?_
 refine hc_region ?_
 refine hl_box rfl rfl rfl (rq_box rfl rfl) ?_
 intro b1
 refine hl_v rfl rfl rfl (rv_ev rfl) ?_
 refine hl_less (sx 0 rfl (sx 1 rfl (sx 2 rfl (sub_nil _)))) (.refl _) ?_
 refine hl_nil ?_
 refine hq_then ?_
 refine hc_seq ?_
 rcases Bool.eq_false_or_eq_true (inR n 0 4) with hb2 | hb2
 ·
  obtain ⟨hb2a, hb2b⟩ := (inR_iff _ _ _).1 hb2
  rcases Bool.eq_false_or_eq_true (decide (0 ≤ b)) with hb3 | hb3
  ·
   have hb3p : 0 ≤ b := of_decide_eq_true hb3
   rcases Bool.eq_false_or_eq_true (decide (b ≤ qT n - 1)) with hb4 | hb4
   ·
    have hb4p : b ≤ qT n - 1 := of_decide_eq_true hb4
    refine hc_draw (by kernel_rfl) 16 [0, 1, 2, 3, 4, 5, 6, 7, 8, 9, 10, 11, 12, 13, 14, 15] (List.take 16 _) (List.drop 16 _) [[], [0], [1], [2], [3], [3, 4], [3, 5], [3, 6], [7], [8], [8, 9], [8], [8, 11], [8, 12], [8, 10, 13], [8, 14]] [3, 4, 5, 6, 7, 8, 9, 10, 11, 12, 13, 14, 15, 16, 17, 18] (fun i_ vs_ v_ p_ => match i_ with | 0 => v_ = .pointer (some ⟨b1, 0 + 0, none⟩) ∧ p_ = [] | 1 => v_ = .int .i64 n ∧ p_ = [] | 2 => v_ = .bool true ∧ p_ = [] | 3 => v_ = .bool true ∧ p_ = [] | 4 => v_ = .pointer (some ⟨b1, 0 + 1, none⟩) ∧ p_ = [] | 5 => v_ = .int .i64 b ∧ p_ = [] | 6 => v_ = .bool true ∧ p_ = [] | 7 => v_ = .bool true ∧ p_ = [] | 8 => v_ = .bool true ∧ p_ = [] | 9 => v_ = .pointer (some ⟨b1, 0 + 1, none⟩) ∧ p_ = [] | 10 => v_ = .int .i64 b ∧ p_ = [] | 11 => v_ = .pointer (some ⟨b1, 0 + 0, none⟩) ∧ p_ = [] | 12 => v_ = .int .i64 n ∧ p_ = [] | 13 => v_ = .int .i64 (qT n - 1) ∧ p_ = [] | 14 => v_ = .bool true ∧ p_ = [] | 15 => v_ = .bool true ∧ p_ = [] | _ => True) (List.take_append_drop 16 _).symm (by kernel_rfl) (by kernel_rfl) rfl rfl ?_ ?_
    ·
     refine ⟨?_, ?_, ?_, ?_, ?_, ?_, ?_, ?_, ?_, ?_, ?_, ?_, ?_, ?_, ?_, ?_, trivial⟩
     ·
      intro vf pf hR
      refine Or.inl ⟨rfl, ?_⟩
      refine rq_less (sx 1 rfl (sub_nil _)) (List.sublist_append_right _ _) ?_
      exact rq_v (rv_field (k0 := 0) rfl (by kernel_rfl) rfl)
     ·
      intro vf pf hR
      have e0 : (vf 0) = .pointer (some ⟨b1, 0 + 0, none⟩) ∧ (pf 0) = [] := hR 0 (by decide)
      refine Or.inl ⟨rfl, ?_⟩
      refine rq_less (sx 3 (congrArg some e0.1) (sub_nil _)) (List.sublist_append_right _ _) ?_
      exact rq_v (rv_load rfl (by kernel_rfl) rfl (box_cell 0 rfl rfl))
     ·
      intro vf pf hR
      have e1 : (vf 1) = .int .i64 n ∧ (pf 1) = [] := hR 1 (by decide)
      refine Or.inl ⟨rfl, ?_⟩
      refine rq_less (sx 4 (congrArg some e1.1) (sub_nil _)) (List.sublist_append_right _ _) ?_
      exact rq_mono (rq_call (by kernel_rfl) rfl (fun w hm => ret_ans (l01In_ans n 0 4 w))) (fun _ _ h => ⟨h.1.trans (congrArg Value.bool hb2), h.2⟩)
     ·
      intro vf pf hR
      have e2 : (vf 2) = .bool true ∧ (pf 2) = [] := hR 2 (by decide)
      refine Or.inl ⟨rfl, ?_⟩
      refine rq_less (sx 5 (congrArg some e2.1) (sub_nil _)) (List.sublist_append_right _ _) ?_
      exact rq_v (rv_ev rfl)
     ·
      intro vf pf hR
      have e3 : (vf 3) = .bool true ∧ (pf 3) = [] := hR 3 (by decide)
      refine Or.inl ⟨want_of (congrArg some e3.1) rfl, ?_⟩
      refine rq_less (sx 1 rfl (sub_nil _)) (List.sublist_append_right _ _) ?_
      exact rq_v (rv_field (k0 := 1) rfl (by kernel_rfl) rfl)
     ·
      intro vf pf hR
      have e3 : (vf 3) = .bool true ∧ (pf 3) = [] := hR 3 (by decide)
      have e4 : (vf 4) = .pointer (some ⟨b1, 0 + 1, none⟩) ∧ (pf 4) = [] := hR 4 (by decide)
      refine Or.inl ⟨want_of (congrArg some e3.1) rfl, ?_⟩
      refine rq_less (sx 7 (congrArg some e4.1) (sub_nil _)) (List.sublist_append_right _ _) ?_
      exact rq_v (rv_load rfl (by kernel_rfl) rfl (box_cell 0 rfl rfl))
     ·
      intro vf pf hR
      have e3 : (vf 3) = .bool true ∧ (pf 3) = [] := hR 3 (by decide)
      have e5 : (vf 5) = .int .i64 b ∧ (pf 5) = [] := hR 5 (by decide)
      refine Or.inl ⟨want_of (congrArg some e3.1) rfl, ?_⟩
      refine rq_less (sx 8 (congrArg some e5.1) (sub_nil _)) (List.sublist_append_right _ _) ?_
      exact rq_mono (rq_v (rv_cmp rfl rfl rfl rfl)) (fun _ _ h => ⟨h.1.trans (congrArg Value.bool hb3), h.2⟩)
     ·
      intro vf pf hR
      have e3 : (vf 3) = .bool true ∧ (pf 3) = [] := hR 3 (by decide)
      have e6 : (vf 6) = .bool true ∧ (pf 6) = [] := hR 6 (by decide)
      refine Or.inl ⟨rfl, ?_⟩
      refine rq_less (sx 6 (congrArg some e3.1) (sx 9 (congrArg some e6.1) (sub_nil _))) (List.sublist_append_right _ _) ?_
      exact rq_v (rv_ev rfl)
     ·
      intro vf pf hR
      have e7 : (vf 7) = .bool true ∧ (pf 7) = [] := hR 7 (by decide)
      refine Or.inl ⟨rfl, ?_⟩
      refine rq_less (sx 10 (congrArg some e7.1) (sub_nil _)) (List.sublist_append_right _ _) ?_
      exact rq_v (rv_ev rfl)
     ·
      intro vf pf hR
      have e8 : (vf 8) = .bool true ∧ (pf 8) = [] := hR 8 (by decide)
      refine Or.inl ⟨want_of (congrArg some e8.1) rfl, ?_⟩
      refine rq_less (sx 1 rfl (sub_nil _)) (List.sublist_append_right _ _) ?_
      exact rq_v (rv_field (k0 := 1) rfl (by kernel_rfl) rfl)
     ·
      intro vf pf hR
      have e8 : (vf 8) = .bool true ∧ (pf 8) = [] := hR 8 (by decide)
      have e9 : (vf 9) = .pointer (some ⟨b1, 0 + 1, none⟩) ∧ (pf 9) = [] := hR 9 (by decide)
      refine Or.inl ⟨want_of (congrArg some e8.1) rfl, ?_⟩
      refine rq_less (sx 12 (congrArg some e9.1) (sub_nil _)) (List.sublist_append_right _ _) ?_
      exact rq_v (rv_load rfl (by kernel_rfl) rfl (box_cell 0 rfl rfl))
     ·
      intro vf pf hR
      have e8 : (vf 8) = .bool true ∧ (pf 8) = [] := hR 8 (by decide)
      refine Or.inl ⟨want_of (congrArg some e8.1) rfl, ?_⟩
      refine rq_less (sx 1 rfl (sub_nil _)) (List.sublist_append_right _ _) ?_
      exact rq_v (rv_field (k0 := 0) rfl (by kernel_rfl) rfl)
     ·
      intro vf pf hR
      have e8 : (vf 8) = .bool true ∧ (pf 8) = [] := hR 8 (by decide)
      have e11 : (vf 11) = .pointer (some ⟨b1, 0 + 0, none⟩) ∧ (pf 11) = [] := hR 11 (by decide)
      refine Or.inl ⟨want_of (congrArg some e8.1) rfl, ?_⟩
      refine rq_less (sx 14 (congrArg some e11.1) (sub_nil _)) (List.sublist_append_right _ _) ?_
      exact rq_v (rv_load rfl (by kernel_rfl) rfl (box_cell 0 rfl rfl))
     ·
      intro vf pf hR
      have e8 : (vf 8) = .bool true ∧ (pf 8) = [] := hR 8 (by decide)
      have e12 : (vf 12) = .int .i64 n ∧ (pf 12) = [] := hR 12 (by decide)
      refine Or.inl ⟨want_of (congrArg some e8.1) rfl, ?_⟩
      refine rq_less (sx 15 (congrArg some e12.1) (sub_nil _)) (List.sublist_append_right _ _) ?_
      exact (rq_call (by kernel_rfl) rfl (fun w hm => ret_ans (l02FullT_ans n w (by omega))))
     ·
      intro vf pf hR
      have e8 : (vf 8) = .bool true ∧ (pf 8) = [] := hR 8 (by decide)
      have e10 : (vf 10) = .int .i64 b ∧ (pf 10) = [] := hR 10 (by decide)
      have e13 : (vf 13) = .int .i64 (qT n - 1) ∧ (pf 13) = [] := hR 13 (by decide)
      refine Or.inl ⟨want_of (congrArg some e8.1) rfl, ?_⟩
      refine rq_less (sx 13 (congrArg some e10.1) (sx 16 (congrArg some e13.1) (sub_nil _))) (List.sublist_append_right _ _) ?_
      exact rq_mono (rq_v (rv_cmp rfl rfl rfl rfl)) (fun _ _ h => ⟨h.1.trans (congrArg Value.bool hb4), h.2⟩)
     ·
      intro vf pf hR
      have e8 : (vf 8) = .bool true ∧ (pf 8) = [] := hR 8 (by decide)
      have e14 : (vf 14) = .bool true ∧ (pf 14) = [] := hR 14 (by decide)
      refine Or.inl ⟨rfl, ?_⟩
      refine rq_less (sx 11 (congrArg some e8.1) (sx 17 (congrArg some e14.1) (sub_nil _))) (List.sublist_append_right _ _) ?_
      exact rq_v (rv_ev rfl)
    ·
     intro vf pf hR
     have e15 : (vf 15) = .bool true ∧ (pf 15) = [] := hR 15 (by decide)
     refine hl_less (l' := [boxE b1 #[.int .i64 n, .int .i64 b] 121]) (sx 0 rfl (sx 1 rfl (sx 2 rfl (sx 18 (congrArg some e15.1) (sub_nil _))))) (List.sublist_append_right _ _) ?_
     simp only [List.drop_succ_cons, List.drop_zero]
     refine hl_v rfl rfl rfl (rv_ev rfl) ?_
     refine hl_less (sx 0 rfl (sx 1 rfl (sx 2 rfl (sub_nil _)))) (.refl _) ?_
     refine hl_nil ?_
     refine hq_then ?_
     refine hc_ret ?_
     exact hq_ans rfl rfl (congrArg _ (pB_yes ⟨by omega, by omega, by omega⟩).symm)
   ·
    have hb4p : ¬ (b ≤ qT n - 1) := of_decide_eq_false hb4
    refine hc_draw (by kernel_rfl) 16 [0, 1, 2, 3, 4, 5, 6, 7, 8, 9, 10, 11, 12, 13, 14, 15] (List.take 16 _) (List.drop 16 _) [[], [0], [1], [2], [3], [3, 4], [3, 5], [3, 6], [7], [8], [8, 9], [8], [8, 11], [8, 12], [8, 10, 13], [8, 14]] [3, 4, 5, 6, 7, 8, 9, 10, 11, 12, 13, 14, 15, 16, 17, 18] (fun i_ vs_ v_ p_ => match i_ with | 0 => v_ = .pointer (some ⟨b1, 0 + 0, none⟩) ∧ p_ = [] | 1 => v_ = .int .i64 n ∧ p_ = [] | 2 => v_ = .bool true ∧ p_ = [] | 3 => v_ = .bool true ∧ p_ = [] | 4 => v_ = .pointer (some ⟨b1, 0 + 1, none⟩) ∧ p_ = [] | 5 => v_ = .int .i64 b ∧ p_ = [] | 6 => v_ = .bool true ∧ p_ = [] | 7 => v_ = .bool true ∧ p_ = [] | 8 => v_ = .bool true ∧ p_ = [] | 9 => v_ = .pointer (some ⟨b1, 0 + 1, none⟩) ∧ p_ = [] | 10 => v_ = .int .i64 b ∧ p_ = [] | 11 => v_ = .pointer (some ⟨b1, 0 + 0, none⟩) ∧ p_ = [] | 12 => v_ = .int .i64 n ∧ p_ = [] | 13 => v_ = .int .i64 (qT n - 1) ∧ p_ = [] | 14 => v_ = .bool false ∧ p_ = [] | 15 => v_ = .bool false ∧ p_ = [] | _ => True) (List.take_append_drop 16 _).symm (by kernel_rfl) (by kernel_rfl) rfl rfl ?_ ?_
    ·
     refine ⟨?_, ?_, ?_, ?_, ?_, ?_, ?_, ?_, ?_, ?_, ?_, ?_, ?_, ?_, ?_, ?_, trivial⟩
     ·
      intro vf pf hR
      refine Or.inl ⟨rfl, ?_⟩
      refine rq_less (sx 1 rfl (sub_nil _)) (List.sublist_append_right _ _) ?_
      exact rq_v (rv_field (k0 := 0) rfl (by kernel_rfl) rfl)
     ·
      intro vf pf hR
      have e0 : (vf 0) = .pointer (some ⟨b1, 0 + 0, none⟩) ∧ (pf 0) = [] := hR 0 (by decide)
      refine Or.inl ⟨rfl, ?_⟩
      refine rq_less (sx 3 (congrArg some e0.1) (sub_nil _)) (List.sublist_append_right _ _) ?_
      exact rq_v (rv_load rfl (by kernel_rfl) rfl (box_cell 0 rfl rfl))
     ·
      intro vf pf hR
      have e1 : (vf 1) = .int .i64 n ∧ (pf 1) = [] := hR 1 (by decide)
      refine Or.inl ⟨rfl, ?_⟩
      refine rq_less (sx 4 (congrArg some e1.1) (sub_nil _)) (List.sublist_append_right _ _) ?_
      exact rq_mono (rq_call (by kernel_rfl) rfl (fun w hm => ret_ans (l01In_ans n 0 4 w))) (fun _ _ h => ⟨h.1.trans (congrArg Value.bool hb2), h.2⟩)
     ·
      intro vf pf hR
      have e2 : (vf 2) = .bool true ∧ (pf 2) = [] := hR 2 (by decide)
      refine Or.inl ⟨rfl, ?_⟩
      refine rq_less (sx 5 (congrArg some e2.1) (sub_nil _)) (List.sublist_append_right _ _) ?_
      exact rq_v (rv_ev rfl)
     ·
      intro vf pf hR
      have e3 : (vf 3) = .bool true ∧ (pf 3) = [] := hR 3 (by decide)
      refine Or.inl ⟨want_of (congrArg some e3.1) rfl, ?_⟩
      refine rq_less (sx 1 rfl (sub_nil _)) (List.sublist_append_right _ _) ?_
      exact rq_v (rv_field (k0 := 1) rfl (by kernel_rfl) rfl)
     ·
      intro vf pf hR
      have e3 : (vf 3) = .bool true ∧ (pf 3) = [] := hR 3 (by decide)
      have e4 : (vf 4) = .pointer (some ⟨b1, 0 + 1, none⟩) ∧ (pf 4) = [] := hR 4 (by decide)
      refine Or.inl ⟨want_of (congrArg some e3.1) rfl, ?_⟩
      refine rq_less (sx 7 (congrArg some e4.1) (sub_nil _)) (List.sublist_append_right _ _) ?_
      exact rq_v (rv_load rfl (by kernel_rfl) rfl (box_cell 0 rfl rfl))
     ·
      intro vf pf hR
      have e3 : (vf 3) = .bool true ∧ (pf 3) = [] := hR 3 (by decide)
      have e5 : (vf 5) = .int .i64 b ∧ (pf 5) = [] := hR 5 (by decide)
      refine Or.inl ⟨want_of (congrArg some e3.1) rfl, ?_⟩
      refine rq_less (sx 8 (congrArg some e5.1) (sub_nil _)) (List.sublist_append_right _ _) ?_
      exact rq_mono (rq_v (rv_cmp rfl rfl rfl rfl)) (fun _ _ h => ⟨h.1.trans (congrArg Value.bool hb3), h.2⟩)
     ·
      intro vf pf hR
      have e3 : (vf 3) = .bool true ∧ (pf 3) = [] := hR 3 (by decide)
      have e6 : (vf 6) = .bool true ∧ (pf 6) = [] := hR 6 (by decide)
      refine Or.inl ⟨rfl, ?_⟩
      refine rq_less (sx 6 (congrArg some e3.1) (sx 9 (congrArg some e6.1) (sub_nil _))) (List.sublist_append_right _ _) ?_
      exact rq_v (rv_ev rfl)
     ·
      intro vf pf hR
      have e7 : (vf 7) = .bool true ∧ (pf 7) = [] := hR 7 (by decide)
      refine Or.inl ⟨rfl, ?_⟩
      refine rq_less (sx 10 (congrArg some e7.1) (sub_nil _)) (List.sublist_append_right _ _) ?_
      exact rq_v (rv_ev rfl)
     ·
      intro vf pf hR
      have e8 : (vf 8) = .bool true ∧ (pf 8) = [] := hR 8 (by decide)
      refine Or.inl ⟨want_of (congrArg some e8.1) rfl, ?_⟩
      refine rq_less (sx 1 rfl (sub_nil _)) (List.sublist_append_right _ _) ?_
      exact rq_v (rv_field (k0 := 1) rfl (by kernel_rfl) rfl)
     ·
      intro vf pf hR
      have e8 : (vf 8) = .bool true ∧ (pf 8) = [] := hR 8 (by decide)
      have e9 : (vf 9) = .pointer (some ⟨b1, 0 + 1, none⟩) ∧ (pf 9) = [] := hR 9 (by decide)
      refine Or.inl ⟨want_of (congrArg some e8.1) rfl, ?_⟩
      refine rq_less (sx 12 (congrArg some e9.1) (sub_nil _)) (List.sublist_append_right _ _) ?_
      exact rq_v (rv_load rfl (by kernel_rfl) rfl (box_cell 0 rfl rfl))
     ·
      intro vf pf hR
      have e8 : (vf 8) = .bool true ∧ (pf 8) = [] := hR 8 (by decide)
      refine Or.inl ⟨want_of (congrArg some e8.1) rfl, ?_⟩
      refine rq_less (sx 1 rfl (sub_nil _)) (List.sublist_append_right _ _) ?_
      exact rq_v (rv_field (k0 := 0) rfl (by kernel_rfl) rfl)
     ·
      intro vf pf hR
      have e8 : (vf 8) = .bool true ∧ (pf 8) = [] := hR 8 (by decide)
      have e11 : (vf 11) = .pointer (some ⟨b1, 0 + 0, none⟩) ∧ (pf 11) = [] := hR 11 (by decide)
      refine Or.inl ⟨want_of (congrArg some e8.1) rfl, ?_⟩
      refine rq_less (sx 14 (congrArg some e11.1) (sub_nil _)) (List.sublist_append_right _ _) ?_
      exact rq_v (rv_load rfl (by kernel_rfl) rfl (box_cell 0 rfl rfl))
     ·
      intro vf pf hR
      have e8 : (vf 8) = .bool true ∧ (pf 8) = [] := hR 8 (by decide)
      have e12 : (vf 12) = .int .i64 n ∧ (pf 12) = [] := hR 12 (by decide)
      refine Or.inl ⟨want_of (congrArg some e8.1) rfl, ?_⟩
      refine rq_less (sx 15 (congrArg some e12.1) (sub_nil _)) (List.sublist_append_right _ _) ?_
      exact (rq_call (by kernel_rfl) rfl (fun w hm => ret_ans (l02FullT_ans n w (by omega))))
     ·
      intro vf pf hR
      have e8 : (vf 8) = .bool true ∧ (pf 8) = [] := hR 8 (by decide)
      have e10 : (vf 10) = .int .i64 b ∧ (pf 10) = [] := hR 10 (by decide)
      have e13 : (vf 13) = .int .i64 (qT n - 1) ∧ (pf 13) = [] := hR 13 (by decide)
      refine Or.inl ⟨want_of (congrArg some e8.1) rfl, ?_⟩
      refine rq_less (sx 13 (congrArg some e10.1) (sx 16 (congrArg some e13.1) (sub_nil _))) (List.sublist_append_right _ _) ?_
      exact rq_mono (rq_v (rv_cmp rfl rfl rfl rfl)) (fun _ _ h => ⟨h.1.trans (congrArg Value.bool hb4), h.2⟩)
     ·
      intro vf pf hR
      have e8 : (vf 8) = .bool true ∧ (pf 8) = [] := hR 8 (by decide)
      have e14 : (vf 14) = .bool false ∧ (pf 14) = [] := hR 14 (by decide)
      refine Or.inl ⟨rfl, ?_⟩
      refine rq_less (sx 11 (congrArg some e8.1) (sx 17 (congrArg some e14.1) (sub_nil _))) (List.sublist_append_right _ _) ?_
      exact rq_v (rv_ev rfl)
    ·
     intro vf pf hR
     have e15 : (vf 15) = .bool false ∧ (pf 15) = [] := hR 15 (by decide)
     refine hl_less (l' := [boxE b1 #[.int .i64 n, .int .i64 b] 121]) (sx 0 rfl (sx 1 rfl (sx 2 rfl (sx 18 (congrArg some e15.1) (sub_nil _))))) (List.sublist_append_right _ _) ?_
     simp only [List.drop_succ_cons, List.drop_zero]
     refine hl_v rfl rfl rfl (rv_ev rfl) ?_
     refine hl_less (sx 0 rfl (sx 1 rfl (sx 2 rfl (sub_nil _)))) (.refl _) ?_
     refine hl_nil ?_
     refine hq_then ?_
     refine hc_ret ?_
     exact hq_ans rfl rfl (congrArg _ (pB_no (fun hp => by first | (obtain ⟨p1, p2, p3⟩ := hp; omega))).symm)
  ·
   have hb3p : ¬ (0 ≤ b) := of_decide_eq_false hb3
   refine hc_draw (by kernel_rfl) 16 [0, 1, 2, 3, 4, 5, 6, 7, 8, 9, 10, 11, 12, 13, 14, 15] (List.take 16 _) (List.drop 16 _) [[], [0], [1], [2], [3], [3, 4], [3, 5], [3, 6], [7], [8], [8], [8], [8], [8], [8], [8, 14]] [3, 4, 5, 6, 7, 8, 9, 10, 11, 12, 13, 14, 15, 16, 17, 18] (fun i_ vs_ v_ p_ => match i_ with | 0 => v_ = .pointer (some ⟨b1, 0 + 0, none⟩) ∧ p_ = [] | 1 => v_ = .int .i64 n ∧ p_ = [] | 2 => v_ = .bool true ∧ p_ = [] | 3 => v_ = .bool true ∧ p_ = [] | 4 => v_ = .pointer (some ⟨b1, 0 + 1, none⟩) ∧ p_ = [] | 5 => v_ = .int .i64 b ∧ p_ = [] | 6 => v_ = .bool false ∧ p_ = [] | 7 => v_ = .bool false ∧ p_ = [] | 8 => v_ = .bool false ∧ p_ = [] | 9 => v_ = undef ∧ p_ = [] | 10 => v_ = undef ∧ p_ = [] | 11 => v_ = undef ∧ p_ = [] | 12 => v_ = undef ∧ p_ = [] | 13 => v_ = undef ∧ p_ = [] | 14 => v_ = undef ∧ p_ = [] | 15 => v_ = .bool false ∧ p_ = [] | _ => True) (List.take_append_drop 16 _).symm (by kernel_rfl) (by kernel_rfl) rfl rfl ?_ ?_
   ·
    refine ⟨?_, ?_, ?_, ?_, ?_, ?_, ?_, ?_, ?_, ?_, ?_, ?_, ?_, ?_, ?_, ?_, trivial⟩
    ·
     intro vf pf hR
     refine Or.inl ⟨rfl, ?_⟩
     refine rq_less (sx 1 rfl (sub_nil _)) (List.sublist_append_right _ _) ?_
     exact rq_v (rv_field (k0 := 0) rfl (by kernel_rfl) rfl)
    ·
     intro vf pf hR
     have e0 : (vf 0) = .pointer (some ⟨b1, 0 + 0, none⟩) ∧ (pf 0) = [] := hR 0 (by decide)
     refine Or.inl ⟨rfl, ?_⟩
     refine rq_less (sx 3 (congrArg some e0.1) (sub_nil _)) (List.sublist_append_right _ _) ?_
     exact rq_v (rv_load rfl (by kernel_rfl) rfl (box_cell 0 rfl rfl))
    ·
     intro vf pf hR
     have e1 : (vf 1) = .int .i64 n ∧ (pf 1) = [] := hR 1 (by decide)
     refine Or.inl ⟨rfl, ?_⟩
     refine rq_less (sx 4 (congrArg some e1.1) (sub_nil _)) (List.sublist_append_right _ _) ?_
     exact rq_mono (rq_call (by kernel_rfl) rfl (fun w hm => ret_ans (l01In_ans n 0 4 w))) (fun _ _ h => ⟨h.1.trans (congrArg Value.bool hb2), h.2⟩)
    ·
     intro vf pf hR
     have e2 : (vf 2) = .bool true ∧ (pf 2) = [] := hR 2 (by decide)
     refine Or.inl ⟨rfl, ?_⟩
     refine rq_less (sx 5 (congrArg some e2.1) (sub_nil _)) (List.sublist_append_right _ _) ?_
     exact rq_v (rv_ev rfl)
    ·
     intro vf pf hR
     have e3 : (vf 3) = .bool true ∧ (pf 3) = [] := hR 3 (by decide)
     refine Or.inl ⟨want_of (congrArg some e3.1) rfl, ?_⟩
     refine rq_less (sx 1 rfl (sub_nil _)) (List.sublist_append_right _ _) ?_
     exact rq_v (rv_field (k0 := 1) rfl (by kernel_rfl) rfl)
    ·
     intro vf pf hR
     have e3 : (vf 3) = .bool true ∧ (pf 3) = [] := hR 3 (by decide)
     have e4 : (vf 4) = .pointer (some ⟨b1, 0 + 1, none⟩) ∧ (pf 4) = [] := hR 4 (by decide)
     refine Or.inl ⟨want_of (congrArg some e3.1) rfl, ?_⟩
     refine rq_less (sx 7 (congrArg some e4.1) (sub_nil _)) (List.sublist_append_right _ _) ?_
     exact rq_v (rv_load rfl (by kernel_rfl) rfl (box_cell 0 rfl rfl))
    ·
     intro vf pf hR
     have e3 : (vf 3) = .bool true ∧ (pf 3) = [] := hR 3 (by decide)
     have e5 : (vf 5) = .int .i64 b ∧ (pf 5) = [] := hR 5 (by decide)
     refine Or.inl ⟨want_of (congrArg some e3.1) rfl, ?_⟩
     refine rq_less (sx 8 (congrArg some e5.1) (sub_nil _)) (List.sublist_append_right _ _) ?_
     exact rq_mono (rq_v (rv_cmp rfl rfl rfl rfl)) (fun _ _ h => ⟨h.1.trans (congrArg Value.bool hb3), h.2⟩)
    ·
     intro vf pf hR
     have e3 : (vf 3) = .bool true ∧ (pf 3) = [] := hR 3 (by decide)
     have e6 : (vf 6) = .bool false ∧ (pf 6) = [] := hR 6 (by decide)
     refine Or.inl ⟨rfl, ?_⟩
     refine rq_less (sx 6 (congrArg some e3.1) (sx 9 (congrArg some e6.1) (sub_nil _))) (List.sublist_append_right _ _) ?_
     exact rq_v (rv_ev rfl)
    ·
     intro vf pf hR
     have e7 : (vf 7) = .bool false ∧ (pf 7) = [] := hR 7 (by decide)
     refine Or.inl ⟨rfl, ?_⟩
     refine rq_less (sx 10 (congrArg some e7.1) (sub_nil _)) (List.sublist_append_right _ _) ?_
     exact rq_v (rv_ev rfl)
    ·
     intro vf pf hR
     have e8 : (vf 8) = .bool false ∧ (pf 8) = [] := hR 8 (by decide)
     exact Or.inr ⟨want_of (congrArg some e8.1) rfl, rfl, rfl⟩
    ·
     intro vf pf hR
     have e8 : (vf 8) = .bool false ∧ (pf 8) = [] := hR 8 (by decide)
     exact Or.inr ⟨want_of (congrArg some e8.1) rfl, rfl, rfl⟩
    ·
     intro vf pf hR
     have e8 : (vf 8) = .bool false ∧ (pf 8) = [] := hR 8 (by decide)
     exact Or.inr ⟨want_of (congrArg some e8.1) rfl, rfl, rfl⟩
    ·
     intro vf pf hR
     have e8 : (vf 8) = .bool false ∧ (pf 8) = [] := hR 8 (by decide)
     exact Or.inr ⟨want_of (congrArg some e8.1) rfl, rfl, rfl⟩
    ·
     intro vf pf hR
     have e8 : (vf 8) = .bool false ∧ (pf 8) = [] := hR 8 (by decide)
     exact Or.inr ⟨want_of (congrArg some e8.1) rfl, rfl, rfl⟩
    ·
     intro vf pf hR
     have e8 : (vf 8) = .bool false ∧ (pf 8) = [] := hR 8 (by decide)
     exact Or.inr ⟨want_of (congrArg some e8.1) rfl, rfl, rfl⟩
    ·
     intro vf pf hR
     have e8 : (vf 8) = .bool false ∧ (pf 8) = [] := hR 8 (by decide)
     have e14 : (vf 14) = undef ∧ (pf 14) = [] := hR 14 (by decide)
     refine Or.inl ⟨rfl, ?_⟩
     refine rq_less (sx 11 (congrArg some e8.1) (sx 17 (congrArg some e14.1) (sub_nil _))) (List.sublist_append_right _ _) ?_
     exact rq_v (rv_ev rfl)
   ·
    intro vf pf hR
    have e15 : (vf 15) = .bool false ∧ (pf 15) = [] := hR 15 (by decide)
    refine hl_less (l' := [boxE b1 #[.int .i64 n, .int .i64 b] 121]) (sx 0 rfl (sx 1 rfl (sx 2 rfl (sx 18 (congrArg some e15.1) (sub_nil _))))) (List.sublist_append_right _ _) ?_
    simp only [List.drop_succ_cons, List.drop_zero]
    refine hl_v rfl rfl rfl (rv_ev rfl) ?_
    refine hl_less (sx 0 rfl (sx 1 rfl (sx 2 rfl (sub_nil _)))) (.refl _) ?_
    refine hl_nil ?_
    refine hq_then ?_
    refine hc_ret ?_
    exact hq_ans rfl rfl (congrArg _ (pB_no (fun hp => by first | (obtain ⟨p1, p2, p3⟩ := hp; omega))).symm)
 ·
  have hb2a := inR_notL hb2
  refine hc_draw (by kernel_rfl) 16 [0, 1, 2, 3, 4, 5, 6, 7, 8, 9, 10, 11, 12, 13, 14, 15] (List.take 16 _) (List.drop 16 _) [[], [0], [1], [2], [3], [3], [3], [3, 6], [7], [8], [8], [8], [8], [8], [8], [8, 14]] [3, 4, 5, 6, 7, 8, 9, 10, 11, 12, 13, 14, 15, 16, 17, 18] (fun i_ vs_ v_ p_ => match i_ with | 0 => v_ = .pointer (some ⟨b1, 0 + 0, none⟩) ∧ p_ = [] | 1 => v_ = .int .i64 n ∧ p_ = [] | 2 => v_ = .bool false ∧ p_ = [] | 3 => v_ = .bool false ∧ p_ = [] | 4 => v_ = undef ∧ p_ = [] | 5 => v_ = undef ∧ p_ = [] | 6 => v_ = undef ∧ p_ = [] | 7 => v_ = .bool false ∧ p_ = [] | 8 => v_ = .bool false ∧ p_ = [] | 9 => v_ = undef ∧ p_ = [] | 10 => v_ = undef ∧ p_ = [] | 11 => v_ = undef ∧ p_ = [] | 12 => v_ = undef ∧ p_ = [] | 13 => v_ = undef ∧ p_ = [] | 14 => v_ = undef ∧ p_ = [] | 15 => v_ = .bool false ∧ p_ = [] | _ => True) (List.take_append_drop 16 _).symm (by kernel_rfl) (by kernel_rfl) rfl rfl ?_ ?_
  ·
   refine ⟨?_, ?_, ?_, ?_, ?_, ?_, ?_, ?_, ?_, ?_, ?_, ?_, ?_, ?_, ?_, ?_, trivial⟩
   ·
    intro vf pf hR
    refine Or.inl ⟨rfl, ?_⟩
    refine rq_less (sx 1 rfl (sub_nil _)) (List.sublist_append_right _ _) ?_
    exact rq_v (rv_field (k0 := 0) rfl (by kernel_rfl) rfl)
   ·
    intro vf pf hR
    have e0 : (vf 0) = .pointer (some ⟨b1, 0 + 0, none⟩) ∧ (pf 0) = [] := hR 0 (by decide)
    refine Or.inl ⟨rfl, ?_⟩
    refine rq_less (sx 3 (congrArg some e0.1) (sub_nil _)) (List.sublist_append_right _ _) ?_
    exact rq_v (rv_load rfl (by kernel_rfl) rfl (box_cell 0 rfl rfl))
   ·
    intro vf pf hR
    have e1 : (vf 1) = .int .i64 n ∧ (pf 1) = [] := hR 1 (by decide)
    refine Or.inl ⟨rfl, ?_⟩
    refine rq_less (sx 4 (congrArg some e1.1) (sub_nil _)) (List.sublist_append_right _ _) ?_
    exact rq_mono (rq_call (by kernel_rfl) rfl (fun w hm => ret_ans (l01In_ans n 0 4 w))) (fun _ _ h => ⟨h.1.trans (congrArg Value.bool hb2), h.2⟩)
   ·
    intro vf pf hR
    have e2 : (vf 2) = .bool false ∧ (pf 2) = [] := hR 2 (by decide)
    refine Or.inl ⟨rfl, ?_⟩
    refine rq_less (sx 5 (congrArg some e2.1) (sub_nil _)) (List.sublist_append_right _ _) ?_
    exact rq_v (rv_ev rfl)
   ·
    intro vf pf hR
    have e3 : (vf 3) = .bool false ∧ (pf 3) = [] := hR 3 (by decide)
    exact Or.inr ⟨want_of (congrArg some e3.1) rfl, rfl, rfl⟩
   ·
    intro vf pf hR
    have e3 : (vf 3) = .bool false ∧ (pf 3) = [] := hR 3 (by decide)
    exact Or.inr ⟨want_of (congrArg some e3.1) rfl, rfl, rfl⟩
   ·
    intro vf pf hR
    have e3 : (vf 3) = .bool false ∧ (pf 3) = [] := hR 3 (by decide)
    exact Or.inr ⟨want_of (congrArg some e3.1) rfl, rfl, rfl⟩
   ·
    intro vf pf hR
    have e3 : (vf 3) = .bool false ∧ (pf 3) = [] := hR 3 (by decide)
    have e6 : (vf 6) = undef ∧ (pf 6) = [] := hR 6 (by decide)
    refine Or.inl ⟨rfl, ?_⟩
    refine rq_less (sx 6 (congrArg some e3.1) (sx 9 (congrArg some e6.1) (sub_nil _))) (List.sublist_append_right _ _) ?_
    exact rq_v (rv_ev rfl)
   ·
    intro vf pf hR
    have e7 : (vf 7) = .bool false ∧ (pf 7) = [] := hR 7 (by decide)
    refine Or.inl ⟨rfl, ?_⟩
    refine rq_less (sx 10 (congrArg some e7.1) (sub_nil _)) (List.sublist_append_right _ _) ?_
    exact rq_v (rv_ev rfl)
   ·
    intro vf pf hR
    have e8 : (vf 8) = .bool false ∧ (pf 8) = [] := hR 8 (by decide)
    exact Or.inr ⟨want_of (congrArg some e8.1) rfl, rfl, rfl⟩
   ·
    intro vf pf hR
    have e8 : (vf 8) = .bool false ∧ (pf 8) = [] := hR 8 (by decide)
    exact Or.inr ⟨want_of (congrArg some e8.1) rfl, rfl, rfl⟩
   ·
    intro vf pf hR
    have e8 : (vf 8) = .bool false ∧ (pf 8) = [] := hR 8 (by decide)
    exact Or.inr ⟨want_of (congrArg some e8.1) rfl, rfl, rfl⟩
   ·
    intro vf pf hR
    have e8 : (vf 8) = .bool false ∧ (pf 8) = [] := hR 8 (by decide)
    exact Or.inr ⟨want_of (congrArg some e8.1) rfl, rfl, rfl⟩
   ·
    intro vf pf hR
    have e8 : (vf 8) = .bool false ∧ (pf 8) = [] := hR 8 (by decide)
    exact Or.inr ⟨want_of (congrArg some e8.1) rfl, rfl, rfl⟩
   ·
    intro vf pf hR
    have e8 : (vf 8) = .bool false ∧ (pf 8) = [] := hR 8 (by decide)
    exact Or.inr ⟨want_of (congrArg some e8.1) rfl, rfl, rfl⟩
   ·
    intro vf pf hR
    have e8 : (vf 8) = .bool false ∧ (pf 8) = [] := hR 8 (by decide)
    have e14 : (vf 14) = undef ∧ (pf 14) = [] := hR 14 (by decide)
    refine Or.inl ⟨rfl, ?_⟩
    refine rq_less (sx 11 (congrArg some e8.1) (sx 17 (congrArg some e14.1) (sub_nil _))) (List.sublist_append_right _ _) ?_
    exact rq_v (rv_ev rfl)
  ·
   intro vf pf hR
   have e15 : (vf 15) = .bool false ∧ (pf 15) = [] := hR 15 (by decide)
   refine hl_less (l' := [boxE b1 #[.int .i64 n, .int .i64 b] 121]) (sx 0 rfl (sx 1 rfl (sx 2 rfl (sx 18 (congrArg some e15.1) (sub_nil _))))) (List.sublist_append_right _ _) ?_
   simp only [List.drop_succ_cons, List.drop_zero]
   refine hl_v rfl rfl rfl (rv_ev rfl) ?_
   refine hl_less (sx 0 rfl (sx 1 rfl (sx 2 rfl (sub_nil _)))) (.refl _) ?_
   refine hl_nil ?_
   refine hq_then ?_
   refine hc_ret ?_
   exact hq_ans rfl rfl (congrArg _ (pB_no (fun hp => by first | (obtain ⟨p1, p2, p3⟩ := hp; omega))).symm)
theorem LutP_len {x : Nat} {b : Int} (h : TabP (x : Int) b) : x ≤ 4 := by have := h.1.2; omega
set_option maxHeartbeats 4000000 in
set_option maxRecDepth 100000 in
theorem implLutNetOk_ans (n : Ln) (w : World) (hr : RdsLn w n) :
  Calls Try.prog 78 #[.agg #[.int .i64 n.ins, n.sv, n.lv, n.ov]] w (Ans w (.bool (pB (LnOk n)))) := by
 have hso := sml hr.ou
 have hss := hr.sq.small
 have hsl := hr.lt.small
 have hcnt : n.cnt = 1 + n.ins + n.ss.length + n.ls.length := rfl
 have hfst : n.fst = 1 + n.ins + n.ss.length := rfl
 refine calls_hc (N := 70) (args := [.agg #[.int .i64 n.ins, n.sv, n.lv, n.ov]]) Try.func78 rfl rfl ?_
 refine hc_less _ (sx 0 rfl (sub_nil _)) (.refl _) ?_
 refine hc_seq ?_
 refine hc_region ?_
 refine hl_box rfl rfl rfl (rq_box rfl rfl) ?_
 intro b1
 refine hl_v rfl rfl rfl (rv_ev rfl) ?_
 refine hl_less (sx 0 rfl (sx 1 rfl (sx 2 rfl (sub_nil _)))) (.refl _) ?_
 refine hl_nil ?_
 refine hq_then ?_
 refine hc_seq ?_
 refine hc_region ?_
 refine hl_v rfl rfl rfl (rv_loadN (cs := [.int .i64 n.ins, n.sv, n.lv, n.ov]) rfl (by kernel_rfl) (by kernel_rfl) rfl rfl (box_part 0 rfl 0 rfl)) ?_
 refine hl_callV rfl rfl rfl (rq_call (by kernel_rfl) rfl (fun w hm => ret_ans (implLutNodes_ans n w (hr.below hm.bel)))) ?_
 refine hl_v rfl rfl rfl (rv_ev rfl) ?_
 refine hl_less (sx 0 rfl (sx 1 rfl (sx 2 rfl (sx 3 rfl (sub_nil _))))) (.refl _) ?_
 refine hl_nil ?_
 refine hq_then ?_
 refine hc_seq ?_
 refine hc_seq ?_
 refine hc_region ?_
 refine hl_v rfl rfl rfl (rv_ev rfl) ?_
 refine hl_eql rfl rfl rfl rfl rfl rfl (fun h2 => ?_) (fun h2 => ?_)
 ·
  refine hl_v rfl rfl rfl (rv_ev rfl) ?_
  refine hl_skip rfl rfl rfl ?_
  refine hl_skip rfl rfl rfl ?_
  refine hl_skip rfl rfl rfl ?_
  refine hl_skip rfl rfl rfl ?_
  refine hl_skip rfl rfl rfl ?_
  refine hl_v rfl rfl rfl (rv_ev rfl) ?_
  refine hl_less (sx 0 rfl (sx 1 rfl (sx 2 rfl (sx 3 rfl (sx 18 rfl (sub_nil _)))))) (.refl _) ?_
  refine hl_nil ?_
  refine hq_then ?_
  refine hc_true rfl ?_
  refine hc_seq ?_
  refine hc_region ?_
  refine hl_v rfl rfl rfl (rv_ev rfl) ?_
  refine hl_less (sx 0 rfl (sx 1 rfl (sx 2 rfl (sx 3 rfl (sx 18 rfl (sub_nil _)))))) (.refl _) ?_
  refine hl_nil ?_
  refine hq_then ?_
  refine hc_ret ?_
  refine hq_then_ret ?_
  exact hq_ans rfl rfl (congrArg _ (pB_no (fun hp => by first | (exact lnN_pos hp.sz (by assumption)) | (exact absurd hp.ou (by rw [← hnc]; assumption)) | (have h9 := hp.sq k (by omega); exact absurd h9.1 (by assumption)) | (have h9 := hp.sq k (by omega); rw [← hnc] at h9; exact absurd h9.2 (by assumption)) | (have h9 := hp.sq k (by omega); rcases h9.1.kind with ⟨a, b, c⟩ | ⟨a, b, c⟩ <;> omega) | (have h9 := hp.lt i (by omega); have h8 := h9.1.1; omega) | (have h9 := hp.lt i (by omega); exact absurd h9.1.2 (by assumption)) | (have h9 := hp.lt i (by omega); exact absurd h9.2 (by assumption)))).symm)
 ·
  refine hl_v rfl rfl rfl (rv_ev rfl) ?_
  have hsz := lnN_sz (by assumption)
  have hnc := lnN_yes hsz
  obtain ⟨si, s2, s3, s4⟩ := id hsz
  refine hl_v rfl rfl rfl (rv_field (k0 := 3) rfl (by kernel_rfl) rfl) ?_
  refine hl_v rfl rfl rfl (rv_load rfl (by kernel_rfl) rfl (box_cell 0 rfl rfl)) ?_
  refine hl_v rfl rfl rfl (rv_ev rfl) ?_
  refine hl_callV rfl rfl rfl (rq_call (by kernel_rfl) rfl (fun w hm => ret_ans (nodesBelow_ans n.os (lnN n) _ w ((rd_old ((hr).ou)) w hm) (by omega)))) ?_
  refine hl_bool (fun h3 => ?_) (fun h3 => ?_)
  ·
   have h3p := of_pB h3
   refine hl_v rfl rfl rfl (rv_ev rfl) ?_
   refine hl_v rfl rfl rfl (rv_ev rfl) ?_
   refine hl_less (sx 0 rfl (sx 1 rfl (sx 2 rfl (sx 3 rfl (sx 18 rfl (sub_nil _)))))) (.refl _) ?_
   refine hl_nil ?_
   refine hq_then ?_
   refine hc_false rfl ?_
   refine hc_skip ?_
   refine hq_then ?_
   refine hc_seq ?_
   refine hc_seq ?_
   refine hc_region ?_
   refine hl_v rfl rfl rfl (rv_field (k0 := 1) rfl (by kernel_rfl) rfl) ?_
   refine hl_v rfl rfl rfl (rv_load rfl (by kernel_rfl) rfl (box_cell 0 rfl rfl)) ?_
   refine hl_v rfl rfl rfl (rv_len rfl Try.underlying34 rfl (rd_old ((hr).sq.row))) ?_
   refine hl_v rfl rfl rfl (rv_ev rfl) ?_
   refine hl_less (sx 0 rfl (sx 1 rfl (sx 2 rfl (sx 3 rfl (sx 18 rfl (sx 20 rfl (sx 21 rfl (sx 22 rfl (sub_nil _))))))))) (.refl _) ?_
   refine hl_nil ?_
   refine hq_then ?_
   refine hc_block ?_
   refine hc_loop1 (α := Nat) (fun k => [boxE b1 #[.int .i64 n.ins, n.sv, n.lv, n.ov] 37]) (fun k => [(0, .agg #[.int .i64 n.ins, n.sv, n.lv, n.ov]), (1, .pointer (some ⟨b1, 0, none⟩)), (2, .bool false), (3, .int .i64 (lnN n)), (18, .bool false), (20, n.sv), (21, .int .i64 (n.ss.length : Int)), (22, .int .i64 (k : Int))]) (fun k => k ≤ n.ss.length ∧ ∀ i, i < k → SqOk (n.ss.getD i sq0) ∧ BelowP (n.ss.getD i sq0).xs n.cnt) (fun k => n.ss.length - k) 0 ⟨Nat.zero_le _, fun i hi => absurd hi (by omega)⟩ (sx 0 rfl (sx 1 rfl (sx 2 rfl (sx 3 rfl (sx 18 rfl (sx 20 rfl (sx 21 rfl (sx 22 rfl (sub_nil _))))))))) ((.cons_cons _ .slnil)) ?_
   intro k hi4
   obtain ⟨hk, hqs⟩ := hi4
   refine hc_seq ?_
   refine hc_region ?_
   refine hl_lss rfl rfl rfl rfl rfl rfl (fun h5 => ?_) (fun h5 => ?_)
   ·
    refine hl_less (sx 0 rfl (sx 1 rfl (sx 2 rfl (sx 3 rfl (sx 18 rfl (sx 20 rfl (sx 21 rfl (sx 22 rfl (sx 23 rfl (sub_nil _)))))))))) (.refl _) ?_
    refine hl_nil ?_
    refine hq_then ?_
    refine hc_seq ?_
    refine hc_true rfl ?_
    refine hc_skip ?_
    refine hq_then ?_
    refine hc_seq ?_
    refine hc_block ?_
    refine hc_seq ?_
    refine hc_region ?_
    refine hl_v rfl rfl rfl (rv_index (s := 3) rfl Try.underlying34 (by kernel_rfl) rfl rfl (rd_old ((hr).sq.row)) (by omega) (by first | omega | (simp only [List.length_set]; omega))) ?_
    refine hl_v rfl rfl rfl (rv_loadElN (us := [.int .i64 ((n.ss.getD k sq0).kd), .int .i64 ((n.ss.getD k sq0).it), (n.ss.getD k sq0).iv]) rfl (by kernel_rfl) (by kernel_rfl) rfl (rd_old ((hr).sq.row)) (by omega) rfl (flat_atN sqC 3 (fun _ => rfl) n.ss sq0 (show k < _ by first | omega | (simp only [List.length_set]; omega)) rfl)) ?_
    refine hl_box rfl rfl rfl (rq_alloc (z := .agg #[.int .i64 0, .int .i64 0, .slice none 0 0]) rfl (by kernel_rfl)) ?_
    intro b6
    refine hl_storeBoxN (i := 0) (off := 0) (us := [.int .i64 ((n.ss.getD k sq0).kd), .int .i64 ((n.ss.getD k sq0).it), (n.ss.getD k sq0).iv])  (l' := [boxE b6 #[.int .i64 ((n.ss.getD k sq0).kd), .int .i64 ((n.ss.getD k sq0).it), (n.ss.getD k sq0).iv] 71, boxE b1 #[.int .i64 n.ins, n.sv, n.lv, n.ov] 37]) rfl rfl rfl (by kernel_rfl) rfl rfl rfl (all_cons rfl (all_cons rfl (all_cons (hr.sq.at (d := sq0) (k := k) (by omega)).one all_nil))) rfl rfl rfl ?_
    refine hl_less (sx 0 rfl (sx 1 rfl (sx 2 rfl (sx 3 rfl (sx 5 rfl (sx 18 rfl (sx 20 rfl (sx 21 rfl (sx 22 rfl (sx 23 rfl (sub_nil _))))))))))) (.refl _) ?_
    refine hl_nil ?_
    refine hq_then ?_
    refine hc_seq ?_
    refine hc_region ?_
    refine hl_v rfl rfl rfl (rv_loadN (cs := [.int .i64 ((n.ss.getD k sq0).kd), .int .i64 ((n.ss.getD k sq0).it), (n.ss.getD k sq0).iv]) rfl (by kernel_rfl) (by kernel_rfl) rfl rfl (box_part 0 rfl 0 rfl)) ?_
    refine hl_callV rfl rfl rfl (rq_call (by kernel_rfl) rfl (fun w hm => ret_ans (seqOk_ans (n.ss.getD k sq0) w ((hr.sq.at (d := sq0) (k := k) (by omega)).below hm.bel)))) ?_
    refine hl_bool (fun h7 => ?_) (fun h7 => ?_)
    ·
     have h7p := of_pB h7
     refine hl_v rfl rfl rfl (rv_ev rfl) ?_
     refine hl_v rfl rfl rfl (rv_ev rfl) ?_
     refine hl_v rfl rfl rfl (rv_field (k0 := 2) rfl (by kernel_rfl) rfl) ?_
     refine hl_v rfl rfl rfl (rv_load rfl (by kernel_rfl) rfl (box_cell 0 rfl rfl)) ?_
     refine hl_v rfl rfl rfl (rv_ev rfl) ?_
     refine hl_callV rfl rfl rfl (rq_call (by kernel_rfl) rfl (fun w hm => ret_ans (nodesBelow_ans ((n.ss.getD k sq0).xs) (lnN n) _ w ((rd_old ((hr).sq.at (d := sq0) (k := k) (by omega))) w hm) (by omega)))) ?_
     refine hl_bool (fun h8 => ?_) (fun h8 => ?_)
     ·
      have h8p := of_pB h8
      refine hl_v rfl rfl rfl (rv_ev rfl) ?_
      refine hl_v rfl rfl rfl (rv_ev rfl) ?_
      refine hl_less (sx 0 rfl (sx 1 rfl (sx 2 rfl (sx 3 rfl (sx 5 rfl (sx 18 rfl (sx 20 rfl (sx 21 rfl (sx 22 rfl (sx 23 rfl (sx 35 rfl (sub_nil _)))))))))))) (.refl _) ?_
      refine hl_nil ?_
      refine hq_then ?_
      refine hc_false rfl ?_
      refine hc_skip ?_
      refine hq_block_normal ?_
      refine hq_then ?_
      refine hc_region ?_
      refine hl_v rfl rfl rfl (rv_add rfl rfl rfl (by constructor <;> omega)) ?_
      refine hl_v rfl rfl rfl (rv_ev rfl) ?_
      refine hl_less (sx 0 rfl (sx 1 rfl (sx 2 rfl (sx 3 rfl (sx 5 rfl (sx 18 rfl (sx 20 rfl (sx 21 rfl (sx 22 rfl (sx 23 rfl (sx 35 rfl (sub_nil _)))))))))))) (.refl _) ?_
      refine hl_nil ?_
      exact hq_round1 (k + 1) ⟨by omega, fun i hi => by by_cases e : i = k; (subst e; exact ⟨by first | assumption | exact ⟨by omega⟩, by rw [← hnc]; assumption⟩); exact hqs i (by omega)⟩ (by omega) (sx 0 rfl (sx 1 rfl (sx 2 rfl (sx 3 rfl (sx 18 rfl (sx 20 rfl (sx 21 rfl (sx 22 rfl (sub_nil _))))))))) ((.cons _ (.cons_cons _ .slnil)))
     ·
      have h8p := of_pBn h8
      refine hl_v rfl rfl rfl (rv_ev rfl) ?_
      refine hl_v rfl rfl rfl (rv_ev rfl) ?_
      refine hl_less (sx 0 rfl (sx 1 rfl (sx 2 rfl (sx 3 rfl (sx 5 rfl (sx 18 rfl (sx 20 rfl (sx 21 rfl (sx 22 rfl (sx 23 rfl (sx 35 rfl (sub_nil _)))))))))))) (.refl _) ?_
      refine hl_nil ?_
      refine hq_then ?_
      refine hc_true rfl ?_
      refine hc_seq ?_
      refine hc_region ?_
      refine hl_v rfl rfl rfl (rv_ev rfl) ?_
      refine hl_less (sx 0 rfl (sx 1 rfl (sx 2 rfl (sx 3 rfl (sx 5 rfl (sx 18 rfl (sx 20 rfl (sx 21 rfl (sx 22 rfl (sx 23 rfl (sx 35 rfl (sub_nil _)))))))))))) (.refl _) ?_
      refine hl_nil ?_
      refine hq_then ?_
      refine hc_ret ?_
      refine hq_block_ret ?_
      refine hq_then_ret ?_
      refine hq_then_ret ?_
      refine hq_block_ret ?_
      refine hq_then_ret ?_
      exact hq_ans rfl rfl (congrArg _ (pB_no (fun hp => by first | (exact lnN_pos hp.sz (by assumption)) | (exact absurd hp.ou (by rw [← hnc]; assumption)) | (have h9 := hp.sq k (by omega); exact absurd h9.1 (by assumption)) | (have h9 := hp.sq k (by omega); rw [← hnc] at h9; exact absurd h9.2 (by assumption)) | (have h9 := hp.sq k (by omega); rcases h9.1.kind with ⟨a, b, c⟩ | ⟨a, b, c⟩ <;> omega) | (have h9 := hp.lt i (by omega); have h8 := h9.1.1; omega) | (have h9 := hp.lt i (by omega); exact absurd h9.1.2 (by assumption)) | (have h9 := hp.lt i (by omega); exact absurd h9.2 (by assumption)))).symm)
    ·
     have h7p := of_pBn h7
     refine hl_v rfl rfl rfl (rv_ev rfl) ?_
     refine hl_v rfl rfl rfl (rv_ev rfl) ?_
     refine hl_skip rfl rfl rfl ?_
     refine hl_skip rfl rfl rfl ?_
     refine hl_skip rfl rfl rfl ?_
     refine hl_skip rfl rfl rfl ?_
     refine hl_skip rfl rfl rfl ?_
     refine hl_v rfl rfl rfl (rv_ev rfl) ?_
     refine hl_less (sx 0 rfl (sx 1 rfl (sx 2 rfl (sx 3 rfl (sx 5 rfl (sx 18 rfl (sx 20 rfl (sx 21 rfl (sx 22 rfl (sx 23 rfl (sx 35 rfl (sub_nil _)))))))))))) (.refl _) ?_
     refine hl_nil ?_
     refine hq_then ?_
     refine hc_true rfl ?_
     refine hc_seq ?_
     refine hc_region ?_
     refine hl_v rfl rfl rfl (rv_ev rfl) ?_
     refine hl_less (sx 0 rfl (sx 1 rfl (sx 2 rfl (sx 3 rfl (sx 5 rfl (sx 18 rfl (sx 20 rfl (sx 21 rfl (sx 22 rfl (sx 23 rfl (sx 35 rfl (sub_nil _)))))))))))) (.refl _) ?_
     refine hl_nil ?_
     refine hq_then ?_
     refine hc_ret ?_
     refine hq_block_ret ?_
     refine hq_then_ret ?_
     refine hq_then_ret ?_
     refine hq_block_ret ?_
     refine hq_then_ret ?_
     exact hq_ans rfl rfl (congrArg _ (pB_no (fun hp => by first | (exact lnN_pos hp.sz (by assumption)) | (exact absurd hp.ou (by rw [← hnc]; assumption)) | (have h9 := hp.sq k (by omega); exact absurd h9.1 (by assumption)) | (have h9 := hp.sq k (by omega); rw [← hnc] at h9; exact absurd h9.2 (by assumption)) | (have h9 := hp.sq k (by omega); rcases h9.1.kind with ⟨a, b, c⟩ | ⟨a, b, c⟩ <;> omega) | (have h9 := hp.lt i (by omega); have h8 := h9.1.1; omega) | (have h9 := hp.lt i (by omega); exact absurd h9.1.2 (by assumption)) | (have h9 := hp.lt i (by omega); exact absurd h9.2 (by assumption)))).symm)
   ·
    refine hl_less (sx 0 rfl (sx 1 rfl (sx 2 rfl (sx 3 rfl (sx 18 rfl (sx 20 rfl (sx 21 rfl (sx 22 rfl (sx 23 rfl (sub_nil _)))))))))) (.refl _) ?_
    refine hl_nil ?_
    refine hq_then ?_
    refine hc_seq ?_
    refine hc_false rfl ?_
    refine hc_exit ?_
    refine hq_then_exit ?_
    refine hq_then_exit ?_
    refine hq_block_exit ?_
    refine hq_then ?_
    refine hc_seq ?_
    refine hc_seq ?_
    refine hc_region ?_
    refine hl_v rfl rfl rfl (rv_field (k0 := 2) rfl (by kernel_rfl) rfl) ?_
    refine hl_v rfl rfl rfl (rv_load rfl (by kernel_rfl) rfl (box_cell 0 rfl rfl)) ?_
    refine hl_v rfl rfl rfl (rv_len rfl Try.underlying35 rfl (rd_old ((hr).lt.row))) ?_
    refine hl_v rfl rfl rfl (rv_ev rfl) ?_
    refine hl_less (sx 0 rfl (sx 1 rfl (sx 2 rfl (sx 3 rfl (sx 18 rfl (sx 20 rfl (sx 21 rfl (sx 22 rfl (sx 23 rfl (sx 38 rfl (sx 39 rfl (sx 40 rfl (sub_nil _))))))))))))) (.refl _) ?_
    refine hl_nil ?_
    refine hq_then ?_
    refine hc_block ?_
    refine hc_loop1 (α := Nat) (fun i => [boxE b1 #[.int .i64 n.ins, n.sv, n.lv, n.ov] 37]) (fun i => [(0, .agg #[.int .i64 n.ins, n.sv, n.lv, n.ov]), (1, .pointer (some ⟨b1, 0, none⟩)), (2, .bool false), (3, .int .i64 (lnN n)), (18, .bool false), (20, n.sv), (21, .int .i64 (n.ss.length : Int)), (22, .int .i64 (k : Int)), (23, .bool false), (38, n.lv), (39, .int .i64 (n.ls.length : Int)), (40, .int .i64 (i : Int))]) (fun i => i ≤ n.ls.length ∧ ∀ j, j < i → LutP (n.fst + j) (n.ls.getD j lt0)) (fun i => n.ls.length - i) 0 ⟨Nat.zero_le _, fun i hi => absurd hi (by omega)⟩ (sx 0 rfl (sx 1 rfl (sx 2 rfl (sx 3 rfl (sx 18 rfl (sx 20 rfl (sx 21 rfl (sx 22 rfl (sx 23 rfl (sx 38 rfl (sx 39 rfl (sx 40 rfl (sub_nil _))))))))))))) ((.cons_cons _ .slnil)) ?_
    intro i hi9
    obtain ⟨hi, hql⟩ := hi9
    refine hc_seq ?_
    refine hc_region ?_
    refine hl_lss rfl rfl rfl rfl rfl rfl (fun h10 => ?_) (fun h10 => ?_)
    ·
     refine hl_less (sx 0 rfl (sx 1 rfl (sx 2 rfl (sx 3 rfl (sx 18 rfl (sx 20 rfl (sx 21 rfl (sx 22 rfl (sx 23 rfl (sx 38 rfl (sx 39 rfl (sx 40 rfl (sx 41 rfl (sub_nil _)))))))))))))) (.refl _) ?_
     refine hl_nil ?_
     refine hq_then ?_
     refine hc_seq ?_
     refine hc_true rfl ?_
     refine hc_skip ?_
     refine hq_then ?_
     refine hc_seq ?_
     refine hc_block ?_
     refine hc_seq ?_
     refine hc_region ?_
     refine hl_v rfl rfl rfl (rv_ev rfl) ?_
     refine hl_v rfl rfl rfl (rv_index (s := 2) rfl Try.underlying35 (by kernel_rfl) rfl rfl (rd_old ((hr).lt.row)) (by omega) (by first | omega | (simp only [List.length_set]; omega))) ?_
     refine hl_v rfl rfl rfl (rv_loadElN (us := [(n.ls.getD i lt0).iv, .int .i64 ((n.ls.getD i lt0).ma)]) rfl (by kernel_rfl) (by kernel_rfl) rfl (rd_old ((hr).lt.row)) (by omega) rfl (flat_atN ltC 2 (fun _ => rfl) n.ls lt0 (show i < _ by first | omega | (simp only [List.length_set]; omega)) rfl)) ?_
     refine hl_box rfl rfl rfl (rq_alloc (z := .agg #[.slice none 0 0, .int .i64 0]) rfl (by kernel_rfl)) ?_
     intro b11
     refine hl_v rfl rfl rfl (rv_ev rfl) ?_
     refine hl_storeBoxN (i := 0) (off := 0) (us := [(n.ls.getD i lt0).iv, .int .i64 ((n.ls.getD i lt0).ma)])  (l' := [boxE b11 #[(n.ls.getD i lt0).iv, .int .i64 ((n.ls.getD i lt0).ma)] 69, boxE b1 #[.int .i64 n.ins, n.sv, n.lv, n.ov] 37]) rfl rfl rfl (by kernel_rfl) rfl rfl rfl (all_cons (hr.lt.at (d := lt0) (k := i) (by omega)).one (all_cons rfl all_nil)) rfl rfl rfl ?_
     refine hl_less (sx 0 rfl (sx 1 rfl (sx 2 rfl (sx 3 rfl (sx 6 rfl (sx 7 rfl (sx 18 rfl (sx 20 rfl (sx 21 rfl (sx 22 rfl (sx 23 rfl (sx 38 rfl (sx 39 rfl (sx 40 rfl (sx 41 rfl (sub_nil _)))))))))))))))) (.refl _) ?_
     refine hl_nil ?_
     refine hq_then ?_
     refine hc_seq ?_
     rcases Bool.eq_false_or_eq_true (decide (4 < (((n.ls.getD i lt0).xs).length : Int))) with hb12 | hb12
     ·
      have hb12p : 4 < (((n.ls.getD i lt0).xs).length : Int) := of_decide_eq_true hb12
      refine hc_draw (by kernel_rfl) 24 [0, 1, 2, 3, 4, 5, 6, 7, 8, 9, 10, 11, 12, 13, 14, 15, 16, 17, 18, 19, 20, 21, 22, 23] (List.take 24 _) (List.drop 24 _) [[], [0], [1], [2], [3], [4], [4], [4], [4], [4], [4], [4], [4], [4, 12], [13], [14], [14], [14], [14], [14], [14], [14], [14], [14, 22]] [45, 46, 47, 48, 49, 50, 51, 52, 53, 54, 55, 56, 57, 58, 59, 60, 61, 62, 63, 64, 65, 66, 67, 68] (fun i_ vs_ v_ p_ => match i_ with | 0 => v_ = .pointer (some ⟨b11, 0 + 0, none⟩) ∧ p_ = [] | 1 => v_ = (n.ls.getD i lt0).iv ∧ p_ = [] | 2 => v_ = .int .i64 (((n.ls.getD i lt0).xs).length : Int) ∧ p_ = [] | 3 => v_ = .bool true ∧ p_ = [] | 4 => v_ = .bool true ∧ p_ = [] | 5 => v_ = undef ∧ p_ = [] | 6 => v_ = undef ∧ p_ = [] | 7 => v_ = undef ∧ p_ = [] | 8 => v_ = undef ∧ p_ = [] | 9 => v_ = undef ∧ p_ = [] | 10 => v_ = undef ∧ p_ = [] | 11 => v_ = undef ∧ p_ = [] | 12 => v_ = undef ∧ p_ = [] | 13 => v_ = .bool true ∧ p_ = [] | 14 => v_ = .bool true ∧ p_ = [] | 15 => v_ = undef ∧ p_ = [] | 16 => v_ = undef ∧ p_ = [] | 17 => v_ = undef ∧ p_ = [] | 18 => v_ = undef ∧ p_ = [] | 19 => v_ = undef ∧ p_ = [] | 20 => v_ = undef ∧ p_ = [] | 21 => v_ = undef ∧ p_ = [] | 22 => v_ = undef ∧ p_ = [] | 23 => v_ = .bool true ∧ p_ = [] | _ => True) (List.take_append_drop 24 _).symm (by kernel_rfl) (by kernel_rfl) rfl rfl ?_ ?_
      ·
       refine ⟨?_, ?_, ?_, ?_, ?_, ?_, ?_, ?_, ?_, ?_, ?_, ?_, ?_, ?_, ?_, ?_, ?_, ?_, ?_, ?_, ?_, ?_, ?_, ?_, trivial⟩
       ·
        intro vf pf hR
        refine Or.inl ⟨rfl, ?_⟩
        refine rq_less (sx 7 rfl (sub_nil _)) (List.sublist_append_right _ _) ?_
        exact rq_v (rv_field (k0 := 0) rfl (by kernel_rfl) rfl)
       ·
        intro vf pf hR
        have e0 : (vf 0) = .pointer (some ⟨b11, 0 + 0, none⟩) ∧ (pf 0) = [] := hR 0 (by decide)
        refine Or.inl ⟨rfl, ?_⟩
        refine rq_less (sx 45 (congrArg some e0.1) (sub_nil _)) (List.sublist_append_right _ _) ?_
        exact rq_v (rv_load rfl (by kernel_rfl) rfl (box_cell 0 rfl rfl))
       ·
        intro vf pf hR
        have e1 : (vf 1) = (n.ls.getD i lt0).iv ∧ (pf 1) = [] := hR 1 (by decide)
        refine Or.inl ⟨rfl, ?_⟩
        refine rq_less (sx 46 (congrArg some e1.1) (sub_nil _)) (List.sublist_append_right _ _) ?_
        exact rq_v (rv_len rfl Try.underlying24 rfl (rd_old ((hr).lt.at (d := lt0) (k := i) (by omega))))
       ·
        intro vf pf hR
        have e2 : (vf 2) = .int .i64 (((n.ls.getD i lt0).xs).length : Int) ∧ (pf 2) = [] := hR 2 (by decide)
        refine Or.inl ⟨rfl, ?_⟩
        refine rq_less (sx 47 (congrArg some e2.1) (sub_nil _)) (List.sublist_append_right _ _) ?_
        exact rq_mono (rq_v (rv_cmp rfl rfl rfl rfl)) (fun _ _ h => ⟨h.1.trans (congrArg Value.bool hb12), h.2⟩)
       ·
        intro vf pf hR
        have e3 : (vf 3) = .bool true ∧ (pf 3) = [] := hR 3 (by decide)
        refine Or.inl ⟨rfl, ?_⟩
        refine rq_less (sx 48 (congrArg some e3.1) (sub_nil _)) (List.sublist_append_right _ _) ?_
        exact rq_v (rv_ev rfl)
       ·
        intro vf pf hR
        have e4 : (vf 4) = .bool true ∧ (pf 4) = [] := hR 4 (by decide)
        exact Or.inr ⟨want_of (congrArg some e4.1) rfl, rfl, rfl⟩
       ·
        intro vf pf hR
        have e4 : (vf 4) = .bool true ∧ (pf 4) = [] := hR 4 (by decide)
        exact Or.inr ⟨want_of (congrArg some e4.1) rfl, rfl, rfl⟩
       ·
        intro vf pf hR
        have e4 : (vf 4) = .bool true ∧ (pf 4) = [] := hR 4 (by decide)
        exact Or.inr ⟨want_of (congrArg some e4.1) rfl, rfl, rfl⟩
       ·
        intro vf pf hR
        have e4 : (vf 4) = .bool true ∧ (pf 4) = [] := hR 4 (by decide)
        exact Or.inr ⟨want_of (congrArg some e4.1) rfl, rfl, rfl⟩
       ·
        intro vf pf hR
        have e4 : (vf 4) = .bool true ∧ (pf 4) = [] := hR 4 (by decide)
        exact Or.inr ⟨want_of (congrArg some e4.1) rfl, rfl, rfl⟩
       ·
        intro vf pf hR
        have e4 : (vf 4) = .bool true ∧ (pf 4) = [] := hR 4 (by decide)
        exact Or.inr ⟨want_of (congrArg some e4.1) rfl, rfl, rfl⟩
       ·
        intro vf pf hR
        have e4 : (vf 4) = .bool true ∧ (pf 4) = [] := hR 4 (by decide)
        exact Or.inr ⟨want_of (congrArg some e4.1) rfl, rfl, rfl⟩
       ·
        intro vf pf hR
        have e4 : (vf 4) = .bool true ∧ (pf 4) = [] := hR 4 (by decide)
        exact Or.inr ⟨want_of (congrArg some e4.1) rfl, rfl, rfl⟩
       ·
        intro vf pf hR
        have e4 : (vf 4) = .bool true ∧ (pf 4) = [] := hR 4 (by decide)
        have e12 : (vf 12) = undef ∧ (pf 12) = [] := hR 12 (by decide)
        refine Or.inl ⟨rfl, ?_⟩
        refine rq_less (sx 49 (congrArg some e4.1) (sx 57 (congrArg some e12.1) (sub_nil _))) (List.sublist_append_right _ _) ?_
        exact rq_v (rv_ev rfl)
       ·
        intro vf pf hR
        have e13 : (vf 13) = .bool true ∧ (pf 13) = [] := hR 13 (by decide)
        refine Or.inl ⟨rfl, ?_⟩
        refine rq_less (sx 58 (congrArg some e13.1) (sub_nil _)) (List.sublist_append_right _ _) ?_
        exact rq_v (rv_ev rfl)
       ·
        intro vf pf hR
        have e14 : (vf 14) = .bool true ∧ (pf 14) = [] := hR 14 (by decide)
        exact Or.inr ⟨want_of (congrArg some e14.1) rfl, rfl, rfl⟩
       ·
        intro vf pf hR
        have e14 : (vf 14) = .bool true ∧ (pf 14) = [] := hR 14 (by decide)
        exact Or.inr ⟨want_of (congrArg some e14.1) rfl, rfl, rfl⟩
       ·
        intro vf pf hR
        have e14 : (vf 14) = .bool true ∧ (pf 14) = [] := hR 14 (by decide)
        exact Or.inr ⟨want_of (congrArg some e14.1) rfl, rfl, rfl⟩
       ·
        intro vf pf hR
        have e14 : (vf 14) = .bool true ∧ (pf 14) = [] := hR 14 (by decide)
        exact Or.inr ⟨want_of (congrArg some e14.1) rfl, rfl, rfl⟩
       ·
        intro vf pf hR
        have e14 : (vf 14) = .bool true ∧ (pf 14) = [] := hR 14 (by decide)
        exact Or.inr ⟨want_of (congrArg some e14.1) rfl, rfl, rfl⟩
       ·
        intro vf pf hR
        have e14 : (vf 14) = .bool true ∧ (pf 14) = [] := hR 14 (by decide)
        exact Or.inr ⟨want_of (congrArg some e14.1) rfl, rfl, rfl⟩
       ·
        intro vf pf hR
        have e14 : (vf 14) = .bool true ∧ (pf 14) = [] := hR 14 (by decide)
        exact Or.inr ⟨want_of (congrArg some e14.1) rfl, rfl, rfl⟩
       ·
        intro vf pf hR
        have e14 : (vf 14) = .bool true ∧ (pf 14) = [] := hR 14 (by decide)
        exact Or.inr ⟨want_of (congrArg some e14.1) rfl, rfl, rfl⟩
       ·
        intro vf pf hR
        have e14 : (vf 14) = .bool true ∧ (pf 14) = [] := hR 14 (by decide)
        have e22 : (vf 22) = undef ∧ (pf 22) = [] := hR 22 (by decide)
        refine Or.inl ⟨rfl, ?_⟩
        refine rq_less (sx 59 (congrArg some e14.1) (sx 67 (congrArg some e22.1) (sub_nil _))) (List.sublist_append_right _ _) ?_
        exact rq_v (rv_ev rfl)
      ·
       intro vf pf hR
       have e23 : (vf 23) = .bool true ∧ (pf 23) = [] := hR 23 (by decide)
       refine hl_less (l' := [boxE b11 #[(n.ls.getD i lt0).iv, .int .i64 ((n.ls.getD i lt0).ma)] 69, boxE b1 #[.int .i64 n.ins, n.sv, n.lv, n.ov] 37]) (sx 0 rfl (sx 1 rfl (sx 2 rfl (sx 3 rfl (sx 6 rfl (sx 7 rfl (sx 18 rfl (sx 20 rfl (sx 21 rfl (sx 22 rfl (sx 23 rfl (sx 38 rfl (sx 39 rfl (sx 40 rfl (sx 41 rfl (sx 68 (congrArg some e23.1) (sub_nil _))))))))))))))))) (List.sublist_append_right _ _) ?_
       simp only [List.drop_succ_cons, List.drop_zero]
       refine hl_less (sx 0 rfl (sx 1 rfl (sx 2 rfl (sx 3 rfl (sx 6 rfl (sx 7 rfl (sx 18 rfl (sx 20 rfl (sx 21 rfl (sx 22 rfl (sx 23 rfl (sx 38 rfl (sx 39 rfl (sx 40 rfl (sx 41 rfl (sx 68 rfl (sub_nil _))))))))))))))))) (.refl _) ?_
       refine hl_nil ?_
       refine hq_then ?_
       refine hc_true rfl ?_
       refine hc_seq ?_
       refine hc_region ?_
       refine hl_v rfl rfl rfl (rv_ev rfl) ?_
       refine hl_less (sx 0 rfl (sx 1 rfl (sx 2 rfl (sx 3 rfl (sx 6 rfl (sx 7 rfl (sx 18 rfl (sx 20 rfl (sx 21 rfl (sx 22 rfl (sx 23 rfl (sx 38 rfl (sx 39 rfl (sx 40 rfl (sx 41 rfl (sx 68 rfl (sub_nil _))))))))))))))))) (.refl _) ?_
       refine hl_nil ?_
       refine hq_then ?_
       refine hc_ret ?_
       refine hq_block_ret ?_
       refine hq_then_ret ?_
       refine hq_then_ret ?_
       refine hq_block_ret ?_
       refine hq_then_ret ?_
       exact hq_ans rfl rfl (congrArg _ (pB_no (fun hp => by first | (exact lnN_pos hp.sz (by assumption)) | (exact absurd hp.ou (by rw [← hnc]; assumption)) | (have h9 := hp.sq k (by omega); exact absurd h9.1 (by assumption)) | (have h9 := hp.sq k (by omega); rw [← hnc] at h9; exact absurd h9.2 (by assumption)) | (have h9 := hp.sq k (by omega); rcases h9.1.kind with ⟨a, b, c⟩ | ⟨a, b, c⟩ <;> omega) | (have h9 := hp.lt i (by omega); have h8 := h9.1.1; omega) | (have h9 := hp.lt i (by omega); exact absurd h9.1.2 (by assumption)) | (have h9 := hp.lt i (by omega); exact absurd h9.2 (by assumption)))).symm)
     ·
      have hb12p : ¬ (4 < (((n.ls.getD i lt0).xs).length : Int)) := of_decide_eq_false hb12
      rcases Bool.eq_false_or_eq_true (pB (BelowP ((n.ls.getD i lt0).xs) (n.fst + (i : Int)))) with hb13 | hb13
      ·
       have hb13p := of_pB hb13
       rcases Bool.eq_false_or_eq_true (pB (TabP (((n.ls.getD i lt0).xs).length : Int) ((n.ls.getD i lt0).ma))) with hb14 | hb14
       ·
        have hb14p := of_pB hb14
        refine hc_draw (by kernel_rfl) 24 [0, 1, 2, 3, 4, 5, 6, 7, 8, 9, 10, 11, 12, 13, 14, 15, 16, 17, 18, 19, 20, 21, 22, 23] (List.take 24 _) (List.drop 24 _) [[], [0], [1], [2], [3], [4], [4, 5], [4], [4, 7], [4], [4, 8, 9], [4, 6, 10], [4, 11], [4, 12], [13], [14], [14, 15], [14, 16], [14], [14, 18], [14, 17, 19], [14, 20], [14, 21], [14, 22]] [45, 46, 47, 48, 49, 50, 51, 52, 53, 54, 55, 56, 57, 58, 59, 60, 61, 62, 63, 64, 65, 66, 67, 68] (fun i_ vs_ v_ p_ => match i_ with | 0 => v_ = .pointer (some ⟨b11, 0 + 0, none⟩) ∧ p_ = [] | 1 => v_ = (n.ls.getD i lt0).iv ∧ p_ = [] | 2 => v_ = .int .i64 (((n.ls.getD i lt0).xs).length : Int) ∧ p_ = [] | 3 => v_ = .bool false ∧ p_ = [] | 4 => v_ = .bool false ∧ p_ = [] | 5 => v_ = .pointer (some ⟨b11, 0 + 0, none⟩) ∧ p_ = [] | 6 => v_ = (n.ls.getD i lt0).iv ∧ p_ = [] | 7 => v_ = .agg #[.int .i64 n.ins, n.sv, n.lv, n.ov] ∧ p_ = [] | 8 => v_ = .int .i64 n.fst ∧ p_ = [] | 9 => v_ = .int .i64 (i : Int) ∧ p_ = [] | 10 => v_ = .int .i64 (n.fst + (i : Int)) ∧ p_ = [] | 11 => v_ = .bool true ∧ p_ = [] | 12 => v_ = .bool false ∧ p_ = [] | 13 => v_ = .bool false ∧ p_ = [] | 14 => v_ = .bool false ∧ p_ = [] | 15 => v_ = .pointer (some ⟨b11, 0 + 0, none⟩) ∧ p_ = [] | 16 => v_ = (n.ls.getD i lt0).iv ∧ p_ = [] | 17 => v_ = .int .i64 (((n.ls.getD i lt0).xs).length : Int) ∧ p_ = [] | 18 => v_ = .pointer (some ⟨b11, 0 + 1, none⟩) ∧ p_ = [] | 19 => v_ = .int .i64 ((n.ls.getD i lt0).ma) ∧ p_ = [] | 20 => v_ = .agg #[.int .i64 (((n.ls.getD i lt0).xs).length : Int), .int .i64 ((n.ls.getD i lt0).ma)] ∧ p_ = [] | 21 => v_ = .bool true ∧ p_ = [] | 22 => v_ = .bool false ∧ p_ = [] | 23 => v_ = .bool false ∧ p_ = [] | _ => True) (List.take_append_drop 24 _).symm (by kernel_rfl) (by kernel_rfl) rfl rfl ?_ ?_
        ·
         refine ⟨?_, ?_, ?_, ?_, ?_, ?_, ?_, ?_, ?_, ?_, ?_, ?_, ?_, ?_, ?_, ?_, ?_, ?_, ?_, ?_, ?_, ?_, ?_, ?_, trivial⟩
         ·
          intro vf pf hR
          refine Or.inl ⟨rfl, ?_⟩
          refine rq_less (sx 7 rfl (sub_nil _)) (List.sublist_append_right _ _) ?_
          exact rq_v (rv_field (k0 := 0) rfl (by kernel_rfl) rfl)
         ·
          intro vf pf hR
          have e0 : (vf 0) = .pointer (some ⟨b11, 0 + 0, none⟩) ∧ (pf 0) = [] := hR 0 (by decide)
          refine Or.inl ⟨rfl, ?_⟩
          refine rq_less (sx 45 (congrArg some e0.1) (sub_nil _)) (List.sublist_append_right _ _) ?_
          exact rq_v (rv_load rfl (by kernel_rfl) rfl (box_cell 0 rfl rfl))
         ·
          intro vf pf hR
          have e1 : (vf 1) = (n.ls.getD i lt0).iv ∧ (pf 1) = [] := hR 1 (by decide)
          refine Or.inl ⟨rfl, ?_⟩
          refine rq_less (sx 46 (congrArg some e1.1) (sub_nil _)) (List.sublist_append_right _ _) ?_
          exact rq_v (rv_len rfl Try.underlying24 rfl (rd_old ((hr).lt.at (d := lt0) (k := i) (by omega))))
         ·
          intro vf pf hR
          have e2 : (vf 2) = .int .i64 (((n.ls.getD i lt0).xs).length : Int) ∧ (pf 2) = [] := hR 2 (by decide)
          refine Or.inl ⟨rfl, ?_⟩
          refine rq_less (sx 47 (congrArg some e2.1) (sub_nil _)) (List.sublist_append_right _ _) ?_
          exact rq_mono (rq_v (rv_cmp rfl rfl rfl rfl)) (fun _ _ h => ⟨h.1.trans (congrArg Value.bool hb12), h.2⟩)
         ·
          intro vf pf hR
          have e3 : (vf 3) = .bool false ∧ (pf 3) = [] := hR 3 (by decide)
          refine Or.inl ⟨rfl, ?_⟩
          refine rq_less (sx 48 (congrArg some e3.1) (sub_nil _)) (List.sublist_append_right _ _) ?_
          exact rq_v (rv_ev rfl)
         ·
          intro vf pf hR
          have e4 : (vf 4) = .bool false ∧ (pf 4) = [] := hR 4 (by decide)
          refine Or.inl ⟨want_of (congrArg some e4.1) rfl, ?_⟩
          refine rq_less (sx 7 rfl (sub_nil _)) (List.sublist_append_right _ _) ?_
          exact rq_v (rv_field (k0 := 0) rfl (by kernel_rfl) rfl)
         ·
          intro vf pf hR
          have e4 : (vf 4) = .bool false ∧ (pf 4) = [] := hR 4 (by decide)
          have e5 : (vf 5) = .pointer (some ⟨b11, 0 + 0, none⟩) ∧ (pf 5) = [] := hR 5 (by decide)
          refine Or.inl ⟨want_of (congrArg some e4.1) rfl, ?_⟩
          refine rq_less (sx 50 (congrArg some e5.1) (sub_nil _)) (List.sublist_append_right _ _) ?_
          exact rq_v (rv_load rfl (by kernel_rfl) rfl (box_cell 0 rfl rfl))
         ·
          intro vf pf hR
          have e4 : (vf 4) = .bool false ∧ (pf 4) = [] := hR 4 (by decide)
          refine Or.inl ⟨want_of (congrArg some e4.1) rfl, ?_⟩
          refine rq_less (sx 1 rfl (sub_nil _)) (List.sublist_append_right _ _) ?_
          exact rq_v (rv_loadN (cs := [.int .i64 n.ins, n.sv, n.lv, n.ov]) rfl (by kernel_rfl) (by kernel_rfl) rfl rfl (box_part 1 rfl 0 rfl))
         ·
          intro vf pf hR
          have e4 : (vf 4) = .bool false ∧ (pf 4) = [] := hR 4 (by decide)
          have e7 : (vf 7) = .agg #[.int .i64 n.ins, n.sv, n.lv, n.ov] ∧ (pf 7) = [] := hR 7 (by decide)
          refine Or.inl ⟨want_of (congrArg some e4.1) rfl, ?_⟩
          refine rq_less (sx 52 (congrArg some e7.1) (sub_nil _)) (List.sublist_append_right _ _) ?_
          exact (rq_call (by kernel_rfl) rfl (fun w hm => ret_ans (firstLut_ans n w (hr.below hm.bel) hsz)))
         ·
          intro vf pf hR
          have e4 : (vf 4) = .bool false ∧ (pf 4) = [] := hR 4 (by decide)
          refine Or.inl ⟨want_of (congrArg some e4.1) rfl, ?_⟩
          refine rq_less (sx 6 rfl (sub_nil _)) (List.sublist_append_right _ _) ?_
          exact rq_v (rv_ev rfl)
         ·
          intro vf pf hR
          have e4 : (vf 4) = .bool false ∧ (pf 4) = [] := hR 4 (by decide)
          have e8 : (vf 8) = .int .i64 n.fst ∧ (pf 8) = [] := hR 8 (by decide)
          have e9 : (vf 9) = .int .i64 (i : Int) ∧ (pf 9) = [] := hR 9 (by decide)
          refine Or.inl ⟨want_of (congrArg some e4.1) rfl, ?_⟩
          refine rq_less (sx 53 (congrArg some e8.1) (sx 54 (congrArg some e9.1) (sub_nil _))) (List.sublist_append_right _ _) ?_
          exact rq_v (rv_add rfl rfl rfl (by constructor <;> omega))
         ·
          intro vf pf hR
          have e4 : (vf 4) = .bool false ∧ (pf 4) = [] := hR 4 (by decide)
          have e6 : (vf 6) = (n.ls.getD i lt0).iv ∧ (pf 6) = [] := hR 6 (by decide)
          have e10 : (vf 10) = .int .i64 (n.fst + (i : Int)) ∧ (pf 10) = [] := hR 10 (by decide)
          refine Or.inl ⟨want_of (congrArg some e4.1) rfl, ?_⟩
          refine rq_less (sx 51 (congrArg some e6.1) (sx 55 (congrArg some e10.1) (sub_nil _))) (List.sublist_append_right _ _) ?_
          exact rq_mono (rq_call (by kernel_rfl) rfl (fun w hm => ret_ans (nodesBelow_ans ((n.ls.getD i lt0).xs) (n.fst + (i : Int)) _ w ((rd_old ((hr).lt.at (d := lt0) (k := i) (by omega))) w hm) (by omega)))) (fun _ _ h => ⟨h.1.trans (congrArg Value.bool hb13), h.2⟩)
         ·
          intro vf pf hR
          have e4 : (vf 4) = .bool false ∧ (pf 4) = [] := hR 4 (by decide)
          have e11 : (vf 11) = .bool true ∧ (pf 11) = [] := hR 11 (by decide)
          refine Or.inl ⟨want_of (congrArg some e4.1) rfl, ?_⟩
          refine rq_less (sx 56 (congrArg some e11.1) (sub_nil _)) (List.sublist_append_right _ _) ?_
          exact rq_v (rv_ev rfl)
         ·
          intro vf pf hR
          have e4 : (vf 4) = .bool false ∧ (pf 4) = [] := hR 4 (by decide)
          have e12 : (vf 12) = .bool false ∧ (pf 12) = [] := hR 12 (by decide)
          refine Or.inl ⟨rfl, ?_⟩
          refine rq_less (sx 49 (congrArg some e4.1) (sx 57 (congrArg some e12.1) (sub_nil _))) (List.sublist_append_right _ _) ?_
          exact rq_v (rv_ev rfl)
         ·
          intro vf pf hR
          have e13 : (vf 13) = .bool false ∧ (pf 13) = [] := hR 13 (by decide)
          refine Or.inl ⟨rfl, ?_⟩
          refine rq_less (sx 58 (congrArg some e13.1) (sub_nil _)) (List.sublist_append_right _ _) ?_
          exact rq_v (rv_ev rfl)
         ·
          intro vf pf hR
          have e14 : (vf 14) = .bool false ∧ (pf 14) = [] := hR 14 (by decide)
          refine Or.inl ⟨want_of (congrArg some e14.1) rfl, ?_⟩
          refine rq_less (sx 7 rfl (sub_nil _)) (List.sublist_append_right _ _) ?_
          exact rq_v (rv_field (k0 := 0) rfl (by kernel_rfl) rfl)
         ·
          intro vf pf hR
          have e14 : (vf 14) = .bool false ∧ (pf 14) = [] := hR 14 (by decide)
          have e15 : (vf 15) = .pointer (some ⟨b11, 0 + 0, none⟩) ∧ (pf 15) = [] := hR 15 (by decide)
          refine Or.inl ⟨want_of (congrArg some e14.1) rfl, ?_⟩
          refine rq_less (sx 60 (congrArg some e15.1) (sub_nil _)) (List.sublist_append_right _ _) ?_
          exact rq_v (rv_load rfl (by kernel_rfl) rfl (box_cell 0 rfl rfl))
         ·
          intro vf pf hR
          have e14 : (vf 14) = .bool false ∧ (pf 14) = [] := hR 14 (by decide)
          have e16 : (vf 16) = (n.ls.getD i lt0).iv ∧ (pf 16) = [] := hR 16 (by decide)
          refine Or.inl ⟨want_of (congrArg some e14.1) rfl, ?_⟩
          refine rq_less (sx 61 (congrArg some e16.1) (sub_nil _)) (List.sublist_append_right _ _) ?_
          exact rq_v (rv_len rfl Try.underlying24 rfl (rd_old ((hr).lt.at (d := lt0) (k := i) (by omega))))
         ·
          intro vf pf hR
          have e14 : (vf 14) = .bool false ∧ (pf 14) = [] := hR 14 (by decide)
          refine Or.inl ⟨want_of (congrArg some e14.1) rfl, ?_⟩
          refine rq_less (sx 7 rfl (sub_nil _)) (List.sublist_append_right _ _) ?_
          exact rq_v (rv_field (k0 := 1) rfl (by kernel_rfl) rfl)
         ·
          intro vf pf hR
          have e14 : (vf 14) = .bool false ∧ (pf 14) = [] := hR 14 (by decide)
          have e18 : (vf 18) = .pointer (some ⟨b11, 0 + 1, none⟩) ∧ (pf 18) = [] := hR 18 (by decide)
          refine Or.inl ⟨want_of (congrArg some e14.1) rfl, ?_⟩
          refine rq_less (sx 63 (congrArg some e18.1) (sub_nil _)) (List.sublist_append_right _ _) ?_
          exact rq_v (rv_load rfl (by kernel_rfl) rfl (box_cell 0 rfl rfl))
         ·
          intro vf pf hR
          have e14 : (vf 14) = .bool false ∧ (pf 14) = [] := hR 14 (by decide)
          have e17 : (vf 17) = .int .i64 (((n.ls.getD i lt0).xs).length : Int) ∧ (pf 17) = [] := hR 17 (by decide)
          have e19 : (vf 19) = .int .i64 ((n.ls.getD i lt0).ma) ∧ (pf 19) = [] := hR 19 (by decide)
          refine Or.inl ⟨want_of (congrArg some e14.1) rfl, ?_⟩
          refine rq_less (sx 62 (congrArg some e17.1) (sx 64 (congrArg some e19.1) (sub_nil _))) (List.sublist_append_right _ _) ?_
          exact rq_v (rv_build (cs := #[.int .i64 (((n.ls.getD i lt0).xs).length : Int), .int .i64 ((n.ls.getD i lt0).ma)]) rfl rfl (by kernel_rfl))
         ·
          intro vf pf hR
          have e14 : (vf 14) = .bool false ∧ (pf 14) = [] := hR 14 (by decide)
          have e20 : (vf 20) = .agg #[.int .i64 (((n.ls.getD i lt0).xs).length : Int), .int .i64 ((n.ls.getD i lt0).ma)] ∧ (pf 20) = [] := hR 20 (by decide)
          refine Or.inl ⟨want_of (congrArg some e14.1) rfl, ?_⟩
          refine rq_less (sx 65 (congrArg some e20.1) (sub_nil _)) (List.sublist_append_right _ _) ?_
          exact rq_mono (rq_call (by kernel_rfl) rfl (fun w hm => ret_ans (implTabOk_ans (((n.ls.getD i lt0).xs).length : Int) ((n.ls.getD i lt0).ma) w))) (fun _ _ h => ⟨h.1.trans (congrArg Value.bool hb14), h.2⟩)
         ·
          intro vf pf hR
          have e14 : (vf 14) = .bool false ∧ (pf 14) = [] := hR 14 (by decide)
          have e21 : (vf 21) = .bool true ∧ (pf 21) = [] := hR 21 (by decide)
          refine Or.inl ⟨want_of (congrArg some e14.1) rfl, ?_⟩
          refine rq_less (sx 66 (congrArg some e21.1) (sub_nil _)) (List.sublist_append_right _ _) ?_
          exact rq_v (rv_ev rfl)
         ·
          intro vf pf hR
          have e14 : (vf 14) = .bool false ∧ (pf 14) = [] := hR 14 (by decide)
          have e22 : (vf 22) = .bool false ∧ (pf 22) = [] := hR 22 (by decide)
          refine Or.inl ⟨rfl, ?_⟩
          refine rq_less (sx 59 (congrArg some e14.1) (sx 67 (congrArg some e22.1) (sub_nil _))) (List.sublist_append_right _ _) ?_
          exact rq_v (rv_ev rfl)
        ·
         intro vf pf hR
         have e23 : (vf 23) = .bool false ∧ (pf 23) = [] := hR 23 (by decide)
         refine hl_less (l' := [boxE b11 #[(n.ls.getD i lt0).iv, .int .i64 ((n.ls.getD i lt0).ma)] 69, boxE b1 #[.int .i64 n.ins, n.sv, n.lv, n.ov] 37]) (sx 0 rfl (sx 1 rfl (sx 2 rfl (sx 3 rfl (sx 6 rfl (sx 7 rfl (sx 18 rfl (sx 20 rfl (sx 21 rfl (sx 22 rfl (sx 23 rfl (sx 38 rfl (sx 39 rfl (sx 40 rfl (sx 41 rfl (sx 68 (congrArg some e23.1) (sub_nil _))))))))))))))))) (List.sublist_append_right _ _) ?_
         simp only [List.drop_succ_cons, List.drop_zero]
         refine hl_less (sx 0 rfl (sx 1 rfl (sx 2 rfl (sx 3 rfl (sx 6 rfl (sx 7 rfl (sx 18 rfl (sx 20 rfl (sx 21 rfl (sx 22 rfl (sx 23 rfl (sx 38 rfl (sx 39 rfl (sx 40 rfl (sx 41 rfl (sx 68 rfl (sub_nil _))))))))))))))))) (.refl _) ?_
         refine hl_nil ?_
         refine hq_then ?_
         refine hc_false rfl ?_
         refine hc_skip ?_
         refine hq_block_normal ?_
         refine hq_then ?_
         refine hc_region ?_
         refine hl_v rfl rfl rfl (rv_add rfl rfl rfl (by constructor <;> omega)) ?_
         refine hl_v rfl rfl rfl (rv_ev rfl) ?_
         refine hl_less (sx 0 rfl (sx 1 rfl (sx 2 rfl (sx 3 rfl (sx 6 rfl (sx 7 rfl (sx 18 rfl (sx 20 rfl (sx 21 rfl (sx 22 rfl (sx 23 rfl (sx 38 rfl (sx 39 rfl (sx 40 rfl (sx 41 rfl (sx 68 rfl (sub_nil _))))))))))))))))) (.refl _) ?_
         refine hl_nil ?_
         exact hq_round1 (i + 1) ⟨by omega, fun j hj => by by_cases e : j = i; (subst e; exact ⟨⟨by first | omega | exact LutP_len (by assumption), by assumption⟩, by assumption⟩); exact hql j (by omega)⟩ (by omega) (sx 0 rfl (sx 1 rfl (sx 2 rfl (sx 3 rfl (sx 18 rfl (sx 20 rfl (sx 21 rfl (sx 22 rfl (sx 23 rfl (sx 38 rfl (sx 39 rfl (sx 40 rfl (sub_nil _))))))))))))) ((.cons _ (.cons_cons _ .slnil)))
       ·
        have hb14p := of_pBn hb14
        refine hc_draw (by kernel_rfl) 24 [0, 1, 2, 3, 4, 5, 6, 7, 8, 9, 10, 11, 12, 13, 14, 15, 16, 17, 18, 19, 20, 21, 22, 23] (List.take 24 _) (List.drop 24 _) [[], [0], [1], [2], [3], [4], [4, 5], [4], [4, 7], [4], [4, 8, 9], [4, 6, 10], [4, 11], [4, 12], [13], [14], [14, 15], [14, 16], [14], [14, 18], [14, 17, 19], [14, 20], [14, 21], [14, 22]] [45, 46, 47, 48, 49, 50, 51, 52, 53, 54, 55, 56, 57, 58, 59, 60, 61, 62, 63, 64, 65, 66, 67, 68] (fun i_ vs_ v_ p_ => match i_ with | 0 => v_ = .pointer (some ⟨b11, 0 + 0, none⟩) ∧ p_ = [] | 1 => v_ = (n.ls.getD i lt0).iv ∧ p_ = [] | 2 => v_ = .int .i64 (((n.ls.getD i lt0).xs).length : Int) ∧ p_ = [] | 3 => v_ = .bool false ∧ p_ = [] | 4 => v_ = .bool false ∧ p_ = [] | 5 => v_ = .pointer (some ⟨b11, 0 + 0, none⟩) ∧ p_ = [] | 6 => v_ = (n.ls.getD i lt0).iv ∧ p_ = [] | 7 => v_ = .agg #[.int .i64 n.ins, n.sv, n.lv, n.ov] ∧ p_ = [] | 8 => v_ = .int .i64 n.fst ∧ p_ = [] | 9 => v_ = .int .i64 (i : Int) ∧ p_ = [] | 10 => v_ = .int .i64 (n.fst + (i : Int)) ∧ p_ = [] | 11 => v_ = .bool true ∧ p_ = [] | 12 => v_ = .bool false ∧ p_ = [] | 13 => v_ = .bool false ∧ p_ = [] | 14 => v_ = .bool false ∧ p_ = [] | 15 => v_ = .pointer (some ⟨b11, 0 + 0, none⟩) ∧ p_ = [] | 16 => v_ = (n.ls.getD i lt0).iv ∧ p_ = [] | 17 => v_ = .int .i64 (((n.ls.getD i lt0).xs).length : Int) ∧ p_ = [] | 18 => v_ = .pointer (some ⟨b11, 0 + 1, none⟩) ∧ p_ = [] | 19 => v_ = .int .i64 ((n.ls.getD i lt0).ma) ∧ p_ = [] | 20 => v_ = .agg #[.int .i64 (((n.ls.getD i lt0).xs).length : Int), .int .i64 ((n.ls.getD i lt0).ma)] ∧ p_ = [] | 21 => v_ = .bool false ∧ p_ = [] | 22 => v_ = .bool true ∧ p_ = [] | 23 => v_ = .bool true ∧ p_ = [] | _ => True) (List.take_append_drop 24 _).symm (by kernel_rfl) (by kernel_rfl) rfl rfl ?_ ?_
        ·
         refine ⟨?_, ?_, ?_, ?_, ?_, ?_, ?_, ?_, ?_, ?_, ?_, ?_, ?_, ?_, ?_, ?_, ?_, ?_, ?_, ?_, ?_, ?_, ?_, ?_, trivial⟩
         ·
          intro vf pf hR
          refine Or.inl ⟨rfl, ?_⟩
          refine rq_less (sx 7 rfl (sub_nil _)) (List.sublist_append_right _ _) ?_
          exact rq_v (rv_field (k0 := 0) rfl (by kernel_rfl) rfl)
         ·
          intro vf pf hR
          have e0 : (vf 0) = .pointer (some ⟨b11, 0 + 0, none⟩) ∧ (pf 0) = [] := hR 0 (by decide)
          refine Or.inl ⟨rfl, ?_⟩
          refine rq_less (sx 45 (congrArg some e0.1) (sub_nil _)) (List.sublist_append_right _ _) ?_
          exact rq_v (rv_load rfl (by kernel_rfl) rfl (box_cell 0 rfl rfl))
         ·
          intro vf pf hR
          have e1 : (vf 1) = (n.ls.getD i lt0).iv ∧ (pf 1) = [] := hR 1 (by decide)
          refine Or.inl ⟨rfl, ?_⟩
          refine rq_less (sx 46 (congrArg some e1.1) (sub_nil _)) (List.sublist_append_right _ _) ?_
          exact rq_v (rv_len rfl Try.underlying24 rfl (rd_old ((hr).lt.at (d := lt0) (k := i) (by omega))))
         ·
          intro vf pf hR
          have e2 : (vf 2) = .int .i64 (((n.ls.getD i lt0).xs).length : Int) ∧ (pf 2) = [] := hR 2 (by decide)
          refine Or.inl ⟨rfl, ?_⟩
          refine rq_less (sx 47 (congrArg some e2.1) (sub_nil _)) (List.sublist_append_right _ _) ?_
          exact rq_mono (rq_v (rv_cmp rfl rfl rfl rfl)) (fun _ _ h => ⟨h.1.trans (congrArg Value.bool hb12), h.2⟩)
         ·
          intro vf pf hR
          have e3 : (vf 3) = .bool false ∧ (pf 3) = [] := hR 3 (by decide)
          refine Or.inl ⟨rfl, ?_⟩
          refine rq_less (sx 48 (congrArg some e3.1) (sub_nil _)) (List.sublist_append_right _ _) ?_
          exact rq_v (rv_ev rfl)
         ·
          intro vf pf hR
          have e4 : (vf 4) = .bool false ∧ (pf 4) = [] := hR 4 (by decide)
          refine Or.inl ⟨want_of (congrArg some e4.1) rfl, ?_⟩
          refine rq_less (sx 7 rfl (sub_nil _)) (List.sublist_append_right _ _) ?_
          exact rq_v (rv_field (k0 := 0) rfl (by kernel_rfl) rfl)
         ·
          intro vf pf hR
          have e4 : (vf 4) = .bool false ∧ (pf 4) = [] := hR 4 (by decide)
          have e5 : (vf 5) = .pointer (some ⟨b11, 0 + 0, none⟩) ∧ (pf 5) = [] := hR 5 (by decide)
          refine Or.inl ⟨want_of (congrArg some e4.1) rfl, ?_⟩
          refine rq_less (sx 50 (congrArg some e5.1) (sub_nil _)) (List.sublist_append_right _ _) ?_
          exact rq_v (rv_load rfl (by kernel_rfl) rfl (box_cell 0 rfl rfl))
         ·
          intro vf pf hR
          have e4 : (vf 4) = .bool false ∧ (pf 4) = [] := hR 4 (by decide)
          refine Or.inl ⟨want_of (congrArg some e4.1) rfl, ?_⟩
          refine rq_less (sx 1 rfl (sub_nil _)) (List.sublist_append_right _ _) ?_
          exact rq_v (rv_loadN (cs := [.int .i64 n.ins, n.sv, n.lv, n.ov]) rfl (by kernel_rfl) (by kernel_rfl) rfl rfl (box_part 1 rfl 0 rfl))
         ·
          intro vf pf hR
          have e4 : (vf 4) = .bool false ∧ (pf 4) = [] := hR 4 (by decide)
          have e7 : (vf 7) = .agg #[.int .i64 n.ins, n.sv, n.lv, n.ov] ∧ (pf 7) = [] := hR 7 (by decide)
          refine Or.inl ⟨want_of (congrArg some e4.1) rfl, ?_⟩
          refine rq_less (sx 52 (congrArg some e7.1) (sub_nil _)) (List.sublist_append_right _ _) ?_
          exact (rq_call (by kernel_rfl) rfl (fun w hm => ret_ans (firstLut_ans n w (hr.below hm.bel) hsz)))
         ·
          intro vf pf hR
          have e4 : (vf 4) = .bool false ∧ (pf 4) = [] := hR 4 (by decide)
          refine Or.inl ⟨want_of (congrArg some e4.1) rfl, ?_⟩
          refine rq_less (sx 6 rfl (sub_nil _)) (List.sublist_append_right _ _) ?_
          exact rq_v (rv_ev rfl)
         ·
          intro vf pf hR
          have e4 : (vf 4) = .bool false ∧ (pf 4) = [] := hR 4 (by decide)
          have e8 : (vf 8) = .int .i64 n.fst ∧ (pf 8) = [] := hR 8 (by decide)
          have e9 : (vf 9) = .int .i64 (i : Int) ∧ (pf 9) = [] := hR 9 (by decide)
          refine Or.inl ⟨want_of (congrArg some e4.1) rfl, ?_⟩
          refine rq_less (sx 53 (congrArg some e8.1) (sx 54 (congrArg some e9.1) (sub_nil _))) (List.sublist_append_right _ _) ?_
          exact rq_v (rv_add rfl rfl rfl (by constructor <;> omega))
         ·
          intro vf pf hR
          have e4 : (vf 4) = .bool false ∧ (pf 4) = [] := hR 4 (by decide)
          have e6 : (vf 6) = (n.ls.getD i lt0).iv ∧ (pf 6) = [] := hR 6 (by decide)
          have e10 : (vf 10) = .int .i64 (n.fst + (i : Int)) ∧ (pf 10) = [] := hR 10 (by decide)
          refine Or.inl ⟨want_of (congrArg some e4.1) rfl, ?_⟩
          refine rq_less (sx 51 (congrArg some e6.1) (sx 55 (congrArg some e10.1) (sub_nil _))) (List.sublist_append_right _ _) ?_
          exact rq_mono (rq_call (by kernel_rfl) rfl (fun w hm => ret_ans (nodesBelow_ans ((n.ls.getD i lt0).xs) (n.fst + (i : Int)) _ w ((rd_old ((hr).lt.at (d := lt0) (k := i) (by omega))) w hm) (by omega)))) (fun _ _ h => ⟨h.1.trans (congrArg Value.bool hb13), h.2⟩)
         ·
          intro vf pf hR
          have e4 : (vf 4) = .bool false ∧ (pf 4) = [] := hR 4 (by decide)
          have e11 : (vf 11) = .bool true ∧ (pf 11) = [] := hR 11 (by decide)
          refine Or.inl ⟨want_of (congrArg some e4.1) rfl, ?_⟩
          refine rq_less (sx 56 (congrArg some e11.1) (sub_nil _)) (List.sublist_append_right _ _) ?_
          exact rq_v (rv_ev rfl)
         ·
          intro vf pf hR
          have e4 : (vf 4) = .bool false ∧ (pf 4) = [] := hR 4 (by decide)
          have e12 : (vf 12) = .bool false ∧ (pf 12) = [] := hR 12 (by decide)
          refine Or.inl ⟨rfl, ?_⟩
          refine rq_less (sx 49 (congrArg some e4.1) (sx 57 (congrArg some e12.1) (sub_nil _))) (List.sublist_append_right _ _) ?_
          exact rq_v (rv_ev rfl)
         ·
          intro vf pf hR
          have e13 : (vf 13) = .bool false ∧ (pf 13) = [] := hR 13 (by decide)
          refine Or.inl ⟨rfl, ?_⟩
          refine rq_less (sx 58 (congrArg some e13.1) (sub_nil _)) (List.sublist_append_right _ _) ?_
          exact rq_v (rv_ev rfl)
         ·
          intro vf pf hR
          have e14 : (vf 14) = .bool false ∧ (pf 14) = [] := hR 14 (by decide)
          refine Or.inl ⟨want_of (congrArg some e14.1) rfl, ?_⟩
          refine rq_less (sx 7 rfl (sub_nil _)) (List.sublist_append_right _ _) ?_
          exact rq_v (rv_field (k0 := 0) rfl (by kernel_rfl) rfl)
         ·
          intro vf pf hR
          have e14 : (vf 14) = .bool false ∧ (pf 14) = [] := hR 14 (by decide)
          have e15 : (vf 15) = .pointer (some ⟨b11, 0 + 0, none⟩) ∧ (pf 15) = [] := hR 15 (by decide)
          refine Or.inl ⟨want_of (congrArg some e14.1) rfl, ?_⟩
          refine rq_less (sx 60 (congrArg some e15.1) (sub_nil _)) (List.sublist_append_right _ _) ?_
          exact rq_v (rv_load rfl (by kernel_rfl) rfl (box_cell 0 rfl rfl))
         ·
          intro vf pf hR
          have e14 : (vf 14) = .bool false ∧ (pf 14) = [] := hR 14 (by decide)
          have e16 : (vf 16) = (n.ls.getD i lt0).iv ∧ (pf 16) = [] := hR 16 (by decide)
          refine Or.inl ⟨want_of (congrArg some e14.1) rfl, ?_⟩
          refine rq_less (sx 61 (congrArg some e16.1) (sub_nil _)) (List.sublist_append_right _ _) ?_
          exact rq_v (rv_len rfl Try.underlying24 rfl (rd_old ((hr).lt.at (d := lt0) (k := i) (by omega))))
         ·
          intro vf pf hR
          have e14 : (vf 14) = .bool false ∧ (pf 14) = [] := hR 14 (by decide)
          refine Or.inl ⟨want_of (congrArg some e14.1) rfl, ?_⟩
          refine rq_less (sx 7 rfl (sub_nil _)) (List.sublist_append_right _ _) ?_
          exact rq_v (rv_field (k0 := 1) rfl (by kernel_rfl) rfl)
         ·
          intro vf pf hR
          have e14 : (vf 14) = .bool false ∧ (pf 14) = [] := hR 14 (by decide)
          have e18 : (vf 18) = .pointer (some ⟨b11, 0 + 1, none⟩) ∧ (pf 18) = [] := hR 18 (by decide)
          refine Or.inl ⟨want_of (congrArg some e14.1) rfl, ?_⟩
          refine rq_less (sx 63 (congrArg some e18.1) (sub_nil _)) (List.sublist_append_right _ _) ?_
          exact rq_v (rv_load rfl (by kernel_rfl) rfl (box_cell 0 rfl rfl))
         ·
          intro vf pf hR
          have e14 : (vf 14) = .bool false ∧ (pf 14) = [] := hR 14 (by decide)
          have e17 : (vf 17) = .int .i64 (((n.ls.getD i lt0).xs).length : Int) ∧ (pf 17) = [] := hR 17 (by decide)
          have e19 : (vf 19) = .int .i64 ((n.ls.getD i lt0).ma) ∧ (pf 19) = [] := hR 19 (by decide)
          refine Or.inl ⟨want_of (congrArg some e14.1) rfl, ?_⟩
          refine rq_less (sx 62 (congrArg some e17.1) (sx 64 (congrArg some e19.1) (sub_nil _))) (List.sublist_append_right _ _) ?_
          exact rq_v (rv_build (cs := #[.int .i64 (((n.ls.getD i lt0).xs).length : Int), .int .i64 ((n.ls.getD i lt0).ma)]) rfl rfl (by kernel_rfl))
         ·
          intro vf pf hR
          have e14 : (vf 14) = .bool false ∧ (pf 14) = [] := hR 14 (by decide)
          have e20 : (vf 20) = .agg #[.int .i64 (((n.ls.getD i lt0).xs).length : Int), .int .i64 ((n.ls.getD i lt0).ma)] ∧ (pf 20) = [] := hR 20 (by decide)
          refine Or.inl ⟨want_of (congrArg some e14.1) rfl, ?_⟩
          refine rq_less (sx 65 (congrArg some e20.1) (sub_nil _)) (List.sublist_append_right _ _) ?_
          exact rq_mono (rq_call (by kernel_rfl) rfl (fun w hm => ret_ans (implTabOk_ans (((n.ls.getD i lt0).xs).length : Int) ((n.ls.getD i lt0).ma) w))) (fun _ _ h => ⟨h.1.trans (congrArg Value.bool hb14), h.2⟩)
         ·
          intro vf pf hR
          have e14 : (vf 14) = .bool false ∧ (pf 14) = [] := hR 14 (by decide)
          have e21 : (vf 21) = .bool false ∧ (pf 21) = [] := hR 21 (by decide)
          refine Or.inl ⟨want_of (congrArg some e14.1) rfl, ?_⟩
          refine rq_less (sx 66 (congrArg some e21.1) (sub_nil _)) (List.sublist_append_right _ _) ?_
          exact rq_v (rv_ev rfl)
         ·
          intro vf pf hR
          have e14 : (vf 14) = .bool false ∧ (pf 14) = [] := hR 14 (by decide)
          have e22 : (vf 22) = .bool true ∧ (pf 22) = [] := hR 22 (by decide)
          refine Or.inl ⟨rfl, ?_⟩
          refine rq_less (sx 59 (congrArg some e14.1) (sx 67 (congrArg some e22.1) (sub_nil _))) (List.sublist_append_right _ _) ?_
          exact rq_v (rv_ev rfl)
        ·
         intro vf pf hR
         have e23 : (vf 23) = .bool true ∧ (pf 23) = [] := hR 23 (by decide)
         refine hl_less (l' := [boxE b11 #[(n.ls.getD i lt0).iv, .int .i64 ((n.ls.getD i lt0).ma)] 69, boxE b1 #[.int .i64 n.ins, n.sv, n.lv, n.ov] 37]) (sx 0 rfl (sx 1 rfl (sx 2 rfl (sx 3 rfl (sx 6 rfl (sx 7 rfl (sx 18 rfl (sx 20 rfl (sx 21 rfl (sx 22 rfl (sx 23 rfl (sx 38 rfl (sx 39 rfl (sx 40 rfl (sx 41 rfl (sx 68 (congrArg some e23.1) (sub_nil _))))))))))))))))) (List.sublist_append_right _ _) ?_
         simp only [List.drop_succ_cons, List.drop_zero]
         refine hl_less (sx 0 rfl (sx 1 rfl (sx 2 rfl (sx 3 rfl (sx 6 rfl (sx 7 rfl (sx 18 rfl (sx 20 rfl (sx 21 rfl (sx 22 rfl (sx 23 rfl (sx 38 rfl (sx 39 rfl (sx 40 rfl (sx 41 rfl (sx 68 rfl (sub_nil _))))))))))))))))) (.refl _) ?_
         refine hl_nil ?_
         refine hq_then ?_
         refine hc_true rfl ?_
         refine hc_seq ?_
         refine hc_region ?_
         refine hl_v rfl rfl rfl (rv_ev rfl) ?_
         refine hl_less (sx 0 rfl (sx 1 rfl (sx 2 rfl (sx 3 rfl (sx 6 rfl (sx 7 rfl (sx 18 rfl (sx 20 rfl (sx 21 rfl (sx 22 rfl (sx 23 rfl (sx 38 rfl (sx 39 rfl (sx 40 rfl (sx 41 rfl (sx 68 rfl (sub_nil _))))))))))))))))) (.refl _) ?_
         refine hl_nil ?_
         refine hq_then ?_
         refine hc_ret ?_
         refine hq_block_ret ?_
         refine hq_then_ret ?_
         refine hq_then_ret ?_
         refine hq_block_ret ?_
         refine hq_then_ret ?_
         exact hq_ans rfl rfl (congrArg _ (pB_no (fun hp => by first | (exact lnN_pos hp.sz (by assumption)) | (exact absurd hp.ou (by rw [← hnc]; assumption)) | (have h9 := hp.sq k (by omega); exact absurd h9.1 (by assumption)) | (have h9 := hp.sq k (by omega); rw [← hnc] at h9; exact absurd h9.2 (by assumption)) | (have h9 := hp.sq k (by omega); rcases h9.1.kind with ⟨a, b, c⟩ | ⟨a, b, c⟩ <;> omega) | (have h9 := hp.lt i (by omega); have h8 := h9.1.1; omega) | (have h9 := hp.lt i (by omega); exact absurd h9.1.2 (by assumption)) | (have h9 := hp.lt i (by omega); exact absurd h9.2 (by assumption)))).symm)
      ·
       have hb13p := of_pBn hb13
       refine hc_draw (by kernel_rfl) 24 [0, 1, 2, 3, 4, 5, 6, 7, 8, 9, 10, 11, 12, 13, 14, 15, 16, 17, 18, 19, 20, 21, 22, 23] (List.take 24 _) (List.drop 24 _) [[], [0], [1], [2], [3], [4], [4, 5], [4], [4, 7], [4], [4, 8, 9], [4, 6, 10], [4, 11], [4, 12], [13], [14], [14], [14], [14], [14], [14], [14], [14], [14, 22]] [45, 46, 47, 48, 49, 50, 51, 52, 53, 54, 55, 56, 57, 58, 59, 60, 61, 62, 63, 64, 65, 66, 67, 68] (fun i_ vs_ v_ p_ => match i_ with | 0 => v_ = .pointer (some ⟨b11, 0 + 0, none⟩) ∧ p_ = [] | 1 => v_ = (n.ls.getD i lt0).iv ∧ p_ = [] | 2 => v_ = .int .i64 (((n.ls.getD i lt0).xs).length : Int) ∧ p_ = [] | 3 => v_ = .bool false ∧ p_ = [] | 4 => v_ = .bool false ∧ p_ = [] | 5 => v_ = .pointer (some ⟨b11, 0 + 0, none⟩) ∧ p_ = [] | 6 => v_ = (n.ls.getD i lt0).iv ∧ p_ = [] | 7 => v_ = .agg #[.int .i64 n.ins, n.sv, n.lv, n.ov] ∧ p_ = [] | 8 => v_ = .int .i64 n.fst ∧ p_ = [] | 9 => v_ = .int .i64 (i : Int) ∧ p_ = [] | 10 => v_ = .int .i64 (n.fst + (i : Int)) ∧ p_ = [] | 11 => v_ = .bool false ∧ p_ = [] | 12 => v_ = .bool true ∧ p_ = [] | 13 => v_ = .bool true ∧ p_ = [] | 14 => v_ = .bool true ∧ p_ = [] | 15 => v_ = undef ∧ p_ = [] | 16 => v_ = undef ∧ p_ = [] | 17 => v_ = undef ∧ p_ = [] | 18 => v_ = undef ∧ p_ = [] | 19 => v_ = undef ∧ p_ = [] | 20 => v_ = undef ∧ p_ = [] | 21 => v_ = undef ∧ p_ = [] | 22 => v_ = undef ∧ p_ = [] | 23 => v_ = .bool true ∧ p_ = [] | _ => True) (List.take_append_drop 24 _).symm (by kernel_rfl) (by kernel_rfl) rfl rfl ?_ ?_
       ·
        refine ⟨?_, ?_, ?_, ?_, ?_, ?_, ?_, ?_, ?_, ?_, ?_, ?_, ?_, ?_, ?_, ?_, ?_, ?_, ?_, ?_, ?_, ?_, ?_, ?_, trivial⟩
        ·
         intro vf pf hR
         refine Or.inl ⟨rfl, ?_⟩
         refine rq_less (sx 7 rfl (sub_nil _)) (List.sublist_append_right _ _) ?_
         exact rq_v (rv_field (k0 := 0) rfl (by kernel_rfl) rfl)
        ·
         intro vf pf hR
         have e0 : (vf 0) = .pointer (some ⟨b11, 0 + 0, none⟩) ∧ (pf 0) = [] := hR 0 (by decide)
         refine Or.inl ⟨rfl, ?_⟩
         refine rq_less (sx 45 (congrArg some e0.1) (sub_nil _)) (List.sublist_append_right _ _) ?_
         exact rq_v (rv_load rfl (by kernel_rfl) rfl (box_cell 0 rfl rfl))
        ·
         intro vf pf hR
         have e1 : (vf 1) = (n.ls.getD i lt0).iv ∧ (pf 1) = [] := hR 1 (by decide)
         refine Or.inl ⟨rfl, ?_⟩
         refine rq_less (sx 46 (congrArg some e1.1) (sub_nil _)) (List.sublist_append_right _ _) ?_
         exact rq_v (rv_len rfl Try.underlying24 rfl (rd_old ((hr).lt.at (d := lt0) (k := i) (by omega))))
        ·
         intro vf pf hR
         have e2 : (vf 2) = .int .i64 (((n.ls.getD i lt0).xs).length : Int) ∧ (pf 2) = [] := hR 2 (by decide)
         refine Or.inl ⟨rfl, ?_⟩
         refine rq_less (sx 47 (congrArg some e2.1) (sub_nil _)) (List.sublist_append_right _ _) ?_
         exact rq_mono (rq_v (rv_cmp rfl rfl rfl rfl)) (fun _ _ h => ⟨h.1.trans (congrArg Value.bool hb12), h.2⟩)
        ·
         intro vf pf hR
         have e3 : (vf 3) = .bool false ∧ (pf 3) = [] := hR 3 (by decide)
         refine Or.inl ⟨rfl, ?_⟩
         refine rq_less (sx 48 (congrArg some e3.1) (sub_nil _)) (List.sublist_append_right _ _) ?_
         exact rq_v (rv_ev rfl)
        ·
         intro vf pf hR
         have e4 : (vf 4) = .bool false ∧ (pf 4) = [] := hR 4 (by decide)
         refine Or.inl ⟨want_of (congrArg some e4.1) rfl, ?_⟩
         refine rq_less (sx 7 rfl (sub_nil _)) (List.sublist_append_right _ _) ?_
         exact rq_v (rv_field (k0 := 0) rfl (by kernel_rfl) rfl)
        ·
         intro vf pf hR
         have e4 : (vf 4) = .bool false ∧ (pf 4) = [] := hR 4 (by decide)
         have e5 : (vf 5) = .pointer (some ⟨b11, 0 + 0, none⟩) ∧ (pf 5) = [] := hR 5 (by decide)
         refine Or.inl ⟨want_of (congrArg some e4.1) rfl, ?_⟩
         refine rq_less (sx 50 (congrArg some e5.1) (sub_nil _)) (List.sublist_append_right _ _) ?_
         exact rq_v (rv_load rfl (by kernel_rfl) rfl (box_cell 0 rfl rfl))
        ·
         intro vf pf hR
         have e4 : (vf 4) = .bool false ∧ (pf 4) = [] := hR 4 (by decide)
         refine Or.inl ⟨want_of (congrArg some e4.1) rfl, ?_⟩
         refine rq_less (sx 1 rfl (sub_nil _)) (List.sublist_append_right _ _) ?_
         exact rq_v (rv_loadN (cs := [.int .i64 n.ins, n.sv, n.lv, n.ov]) rfl (by kernel_rfl) (by kernel_rfl) rfl rfl (box_part 1 rfl 0 rfl))
        ·
         intro vf pf hR
         have e4 : (vf 4) = .bool false ∧ (pf 4) = [] := hR 4 (by decide)
         have e7 : (vf 7) = .agg #[.int .i64 n.ins, n.sv, n.lv, n.ov] ∧ (pf 7) = [] := hR 7 (by decide)
         refine Or.inl ⟨want_of (congrArg some e4.1) rfl, ?_⟩
         refine rq_less (sx 52 (congrArg some e7.1) (sub_nil _)) (List.sublist_append_right _ _) ?_
         exact (rq_call (by kernel_rfl) rfl (fun w hm => ret_ans (firstLut_ans n w (hr.below hm.bel) hsz)))
        ·
         intro vf pf hR
         have e4 : (vf 4) = .bool false ∧ (pf 4) = [] := hR 4 (by decide)
         refine Or.inl ⟨want_of (congrArg some e4.1) rfl, ?_⟩
         refine rq_less (sx 6 rfl (sub_nil _)) (List.sublist_append_right _ _) ?_
         exact rq_v (rv_ev rfl)
        ·
         intro vf pf hR
         have e4 : (vf 4) = .bool false ∧ (pf 4) = [] := hR 4 (by decide)
         have e8 : (vf 8) = .int .i64 n.fst ∧ (pf 8) = [] := hR 8 (by decide)
         have e9 : (vf 9) = .int .i64 (i : Int) ∧ (pf 9) = [] := hR 9 (by decide)
         refine Or.inl ⟨want_of (congrArg some e4.1) rfl, ?_⟩
         refine rq_less (sx 53 (congrArg some e8.1) (sx 54 (congrArg some e9.1) (sub_nil _))) (List.sublist_append_right _ _) ?_
         exact rq_v (rv_add rfl rfl rfl (by constructor <;> omega))
        ·
         intro vf pf hR
         have e4 : (vf 4) = .bool false ∧ (pf 4) = [] := hR 4 (by decide)
         have e6 : (vf 6) = (n.ls.getD i lt0).iv ∧ (pf 6) = [] := hR 6 (by decide)
         have e10 : (vf 10) = .int .i64 (n.fst + (i : Int)) ∧ (pf 10) = [] := hR 10 (by decide)
         refine Or.inl ⟨want_of (congrArg some e4.1) rfl, ?_⟩
         refine rq_less (sx 51 (congrArg some e6.1) (sx 55 (congrArg some e10.1) (sub_nil _))) (List.sublist_append_right _ _) ?_
         exact rq_mono (rq_call (by kernel_rfl) rfl (fun w hm => ret_ans (nodesBelow_ans ((n.ls.getD i lt0).xs) (n.fst + (i : Int)) _ w ((rd_old ((hr).lt.at (d := lt0) (k := i) (by omega))) w hm) (by omega)))) (fun _ _ h => ⟨h.1.trans (congrArg Value.bool hb13), h.2⟩)
        ·
         intro vf pf hR
         have e4 : (vf 4) = .bool false ∧ (pf 4) = [] := hR 4 (by decide)
         have e11 : (vf 11) = .bool false ∧ (pf 11) = [] := hR 11 (by decide)
         refine Or.inl ⟨want_of (congrArg some e4.1) rfl, ?_⟩
         refine rq_less (sx 56 (congrArg some e11.1) (sub_nil _)) (List.sublist_append_right _ _) ?_
         exact rq_v (rv_ev rfl)
        ·
         intro vf pf hR
         have e4 : (vf 4) = .bool false ∧ (pf 4) = [] := hR 4 (by decide)
         have e12 : (vf 12) = .bool true ∧ (pf 12) = [] := hR 12 (by decide)
         refine Or.inl ⟨rfl, ?_⟩
         refine rq_less (sx 49 (congrArg some e4.1) (sx 57 (congrArg some e12.1) (sub_nil _))) (List.sublist_append_right _ _) ?_
         exact rq_v (rv_ev rfl)
        ·
         intro vf pf hR
         have e13 : (vf 13) = .bool true ∧ (pf 13) = [] := hR 13 (by decide)
         refine Or.inl ⟨rfl, ?_⟩
         refine rq_less (sx 58 (congrArg some e13.1) (sub_nil _)) (List.sublist_append_right _ _) ?_
         exact rq_v (rv_ev rfl)
        ·
         intro vf pf hR
         have e14 : (vf 14) = .bool true ∧ (pf 14) = [] := hR 14 (by decide)
         exact Or.inr ⟨want_of (congrArg some e14.1) rfl, rfl, rfl⟩
        ·
         intro vf pf hR
         have e14 : (vf 14) = .bool true ∧ (pf 14) = [] := hR 14 (by decide)
         exact Or.inr ⟨want_of (congrArg some e14.1) rfl, rfl, rfl⟩
        ·
         intro vf pf hR
         have e14 : (vf 14) = .bool true ∧ (pf 14) = [] := hR 14 (by decide)
         exact Or.inr ⟨want_of (congrArg some e14.1) rfl, rfl, rfl⟩
        ·
         intro vf pf hR
         have e14 : (vf 14) = .bool true ∧ (pf 14) = [] := hR 14 (by decide)
         exact Or.inr ⟨want_of (congrArg some e14.1) rfl, rfl, rfl⟩
        ·
         intro vf pf hR
         have e14 : (vf 14) = .bool true ∧ (pf 14) = [] := hR 14 (by decide)
         exact Or.inr ⟨want_of (congrArg some e14.1) rfl, rfl, rfl⟩
        ·
         intro vf pf hR
         have e14 : (vf 14) = .bool true ∧ (pf 14) = [] := hR 14 (by decide)
         exact Or.inr ⟨want_of (congrArg some e14.1) rfl, rfl, rfl⟩
        ·
         intro vf pf hR
         have e14 : (vf 14) = .bool true ∧ (pf 14) = [] := hR 14 (by decide)
         exact Or.inr ⟨want_of (congrArg some e14.1) rfl, rfl, rfl⟩
        ·
         intro vf pf hR
         have e14 : (vf 14) = .bool true ∧ (pf 14) = [] := hR 14 (by decide)
         exact Or.inr ⟨want_of (congrArg some e14.1) rfl, rfl, rfl⟩
        ·
         intro vf pf hR
         have e14 : (vf 14) = .bool true ∧ (pf 14) = [] := hR 14 (by decide)
         have e22 : (vf 22) = undef ∧ (pf 22) = [] := hR 22 (by decide)
         refine Or.inl ⟨rfl, ?_⟩
         refine rq_less (sx 59 (congrArg some e14.1) (sx 67 (congrArg some e22.1) (sub_nil _))) (List.sublist_append_right _ _) ?_
         exact rq_v (rv_ev rfl)
       ·
        intro vf pf hR
        have e23 : (vf 23) = .bool true ∧ (pf 23) = [] := hR 23 (by decide)
        refine hl_less (l' := [boxE b11 #[(n.ls.getD i lt0).iv, .int .i64 ((n.ls.getD i lt0).ma)] 69, boxE b1 #[.int .i64 n.ins, n.sv, n.lv, n.ov] 37]) (sx 0 rfl (sx 1 rfl (sx 2 rfl (sx 3 rfl (sx 6 rfl (sx 7 rfl (sx 18 rfl (sx 20 rfl (sx 21 rfl (sx 22 rfl (sx 23 rfl (sx 38 rfl (sx 39 rfl (sx 40 rfl (sx 41 rfl (sx 68 (congrArg some e23.1) (sub_nil _))))))))))))))))) (List.sublist_append_right _ _) ?_
        simp only [List.drop_succ_cons, List.drop_zero]
        refine hl_less (sx 0 rfl (sx 1 rfl (sx 2 rfl (sx 3 rfl (sx 6 rfl (sx 7 rfl (sx 18 rfl (sx 20 rfl (sx 21 rfl (sx 22 rfl (sx 23 rfl (sx 38 rfl (sx 39 rfl (sx 40 rfl (sx 41 rfl (sx 68 rfl (sub_nil _))))))))))))))))) (.refl _) ?_
        refine hl_nil ?_
        refine hq_then ?_
        refine hc_true rfl ?_
        refine hc_seq ?_
        refine hc_region ?_
        refine hl_v rfl rfl rfl (rv_ev rfl) ?_
        refine hl_less (sx 0 rfl (sx 1 rfl (sx 2 rfl (sx 3 rfl (sx 6 rfl (sx 7 rfl (sx 18 rfl (sx 20 rfl (sx 21 rfl (sx 22 rfl (sx 23 rfl (sx 38 rfl (sx 39 rfl (sx 40 rfl (sx 41 rfl (sx 68 rfl (sub_nil _))))))))))))))))) (.refl _) ?_
        refine hl_nil ?_
        refine hq_then ?_
        refine hc_ret ?_
        refine hq_block_ret ?_
        refine hq_then_ret ?_
        refine hq_then_ret ?_
        refine hq_block_ret ?_
        refine hq_then_ret ?_
        exact hq_ans rfl rfl (congrArg _ (pB_no (fun hp => by first | (exact lnN_pos hp.sz (by assumption)) | (exact absurd hp.ou (by rw [← hnc]; assumption)) | (have h9 := hp.sq k (by omega); exact absurd h9.1 (by assumption)) | (have h9 := hp.sq k (by omega); rw [← hnc] at h9; exact absurd h9.2 (by assumption)) | (have h9 := hp.sq k (by omega); rcases h9.1.kind with ⟨a, b, c⟩ | ⟨a, b, c⟩ <;> omega) | (have h9 := hp.lt i (by omega); have h8 := h9.1.1; omega) | (have h9 := hp.lt i (by omega); exact absurd h9.1.2 (by assumption)) | (have h9 := hp.lt i (by omega); exact absurd h9.2 (by assumption)))).symm)
    ·
     refine hl_less (sx 0 rfl (sx 1 rfl (sx 2 rfl (sx 3 rfl (sx 18 rfl (sx 20 rfl (sx 21 rfl (sx 22 rfl (sx 23 rfl (sx 38 rfl (sx 39 rfl (sx 40 rfl (sx 41 rfl (sub_nil _)))))))))))))) (.refl _) ?_
     refine hl_nil ?_
     refine hq_then ?_
     refine hc_seq ?_
     refine hc_false rfl ?_
     refine hc_exit ?_
     refine hq_then_exit ?_
     refine hq_then_exit ?_
     refine hq_block_exit ?_
     refine hq_then ?_
     refine hc_seq ?_
     refine hc_region ?_
     refine hl_v rfl rfl rfl (rv_ev rfl) ?_
     refine hl_less (sx 0 rfl (sx 1 rfl (sx 2 rfl (sx 3 rfl (sx 18 rfl (sx 20 rfl (sx 21 rfl (sx 22 rfl (sx 23 rfl (sx 38 rfl (sx 39 rfl (sx 40 rfl (sx 41 rfl (sub_nil _)))))))))))))) (.refl _) ?_
     refine hl_nil ?_
     refine hq_then ?_
     refine hc_ret ?_
     exact hq_ans rfl rfl (congrArg _ (pB_yes ⟨hsz, by rw [← hnc]; assumption, fun q hq => hqs q (by omega), fun q hq => hql q (by omega)⟩).symm)
  ·
   have h3p := of_pBn h3
   refine hl_v rfl rfl rfl (rv_ev rfl) ?_
   refine hl_v rfl rfl rfl (rv_ev rfl) ?_
   refine hl_less (sx 0 rfl (sx 1 rfl (sx 2 rfl (sx 3 rfl (sx 18 rfl (sub_nil _)))))) (.refl _) ?_
   refine hl_nil ?_
   refine hq_then ?_
   refine hc_true rfl ?_
   refine hc_seq ?_
   refine hc_region ?_
   refine hl_v rfl rfl rfl (rv_ev rfl) ?_
   refine hl_less (sx 0 rfl (sx 1 rfl (sx 2 rfl (sx 3 rfl (sx 18 rfl (sub_nil _)))))) (.refl _) ?_
   refine hl_nil ?_
   refine hq_then ?_
   refine hc_ret ?_
   refine hq_then_ret ?_
   exact hq_ans rfl rfl (congrArg _ (pB_no (fun hp => by first | (exact lnN_pos hp.sz (by assumption)) | (exact absurd hp.ou (by rw [← hnc]; assumption)) | (have h9 := hp.sq k (by omega); exact absurd h9.1 (by assumption)) | (have h9 := hp.sq k (by omega); rw [← hnc] at h9; exact absurd h9.2 (by assumption)) | (have h9 := hp.sq k (by omega); rcases h9.1.kind with ⟨a, b, c⟩ | ⟨a, b, c⟩ <;> omega) | (have h9 := hp.lt i (by omega); have h8 := h9.1.1; omega) | (have h9 := hp.lt i (by omega); exact absurd h9.1.2 (by assumption)) | (have h9 := hp.lt i (by omega); exact absurd h9.2 (by assumption)))).symm)
end Go.Proofs.Ytceebbcoikgocaa
