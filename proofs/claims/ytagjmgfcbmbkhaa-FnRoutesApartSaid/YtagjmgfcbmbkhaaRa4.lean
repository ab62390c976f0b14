/- Texts of the law FnRoutesApart, part 4: what it uses. -/
import Derived.Test.YtagjmgfcbmbkhaaRa3
set_option linter.unusedVariables false
set_option linter.unusedSimpArgs false
namespace Go.Proofs.Ytagjmgfcbmbkhaa
open Go.RowKit Go.ChangeShapes
open Go.RowKit
open Go.Maps
set_option maxHeartbeats 4000000 in
set_option maxRecDepth 100000 in
theorem RoutesOk_ans (d : Dev) (pl : List Int) (pv : Value) (c : Cn) (cs : List Cn) (cv : Value) (r : Rt) (rs : List Rt) (rv : Value) (ks : List Int) (w : World) (hd : devB d = true) (hpl : RdsW w pv 1 pl.length (pl.map (Value.int .i64))) (hpn : pl.length ≤ 64) (hc : RdsCn w cv cs) (hcl : 1 ≤ cs.length ∧ cs.length ≤ 100) (hce : ∀ x ∈ cs, x = c) (hr : RdsRt w rv rs) (hrl : rs.length = cs.length) (hre : ∀ x ∈ rs, x = r) (hok : ∀ k, k < cs.length → CnOk pl.length (cs.getD k cn0)) (hin : ∀ k, k < c.ps.length → 0 ≤ inPinI d (pl.getD (c.ps.getD k pn0).b.toNat 0) (c.ps.getD k pn0).p) (hrt : RtOk d (outPinI d (pl.getD c.sb.toNat 0) c.sp) r.ns r.fs ks) :
  Calls Try.prog 19 #[.agg #[.int .i64 d.W, .int .i64 d.H, .int .i64 d.T, .int .i64 d.R], pv, cv, rv] w (Ans w (.bool (okRs d r.ns (snkL d pl c.ps c.ps.length) cs.length))) := by
 obtain ⟨ra1, ra2⟩ := all_rng hd
 have hns0 := hrt.tr.nsok (by omega)
 refine calls_hc (N := 72) (args := [.agg #[.int .i64 d.W, .int .i64 d.H, .int .i64 d.T, .int .i64 d.R], pv, cv, rv]) Try.func19 rfl rfl ?_
 refine hc_less _ (sx 0 rfl (sx 1 rfl (sx 2 rfl (sx 3 rfl (sub_nil _))))) (.refl _) ?_
 refine hc_seq ?_
 refine hc_region ?_
 refine hl_box rfl rfl rfl (rq_box rfl rfl) ?_
 intro b1
 refine hl_v rfl rfl rfl (rv_ev rfl) ?_
 refine hl_less (sx 0 rfl (sx 1 rfl (sx 2 rfl (sx 3 rfl (sx 4 rfl (sx 8 rfl (sub_nil _))))))) (.refl _) ?_
 refine hl_nil ?_
 refine hq_then ?_
 refine hc_seq ?_
 refine hc_seq ?_
 refine hc_region ?_
 refine hl_v rfl rfl rfl (rv_ev rfl) ?_
 refine hl_v rfl rfl rfl (rv_len rfl Try.underlying26 rfl (rd_old hpl)) ?_
 refine hl_v rfl rfl rfl (rv_ev rfl) ?_
 refine hl_callV rfl rfl rfl (rq_call (by kernel_rfl) rfl (fun w hm => ret_ans (ConnsOk_yes (pl.length : Int) cs _ w (by omega) (hc.below hm.bel) (by omega) hok))) ?_
 refine hl_v rfl rfl rfl (rv_ev rfl) ?_
 refine hl_v rfl rfl rfl (rv_ev rfl) ?_
 refine hl_v rfl rfl rfl (rv_ev rfl) ?_
 refine hl_v rfl rfl rfl (rv_len rfl Try.underlying47 rfl (rd_old hr.row)) ?_
 refine hl_v rfl rfl rfl (rv_ev rfl) ?_
 refine hl_v rfl rfl rfl (rv_len rfl Try.underlying46 rfl (rd_old hc.row)) ?_
 refine hl_neq rfl rfl rfl rfl rfl rfl (fun h2 => absurd h2 (by omega)) (fun h2 => ?_)
 refine hl_v rfl rfl rfl (rv_ev rfl) ?_
 refine hl_less (sx 0 rfl (sx 1 rfl (sx 2 rfl (sx 3 rfl (sx 4 rfl (sx 8 rfl (sx 26 rfl (sub_nil _)))))))) (.refl _) ?_
 refine hl_nil ?_
 refine hq_then ?_
 refine hc_false rfl ?_
 refine hc_skip ?_
 refine hq_then ?_
 refine hc_seq ?_
 refine hc_region ?_
 refine hl_q rfl rfl rfl (rq_makeSet rfl) ?_
 intro v3 p4 hR5
 obtain ⟨mhR5, rfl, rfl⟩ := hR5
 refine hl_v rfl rfl rfl (rv_ev rfl) ?_
 refine hl_less (sx 0 rfl (sx 1 rfl (sx 2 rfl (sx 3 rfl (sx 4 rfl (sx 8 rfl (sx 9 rfl (sx 26 rfl (sub_nil _))))))))) (.refl _) ?_
 refine hl_nil ?_
 refine hq_then ?_
 refine hc_seq ?_
 refine hc_seq ?_
 refine hc_region ?_
 refine hl_v rfl rfl rfl (rv_ev rfl) ?_
 refine hl_v rfl rfl rfl (rv_len rfl Try.underlying46 rfl (rd_old hc.row)) ?_
 refine hl_v rfl rfl rfl (rv_ev rfl) ?_
 refine hl_less (sx 0 rfl (sx 1 rfl (sx 2 rfl (sx 3 rfl (sx 4 rfl (sx 8 rfl (sx 9 rfl (sx 26 rfl (sx 28 rfl (sx 29 rfl (sx 30 rfl (sub_nil _)))))))))))) (.refl _) ?_
 refine hl_nil ?_
 refine hq_then ?_
 refine hc_block ?_
 refine hc_loop2 (α := Nat) (β := List Int) (fun i sn => [setE mhR5 sn, boxE b1 #[.int .i64 d.W, .int .i64 d.H, .int .i64 d.T, .int .i64 d.R] 25]) (fun i sn => [(0, .agg #[.int .i64 d.W, .int .i64 d.H, .int .i64 d.T, .int .i64 d.R]), (1, pv), (2, cv), (3, rv), (4, .pointer (some ⟨b1, 0, none⟩)), (8, .bool false), (9, .map (some mhR5)), (26, .bool false), (28, cv), (29, .int .i64 (cs.length : Int)), (30, .int .i64 (i : Int))]) (fun i sn => (i = 0 ∧ sn = []) ∨ (i = 1 ∧ sn = r.ns.reverse ∧ okR d r.ns (snkL d pl c.ps c.ps.length) = true)) (fun i sn => cs.length - i) 0 [] (.inl ⟨rfl, rfl⟩) (sx 0 rfl (sx 1 rfl (sx 2 rfl (sx 3 rfl (sx 4 rfl (sx 8 rfl (sx 9 rfl (sx 26 rfl (sx 28 rfl (sx 29 rfl (sx 30 rfl (sub_nil _)))))))))))) ((.cons_cons _ (.cons_cons _ .slnil))) ?_
 intro i sn hi6
 have hi := hi6
 have hi1 : i ≤ 1 := by omega
 refine hc_seq ?_
 refine hc_region ?_
 refine hl_lss rfl rfl rfl rfl rfl rfl (fun h7 => ?_) (fun h7 => ?_)
 ·
  refine hl_less (sx 0 rfl (sx 1 rfl (sx 2 rfl (sx 3 rfl (sx 4 rfl (sx 8 rfl (sx 9 rfl (sx 26 rfl (sx 28 rfl (sx 29 rfl (sx 30 rfl (sx 31 rfl (sub_nil _))))))))))))) (.refl _) ?_
  refine hl_nil ?_
  refine hq_then ?_
  refine hc_seq ?_
  refine hc_true rfl ?_
  refine hc_skip ?_
  refine hq_then ?_
  refine hc_seq ?_
  refine hc_block ?_
  refine hc_seq ?_
  refine hc_region ?_
  refine hl_v rfl rfl rfl (rv_ev rfl) ?_
  refine hl_v rfl rfl rfl (rv_index (s := 4) rfl Try.underlying46 (by kernel_rfl) rfl rfl (rd_old hc.row) (by omega) (by first | omega | (simp only [List.length_set]; omega))) ?_
  refine hl_v rfl rfl rfl (rv_loadElN (us := [.int .i64 ((cs.getD i cn0).nd), .int .i64 ((cs.getD i cn0).sb), .int .i64 ((cs.getD i cn0).sp), (cs.getD i cn0).sv]) rfl (by kernel_rfl) (by kernel_rfl) rfl (rd_old hc.row) (by omega) rfl (flat_atN cnC 4 (fun _ => rfl) cs cn0 (show i < _ by first | omega | (simp only [List.length_set]; omega)) rfl)) ?_
  refine hl_box rfl rfl rfl (rq_alloc (z := .agg #[.int .i64 0, .int .i64 0, .int .i64 0, .slice none 0 0]) rfl (by kernel_rfl)) ?_
  intro b8
  refine hl_v rfl rfl rfl (rv_ev rfl) ?_
  refine hl_storeBoxN (i := 0) (off := 0) (us := [.int .i64 ((cs.getD i cn0).nd), .int .i64 ((cs.getD i cn0).sb), .int .i64 ((cs.getD i cn0).sp), (cs.getD i cn0).sv]) (l' := [boxE b8 #[.int .i64 ((cs.getD i cn0).nd), .int .i64 ((cs.getD i cn0).sb), .int .i64 ((cs.getD i cn0).sp), (cs.getD i cn0).sv] 44, setE mhR5 sn, boxE b1 #[.int .i64 d.W, .int .i64 d.H, .int .i64 d.T, .int .i64 d.R] 25]) rfl rfl rfl (by kernel_rfl) rfl rfl rfl (all_cons rfl (all_cons rfl (all_cons rfl (all_cons (hc.at (k := i) (by omega)).one all_nil)))) rfl rfl rfl ?_
  refine hl_less (sx 0 rfl (sx 1 rfl (sx 2 rfl (sx 3 rfl (sx 4 rfl (sx 8 rfl (sx 9 rfl (sx 10 rfl (sx 11 rfl (sx 26 rfl (sx 28 rfl (sx 29 rfl (sx 30 rfl (sx 31 rfl (sub_nil _))))))))))))))) (.refl _) ?_
  refine hl_nil ?_
  refine hq_then ?_
  refine hc_seq ?_
  refine hc_region ?_
  have hci : cs.getD i cn0 = c := hce _ (getD_mem' (by omega))
  have hri : rs.getD i rt0 = r := hre _ (getD_mem' (by omega))
  have hcI := hok i (by omega)
  have hin9 : ∀ k, k < (cs.getD i cn0).ps.length → 0 ≤ inPinI d (pl.getD ((cs.getD i cn0).ps.getD k pn0).b.toNat 0) ((cs.getD i cn0).ps.getD k pn0).p := by rw [hci]; exact hin
  have hrtI : RtOk d (outPinI d (pl.getD (cs.getD i cn0).sb.toNat 0) (cs.getD i cn0).sp) (rs.getD i rt0).ns (rs.getD i rt0).fs ks := by rw [hci, hri]; exact hrt
  have hqsl : (snkL d pl (cs.getD i cn0).ps (cs.getD i cn0).ps.length).length = (cs.getD i cn0).ps.length := snk_len _ _ (Nat.le_refl _)
  have hcl0 := hcI.l0
  have hcl1 := hcI.l1
  have hnsI := hrtI.tr.nsok (by omega)
  have hnl0 := hrtI.tr.l0
  have hnl1 := hrtI.tr.l1
  refine hl_v rfl rfl rfl (rv_loadN (cs := [.int .i64 d.W, .int .i64 d.H, .int .i64 d.T, .int .i64 d.R]) rfl (by kernel_rfl) (by kernel_rfl) rfl rfl (box_part 2 rfl 0 rfl)) ?_
  refine hl_v rfl rfl rfl (rv_ev rfl) ?_
  refine hl_v rfl rfl rfl (rv_loadN (cs := [.int .i64 ((cs.getD i cn0).nd), .int .i64 ((cs.getD i cn0).sb), .int .i64 ((cs.getD i cn0).sp), (cs.getD i cn0).sv]) rfl (by kernel_rfl) (by kernel_rfl) rfl rfl (box_part 0 rfl 0 rfl)) ?_
  refine hl_q rfl rfl rfl (rq_call (by kernel_rfl) rfl (fun w hm => SinkNodes_ret d pl _ (cs.getD i cn0) w (hpl.below hm.bel) hpn ((hc.at (k := i) (by omega)).below hm.bel) hcI.l1 hcI.snk hin9)) ?_
  intro v9 p10 hR11
  subst hR11
  refine hl_v rfl rfl rfl (rv_ev rfl) ?_
  refine hl_less (sx 0 rfl (sx 1 rfl (sx 2 rfl (sx 3 rfl (sx 4 rfl (sx 8 rfl (sx 9 rfl (sx 10 rfl (sx 11 rfl (sx 12 rfl (sx 26 rfl (sx 28 rfl (sx 29 rfl (sx 30 rfl (sx 31 rfl (sub_nil _)))))))))))))))) (.refl _) ?_
  refine hl_nil ?_
  refine hq_then ?_
  refine hc_seq ?_
  refine hc_seq ?_
  rcases Bool.eq_false_or_eq_true (okR d (rs.getD i rt0).ns (snkL d pl (cs.getD i cn0).ps (cs.getD i cn0).ps.length)) with hb12 | hb12
  ·
   refine hc_draw (by kernel_rfl) 16 [0, 1, 2, 3, 4, 5, 6, 7, 8, 9, 10, 11, 12, 13, 14, 15] (List.take 16 _) (List.drop 16 _) [[], [0], [1], [2], [2], [2], [2], [2, 4, 5, 6], [2], [2], [2], [2, 9, 10], [2, 11], [2, 3, 7, 8, 12], [2, 13], [2, 14]] [39, 40, 41, 42, 43, 44, 45, 46, 47, 48, 49, 50, 51, 52, 53, 54] (fun i_ vs_ v_ p_ => match i_ with | 0 => v_ = v9 ∧ p_ = [] | 1 => v_ = .bool false ∧ p_ = [] | 2 => v_ = .bool false ∧ p_ = [] | 3 => v_ = .agg #[.int .i64 d.W, .int .i64 d.H, .int .i64 d.T, .int .i64 d.R] ∧ p_ = [] | 4 => v_ = .agg #[.int .i64 d.W, .int .i64 d.H, .int .i64 d.T, .int .i64 d.R] ∧ p_ = [] | 5 => v_ = pv ∧ p_ = [] | 6 => v_ = .agg #[.int .i64 ((cs.getD i cn0).nd), .int .i64 ((cs.getD i cn0).sb), .int .i64 ((cs.getD i cn0).sp), (cs.getD i cn0).sv] ∧ p_ = [] | 7 => v_ = .int .i64 (outPinI d (pl.getD (cs.getD i cn0).sb.toNat 0) (cs.getD i cn0).sp) ∧ p_ = [] | 8 => v_ = v9 ∧ p_ = [] | 9 => v_ = rv ∧ p_ = [] | 10 => v_ = .int .i64 (i : Int) ∧ p_ = [] | 11 => v_ = elP rv (((i : Int)).toNat * 2) ∧ p_ = [] | 12 => v_ = .agg #[(rs.getD i rt0).nv, (rs.getD i rt0).fv] ∧ p_ = [] | 13 => v_ = .bool true ∧ p_ = [] | 14 => v_ = .bool false ∧ p_ = [] | 15 => v_ = .bool false ∧ p_ = [] | _ => True) (List.take_append_drop 16 _).symm (by kernel_rfl) (by kernel_rfl) rfl rfl ?_ ?_
   ·
    refine ⟨?_, ?_, ?_, ?_, ?_, ?_, ?_, ?_, ?_, ?_, ?_, ?_, ?_, ?_, ?_, ?_, trivial⟩
    ·
     intro vf pf hR
     refine Or.inl ⟨rfl, ?_⟩
     refine rq_less (sx 12 rfl (sub_nil _)) (List.sublist_append_right _ _) ?_
     exact rq_v (rv_ev rfl)
    ·
     intro vf pf hR
     have e0 : (vf 0) = v9 ∧ (pf 0) = [] := hR 0 (by decide)
     refine Or.inl ⟨rfl, ?_⟩
     refine rq_less (sx 39 (congrArg some e0.1) (sub_nil _)) (List.sublist_append_right _ _) ?_
     exact rq_v (rv_eqlNil rfl Try.underlying26 rfl rfl (rd_row 0 rfl) (by omega))
    ·
     intro vf pf hR
     have e1 : (vf 1) = .bool false ∧ (pf 1) = [] := hR 1 (by decide)
     refine Or.inl ⟨rfl, ?_⟩
     refine rq_less (sx 40 (congrArg some e1.1) (sub_nil _)) (List.sublist_append_right _ _) ?_
     exact rq_v (rv_ev rfl)
    ·
     intro vf pf hR
     have e2 : (vf 2) = .bool false ∧ (pf 2) = [] := hR 2 (by decide)
     refine Or.inl ⟨want_of (congrArg some e2.1) rfl, ?_⟩
     refine rq_less (sx 4 rfl (sub_nil _)) (List.sublist_append_right _ _) ?_
     exact rq_v (rv_loadN (cs := [.int .i64 d.W, .int .i64 d.H, .int .i64 d.T, .int .i64 d.R]) rfl (by kernel_rfl) (by kernel_rfl) rfl rfl (box_part 3 rfl 0 rfl))
    ·
     intro vf pf hR
     have e2 : (vf 2) = .bool false ∧ (pf 2) = [] := hR 2 (by decide)
     refine Or.inl ⟨want_of (congrArg some e2.1) rfl, ?_⟩
     refine rq_less (sx 4 rfl (sub_nil _)) (List.sublist_append_right _ _) ?_
     exact rq_v (rv_loadN (cs := [.int .i64 d.W, .int .i64 d.H, .int .i64 d.T, .int .i64 d.R]) rfl (by kernel_rfl) (by kernel_rfl) rfl rfl (box_part 3 rfl 0 rfl))
    ·
     intro vf pf hR
     have e2 : (vf 2) = .bool false ∧ (pf 2) = [] := hR 2 (by decide)
     refine Or.inl ⟨want_of (congrArg some e2.1) rfl, ?_⟩
     refine rq_less (sx 1 rfl (sub_nil _)) (List.sublist_append_right _ _) ?_
     exact rq_v (rv_ev rfl)
    ·
     intro vf pf hR
     have e2 : (vf 2) = .bool false ∧ (pf 2) = [] := hR 2 (by decide)
     refine Or.inl ⟨want_of (congrArg some e2.1) rfl, ?_⟩
     refine rq_less (sx 11 rfl (sub_nil _)) (List.sublist_append_right _ _) ?_
     exact rq_v (rv_loadN (cs := [.int .i64 ((cs.getD i cn0).nd), .int .i64 ((cs.getD i cn0).sb), .int .i64 ((cs.getD i cn0).sp), (cs.getD i cn0).sv]) rfl (by kernel_rfl) (by kernel_rfl) rfl rfl (box_part 1 rfl 0 rfl))
    ·
     intro vf pf hR
     have e2 : (vf 2) = .bool false ∧ (pf 2) = [] := hR 2 (by decide)
     have e4 : (vf 4) = .agg #[.int .i64 d.W, .int .i64 d.H, .int .i64 d.T, .int .i64 d.R] ∧ (pf 4) = [] := hR 4 (by decide)
     have e5 : (vf 5) = pv ∧ (pf 5) = [] := hR 5 (by decide)
     have e6 : (vf 6) = .agg #[.int .i64 ((cs.getD i cn0).nd), .int .i64 ((cs.getD i cn0).sb), .int .i64 ((cs.getD i cn0).sp), (cs.getD i cn0).sv] ∧ (pf 6) = [] := hR 6 (by decide)
     refine Or.inl ⟨want_of (congrArg some e2.1) rfl, ?_⟩
     refine rq_less (sx 43 (congrArg some e4.1) (sx 44 (congrArg some e5.1) (sx 45 (congrArg some e6.1) (sub_nil _)))) (List.sublist_append_right _ _) ?_
     exact (rq_call (by kernel_rfl) rfl (fun w hm => ret_ans (SourceNode_ans d pl _ (cs.getD i cn0) w (hpl.below hm.bel) hpn hcI.src (hc.at (k := i) (by omega)).one)))
    ·
     intro vf pf hR
     have e2 : (vf 2) = .bool false ∧ (pf 2) = [] := hR 2 (by decide)
     refine Or.inl ⟨want_of (congrArg some e2.1) rfl, ?_⟩
     refine rq_less (sx 12 rfl (sub_nil _)) (List.sublist_append_right _ _) ?_
     exact rq_v (rv_ev rfl)
    ·
     intro vf pf hR
     have e2 : (vf 2) = .bool false ∧ (pf 2) = [] := hR 2 (by decide)
     refine Or.inl ⟨want_of (congrArg some e2.1) rfl, ?_⟩
     refine rq_less (sx 3 rfl (sub_nil _)) (List.sublist_append_right _ _) ?_
     exact rq_v (rv_ev rfl)
    ·
     intro vf pf hR
     have e2 : (vf 2) = .bool false ∧ (pf 2) = [] := hR 2 (by decide)
     refine Or.inl ⟨want_of (congrArg some e2.1) rfl, ?_⟩
     refine rq_less (sx 10 rfl (sub_nil _)) (List.sublist_append_right _ _) ?_
     exact rq_v (rv_ev rfl)
    ·
     intro vf pf hR
     have e2 : (vf 2) = .bool false ∧ (pf 2) = [] := hR 2 (by decide)
     have e9 : (vf 9) = rv ∧ (pf 9) = [] := hR 9 (by decide)
     have e10 : (vf 10) = .int .i64 (i : Int) ∧ (pf 10) = [] := hR 10 (by decide)
     refine Or.inl ⟨want_of (congrArg some e2.1) rfl, ?_⟩
     refine rq_less (sx 48 (congrArg some e9.1) (sx 49 (congrArg some e10.1) (sub_nil _))) (List.sublist_append_right _ _) ?_
     exact rq_v (rv_index (s := 2) rfl Try.underlying47 (by kernel_rfl) rfl rfl (rd_old hr.row) (by omega) (by first | omega | (simp only [List.length_set]; omega)))
    ·
     intro vf pf hR
     have e2 : (vf 2) = .bool false ∧ (pf 2) = [] := hR 2 (by decide)
     have e11 : (vf 11) = elP rv (((i : Int)).toNat * 2) ∧ (pf 11) = [] := hR 11 (by decide)
     refine Or.inl ⟨want_of (congrArg some e2.1) rfl, ?_⟩
     refine rq_less (sx 50 (congrArg some e11.1) (sub_nil _)) (List.sublist_append_right _ _) ?_
     exact rq_v (rv_loadElN (us := [(rs.getD i rt0).nv, (rs.getD i rt0).fv]) rfl (by kernel_rfl) (by kernel_rfl) rfl (rd_old hr.row) (by omega) rfl (flat_atN Rt.cells 2 (fun _ => rfl) rs rt0 (show i < _ by first | omega | (simp only [List.length_set]; omega)) rfl))
    ·
     intro vf pf hR
     have e2 : (vf 2) = .bool false ∧ (pf 2) = [] := hR 2 (by decide)
     have e3 : (vf 3) = .agg #[.int .i64 d.W, .int .i64 d.H, .int .i64 d.T, .int .i64 d.R] ∧ (pf 3) = [] := hR 3 (by decide)
     have e7 : (vf 7) = .int .i64 (outPinI d (pl.getD (cs.getD i cn0).sb.toNat 0) (cs.getD i cn0).sp) ∧ (pf 7) = [] := hR 7 (by decide)
     have e8 : (vf 8) = v9 ∧ (pf 8) = [] := hR 8 (by decide)
     have e12 : (vf 12) = .agg #[(rs.getD i rt0).nv, (rs.getD i rt0).fv] ∧ (pf 12) = [] := hR 12 (by decide)
     refine Or.inl ⟨want_of (congrArg some e2.1) rfl, ?_⟩
     refine rq_less (sx 42 (congrArg some e3.1) (sx 46 (congrArg some e7.1) (sx 47 (congrArg some e8.1) (sx 51 (congrArg some e12.1) (sub_nil _))))) (List.sublist_append_right _ _) ?_
     exact rq_mono (rq_call (by kernel_rfl) rfl (fun w hm => ret_ans (RouteOk_ans d _ (rs.getD i rt0) ks (snkL d pl (cs.getD i cn0).ps (cs.getD i cn0).ps.length) _ w hd hrtI ((hr.nat (k := i) (by omega)).below hm.bel) ((hr.fat (k := i) (by omega)).below hm.bel) ((rd_row 0 rfl) w hm) (by omega) (rng_of (snk_small hd _ _ _))))) (fun _ _ h => ⟨h.1.trans (congrArg Value.bool hb12), h.2⟩)
    ·
     intro vf pf hR
     have e2 : (vf 2) = .bool false ∧ (pf 2) = [] := hR 2 (by decide)
     have e13 : (vf 13) = .bool true ∧ (pf 13) = [] := hR 13 (by decide)
     refine Or.inl ⟨want_of (congrArg some e2.1) rfl, ?_⟩
     refine rq_less (sx 52 (congrArg some e13.1) (sub_nil _)) (List.sublist_append_right _ _) ?_
     exact rq_v (rv_ev rfl)
    ·
     intro vf pf hR
     have e2 : (vf 2) = .bool false ∧ (pf 2) = [] := hR 2 (by decide)
     have e14 : (vf 14) = .bool false ∧ (pf 14) = [] := hR 14 (by decide)
     refine Or.inl ⟨rfl, ?_⟩
     refine rq_less (sx 41 (congrArg some e2.1) (sx 53 (congrArg some e14.1) (sub_nil _))) (List.sublist_append_right _ _) ?_
     exact rq_v (rv_ev rfl)
   ·
    intro vf pf hR
    have e15 : (vf 15) = .bool false ∧ (pf 15) = [] := hR 15 (by decide)
    refine hl_less (l' := [rowE 3 1 v9 ((snkL d pl (cs.getD i cn0).ps (cs.getD i cn0).ps.length).length) ((snkL d pl (cs.getD i cn0).ps (cs.getD i cn0).ps.length).map (Value.int .i64)), boxE b8 #[.int .i64 ((cs.getD i cn0).nd), .int .i64 ((cs.getD i cn0).sb), .int .i64 ((cs.getD i cn0).sp), (cs.getD i cn0).sv] 44, setE mhR5 sn, boxE b1 #[.int .i64 d.W, .int .i64 d.H, .int .i64 d.T, .int .i64 d.R] 25]) (sx 0 rfl (sx 1 rfl (sx 2 rfl (sx 3 rfl (sx 4 rfl (sx 8 rfl (sx 9 rfl (sx 10 rfl (sx 11 rfl (sx 12 rfl (sx 26 rfl (sx 28 rfl (sx 29 rfl (sx 30 rfl (sx 31 rfl (sx 54 (congrArg some e15.1) (sub_nil _))))))))))))))))) (List.sublist_append_right _ _) ?_
    simp only [List.drop_succ_cons, List.drop_zero]
    refine hl_less (sx 0 rfl (sx 1 rfl (sx 2 rfl (sx 3 rfl (sx 4 rfl (sx 8 rfl (sx 9 rfl (sx 10 rfl (sx 11 rfl (sx 12 rfl (sx 26 rfl (sx 28 rfl (sx 29 rfl (sx 30 rfl (sx 31 rfl (sx 54 rfl (sub_nil _))))))))))))))))) (.refl _) ?_
    refine hl_nil ?_
    refine hq_then ?_
    refine hc_false rfl ?_
    refine hc_skip ?_
    refine hq_then ?_
    refine hc_seq ?_
    refine hc_region ?_
    refine hl_v rfl rfl rfl (rv_ev rfl) ?_
    refine hl_v rfl rfl rfl (rv_ev rfl) ?_
    refine hl_v rfl rfl rfl (rv_index (s := 2) rfl Try.underlying47 (by kernel_rfl) rfl rfl (rd_old hr.row) (by omega) (by first | omega | (simp only [List.length_set]; omega))) ?_
    refine hl_v rfl rfl rfl (rv_fieldEl (k0 := 0) rfl (by kernel_rfl) rfl (rd_old hr.row) (by first | omega | (simp only [List.length_set]; omega))) ?_
    refine hl_v rfl rfl rfl (rv_loadEl (u := (rs.getD i rt0).nv) rfl (by kernel_rfl) rfl (rd_old hr.row) ((flat_at Rt.cells 2 (fun _ => rfl) rs rt0 (show i < _ by first | omega | (simp only [List.length_set]; omega)) (by decide)).trans rfl)) ?_
    refine hl_v rfl rfl rfl (rv_len rfl Try.underlying26 rfl (fun w hm => (hr.nat (k := i) (by omega)).below hm.bel)) ?_
    refine hl_v rfl rfl rfl (rv_ev rfl) ?_
    refine hl_less (sx 0 rfl (sx 1 rfl (sx 2 rfl (sx 3 rfl (sx 4 rfl (sx 8 rfl (sx 9 rfl (sx 10 rfl (sx 11 rfl (sx 12 rfl (sx 26 rfl (sx 28 rfl (sx 29 rfl (sx 30 rfl (sx 31 rfl (sx 54 rfl (sx 59 rfl (sx 60 rfl (sx 61 rfl (sub_nil _)))))))))))))))))))) (.refl _) ?_
    refine hl_nil ?_
    refine hq_then ?_
    refine hc_block ?_
    refine hc_loop2 (α := Nat) (β := List Int) (fun j tn => [rowE 3 1 v9 ((snkL d pl (cs.getD i cn0).ps (cs.getD i cn0).ps.length).length) ((snkL d pl (cs.getD i cn0).ps (cs.getD i cn0).ps.length).map (Value.int .i64)), boxE b8 #[.int .i64 ((cs.getD i cn0).nd), .int .i64 ((cs.getD i cn0).sb), .int .i64 ((cs.getD i cn0).sp), (cs.getD i cn0).sv] 44, setE mhR5 tn, boxE b1 #[.int .i64 d.W, .int .i64 d.H, .int .i64 d.T, .int .i64 d.R] 25]) (fun j tn => [(0, .agg #[.int .i64 d.W, .int .i64 d.H, .int .i64 d.T, .int .i64 d.R]), (1, pv), (2, cv), (3, rv), (4, .pointer (some ⟨b1, 0, none⟩)), (8, .bool false), (9, .map (some mhR5)), (10, .int .i64 (i : Int)), (11, .pointer (some ⟨b8, 0, none⟩)), (12, v9), (26, .bool false), (28, cv), (29, .int .i64 (cs.length : Int)), (30, .int .i64 (i : Int)), (31, .bool true), (54, .bool false), (59, (rs.getD i rt0).nv), (60, .int .i64 (((rs.getD i rt0).ns).length : Int)), (61, .int .i64 (j : Int))]) (fun j tn => j ≤ (rs.getD i rt0).ns.length ∧ ((i = 0 ∧ tn = ((rs.getD i rt0).ns.take j).reverse) ∨ (i = 1 ∧ j = 0 ∧ tn = (rs.getD i rt0).ns.reverse))) (fun j tn => (rs.getD i rt0).ns.length - j) 0 sn ⟨by omega, hi.imp (fun h => ⟨h.1, h.2⟩) (fun h => ⟨h.1, rfl, by rw [hri]; exact h.2.1⟩)⟩ (sx 0 rfl (sx 1 rfl (sx 2 rfl (sx 3 rfl (sx 4 rfl (sx 8 rfl (sx 9 rfl (sx 10 rfl (sx 11 rfl (sx 12 rfl (sx 26 rfl (sx 28 rfl (sx 29 rfl (sx 30 rfl (sx 31 rfl (sx 54 rfl (sx 59 rfl (sx 60 rfl (sx 61 rfl (sub_nil _)))))))))))))))))))) ((.cons_cons _ (.cons_cons _ (.cons_cons _ (.cons_cons _ .slnil))))) ?_
    intro j tn hi13
    obtain ⟨hj, hj2⟩ := hi13
    refine hc_seq ?_
    refine hc_region ?_
    refine hl_lss rfl rfl rfl rfl rfl rfl (fun h14 => ?_) (fun h14 => ?_)
    ·
     refine hl_less (sx 0 rfl (sx 1 rfl (sx 2 rfl (sx 3 rfl (sx 4 rfl (sx 8 rfl (sx 9 rfl (sx 10 rfl (sx 11 rfl (sx 12 rfl (sx 26 rfl (sx 28 rfl (sx 29 rfl (sx 30 rfl (sx 31 rfl (sx 54 rfl (sx 59 rfl (sx 60 rfl (sx 61 rfl (sx 62 rfl (sub_nil _))))))))))))))))))))) (.refl _) ?_
     refine hl_nil ?_
     refine hq_then ?_
     refine hc_seq ?_
     refine hc_true rfl ?_
     refine hc_skip ?_
     refine hq_then ?_
     refine hc_seq ?_
     refine hc_block ?_
     refine hc_seq ?_
     refine hc_region ?_
     refine hl_v rfl rfl rfl (rv_index (s := 1) rfl Try.underlying26 (by kernel_rfl) rfl rfl (fun w hm => (hr.nat (k := i) (by omega)).below hm.bel) (by omega) (by first | omega | (simp only [List.length_set]; omega))) ?_
     refine hl_v rfl rfl rfl (rv_loadEl (u := .int .i64 (((rs.getD i rt0).ns).getD j 0)) rfl (by kernel_rfl) rfl (fun w hm => (hr.nat (k := i) (by omega)).below hm.bel) (ints_at1 (show _ < ((rs.getD i rt0).ns).length by first | omega | (simp only [List.length_set]; omega)))) ?_
     refine hl_v rfl rfl rfl (rv_ev rfl) ?_
     refine hl_less (sx 0 rfl (sx 1 rfl (sx 2 rfl (sx 3 rfl (sx 4 rfl (sx 8 rfl (sx 9 rfl (sx 10 rfl (sx 11 rfl (sx 12 rfl (sx 14 rfl (sx 26 rfl (sx 28 rfl (sx 29 rfl (sx 30 rfl (sx 31 rfl (sx 54 rfl (sx 59 rfl (sx 60 rfl (sx 61 rfl (sx 62 rfl (sub_nil _)))))))))))))))))))))) (.refl _) ?_
     refine hl_nil ?_
     refine hq_then ?_
     refine hc_seq ?_
     refine hc_seq ?_
     refine hc_region ?_
     have hxr := hnsI.rng ((rs.getD i rt0).ns.getD j 0) (getD_inX (by omega))
     have hsno : i = 0 → List.contains tn ((rs.getD i rt0).ns.getD j 0) = false := fun h0 => by
       rcases hj2 with ⟨a1, a2⟩ | ⟨a1, a2, a3⟩
       · rw [a2]; exact seen_no hnsI (by omega)
       · omega
     have hsin : i = 1 → List.contains tn ((rs.getD i rt0).ns.getD j 0) = true := fun h0 => by
       rcases hj2 with ⟨a1, a2⟩ | ⟨a1, a2, a3⟩
       · omega
       · rw [a3, List.contains_iff_mem, List.mem_reverse]; exact getD_inX (by omega)
     have htl : tn.length ≤ 10 := by
       rcases hj2 with ⟨a1, a2⟩ | ⟨a1, a2, a3⟩
       · rw [a2, List.length_reverse, List.length_take]; omega
       · rw [a3, List.length_reverse]; omega
     refine hl_v rfl rfl rfl (rv_ev rfl) ?_
     refine hl_v rfl rfl rfl (rv_ev rfl) ?_
     refine hl_v rfl rfl rfl (rv_inSet (i := 2) (S := tn) (k := ((rs.getD i rt0).ns).getD j 0) rfl Try.underlying66 rfl rfl (wf_small (by omega)) rfl) ?_
     refine hl_bool (fun h15 => ?_) (fun h15 => ?_)
     ·
      have hyin := h15
      refine hl_less (sx 0 rfl (sx 1 rfl (sx 2 rfl (sx 3 rfl (sx 4 rfl (sx 8 rfl (sx 9 rfl (sx 10 rfl (sx 11 rfl (sx 12 rfl (sx 14 rfl (sx 26 rfl (sx 28 rfl (sx 29 rfl (sx 30 rfl (sx 31 rfl (sx 54 rfl (sx 59 rfl (sx 60 rfl (sx 61 rfl (sx 62 rfl (sx 67 rfl (sub_nil _))))))))))))))))))))))) (.refl _) ?_
      refine hl_nil ?_
      refine hq_then ?_
      refine hc_true rfl ?_
      refine hc_seq ?_
      refine hc_region ?_
      refine hl_v rfl rfl rfl (rv_ev rfl) ?_
      refine hl_less (sx 0 rfl (sx 1 rfl (sx 2 rfl (sx 3 rfl (sx 4 rfl (sx 8 rfl (sx 9 rfl (sx 10 rfl (sx 11 rfl (sx 12 rfl (sx 14 rfl (sx 26 rfl (sx 28 rfl (sx 29 rfl (sx 30 rfl (sx 31 rfl (sx 54 rfl (sx 59 rfl (sx 60 rfl (sx 61 rfl (sx 62 rfl (sx 67 rfl (sub_nil _))))))))))))))))))))))) (.refl _) ?_
      refine hl_nil ?_
      refine hq_then ?_
      refine hc_ret ?_
      refine hq_then_ret ?_
      refine hq_block_ret ?_
      refine hq_then_ret ?_
      refine hq_then_ret ?_
      refine hq_block_ret ?_
      refine hq_block_ret ?_
      refine hq_then_ret ?_
      refine hq_then_ret ?_
      refine hq_block_ret ?_
      refine hq_then_ret ?_
      have h2 : ¬ cs.length ≤ 1 := by
        rcases hj2 with ⟨a1, a2⟩ | ⟨a1, a2, a3⟩
        · exfalso; have h8 := hsno a1; rw [hyin] at h8; exact absurd h8 (by decide)
        · omega
      exact hq_ans rfl rfl (congrArg _ (by unfold okRs; rw [decide_eq_false h2, Bool.and_false]))
     ·
      have hnin := h15
      refine hl_less (sx 0 rfl (sx 1 rfl (sx 2 rfl (sx 3 rfl (sx 4 rfl (sx 8 rfl (sx 9 rfl (sx 10 rfl (sx 11 rfl (sx 12 rfl (sx 14 rfl (sx 26 rfl (sx 28 rfl (sx 29 rfl (sx 30 rfl (sx 31 rfl (sx 54 rfl (sx 59 rfl (sx 60 rfl (sx 61 rfl (sx 62 rfl (sx 67 rfl (sub_nil _))))))))))))))))))))))) (.refl _) ?_
      refine hl_nil ?_
      refine hq_then ?_
      refine hc_false rfl ?_
      refine hc_skip ?_
      refine hq_then ?_
      refine hc_region ?_
      refine hl_v rfl rfl rfl (rv_ev rfl) ?_
      refine hl_v rfl rfl rfl (rv_ev rfl) ?_
      refine hl_intoSet (i := 2) (k := ((rs.getD i rt0).ns).getD j 0) (l' := [rowE 3 1 v9 ((snkL d pl (cs.getD i cn0).ps (cs.getD i cn0).ps.length).length) ((snkL d pl (cs.getD i cn0).ps (cs.getD i cn0).ps.length).map (Value.int .i64)), boxE b8 #[.int .i64 ((cs.getD i cn0).nd), .int .i64 ((cs.getD i cn0).sb), .int .i64 ((cs.getD i cn0).sp), (cs.getD i cn0).sv] 44, setE mhR5 ((((rs.getD i rt0).ns).getD j 0) :: tn), boxE b1 #[.int .i64 d.W, .int .i64 d.H, .int .i64 d.T, .int .i64 d.R] 25]) rfl rfl rfl Try.underlying66 rfl rfl rfl (wf_small (by omega)) rfl (by first | omega | (simp; omega)) rfl ?_
      refine hl_less (sx 0 rfl (sx 1 rfl (sx 2 rfl (sx 3 rfl (sx 4 rfl (sx 8 rfl (sx 9 rfl (sx 10 rfl (sx 11 rfl (sx 12 rfl (sx 14 rfl (sx 26 rfl (sx 28 rfl (sx 29 rfl (sx 30 rfl (sx 31 rfl (sx 54 rfl (sx 59 rfl (sx 60 rfl (sx 61 rfl (sx 62 rfl (sx 67 rfl (sub_nil _))))))))))))))))))))))) (.refl _) ?_
      refine hl_nil ?_
      refine hq_block_normal ?_
      refine hq_then ?_
      refine hc_region ?_
      refine hl_v rfl rfl rfl (rv_add rfl rfl rfl (by constructor <;> omega)) ?_
      refine hl_v rfl rfl rfl (rv_ev rfl) ?_
      refine hl_less (sx 0 rfl (sx 1 rfl (sx 2 rfl (sx 3 rfl (sx 4 rfl (sx 8 rfl (sx 9 rfl (sx 10 rfl (sx 11 rfl (sx 12 rfl (sx 14 rfl (sx 26 rfl (sx 28 rfl (sx 29 rfl (sx 30 rfl (sx 31 rfl (sx 54 rfl (sx 59 rfl (sx 60 rfl (sx 61 rfl (sx 62 rfl (sx 67 rfl (sub_nil _))))))))))))))))))))))) (.refl _) ?_
      refine hl_nil ?_
      exact hq_round2 (j + 1) ((((rs.getD i rt0).ns).getD j 0) :: tn) ⟨by omega, by
         rcases hj2 with ⟨a1, a2⟩ | ⟨a1, a2, a3⟩
         · exact .inl ⟨a1, by rw [a2]; exact seen_rev _ (by omega)⟩
         · exfalso; have h8 := hsin a1; rw [hnin] at h8; exact absurd h8 (by decide)⟩ (by omega) (sx 0 rfl (sx 1 rfl (sx 2 rfl (sx 3 rfl (sx 4 rfl (sx 8 rfl (sx 9 rfl (sx 10 rfl (sx 11 rfl (sx 12 rfl (sx 26 rfl (sx 28 rfl (sx 29 rfl (sx 30 rfl (sx 31 rfl (sx 54 rfl (sx 59 rfl (sx 60 rfl (sx 61 rfl (sub_nil _)))))))))))))))))))) ((.cons_cons _ (.cons_cons _ (.cons_cons _ (.cons_cons _ .slnil)))))
    ·
     refine hl_less (sx 0 rfl (sx 1 rfl (sx 2 rfl (sx 3 rfl (sx 4 rfl (sx 8 rfl (sx 9 rfl (sx 10 rfl (sx 11 rfl (sx 12 rfl (sx 26 rfl (sx 28 rfl (sx 29 rfl (sx 30 rfl (sx 31 rfl (sx 54 rfl (sx 59 rfl (sx 60 rfl (sx 61 rfl (sx 62 rfl (sub_nil _))))))))))))))))))))) (.refl _) ?_
     refine hl_nil ?_
     refine hq_then ?_
     refine hc_seq ?_
     refine hc_false rfl ?_
     refine hc_exit ?_
     refine hq_then_exit ?_
     refine hq_then_exit ?_
     refine hq_block_exit ?_
     refine hq_block_normal ?_
     refine hq_then ?_
     refine hc_region ?_
     refine hl_v rfl rfl rfl (rv_add rfl rfl rfl (by constructor <;> omega)) ?_
     refine hl_v rfl rfl rfl (rv_ev rfl) ?_
     refine hl_less (sx 0 rfl (sx 1 rfl (sx 2 rfl (sx 3 rfl (sx 4 rfl (sx 8 rfl (sx 9 rfl (sx 10 rfl (sx 11 rfl (sx 12 rfl (sx 26 rfl (sx 28 rfl (sx 29 rfl (sx 30 rfl (sx 31 rfl (sx 54 rfl (sx 59 rfl (sx 60 rfl (sx 61 rfl (sx 62 rfl (sub_nil _))))))))))))))))))))) (.refl _) ?_
     refine hl_nil ?_
     have hfin : i = 0 ∧ tn = (rs.getD i rt0).ns.reverse := by
       rcases hj2 with ⟨a1, a2⟩ | ⟨a1, a2, a3⟩
       · exact ⟨a1, by rw [a2, List.take_of_length_le (by omega)]⟩
       · omega
     have hok9 : okR d (rs.getD i rt0).ns (snkL d pl (cs.getD i cn0).ps (cs.getD i cn0).ps.length) = true := by assumption
     have hokr : okR d r.ns (snkL d pl c.ps c.ps.length) = true := by rw [hci, hri] at hok9; exact hok9
     exact hq_round2 (i + 1) tn (.inr ⟨by omega, by rw [hfin.2, hri], hokr⟩) (by omega) (sx 0 rfl (sx 1 rfl (sx 2 rfl (sx 3 rfl (sx 4 rfl (sx 8 rfl (sx 9 rfl (sx 26 rfl (sx 28 rfl (sx 29 rfl (sx 30 rfl (sub_nil _)))))))))))) ((.cons _ (.cons _ (.cons_cons _ (.cons_cons _ .slnil)))))
  ·
   refine hc_draw (by kernel_rfl) 16 [0, 1, 2, 3, 4, 5, 6, 7, 8, 9, 10, 11, 12, 13, 14, 15] (List.take 16 _) (List.drop 16 _) [[], [0], [1], [2], [2], [2], [2], [2, 4, 5, 6], [2], [2], [2], [2, 9, 10], [2, 11], [2, 3, 7, 8, 12], [2, 13], [2, 14]] [39, 40, 41, 42, 43, 44, 45, 46, 47, 48, 49, 50, 51, 52, 53, 54] (fun i_ vs_ v_ p_ => match i_ with | 0 => v_ = v9 ∧ p_ = [] | 1 => v_ = .bool false ∧ p_ = [] | 2 => v_ = .bool false ∧ p_ = [] | 3 => v_ = .agg #[.int .i64 d.W, .int .i64 d.H, .int .i64 d.T, .int .i64 d.R] ∧ p_ = [] | 4 => v_ = .agg #[.int .i64 d.W, .int .i64 d.H, .int .i64 d.T, .int .i64 d.R] ∧ p_ = [] | 5 => v_ = pv ∧ p_ = [] | 6 => v_ = .agg #[.int .i64 ((cs.getD i cn0).nd), .int .i64 ((cs.getD i cn0).sb), .int .i64 ((cs.getD i cn0).sp), (cs.getD i cn0).sv] ∧ p_ = [] | 7 => v_ = .int .i64 (outPinI d (pl.getD (cs.getD i cn0).sb.toNat 0) (cs.getD i cn0).sp) ∧ p_ = [] | 8 => v_ = v9 ∧ p_ = [] | 9 => v_ = rv ∧ p_ = [] | 10 => v_ = .int .i64 (i : Int) ∧ p_ = [] | 11 => v_ = elP rv (((i : Int)).toNat * 2) ∧ p_ = [] | 12 => v_ = .agg #[(rs.getD i rt0).nv, (rs.getD i rt0).fv] ∧ p_ = [] | 13 => v_ = .bool false ∧ p_ = [] | 14 => v_ = .bool true ∧ p_ = [] | 15 => v_ = .bool true ∧ p_ = [] | _ => True) (List.take_append_drop 16 _).symm (by kernel_rfl) (by kernel_rfl) rfl rfl ?_ ?_
   ·
    refine ⟨?_, ?_, ?_, ?_, ?_, ?_, ?_, ?_, ?_, ?_, ?_, ?_, ?_, ?_, ?_, ?_, trivial⟩
    ·
     intro vf pf hR
     refine Or.inl ⟨rfl, ?_⟩
     refine rq_less (sx 12 rfl (sub_nil _)) (List.sublist_append_right _ _) ?_
     exact rq_v (rv_ev rfl)
    ·
     intro vf pf hR
     have e0 : (vf 0) = v9 ∧ (pf 0) = [] := hR 0 (by decide)
     refine Or.inl ⟨rfl, ?_⟩
     refine rq_less (sx 39 (congrArg some e0.1) (sub_nil _)) (List.sublist_append_right _ _) ?_
     exact rq_v (rv_eqlNil rfl Try.underlying26 rfl rfl (rd_row 0 rfl) (by omega))
    ·
     intro vf pf hR
     have e1 : (vf 1) = .bool false ∧ (pf 1) = [] := hR 1 (by decide)
     refine Or.inl ⟨rfl, ?_⟩
     refine rq_less (sx 40 (congrArg some e1.1) (sub_nil _)) (List.sublist_append_right _ _) ?_
     exact rq_v (rv_ev rfl)
    ·
     intro vf pf hR
     have e2 : (vf 2) = .bool false ∧ (pf 2) = [] := hR 2 (by decide)
     refine Or.inl ⟨want_of (congrArg some e2.1) rfl, ?_⟩
     refine rq_less (sx 4 rfl (sub_nil _)) (List.sublist_append_right _ _) ?_
     exact rq_v (rv_loadN (cs := [.int .i64 d.W, .int .i64 d.H, .int .i64 d.T, .int .i64 d.R]) rfl (by kernel_rfl) (by kernel_rfl) rfl rfl (box_part 3 rfl 0 rfl))
    ·
     intro vf pf hR
     have e2 : (vf 2) = .bool false ∧ (pf 2) = [] := hR 2 (by decide)
     refine Or.inl ⟨want_of (congrArg some e2.1) rfl, ?_⟩
     refine rq_less (sx 4 rfl (sub_nil _)) (List.sublist_append_right _ _) ?_
     exact rq_v (rv_loadN (cs := [.int .i64 d.W, .int .i64 d.H, .int .i64 d.T, .int .i64 d.R]) rfl (by kernel_rfl) (by kernel_rfl) rfl rfl (box_part 3 rfl 0 rfl))
    ·
     intro vf pf hR
     have e2 : (vf 2) = .bool false ∧ (pf 2) = [] := hR 2 (by decide)
     refine Or.inl ⟨want_of (congrArg some e2.1) rfl, ?_⟩
     refine rq_less (sx 1 rfl (sub_nil _)) (List.sublist_append_right _ _) ?_
     exact rq_v (rv_ev rfl)
    ·
     intro vf pf hR
     have e2 : (vf 2) = .bool false ∧ (pf 2) = [] := hR 2 (by decide)
     refine Or.inl ⟨want_of (congrArg some e2.1) rfl, ?_⟩
     refine rq_less (sx 11 rfl (sub_nil _)) (List.sublist_append_right _ _) ?_
     exact rq_v (rv_loadN (cs := [.int .i64 ((cs.getD i cn0).nd), .int .i64 ((cs.getD i cn0).sb), .int .i64 ((cs.getD i cn0).sp), (cs.getD i cn0).sv]) rfl (by kernel_rfl) (by kernel_rfl) rfl rfl (box_part 1 rfl 0 rfl))
    ·
     intro vf pf hR
     have e2 : (vf 2) = .bool false ∧ (pf 2) = [] := hR 2 (by decide)
     have e4 : (vf 4) = .agg #[.int .i64 d.W, .int .i64 d.H, .int .i64 d.T, .int .i64 d.R] ∧ (pf 4) = [] := hR 4 (by decide)
     have e5 : (vf 5) = pv ∧ (pf 5) = [] := hR 5 (by decide)
     have e6 : (vf 6) = .agg #[.int .i64 ((cs.getD i cn0).nd), .int .i64 ((cs.getD i cn0).sb), .int .i64 ((cs.getD i cn0).sp), (cs.getD i cn0).sv] ∧ (pf 6) = [] := hR 6 (by decide)
     refine Or.inl ⟨want_of (congrArg some e2.1) rfl, ?_⟩
     refine rq_less (sx 43 (congrArg some e4.1) (sx 44 (congrArg some e5.1) (sx 45 (congrArg some e6.1) (sub_nil _)))) (List.sublist_append_right _ _) ?_
     exact (rq_call (by kernel_rfl) rfl (fun w hm => ret_ans (SourceNode_ans d pl _ (cs.getD i cn0) w (hpl.below hm.bel) hpn hcI.src (hc.at (k := i) (by omega)).one)))
    ·
     intro vf pf hR
     have e2 : (vf 2) = .bool false ∧ (pf 2) = [] := hR 2 (by decide)
     refine Or.inl ⟨want_of (congrArg some e2.1) rfl, ?_⟩
     refine rq_less (sx 12 rfl (sub_nil _)) (List.sublist_append_right _ _) ?_
     exact rq_v (rv_ev rfl)
    ·
     intro vf pf hR
     have e2 : (vf 2) = .bool false ∧ (pf 2) = [] := hR 2 (by decide)
     refine Or.inl ⟨want_of (congrArg some e2.1) rfl, ?_⟩
     refine rq_less (sx 3 rfl (sub_nil _)) (List.sublist_append_right _ _) ?_
     exact rq_v (rv_ev rfl)
    ·
     intro vf pf hR
     have e2 : (vf 2) = .bool false ∧ (pf 2) = [] := hR 2 (by decide)
     refine Or.inl ⟨want_of (congrArg some e2.1) rfl, ?_⟩
     refine rq_less (sx 10 rfl (sub_nil _)) (List.sublist_append_right _ _) ?_
     exact rq_v (rv_ev rfl)
    ·
     intro vf pf hR
     have e2 : (vf 2) = .bool false ∧ (pf 2) = [] := hR 2 (by decide)
     have e9 : (vf 9) = rv ∧ (pf 9) = [] := hR 9 (by decide)
     have e10 : (vf 10) = .int .i64 (i : Int) ∧ (pf 10) = [] := hR 10 (by decide)
     refine Or.inl ⟨want_of (congrArg some e2.1) rfl, ?_⟩
     refine rq_less (sx 48 (congrArg some e9.1) (sx 49 (congrArg some e10.1) (sub_nil _))) (List.sublist_append_right _ _) ?_
     exact rq_v (rv_index (s := 2) rfl Try.underlying47 (by kernel_rfl) rfl rfl (rd_old hr.row) (by omega) (by first | omega | (simp only [List.length_set]; omega)))
    ·
     intro vf pf hR
     have e2 : (vf 2) = .bool false ∧ (pf 2) = [] := hR 2 (by decide)
     have e11 : (vf 11) = elP rv (((i : Int)).toNat * 2) ∧ (pf 11) = [] := hR 11 (by decide)
     refine Or.inl ⟨want_of (congrArg some e2.1) rfl, ?_⟩
     refine rq_less (sx 50 (congrArg some e11.1) (sub_nil _)) (List.sublist_append_right _ _) ?_
     exact rq_v (rv_loadElN (us := [(rs.getD i rt0).nv, (rs.getD i rt0).fv]) rfl (by kernel_rfl) (by kernel_rfl) rfl (rd_old hr.row) (by omega) rfl (flat_atN Rt.cells 2 (fun _ => rfl) rs rt0 (show i < _ by first | omega | (simp only [List.length_set]; omega)) rfl))
    ·
     intro vf pf hR
     have e2 : (vf 2) = .bool false ∧ (pf 2) = [] := hR 2 (by decide)
     have e3 : (vf 3) = .agg #[.int .i64 d.W, .int .i64 d.H, .int .i64 d.T, .int .i64 d.R] ∧ (pf 3) = [] := hR 3 (by decide)
     have e7 : (vf 7) = .int .i64 (outPinI d (pl.getD (cs.getD i cn0).sb.toNat 0) (cs.getD i cn0).sp) ∧ (pf 7) = [] := hR 7 (by decide)
     have e8 : (vf 8) = v9 ∧ (pf 8) = [] := hR 8 (by decide)
     have e12 : (vf 12) = .agg #[(rs.getD i rt0).nv, (rs.getD i rt0).fv] ∧ (pf 12) = [] := hR 12 (by decide)
     refine Or.inl ⟨want_of (congrArg some e2.1) rfl, ?_⟩
     refine rq_less (sx 42 (congrArg some e3.1) (sx 46 (congrArg some e7.1) (sx 47 (congrArg some e8.1) (sx 51 (congrArg some e12.1) (sub_nil _))))) (List.sublist_append_right _ _) ?_
     exact rq_mono (rq_call (by kernel_rfl) rfl (fun w hm => ret_ans (RouteOk_ans d _ (rs.getD i rt0) ks (snkL d pl (cs.getD i cn0).ps (cs.getD i cn0).ps.length) _ w hd hrtI ((hr.nat (k := i) (by omega)).below hm.bel) ((hr.fat (k := i) (by omega)).below hm.bel) ((rd_row 0 rfl) w hm) (by omega) (rng_of (snk_small hd _ _ _))))) (fun _ _ h => ⟨h.1.trans (congrArg Value.bool hb12), h.2⟩)
    ·
     intro vf pf hR
     have e2 : (vf 2) = .bool false ∧ (pf 2) = [] := hR 2 (by decide)
     have e13 : (vf 13) = .bool false ∧ (pf 13) = [] := hR 13 (by decide)
     refine Or.inl ⟨want_of (congrArg some e2.1) rfl, ?_⟩
     refine rq_less (sx 52 (congrArg some e13.1) (sub_nil _)) (List.sublist_append_right _ _) ?_
     exact rq_v (rv_ev rfl)
    ·
     intro vf pf hR
     have e2 : (vf 2) = .bool false ∧ (pf 2) = [] := hR 2 (by decide)
     have e14 : (vf 14) = .bool true ∧ (pf 14) = [] := hR 14 (by decide)
     refine Or.inl ⟨rfl, ?_⟩
     refine rq_less (sx 41 (congrArg some e2.1) (sx 53 (congrArg some e14.1) (sub_nil _))) (List.sublist_append_right _ _) ?_
     exact rq_v (rv_ev rfl)
   ·
    intro vf pf hR
    have e15 : (vf 15) = .bool true ∧ (pf 15) = [] := hR 15 (by decide)
    refine hl_less (l' := [rowE 3 1 v9 ((snkL d pl (cs.getD i cn0).ps (cs.getD i cn0).ps.length).length) ((snkL d pl (cs.getD i cn0).ps (cs.getD i cn0).ps.length).map (Value.int .i64)), boxE b8 #[.int .i64 ((cs.getD i cn0).nd), .int .i64 ((cs.getD i cn0).sb), .int .i64 ((cs.getD i cn0).sp), (cs.getD i cn0).sv] 44, setE mhR5 sn, boxE b1 #[.int .i64 d.W, .int .i64 d.H, .int .i64 d.T, .int .i64 d.R] 25]) (sx 0 rfl (sx 1 rfl (sx 2 rfl (sx 3 rfl (sx 4 rfl (sx 8 rfl (sx 9 rfl (sx 10 rfl (sx 11 rfl (sx 12 rfl (sx 26 rfl (sx 28 rfl (sx 29 rfl (sx 30 rfl (sx 31 rfl (sx 54 (congrArg some e15.1) (sub_nil _))))))))))))))))) (List.sublist_append_right _ _) ?_
    simp only [List.drop_succ_cons, List.drop_zero]
    refine hl_less (sx 0 rfl (sx 1 rfl (sx 2 rfl (sx 3 rfl (sx 4 rfl (sx 8 rfl (sx 9 rfl (sx 10 rfl (sx 11 rfl (sx 12 rfl (sx 26 rfl (sx 28 rfl (sx 29 rfl (sx 30 rfl (sx 31 rfl (sx 54 rfl (sub_nil _))))))))))))))))) (.refl _) ?_
    refine hl_nil ?_
    refine hq_then ?_
    refine hc_true rfl ?_
    refine hc_seq ?_
    refine hc_region ?_
    refine hl_v rfl rfl rfl (rv_ev rfl) ?_
    refine hl_less (sx 0 rfl (sx 1 rfl (sx 2 rfl (sx 3 rfl (sx 4 rfl (sx 8 rfl (sx 9 rfl (sx 10 rfl (sx 11 rfl (sx 12 rfl (sx 26 rfl (sx 28 rfl (sx 29 rfl (sx 30 rfl (sx 31 rfl (sx 54 rfl (sub_nil _))))))))))))))))) (.refl _) ?_
    refine hl_nil ?_
    refine hq_then ?_
    refine hc_ret ?_
    refine hq_then_ret ?_
    refine hq_block_ret ?_
    refine hq_then_ret ?_
    refine hq_then_ret ?_
    refine hq_block_ret ?_
    refine hq_then_ret ?_
    have h9 : okR d (rs.getD i rt0).ns (snkL d pl (cs.getD i cn0).ps (cs.getD i cn0).ps.length) = false := by assumption
    rw [hci, hri] at h9
    exact hq_ans rfl rfl (congrArg _ (by unfold okRs; rw [h9]; rfl))
 ·
  refine hl_less (sx 0 rfl (sx 1 rfl (sx 2 rfl (sx 3 rfl (sx 4 rfl (sx 8 rfl (sx 9 rfl (sx 26 rfl (sx 28 rfl (sx 29 rfl (sx 30 rfl (sx 31 rfl (sub_nil _))))))))))))) (.refl _) ?_
  refine hl_nil ?_
  refine hq_then ?_
  refine hc_seq ?_
  refine hc_false rfl ?_
  refine hc_exit ?_
  refine hq_then_exit ?_
  refine hq_then_exit ?_
  refine hq_block_exit ?_
  refine hq_then ?_
  refine hc_seq ?_
  refine hc_region ?_
  refine hl_v rfl rfl rfl (rv_ev rfl) ?_
  refine hl_less (sx 0 rfl (sx 1 rfl (sx 2 rfl (sx 3 rfl (sx 4 rfl (sx 8 rfl (sx 9 rfl (sx 26 rfl (sx 28 rfl (sx 29 rfl (sx 30 rfl (sx 31 rfl (sub_nil _))))))))))))) (.refl _) ?_
  refine hl_nil ?_
  refine hq_then ?_
  refine hc_ret ?_
  have h1 : i = 1 ∧ cs.length = 1 ∧ okR d r.ns (snkL d pl c.ps c.ps.length) = true := by
    rcases hi with ⟨a, b⟩ | ⟨a, b, c⟩
    · omega
    · exact ⟨a, by omega, c⟩
  exact hq_ans rfl rfl (congrArg _ (by unfold okRs; rw [h1.2.2, h1.2.1]; rfl))
theorem cn_ok {x : Int} {v : Value} {cs : List Cn} (h : ∀ c ∈ cs, c = Cn.mk 1 0 0 v [Pn.mk 1 x]) (hx : 0 ≤ x ∧ x ≤ 4) : ∀ k, k < cs.length → CnOk 2 (cs.getD k cn0) := fun k hk => by
  rw [h _ (getD_mem' hk)]
  exact ⟨⟨by simp, by simp, by simp, by simp⟩, by simp, by simp, fun j hj => by
    have : j = 0 := by simpa using hj
    subst this
    exact ⟨by simp, by simp, hx.1, hx.2⟩⟩
theorem pn_src : PnOk 2 0 0 := ⟨by decide, by decide, by decide, by decide⟩
theorem pn_snk {x : Int} (hx : 0 ≤ x ∧ x ≤ 4) : ∀ k, k < [Pn.mk 1 x].length → PnOk 2 ([Pn.mk 1 x].getD k pn0).b ([Pn.mk 1 x].getD k pn0).p := fun k hk => by
  have : k = 0 := by simpa using hk
  subst this
  exact ⟨by simp, by simp, hx.1, hx.2⟩
theorem rdscn_of {w : World} {v : Value} {cs : List Cn} {c : Cn} (h1 : RdsW w v 4 cs.length (cs.flatMap cnC)) (h2 : RdsW w c.sv 2 c.ps.length (c.ps.flatMap pnC)) (h3 : ∀ x ∈ cs, x = c) : RdsCn w v cs := ⟨h1, fun x hx => by rw [h3 x hx]; exact h2⟩
theorem pn_in {d : Dev} {t u x : Int} (h : 0 ≤ inPinI d u x) : ∀ k, k < [Pn.mk 1 x].length → 0 ≤ inPinI d ([t, u].getD ([Pn.mk 1 x].getD k pn0).b.toNat 0) ([Pn.mk 1 x].getD k pn0).p := fun k hk => by
  have : k = 0 := by simpa using hk
  subst this
  exact h
theorem okR_nil {d : Dev} {s0 : Int} {ns fs ks : List Int} (h : RtOk d s0 ns fs ks) (h0 : ks.length = 0) : okR d ns [] = true := by
  have h9 : ks = [] := List.eq_nil_of_length_eq_zero h0
  have h8 := okR_ks h
  rw [h9] at h8; exact h8
theorem okRs_two {d : Dev} {ns qs : List Int} : okRs d ns qs 2 = false := by unfold okRs; simp
set_option maxHeartbeats 4000000 in
set_option maxRecDepth 100000 in
theorem walk_FnRoutesApart (a0 : Option Addr) (len0 cap0 : Nat) (z0 : List Int) (w : World) (hbr : BRow .u8 w a0 len0 cap0 z0) :
  Calls Try.prog 4 #[.slice a0 len0 cap0] w (Ans w (.bool true)) := by
 have hcd0 := cod_le hbr 0
 refine calls_hc (N := 113) (args := [.slice a0 len0 cap0]) Try.func4 rfl rfl ?_
 refine hc_less _ (sx 0 rfl (sub_nil _)) (.refl _) ?_
 refine hc_seq ?_
 refine hc_region ?_
 refine hl_v rfl rfl rfl (rv_ev rfl) ?_
 refine hl_less (sx 0 rfl (sx 2 rfl (sub_nil _))) (.refl _) ?_
 refine hl_nil ?_
 refine hq_then ?_
 refine hc_seq ?_
 refine hc_seq ?_
 refine hc_region ?_
 refine hl_v rfl rfl rfl (rv_ev rfl) ?_
 refine hl_callV rfl rfl rfl (rq_call (by kernel_rfl) rfl (fun w hm => ret_ans (ans_of (big_any a0 len0 cap0 w (hbr.len_le))))) ?_
 refine hl_bool (fun h1 => ?_) (fun h1 => ?_)
 ·
  have h1p := of_decide_eq_true h1
  refine hl_less (sx 0 rfl (sx 2 rfl (sx 13 rfl (sub_nil _)))) (.refl _) ?_
  refine hl_nil ?_
  refine hq_then ?_
  refine hc_true rfl ?_
  refine hc_seq ?_
  refine hc_region ?_
  refine hl_v rfl rfl rfl (rv_ev rfl) ?_
  refine hl_less (sx 0 rfl (sx 2 rfl (sx 13 rfl (sub_nil _)))) (.refl _) ?_
  refine hl_nil ?_
  refine hq_then ?_
  refine hc_ret ?_
  refine hq_then_ret ?_
  exact hq_ans rfl rfl rfl
 ·
  have h1p := of_decide_eq_false h1
  refine hl_less (sx 0 rfl (sx 2 rfl (sx 13 rfl (sub_nil _)))) (.refl _) ?_
  refine hl_nil ?_
  refine hq_then ?_
  refine hc_false rfl ?_
  refine hc_skip ?_
  refine hq_then ?_
  refine hc_seq ?_
  refine hc_region ?_
  refine hl_v rfl rfl rfl (rv_ev rfl) ?_
  refine hl_q rfl rfl rfl (rq_call (by kernel_rfl) rfl (fun w hm => DrawWalk_ret _ _ _ z0 w (hbr.below hm.bel) (by omega))) ?_
  intro v2 p3 hR4
  obtain ⟨d, s0, r, sv, ks, hdr, ⟨t, ⟨ht0, ht1⟩, hst⟩, rfl, rfl, ⟨o1r, o2r, o3r⟩, htr⟩ := hR4
  have hd := hdr.ok
  obtain ⟨dr1, dr2, dr3, dr4, dr5, dr6, -⟩ := id hdr
  have har : 0 ≤ (d.W - 1) * (d.H - 1) ∧ 0 ≤ (5 - d.W) * d.H := ⟨Int.mul_nonneg (by omega) (by omega), Int.mul_nonneg (by omega) (by omega)⟩
  have e1 : (d.W - 1) * (d.H - 1) = d.W * d.H - d.W - d.H + 1 := by rw [Int.sub_mul, Int.mul_sub]; omega
  have e2 : (5 - d.W) * d.H = 5 * d.H - d.W * d.H := by rw [Int.sub_mul]
  rw [e1, e2] at har
  obtain ⟨ra1, ra2⟩ := all_rng hd
  obtain ⟨q1, q2⟩ := per_rng hd
  obtain ⟨hs1, hs2, hs3, hs4, hs5⟩ := out0 hd ht0 ht1
  rw [← hst] at hs1 hs2 hs3 hs4 hs5
  have ht1 := htr.len
  have ht2 := htr.l0
  have ht3 := htr.l1
  have hns := htr.nsok (by omega)
  have hk7 : ks.length ≤ 7 := by rw [htr.sinks]; have := List.length_filter_le (fun x => decide (x % perI d < 5)) (r.ns.drop 1); rw [List.length_drop] at this; omega
  have hrt : RtOk d s0 r.ns r.fs ks := ⟨htr, by rw [hst]; exact node_out hd ht0 (by assumption), by omega⟩
  have hwa := wcnt_all hrt hd
  refine hl_v rfl rfl rfl (rv_ev rfl) ?_
  refine hl_v rfl rfl rfl (rv_ev rfl) ?_
  refine hl_v rfl rfl rfl (rv_ev rfl) ?_
  refine hl_v rfl rfl rfl (rv_ev rfl) ?_
  refine hl_v rfl rfl rfl (rv_ev rfl) ?_
  refine hl_box rfl rfl rfl (rq_alloc (z := .agg #[.int .i64 0, .int .i64 0, .int .i64 0, .int .i64 0]) rfl (by kernel_rfl)) ?_
  intro b5
  refine hl_box rfl rfl rfl (rq_alloc (z := .agg #[.slice none 0 0, .slice none 0 0]) rfl (by kernel_rfl)) ?_
  intro b6
  refine hl_storeBoxN (i := 1) (off := 0) (us := [.int .i64 d.W, .int .i64 d.H, .int .i64 d.T, .int .i64 d.R]) (l' := [boxE b6 #[.slice none 0 0, .slice none 0 0] 28, boxE b5 #[.int .i64 d.W, .int .i64 d.H, .int .i64 d.T, .int .i64 d.R] 25, rtE r, rowE 3 1 sv ks.length (ks.map (Value.int .i64))]) rfl rfl rfl (by kernel_rfl) rfl rfl rfl (all_cons rfl (all_cons rfl (all_cons rfl (all_cons rfl all_nil)))) rfl rfl rfl ?_
  refine hl_v rfl rfl rfl (rv_ev rfl) ?_
  refine hl_v rfl rfl rfl (rv_ev rfl) ?_
  refine hl_storeBoxN (i := 0) (off := 0) (us := [r.nv, r.fv]) (l' := [boxE b6 #[r.nv, r.fv] 28, boxE b5 #[.int .i64 d.W, .int .i64 d.H, .int .i64 d.T, .int .i64 d.R] 25, rtE r, rowE 3 1 sv ks.length (ks.map (Value.int .i64))]) rfl rfl rfl (by kernel_rfl) rfl rfl rfl (all_cons o1r (all_cons o2r all_nil)) rfl rfl rfl ?_
  refine hl_less (sx 0 rfl (sx 2 rfl (sx 3 rfl (sx 4 rfl (sx 5 rfl (sx 6 rfl (sx 13 rfl (sub_nil _)))))))) (.refl _) ?_
  refine hl_nil ?_
  refine hq_then ?_
  refine hc_seq ?_
  refine hc_seq ?_
  refine hc_region ?_
  refine hl_v rfl rfl rfl (rv_ev rfl) ?_
  refine hl_v rfl rfl rfl (rv_len rfl Try.underlying26 rfl (rd_row 3 rfl)) ?_
  refine hl_eql rfl rfl rfl rfl rfl rfl (fun h7 => ?_) (fun h7 => ?_)
  ·
   refine hl_less (sx 0 rfl (sx 2 rfl (sx 3 rfl (sx 4 rfl (sx 5 rfl (sx 6 rfl (sx 13 rfl (sx 23 rfl (sub_nil _))))))))) (.refl _) ?_
   refine hl_nil ?_
   refine hq_then ?_
   refine hc_true rfl ?_
   refine hc_seq ?_
   refine hc_region ?_
   refine hl_v rfl rfl rfl (rv_loadN (cs := [.int .i64 d.W, .int .i64 d.H, .int .i64 d.T, .int .i64 d.R]) rfl (by kernel_rfl) (by kernel_rfl) rfl rfl (box_part 1 rfl 0 rfl)) ?_
   refine hl_v rfl rfl rfl (rv_ev rfl) ?_
   refine hl_v rfl rfl rfl (rv_loadN (cs := [r.nv, r.fv]) rfl (by kernel_rfl) (by kernel_rfl) rfl rfl (box_part 0 rfl 0 rfl)) ?_
   refine hl_callV rfl rfl rfl (rq_call (by kernel_rfl) rfl (fun w hm => ret_ans (RouteOk_ans d s0 r ks [] _ w hd hrt (rt_rds 2 rfl w hm).1 (rt_rds 2 rfl w hm).2 (rd_nil w hm) (by simp) (by simp)))) ?_
   refine hl_bool (fun h8 => ?_) (fun h8 => absurd (((okR_nil hrt (by omega))).symm.trans h8) (by decide))
   refine hl_v rfl rfl rfl (rv_ev rfl) ?_
   refine hl_less (sx 0 rfl (sx 2 rfl (sx 3 rfl (sx 4 rfl (sx 5 rfl (sx 6 rfl (sx 13 rfl (sx 23 rfl (sub_nil _))))))))) (.refl _) ?_
   refine hl_nil ?_
   refine hq_then ?_
   refine hc_ret ?_
   refine hq_then_ret ?_
   exact hq_ans rfl rfl rfl
  ·
   refine hl_less (sx 0 rfl (sx 2 rfl (sx 3 rfl (sx 4 rfl (sx 5 rfl (sx 6 rfl (sx 13 rfl (sx 23 rfl (sub_nil _))))))))) (.refl _) ?_
   refine hl_nil ?_
   refine hq_then ?_
   refine hc_false rfl ?_
   refine hc_skip ?_
   refine hq_then ?_
   refine hc_seq ?_
   refine hc_region ?_
   have hk0 : 0 < ks.length := by omega
   obtain ⟨hki1, hki2⟩ := hrt.inpin.1 (getD_inX hk0)
   obtain ⟨kq, hkq, hkqe⟩ := mem_getD hki1
   have hknode : nodeOkI d (ks.getD 0 0) = true := by rw [← hkqe]; exact hrt.node hkq
   obtain ⟨hin0, hu0, hu1, hp0⟩ := inPin_node hknode hki2
   have hprI : perI d = 7 + 4 * d.T := rfl
   rw [hprI] at hin0 hu0 hu1 hp0 hki2
   have hsrc9 : outPinI d (s0 / (7 + 4 * d.T)) 0 = s0 := by rw [hst]; exact outPin_root hd ht0 (by assumption)
   have hrt9 : RtOk d (outPinI d (s0 / (7 + 4 * d.T)) 0) r.ns r.fs ks := by rw [hsrc9]; exact hrt
   have hin9 : 0 ≤ inPinI d ((ks.getD 0 0) / (7 + 4 * d.T)) ((ks.getD 0 0) % (7 + 4 * d.T)) := by rw [hin0]; exact (nodeOk_rng hknode).2.1
   have hone : okRs d r.ns [inPinI d ((ks.getD 0 0) / (7 + 4 * d.T)) ((ks.getD 0 0) % (7 + 4 * d.T))] 1 = decide (ks.length = 1) := by rw [hin0]; unfold okRs; rw [okR_first hrt hk0]; simp
   have hgt : getI [inPinI d ((ks.getD 0 0) / (7 + 4 * d.T)) ((ks.getD 0 0) % (7 + 4 * d.T))] 0 = ks.getD 0 0 := by unfold getI; rw [if_pos (by simp)]; exact hin0
   have hkrng := nodeOk_rng hknode
   have hx9 : 0 ≤ (ks.getD 0 0) % (7 + 4 * d.T) ∧ (ks.getD 0 0) % (7 + 4 * d.T) ≤ 4 := ⟨hp0, by omega⟩
   refine hl_v rfl rfl rfl (rv_ev rfl) ?_
   refine hl_v rfl rfl rfl (rv_field (k0 := 2) rfl (by kernel_rfl) rfl) ?_
   refine hl_v rfl rfl rfl (rv_load rfl (by kernel_rfl) rfl (box_cell 1 rfl rfl)) ?_
   refine hl_v rfl rfl rfl (rv_mul rfl rfl rfl (by constructor <;> omega)) ?_
   refine hl_v rfl rfl rfl (rv_add rfl rfl rfl (by constructor <;> omega)) ?_
   refine hl_v rfl rfl rfl (rv_quo rfl rfl rfl (by refine ⟨?_, ?_, ?_⟩ <;> omega)) ?_
   refine hl_v rfl rfl rfl (rv_ev rfl) ?_
   refine hl_less (sx 0 rfl (sx 2 rfl (sx 3 rfl (sx 4 rfl (sx 5 rfl (sx 6 rfl (sx 7 rfl (sx 13 rfl (sx 23 rfl (sub_nil _)))))))))) (.refl _) ?_
   refine hl_nil ?_
   refine hq_then ?_
   refine hc_seq ?_
   refine hc_draw (by kernel_rfl) 8 [0, 1, 2, 3, 4, 5, 6, 7] (List.take 8 _) (List.drop 8 _) [[], [0], [1], [], [3], [4], [5], [2, 6]] [34, 35, 36, 37, 38, 39, 40, 41] (fun i_ vs_ v_ p_ => match i_ with | 0 => v_ = sv ∧ p_ = [] | 1 => v_ = elP sv ((0 : Int).toNat * 1) ∧ p_ = [] | 2 => v_ = .int .i64 (ks.getD 0 0) ∧ p_ = [] | 3 => v_ = .pointer (some ⟨b5, 0 + 2, none⟩) ∧ p_ = [] | 4 => v_ = .int .i64 d.T ∧ p_ = [] | 5 => v_ = .int .i64 (4 * d.T) ∧ p_ = [] | 6 => v_ = .int .i64 (7 + (4 * d.T)) ∧ p_ = [] | 7 => v_ = .int .i64 ((ks.getD 0 0) / (7 + (4 * d.T))) ∧ p_ = [] | _ => True) (List.take_append_drop 8 _).symm (by kernel_rfl) (by kernel_rfl) rfl rfl ?_ ?_
   ·
    refine ⟨?_, ?_, ?_, ?_, ?_, ?_, ?_, ?_, trivial⟩
    ·
     intro vf pf hR
     refine Or.inl ⟨rfl, ?_⟩
     refine rq_less (sx 5 rfl (sub_nil _)) (List.sublist_append_right _ _) ?_
     exact rq_v (rv_ev rfl)
    ·
     intro vf pf hR
     have e0 : (vf 0) = sv ∧ (pf 0) = [] := hR 0 (by decide)
     refine Or.inl ⟨rfl, ?_⟩
     refine rq_less (sx 34 (congrArg some e0.1) (sub_nil _)) (List.sublist_append_right _ _) ?_
     exact rq_v (rv_index (s := 1) rfl Try.underlying26 (by kernel_rfl) rfl rfl (rd_row 3 rfl) (by omega) (by first | omega | (simp only [List.length_set]; omega)))
    ·
     intro vf pf hR
     have e1 : (vf 1) = elP sv ((0 : Int).toNat * 1) ∧ (pf 1) = [] := hR 1 (by decide)
     refine Or.inl ⟨rfl, ?_⟩
     refine rq_less (sx 35 (congrArg some e1.1) (sub_nil _)) (List.sublist_append_right _ _) ?_
     exact rq_v (rv_loadEl (u := .int .i64 (ks.getD 0 0)) rfl (by kernel_rfl) rfl (rd_row 3 rfl) (ints_at1 (show _ < ks.length by first | omega | (simp only [List.length_set]; omega))))
    ·
     intro vf pf hR
     refine Or.inl ⟨rfl, ?_⟩
     refine rq_less (sx 3 rfl (sub_nil _)) (List.sublist_append_right _ _) ?_
     exact rq_v (rv_field (k0 := 2) rfl (by kernel_rfl) rfl)
    ·
     intro vf pf hR
     have e3 : (vf 3) = .pointer (some ⟨b5, 0 + 2, none⟩) ∧ (pf 3) = [] := hR 3 (by decide)
     refine Or.inl ⟨rfl, ?_⟩
     refine rq_less (sx 37 (congrArg some e3.1) (sub_nil _)) (List.sublist_append_right _ _) ?_
     exact rq_v (rv_load rfl (by kernel_rfl) rfl (box_cell 1 rfl rfl))
    ·
     intro vf pf hR
     have e4 : (vf 4) = .int .i64 d.T ∧ (pf 4) = [] := hR 4 (by decide)
     refine Or.inl ⟨rfl, ?_⟩
     refine rq_less (sx 38 (congrArg some e4.1) (sub_nil _)) (List.sublist_append_right _ _) ?_
     exact rq_v (rv_mul rfl rfl rfl (by constructor <;> omega))
    ·
     intro vf pf hR
     have e5 : (vf 5) = .int .i64 (4 * d.T) ∧ (pf 5) = [] := hR 5 (by decide)
     refine Or.inl ⟨rfl, ?_⟩
     refine rq_less (sx 39 (congrArg some e5.1) (sub_nil _)) (List.sublist_append_right _ _) ?_
     exact rq_v (rv_add rfl rfl rfl (by constructor <;> omega))
    ·
     intro vf pf hR
     have e2 : (vf 2) = .int .i64 (ks.getD 0 0) ∧ (pf 2) = [] := hR 2 (by decide)
     have e6 : (vf 6) = .int .i64 (7 + (4 * d.T)) ∧ (pf 6) = [] := hR 6 (by decide)
     refine Or.inl ⟨rfl, ?_⟩
     refine rq_less (sx 36 (congrArg some e2.1) (sx 40 (congrArg some e6.1) (sub_nil _))) (List.sublist_append_right _ _) ?_
     exact rq_v (rv_quo rfl rfl rfl (by refine ⟨?_, ?_, ?_⟩ <;> omega))
   ·
    intro vf pf hR
    have e7 : (vf 7) = .int .i64 ((ks.getD 0 0) / (7 + (4 * d.T))) ∧ (pf 7) = [] := hR 7 (by decide)
    refine hl_less (l' := [boxE b6 #[r.nv, r.fv] 28, boxE b5 #[.int .i64 d.W, .int .i64 d.H, .int .i64 d.T, .int .i64 d.R] 25, rtE r, rowE 3 1 sv ks.length (ks.map (Value.int .i64))]) (sx 0 rfl (sx 2 rfl (sx 3 rfl (sx 4 rfl (sx 5 rfl (sx 6 rfl (sx 7 rfl (sx 13 rfl (sx 23 rfl (sx 41 (congrArg some e7.1) (sub_nil _))))))))))) (List.sublist_append_right _ _) ?_
    simp only [List.drop_succ_cons, List.drop_zero]
    refine hl_v rfl rfl rfl (rv_ev rfl) ?_
    refine hl_less (sx 0 rfl (sx 2 rfl (sx 3 rfl (sx 4 rfl (sx 5 rfl (sx 6 rfl (sx 7 rfl (sx 8 rfl (sx 13 rfl (sx 23 rfl (sub_nil _))))))))))) (.refl _) ?_
    refine hl_nil ?_
    refine hq_then ?_
    refine hc_seq ?_
    refine hc_draw (by kernel_rfl) 13 [0, 1, 2, 3, 4, 5, 6, 7, 8, 9, 10, 11, 12] (List.take 13 _) (List.drop 13 _) [[], [], [1], [2], [], [4], [5], [6], [3, 7], [8], [9], [0, 10], []] [42, 43, 44, 45, 46, 47, 48, 49, 50, 51, 52, 53, 9] (fun i_ vs_ v_ p_ => match i_ with | 0 => v_ = .agg #[.int .i64 0, .int .i64 0] ∧ p_ = [] | 1 => v_ = sv ∧ p_ = [] | 2 => v_ = elP sv ((0 : Int).toNat * 1) ∧ p_ = [] | 3 => v_ = .int .i64 (ks.getD 0 0) ∧ p_ = [] | 4 => v_ = .pointer (some ⟨b5, 0 + 2, none⟩) ∧ p_ = [] | 5 => v_ = .int .i64 d.T ∧ p_ = [] | 6 => v_ = .int .i64 (4 * d.T) ∧ p_ = [] | 7 => v_ = .int .i64 (7 + (4 * d.T)) ∧ p_ = [] | 8 => v_ = .int .i64 ((ks.getD 0 0) % (7 + (4 * d.T))) ∧ p_ = [] | 9 => v_ = .agg #[.int .i64 1, .int .i64 ((ks.getD 0 0) % (7 + (4 * d.T)))] ∧ p_ = [] | 10 => IsRow_o 41 2 1 ([1, (ks.getD 0 0) % (7 + (4 * d.T))].map (Value.int .i64)) v_ p_ | 11 => v_ = .agg #[.int .i64 1, .int .i64 0, .int .i64 0, (List.getD vs_ 1 undef)] ∧ p_ = [] | 12 => IsBox #[.int .i64 0, .int .i64 0, .int .i64 0, .slice none 0 0] 44 v_ p_ | _ => True) (List.take_append_drop 13 _).symm (by kernel_rfl) (by kernel_rfl) rfl rfl ?_ ?_
    ·
     refine ⟨?_, ?_, ?_, ?_, ?_, ?_, ?_, ?_, ?_, ?_, ?_, ?_, ?_, trivial⟩
     ·
      intro vf pf hR
      refine Or.inl ⟨rfl, ?_⟩
      refine rq_less (sub_nil _) (List.sublist_append_right _ _) ?_
      exact rq_v (rv_build (cs := #[.int .i64 0, .int .i64 0]) rfl rfl (by kernel_rfl))
     ·
      intro vf pf hR
      refine Or.inl ⟨rfl, ?_⟩
      refine rq_less (sx 5 rfl (sub_nil _)) (List.sublist_append_right _ _) ?_
      exact rq_v (rv_ev rfl)
     ·
      intro vf pf hR
      have e1 : (vf 1) = sv ∧ (pf 1) = [] := hR 1 (by decide)
      refine Or.inl ⟨rfl, ?_⟩
      refine rq_less (sx 43 (congrArg some e1.1) (sub_nil _)) (List.sublist_append_right _ _) ?_
      exact rq_v (rv_index (s := 1) rfl Try.underlying26 (by kernel_rfl) rfl rfl (rd_row 3 rfl) (by omega) (by first | omega | (simp only [List.length_set]; omega)))
     ·
      intro vf pf hR
      have e2 : (vf 2) = elP sv ((0 : Int).toNat * 1) ∧ (pf 2) = [] := hR 2 (by decide)
      refine Or.inl ⟨rfl, ?_⟩
      refine rq_less (sx 44 (congrArg some e2.1) (sub_nil _)) (List.sublist_append_right _ _) ?_
      exact rq_v (rv_loadEl (u := .int .i64 (ks.getD 0 0)) rfl (by kernel_rfl) rfl (rd_row 3 rfl) (ints_at1 (show _ < ks.length by first | omega | (simp only [List.length_set]; omega))))
     ·
      intro vf pf hR
      refine Or.inl ⟨rfl, ?_⟩
      refine rq_less (sx 3 rfl (sub_nil _)) (List.sublist_append_right _ _) ?_
      exact rq_v (rv_field (k0 := 2) rfl (by kernel_rfl) rfl)
     ·
      intro vf pf hR
      have e4 : (vf 4) = .pointer (some ⟨b5, 0 + 2, none⟩) ∧ (pf 4) = [] := hR 4 (by decide)
      refine Or.inl ⟨rfl, ?_⟩
      refine rq_less (sx 46 (congrArg some e4.1) (sub_nil _)) (List.sublist_append_right _ _) ?_
      exact rq_v (rv_load rfl (by kernel_rfl) rfl (box_cell 1 rfl rfl))
     ·
      intro vf pf hR
      have e5 : (vf 5) = .int .i64 d.T ∧ (pf 5) = [] := hR 5 (by decide)
      refine Or.inl ⟨rfl, ?_⟩
      refine rq_less (sx 47 (congrArg some e5.1) (sub_nil _)) (List.sublist_append_right _ _) ?_
      exact rq_v (rv_mul rfl rfl rfl (by constructor <;> omega))
     ·
      intro vf pf hR
      have e6 : (vf 6) = .int .i64 (4 * d.T) ∧ (pf 6) = [] := hR 6 (by decide)
      refine Or.inl ⟨rfl, ?_⟩
      refine rq_less (sx 48 (congrArg some e6.1) (sub_nil _)) (List.sublist_append_right _ _) ?_
      exact rq_v (rv_add rfl rfl rfl (by constructor <;> omega))
     ·
      intro vf pf hR
      have e3 : (vf 3) = .int .i64 (ks.getD 0 0) ∧ (pf 3) = [] := hR 3 (by decide)
      have e7 : (vf 7) = .int .i64 (7 + (4 * d.T)) ∧ (pf 7) = [] := hR 7 (by decide)
      refine Or.inl ⟨rfl, ?_⟩
      refine rq_less (sx 45 (congrArg some e3.1) (sx 49 (congrArg some e7.1) (sub_nil _))) (List.sublist_append_right _ _) ?_
      exact rq_v (rv_rem rfl rfl rfl (by constructor <;> omega))
     ·
      intro vf pf hR
      have e8 : (vf 8) = .int .i64 ((ks.getD 0 0) % (7 + (4 * d.T))) ∧ (pf 8) = [] := hR 8 (by decide)
      refine Or.inl ⟨rfl, ?_⟩
      refine rq_less (sx 50 (congrArg some e8.1) (sub_nil _)) (List.sublist_append_right _ _) ?_
      exact rq_v (rv_build (cs := #[.int .i64 1, .int .i64 ((ks.getD 0 0) % (7 + (4 * d.T)))]) rfl rfl (by kernel_rfl))
     ·
      intro vf pf hR
      have e9 : (vf 9) = .agg #[.int .i64 1, .int .i64 ((ks.getD 0 0) % (7 + (4 * d.T)))] ∧ (pf 9) = [] := hR 9 (by decide)
      refine Or.inl ⟨rfl, ?_⟩
      refine rq_less (sx 51 (congrArg some e9.1) (sub_nil _)) (List.sublist_append_right _ _) ?_
      exact rq_buildSlice (z := .agg #[.int .i64 0, .int .i64 0]) (s := 2) (cs := ([1, (ks.getD 0 0) % (7 + (4 * d.T))].map (Value.int .i64))) rfl Try.underlying42 (by kernel_rfl) (by decide) rfl (by kernel_rfl) rfl
     ·
      intro vf pf hR
      have e0 : (vf 0) = .agg #[.int .i64 0, .int .i64 0] ∧ (pf 0) = [] := hR 0 (by decide)
      have e10 : IsRow_o 41 2 1 ([1, (ks.getD 0 0) % (7 + (4 * d.T))].map (Value.int .i64)) (vf 10) (pf 10) := hR 10 (by decide)
      obtain ⟨g9, v10, p10⟩ := e10
      refine Or.inl ⟨rfl, ?_⟩
      refine rq_less (l' := [rowE 41 2 (.slice (some ⟨g9, 0, none⟩) 1 1) 1 ([1, (ks.getD 0 0) % (7 + (4 * d.T))].map (Value.int .i64)), boxE b6 #[r.nv, r.fv] 28, boxE b5 #[.int .i64 d.W, .int .i64 d.H, .int .i64 d.T, .int .i64 d.R] 25, rtE r, rowE 3 1 sv ks.length (ks.map (Value.int .i64))]) (sx 42 (congrArg some e0.1) (sx 52 (congrArg some v10) (sub_nil _))) (by first | (simp only [p10, v10, e0.2, List.flatMap_cons, List.flatMap_nil, List.append_nil, List.nil_append, List.cons_append]; exact List.Sublist.refl _) | simp [p10, v10, e0.2]) ?_
      exact rq_mono (rq_v (rv_build (cs := #[.int .i64 1, .int .i64 0, .int .i64 0, .slice (some ⟨g9, 0, none⟩) 1 1]) rfl rfl (by kernel_rfl))) (fun _ _ h => ⟨h.1.trans (by show _ = (.agg #[.int .i64 1, .int .i64 0, .int .i64 0, (vf 10)] : Value); first | (rw [v10]; done) | (rw [v10]; rfl)), h.2⟩)
     ·
      intro vf pf hR
      refine Or.inl ⟨rfl, ?_⟩
      refine rq_less (sub_nil _) (List.sublist_append_right _ _) ?_
      exact rq_alloc (z := .agg #[.int .i64 0, .int .i64 0, .int .i64 0, .slice none 0 0]) rfl (by kernel_rfl)
    ·
     intro vf pf hR
     have e10 : IsRow_o 41 2 1 ([1, (ks.getD 0 0) % (7 + (4 * d.T))].map (Value.int .i64)) (vf 10) (pf 10) := hR 10 (by decide)
     obtain ⟨g9, v10, p10⟩ := e10
     have e11 : (vf 11) = .agg #[.int .i64 1, .int .i64 0, .int .i64 0, (vf 10)] ∧ (pf 11) = [] := hR 11 (by decide)
     rw [v10] at e11
     have e12 : IsBox #[.int .i64 0, .int .i64 0, .int .i64 0, .slice none 0 0] 44 (vf 12) (pf 12) := hR 12 (by decide)
     obtain ⟨b10, v12, p12⟩ := e12
     have q0 : (vf 0) = .agg #[.int .i64 0, .int .i64 0] ∧ (pf 0) = [] := hR 0 (by decide)
     have q1 : (vf 1) = sv ∧ (pf 1) = [] := hR 1 (by decide)
     have q2 : (vf 2) = elP sv ((0 : Int).toNat * 1) ∧ (pf 2) = [] := hR 2 (by decide)
     have q3 : (vf 3) = .int .i64 (ks.getD 0 0) ∧ (pf 3) = [] := hR 3 (by decide)
     have q4 : (vf 4) = .pointer (some ⟨b5, 0 + 2, none⟩) ∧ (pf 4) = [] := hR 4 (by decide)
     have q5 : (vf 5) = .int .i64 d.T ∧ (pf 5) = [] := hR 5 (by decide)
     have q6 : (vf 6) = .int .i64 (4 * d.T) ∧ (pf 6) = [] := hR 6 (by decide)
     have q7 : (vf 7) = .int .i64 (7 + (4 * d.T)) ∧ (pf 7) = [] := hR 7 (by decide)
     have q8 : (vf 8) = .int .i64 ((ks.getD 0 0) % (7 + (4 * d.T))) ∧ (pf 8) = [] := hR 8 (by decide)
     have q9 : (vf 9) = .agg #[.int .i64 1, .int .i64 ((ks.getD 0 0) % (7 + (4 * d.T)))] ∧ (pf 9) = [] := hR 9 (by decide)
     have q11 : (vf 11) = .agg #[.int .i64 1, .int .i64 0, .int .i64 0, (vf 10)] ∧ (pf 11) = [] := hR 11 (by decide)
     refine hl_less (l' := [rowE 41 2 (.slice (some ⟨g9, 0, none⟩) 1 1) 1 ([1, (ks.getD 0 0) % (7 + (4 * d.T))].map (Value.int .i64)), boxE b10 #[.int .i64 0, .int .i64 0, .int .i64 0, .slice none 0 0] 44, boxE b6 #[r.nv, r.fv] 28, boxE b5 #[.int .i64 d.W, .int .i64 d.H, .int .i64 d.T, .int .i64 d.R] 25, rtE r, rowE 3 1 sv ks.length (ks.map (Value.int .i64))]) (sx 0 rfl (sx 2 rfl (sx 3 rfl (sx 4 rfl (sx 5 rfl (sx 6 rfl (sx 7 rfl (sx 8 rfl (sx 9 (congrArg some v12) (sx 13 rfl (sx 23 rfl (sx 53 (congrArg some e11.1) (sub_nil _))))))))))))) (by first | (simp only [p10, v10, p12, v12, q0.2, q1.2, q2.2, q3.2, q4.2, q5.2, q6.2, q7.2, q8.2, q9.2, q11.2, List.flatMap_cons, List.flatMap_nil, List.append_nil, List.nil_append, List.cons_append]; exact List.Sublist.refl _) | simp [p10, v10, p12, v12, q0.2, q1.2, q2.2, q3.2, q4.2, q5.2, q6.2, q7.2, q8.2, q9.2, q11.2]) ?_
     simp only [List.drop_succ_cons, List.drop_zero]
     refine hl_storeBoxN (i := 1) (off := 0) (us := [.int .i64 1, .int .i64 0, .int .i64 0, .slice (some ⟨g9, 0, none⟩) 1 1]) (l' := [rowE 41 2 (.slice (some ⟨g9, 0, none⟩) 1 1) 1 ([1, (ks.getD 0 0) % (7 + (4 * d.T))].map (Value.int .i64)), boxE b10 #[.int .i64 1, .int .i64 0, .int .i64 0, .slice (some ⟨g9, 0, none⟩) 1 1] 44, boxE b6 #[r.nv, r.fv] 28, boxE b5 #[.int .i64 d.W, .int .i64 d.H, .int .i64 d.T, .int .i64 d.R] 25, rtE r, rowE 3 1 sv ks.length (ks.map (Value.int .i64))]) rfl rfl rfl (by kernel_rfl) rfl rfl rfl (all_cons rfl (all_cons rfl (all_cons rfl (all_cons rfl all_nil)))) rfl rfl rfl ?_
     refine hl_less (sx 0 rfl (sx 2 rfl (sx 3 rfl (sx 4 rfl (sx 5 rfl (sx 6 rfl (sx 7 rfl (sx 8 rfl (sx 9 rfl (sx 13 rfl (sx 23 rfl (sub_nil _)))))))))))) (.refl _) ?_
     refine hl_nil ?_
     refine hq_then ?_
     refine hc_seq ?_
     refine hc_region ?_
     refine hl_v rfl rfl rfl (rv_loadN (cs := [.int .i64 d.W, .int .i64 d.H, .int .i64 d.T, .int .i64 d.R]) rfl (by kernel_rfl) (by kernel_rfl) rfl rfl (box_part 3 rfl 0 rfl)) ?_
     refine hl_v rfl rfl rfl (rv_ev rfl) ?_
     refine hl_v rfl rfl rfl (rv_ev rfl) ?_
     refine hl_row rfl rfl rfl (rq_buildSlice (z := .int .i64 0) (s := 1) (cs := ([s0 / (7 + (4 * d.T)), (ks.getD 0 0) / (7 + (4 * d.T))].map (Value.int .i64))) rfl Try.underlying26 (by kernel_rfl) (by decide) rfl (by kernel_rfl) rfl) ?_
     intro g11
     refine hl_v rfl rfl rfl (rv_loadN (cs := [.int .i64 1, .int .i64 0, .int .i64 0, .slice (some ⟨g9, 0, none⟩) 1 1]) rfl (by kernel_rfl) (by kernel_rfl) rfl rfl (box_part 2 rfl 0 rfl)) ?_
     refine hl_row rfl rfl rfl (rq_buildSlice (z := .agg #[.int .i64 0, .int .i64 0, .int .i64 0, .slice none 0 0]) (s := 4) (cs := [.int .i64 1, .int .i64 0, .int .i64 0, .slice (some ⟨g9, 0, none⟩) 1 1]) rfl Try.underlying46 (by kernel_rfl) (by decide) rfl (by kernel_rfl) rfl) ?_
     intro g12
     refine hl_v rfl rfl rfl (rv_loadN (cs := [r.nv, r.fv]) rfl (by kernel_rfl) (by kernel_rfl) rfl rfl (box_part 4 rfl 0 rfl)) ?_
     refine hl_row rfl rfl rfl (rq_buildSlice (z := .agg #[.slice none 0 0, .slice none 0 0]) (s := 2) (cs := [r.nv, r.fv]) rfl Try.underlying47 (by kernel_rfl) (by decide) rfl (by kernel_rfl) rfl) ?_
     intro g13
     refine hl_callV rfl rfl rfl (rq_call (by kernel_rfl) rfl (fun w hm => ret_ans (RoutesOk_ans d [s0 / (7 + 4 * d.T), (ks.getD 0 0) / (7 + 4 * d.T)] _ (Cn.mk 1 0 0 (.slice (some ⟨g9, 0, none⟩) 1 1) [Pn.mk 1 ((ks.getD 0 0) % (7 + 4 * d.T))]) [(Cn.mk 1 0 0 (.slice (some ⟨g9, 0, none⟩) 1 1) [Pn.mk 1 ((ks.getD 0 0) % (7 + 4 * d.T))])] _ r [r] _ ks w hd (rd_row 2 rfl w hm) (by simp) (rdscn_of (rd_row 1 rfl w hm) (c := (Cn.mk 1 0 0 (.slice (some ⟨g9, 0, none⟩) 1 1) [Pn.mk 1 ((ks.getD 0 0) % (7 + 4 * d.T))])) (rd_row 3 rfl w hm) (by simp)) (by simp) (by simp) (rdsrt_of (r := r) (rs := [r]) (rd_row 0 rfl w hm) (rt_rds 7 rfl w hm) (by simp)) rfl (by simp) (cn_ok (v := .slice (some ⟨g9, 0, none⟩) 1 1) (x := (ks.getD 0 0) % (7 + 4 * d.T)) (by simp) hx9) (pn_in hin9) hrt9))) ?_
     refine hl_bool (fun h14 => ?_) (fun h14 => ?_)
     ·
      have hk1 : ks.length = 1 := by
        have h8 : okRs d r.ns [inPinI d ((ks.getD 0 0) / (7 + 4 * d.T)) ((ks.getD 0 0) % (7 + 4 * d.T))] 1 = true := h14
        rw [hone] at h8
        simpa using h8
      refine hl_v rfl rfl rfl (rv_ev rfl) ?_
      refine hl_less (sx 0 rfl (sx 2 rfl (sx 3 rfl (sx 4 rfl (sx 5 rfl (sx 6 rfl (sx 7 rfl (sx 8 rfl (sx 9 rfl (sx 10 rfl (sx 13 rfl (sx 23 rfl (sub_nil _))))))))))))) (.refl _) ?_
      refine hl_nil ?_
      refine hq_then ?_
      refine hc_seq ?_
      refine hc_region ?_
      refine hl_v rfl rfl rfl (rv_loadN (cs := [.int .i64 d.W, .int .i64 d.H, .int .i64 d.T, .int .i64 d.R]) rfl (by kernel_rfl) (by kernel_rfl) rfl rfl (box_part 6 rfl 0 rfl)) ?_
      refine hl_v rfl rfl rfl (rv_ev rfl) ?_
      refine hl_v rfl rfl rfl (rv_ev rfl) ?_
      refine hl_row rfl rfl rfl (rq_buildSlice (z := .int .i64 0) (s := 1) (cs := ([s0 / (7 + (4 * d.T)), (ks.getD 0 0) / (7 + (4 * d.T))].map (Value.int .i64))) rfl Try.underlying26 (by kernel_rfl) (by decide) rfl (by kernel_rfl) rfl) ?_
      intro g15
      refine hl_v rfl rfl rfl (rv_loadN (cs := [.int .i64 1, .int .i64 0, .int .i64 0, .slice (some ⟨g9, 0, none⟩) 1 1]) rfl (by kernel_rfl) (by kernel_rfl) rfl rfl (box_part 5 rfl 0 rfl)) ?_
      refine hl_v rfl rfl rfl (rv_loadN (cs := [.int .i64 1, .int .i64 0, .int .i64 0, .slice (some ⟨g9, 0, none⟩) 1 1]) rfl (by kernel_rfl) (by kernel_rfl) rfl rfl (box_part 5 rfl 0 rfl)) ?_
      refine hl_row rfl rfl rfl (rq_buildSlice (z := .agg #[.int .i64 0, .int .i64 0, .int .i64 0, .slice none 0 0]) (s := 4) (cs := [.int .i64 1, .int .i64 0, .int .i64 0, .slice (some ⟨g9, 0, none⟩) 1 1, .int .i64 1, .int .i64 0, .int .i64 0, .slice (some ⟨g9, 0, none⟩) 1 1]) rfl Try.underlying46 (by kernel_rfl) (by decide) rfl (by kernel_rfl) rfl) ?_
      intro g16
      refine hl_v rfl rfl rfl (rv_loadN (cs := [r.nv, r.fv]) rfl (by kernel_rfl) (by kernel_rfl) rfl rfl (box_part 7 rfl 0 rfl)) ?_
      refine hl_v rfl rfl rfl (rv_loadN (cs := [r.nv, r.fv]) rfl (by kernel_rfl) (by kernel_rfl) rfl rfl (box_part 7 rfl 0 rfl)) ?_
      refine hl_row rfl rfl rfl (rq_buildSlice (z := .agg #[.slice none 0 0, .slice none 0 0]) (s := 2) (cs := [r.nv, r.fv, r.nv, r.fv]) rfl Try.underlying47 (by kernel_rfl) (by decide) rfl (by kernel_rfl) rfl) ?_
      intro g17
      refine hl_callV rfl rfl rfl (rq_call (by kernel_rfl) rfl (fun w hm => ret_ans (RoutesOk_ans d [s0 / (7 + 4 * d.T), (ks.getD 0 0) / (7 + 4 * d.T)] _ (Cn.mk 1 0 0 (.slice (some ⟨g9, 0, none⟩) 1 1) [Pn.mk 1 ((ks.getD 0 0) % (7 + 4 * d.T))]) [(Cn.mk 1 0 0 (.slice (some ⟨g9, 0, none⟩) 1 1) [Pn.mk 1 ((ks.getD 0 0) % (7 + 4 * d.T))]), (Cn.mk 1 0 0 (.slice (some ⟨g9, 0, none⟩) 1 1) [Pn.mk 1 ((ks.getD 0 0) % (7 + 4 * d.T))])] _ r [r, r] _ ks w hd (rd_row 2 rfl w hm) (by simp) (rdscn_of (rd_row 1 rfl w hm) (c := (Cn.mk 1 0 0 (.slice (some ⟨g9, 0, none⟩) 1 1) [Pn.mk 1 ((ks.getD 0 0) % (7 + 4 * d.T))])) (rd_row 6 rfl w hm) (by simp)) (by simp) (by simp) (rdsrt_of (r := r) (rs := [r, r]) (rd_row 0 rfl w hm) (rt_rds 10 rfl w hm) (by simp)) rfl (by simp) (cn_ok (v := .slice (some ⟨g9, 0, none⟩) 1 1) (x := (ks.getD 0 0) % (7 + 4 * d.T)) (by simp) hx9) (pn_in hin9) hrt9))) ?_
      refine hl_bool (fun h18 => absurd ((okRs_two).symm.trans h18) (by decide)) (fun h18 => ?_)
      refine hl_v rfl rfl rfl (rv_ev rfl) ?_
      refine hl_less (sx 0 rfl (sx 2 rfl (sx 3 rfl (sx 4 rfl (sx 5 rfl (sx 6 rfl (sx 7 rfl (sx 8 rfl (sx 9 rfl (sx 10 rfl (sx 11 rfl (sx 13 rfl (sx 23 rfl (sub_nil _)))))))))))))) (.refl _) ?_
      refine hl_nil ?_
      refine hq_then ?_
      refine hc_seq ?_
      have hb19 : ((ks.length : Int) == 1) = true := beq_iff_eq.2 (by omega)
      have hb20 : (okR d r.ns ks) = true := (okR_ks hrt)
      have hb22 : ((outPinI d (s0 / (7 + 4 * d.T)) 0) == s0) = true := beq_iff_eq.2 (by omega)
      have hb27 : ((getI ([inPinI d ((ks.getD 0 0) / (7 + 4 * d.T)) ((ks.getD 0 0) % (7 + 4 * d.T))]) 0) == (ks.getD 0 0)) = true := beq_iff_eq.2 (by omega)
      refine hc_draw (by kernel_rfl) 39 [0, 1, 2, 3, 4, 5, 6, 7, 8, 9, 10, 11, 12, 13, 14, 15, 16, 17, 18, 19, 20, 21, 22, 23, 24, 25, 26, 27, 28, 29, 30, 31, 32, 33, 34, 35, 36, 37, 38] (List.take 39 _) (List.drop 39 _) [[], [], [1], [2], [0, 3], [4], [5], [5, 6], [5, 7], [8], [9], [9], [9], [9], [9, 10, 11, 12, 13], [9, 14], [15], [16], [16], [16], [16, 18, 19], [16], [16, 17, 20, 21], [16], [16, 20, 22, 23], [16, 24], [25], [26], [26], [26], [26, 28, 29], [26], [26, 27, 30, 31], [26, 32], [26], [26, 34], [26, 35], [26, 32, 33, 36], [26, 37]] [74, 75, 76, 77, 78, 79, 80, 81, 82, 83, 84, 85, 86, 87, 88, 89, 90, 91, 92, 93, 94, 95, 96, 97, 98, 99, 100, 101, 102, 103, 104, 105, 106, 107, 108, 109, 110, 111, 112] (fun i_ vs_ v_ p_ => match i_ with | 0 => v_ = .bool true ∧ p_ = [] | 1 => v_ = sv ∧ p_ = [] | 2 => v_ = .int .i64 (ks.length : Int) ∧ p_ = [] | 3 => v_ = .bool true ∧ p_ = [] | 4 => v_ = .bool true ∧ p_ = [] | 5 => v_ = .bool true ∧ p_ = [] | 6 => v_ = .bool false ∧ p_ = [] | 7 => v_ = .bool true ∧ p_ = [] | 8 => v_ = .bool true ∧ p_ = [] | 9 => v_ = .bool true ∧ p_ = [] | 10 => v_ = .agg #[.int .i64 d.W, .int .i64 d.H, .int .i64 d.T, .int .i64 d.R] ∧ p_ = [] | 11 => v_ = .int .i64 s0 ∧ p_ = [] | 12 => v_ = sv ∧ p_ = [] | 13 => v_ = .agg #[r.nv, r.fv] ∧ p_ = [] | 14 => v_ = .bool true ∧ p_ = [] | 15 => v_ = .bool true ∧ p_ = [] | 16 => v_ = .bool true ∧ p_ = [] | 17 => v_ = .agg #[.int .i64 d.W, .int .i64 d.H, .int .i64 d.T, .int .i64 d.R] ∧ p_ = [] | 18 => v_ = .int .i64 (s0 / (7 + (4 * d.T))) ∧ p_ = [] | 19 => v_ = .int .i64 ((ks.getD 0 0) / (7 + (4 * d.T))) ∧ p_ = [] | 20 => IsRow_o 3 1 2 ([s0 / (7 + (4 * d.T)), (ks.getD 0 0) / (7 + (4 * d.T))].map (Value.int .i64)) v_ p_ | 21 => v_ = .agg #[.int .i64 1, .int .i64 0, .int .i64 0, .slice (some ⟨g9, 0, none⟩) 1 1] ∧ p_ = [] | 22 => v_ = .int .i64 (outPinI d (s0 / (7 + 4 * d.T)) 0) ∧ p_ = [] | 23 => v_ = .int .i64 s0 ∧ p_ = [] | 24 => v_ = .bool true ∧ p_ = [] | 25 => v_ = .bool true ∧ p_ = [] | 26 => v_ = .bool true ∧ p_ = [] | 27 => v_ = .agg #[.int .i64 d.W, .int .i64 d.H, .int .i64 d.T, .int .i64 d.R] ∧ p_ = [] | 28 => v_ = .int .i64 (s0 / (7 + (4 * d.T))) ∧ p_ = [] | 29 => v_ = .int .i64 ((ks.getD 0 0) / (7 + (4 * d.T))) ∧ p_ = [] | 30 => IsRow_o 3 1 2 ([s0 / (7 + (4 * d.T)), (ks.getD 0 0) / (7 + (4 * d.T))].map (Value.int .i64)) v_ p_ | 31 => v_ = .agg #[.int .i64 1, .int .i64 0, .int .i64 0, .slice (some ⟨g9, 0, none⟩) 1 1] ∧ p_ = [] | 32 => (fun v' post => post = [rowE 3 1 v' ([inPinI d ((ks.getD 0 0) / (7 + 4 * d.T)) ((ks.getD 0 0) % (7 + 4 * d.T))]).length (([inPinI d ((ks.getD 0 0) / (7 + 4 * d.T)) ((ks.getD 0 0) % (7 + 4 * d.T))]).map (Value.int .i64))]) v_ p_ | 33 => v_ = .int .i64 (getI ([inPinI d ((ks.getD 0 0) / (7 + 4 * d.T)) ((ks.getD 0 0) % (7 + 4 * d.T))]) 0) ∧ p_ = [] | 34 => v_ = sv ∧ p_ = [] | 35 => v_ = elP sv ((0 : Int).toNat * 1) ∧ p_ = [] | 36 => v_ = .int .i64 (ks.getD 0 0) ∧ p_ = [] | 37 => v_ = .bool true ∧ p_ = [] | 38 => v_ = .bool true ∧ p_ = [] | _ => True) (List.take_append_drop 39 _).symm (by kernel_rfl) (by kernel_rfl) rfl rfl ?_ ?_
      ·
       refine ⟨?_, ?_, ?_, ?_, ?_, ?_, ?_, ?_, ?_, ?_, ?_, ?_, ?_, ?_, ?_, ?_, ?_, ?_, ?_, ?_, ?_, ?_, ?_, ?_, ?_, ?_, ?_, ?_, ?_, ?_, ?_, ?_, ?_, ?_, ?_, ?_, ?_, ?_, ?_, trivial⟩
       ·
        intro vf pf hR
        refine Or.inl ⟨rfl, ?_⟩
        refine rq_less (sx 10 rfl (sub_nil _)) (List.sublist_append_right _ _) ?_
        exact rq_v (rv_ev rfl)
       ·
        intro vf pf hR
        refine Or.inl ⟨rfl, ?_⟩
        refine rq_less (sx 5 rfl (sub_nil _)) (List.sublist_append_right _ _) ?_
        exact rq_v (rv_ev rfl)
       ·
        intro vf pf hR
        have e1 : (vf 1) = sv ∧ (pf 1) = [] := hR 1 (by decide)
        refine Or.inl ⟨rfl, ?_⟩
        refine rq_less (sx 75 (congrArg some e1.1) (sub_nil _)) (List.sublist_append_right _ _) ?_
        exact rq_v (rv_len rfl Try.underlying26 rfl (rd_row 11 rfl))
       ·
        intro vf pf hR
        have e2 : (vf 2) = .int .i64 (ks.length : Int) ∧ (pf 2) = [] := hR 2 (by decide)
        refine Or.inl ⟨rfl, ?_⟩
        refine rq_less (sx 76 (congrArg some e2.1) (sub_nil _)) (List.sublist_append_right _ _) ?_
        exact rq_mono (rq_v (rv_cmp rfl rfl rfl rfl)) (fun _ _ h => ⟨h.1.trans (congrArg Value.bool hb19), h.2⟩)
       ·
        intro vf pf hR
        have e0 : (vf 0) = .bool true ∧ (pf 0) = [] := hR 0 (by decide)
        have e3 : (vf 3) = .bool true ∧ (pf 3) = [] := hR 3 (by decide)
        refine Or.inl ⟨rfl, ?_⟩
        refine rq_less (sx 74 (congrArg some e0.1) (sx 77 (congrArg some e3.1) (sub_nil _))) (List.sublist_append_right _ _) ?_
        exact rq_v (rv_beql (m := true) (n := true) rfl Try.underlying4 rfl rfl)
       ·
        intro vf pf hR
        have e4 : (vf 4) = .bool true ∧ (pf 4) = [] := hR 4 (by decide)
        refine Or.inl ⟨rfl, ?_⟩
        refine rq_less (sx 78 (congrArg some e4.1) (sub_nil _)) (List.sublist_append_right _ _) ?_
        exact rq_v (rv_ev rfl)
       ·
        intro vf pf hR
        have e5 : (vf 5) = .bool true ∧ (pf 5) = [] := hR 5 (by decide)
        refine Or.inl ⟨want_of (congrArg some e5.1) rfl, ?_⟩
        refine rq_less (sx 11 rfl (sub_nil _)) (List.sublist_append_right _ _) ?_
        exact rq_v (rv_ev rfl)
       ·
        intro vf pf hR
        have e5 : (vf 5) = .bool true ∧ (pf 5) = [] := hR 5 (by decide)
        have e6 : (vf 6) = .bool false ∧ (pf 6) = [] := hR 6 (by decide)
        refine Or.inl ⟨want_of (congrArg some e5.1) rfl, ?_⟩
        refine rq_less (sx 80 (congrArg some e6.1) (sub_nil _)) (List.sublist_append_right _ _) ?_
        exact rq_v (rv_ev rfl)
       ·
        intro vf pf hR
        have e5 : (vf 5) = .bool true ∧ (pf 5) = [] := hR 5 (by decide)
        have e7 : (vf 7) = .bool true ∧ (pf 7) = [] := hR 7 (by decide)
        refine Or.inl ⟨rfl, ?_⟩
        refine rq_less (sx 79 (congrArg some e5.1) (sx 81 (congrArg some e7.1) (sub_nil _))) (List.sublist_append_right _ _) ?_
        exact rq_v (rv_ev rfl)
       ·
        intro vf pf hR
        have e8 : (vf 8) = .bool true ∧ (pf 8) = [] := hR 8 (by decide)
        refine Or.inl ⟨rfl, ?_⟩
        refine rq_less (sx 82 (congrArg some e8.1) (sub_nil _)) (List.sublist_append_right _ _) ?_
        exact rq_v (rv_ev rfl)
       ·
        intro vf pf hR
        have e9 : (vf 9) = .bool true ∧ (pf 9) = [] := hR 9 (by decide)
        refine Or.inl ⟨want_of (congrArg some e9.1) rfl, ?_⟩
        refine rq_less (sx 3 rfl (sub_nil _)) (List.sublist_append_right _ _) ?_
        exact rq_v (rv_loadN (cs := [.int .i64 d.W, .int .i64 d.H, .int .i64 d.T, .int .i64 d.R]) rfl (by kernel_rfl) (by kernel_rfl) rfl rfl (box_part 9 rfl 0 rfl))
       ·
        intro vf pf hR
        have e9 : (vf 9) = .bool true ∧ (pf 9) = [] := hR 9 (by decide)
        refine Or.inl ⟨want_of (congrArg some e9.1) rfl, ?_⟩
        refine rq_less (sx 4 rfl (sub_nil _)) (List.sublist_append_right _ _) ?_
        exact rq_v (rv_ev rfl)
       ·
        intro vf pf hR
        have e9 : (vf 9) = .bool true ∧ (pf 9) = [] := hR 9 (by decide)
        refine Or.inl ⟨want_of (congrArg some e9.1) rfl, ?_⟩
        refine rq_less (sx 5 rfl (sub_nil _)) (List.sublist_append_right _ _) ?_
        exact rq_v (rv_ev rfl)
       ·
        intro vf pf hR
        have e9 : (vf 9) = .bool true ∧ (pf 9) = [] := hR 9 (by decide)
        refine Or.inl ⟨want_of (congrArg some e9.1) rfl, ?_⟩
        refine rq_less (sx 6 rfl (sub_nil _)) (List.sublist_append_right _ _) ?_
        exact rq_v (rv_loadN (cs := [r.nv, r.fv]) rfl (by kernel_rfl) (by kernel_rfl) rfl rfl (box_part 8 rfl 0 rfl))
       ·
        intro vf pf hR
        have e9 : (vf 9) = .bool true ∧ (pf 9) = [] := hR 9 (by decide)
        have e10 : (vf 10) = .agg #[.int .i64 d.W, .int .i64 d.H, .int .i64 d.T, .int .i64 d.R] ∧ (pf 10) = [] := hR 10 (by decide)
        have e11 : (vf 11) = .int .i64 s0 ∧ (pf 11) = [] := hR 11 (by decide)
        have e12 : (vf 12) = sv ∧ (pf 12) = [] := hR 12 (by decide)
        have e13 : (vf 13) = .agg #[r.nv, r.fv] ∧ (pf 13) = [] := hR 13 (by decide)
        refine Or.inl ⟨want_of (congrArg some e9.1) rfl, ?_⟩
        refine rq_less (sx 84 (congrArg some e10.1) (sx 85 (congrArg some e11.1) (sx 86 (congrArg some e12.1) (sx 87 (congrArg some e13.1) (sub_nil _))))) (List.sublist_append_right _ _) ?_
        exact rq_mono (rq_call (by kernel_rfl) rfl (fun w hm => ret_ans (RouteOk_ans d s0 r ks ks _ w hd hrt (rt_rds 10 rfl w hm).1 (rt_rds 10 rfl w hm).2 ((rd_row 11 rfl) w hm) (by first | omega | (simp only [List.length_append, List.length_drop, List.length_cons, List.length_nil]; omega)) (rng_of (kSmall hrt hd))))) (fun _ _ h => ⟨h.1.trans (congrArg Value.bool hb20), h.2⟩)
       ·
        intro vf pf hR
        have e9 : (vf 9) = .bool true ∧ (pf 9) = [] := hR 9 (by decide)
        have e14 : (vf 14) = .bool true ∧ (pf 14) = [] := hR 14 (by decide)
        refine Or.inl ⟨rfl, ?_⟩
        refine rq_less (sx 83 (congrArg some e9.1) (sx 88 (congrArg some e14.1) (sub_nil _))) (List.sublist_append_right _ _) ?_
        exact rq_v (rv_ev rfl)
       ·
        intro vf pf hR
        have e15 : (vf 15) = .bool true ∧ (pf 15) = [] := hR 15 (by decide)
        refine Or.inl ⟨rfl, ?_⟩
        refine rq_less (sx 89 (congrArg some e15.1) (sub_nil _)) (List.sublist_append_right _ _) ?_
        exact rq_v (rv_ev rfl)
       ·
        intro vf pf hR
        have e16 : (vf 16) = .bool true ∧ (pf 16) = [] := hR 16 (by decide)
        refine Or.inl ⟨want_of (congrArg some e16.1) rfl, ?_⟩
        refine rq_less (sx 3 rfl (sub_nil _)) (List.sublist_append_right _ _) ?_
        exact rq_v (rv_loadN (cs := [.int .i64 d.W, .int .i64 d.H, .int .i64 d.T, .int .i64 d.R]) rfl (by kernel_rfl) (by kernel_rfl) rfl rfl (box_part 9 rfl 0 rfl))
       ·
        intro vf pf hR
        have e16 : (vf 16) = .bool true ∧ (pf 16) = [] := hR 16 (by decide)
        refine Or.inl ⟨want_of (congrArg some e16.1) rfl, ?_⟩
        refine rq_less (sx 7 rfl (sub_nil _)) (List.sublist_append_right _ _) ?_
        exact rq_v (rv_ev rfl)
       ·
        intro vf pf hR
        have e16 : (vf 16) = .bool true ∧ (pf 16) = [] := hR 16 (by decide)
        refine Or.inl ⟨want_of (congrArg some e16.1) rfl, ?_⟩
        refine rq_less (sx 8 rfl (sub_nil _)) (List.sublist_append_right _ _) ?_
        exact rq_v (rv_ev rfl)
       ·
        intro vf pf hR
        have e16 : (vf 16) = .bool true ∧ (pf 16) = [] := hR 16 (by decide)
        have e18 : (vf 18) = .int .i64 (s0 / (7 + (4 * d.T))) ∧ (pf 18) = [] := hR 18 (by decide)
        have e19 : (vf 19) = .int .i64 ((ks.getD 0 0) / (7 + (4 * d.T))) ∧ (pf 19) = [] := hR 19 (by decide)
        refine Or.inl ⟨want_of (congrArg some e16.1) rfl, ?_⟩
        refine rq_less (sx 92 (congrArg some e18.1) (sx 93 (congrArg some e19.1) (sub_nil _))) (List.sublist_append_right _ _) ?_
        exact rq_buildSlice (z := .int .i64 0) (s := 1) (cs := ([s0 / (7 + (4 * d.T)), (ks.getD 0 0) / (7 + (4 * d.T))].map (Value.int .i64))) rfl Try.underlying26 (by kernel_rfl) (by decide) rfl (by kernel_rfl) rfl
       ·
        intro vf pf hR
        have e16 : (vf 16) = .bool true ∧ (pf 16) = [] := hR 16 (by decide)
        refine Or.inl ⟨want_of (congrArg some e16.1) rfl, ?_⟩
        refine rq_less (sx 9 rfl (sub_nil _)) (List.sublist_append_right _ _) ?_
        exact rq_v (rv_loadN (cs := [.int .i64 1, .int .i64 0, .int .i64 0, .slice (some ⟨g9, 0, none⟩) 1 1]) rfl (by kernel_rfl) (by kernel_rfl) rfl rfl (box_part 7 rfl 0 rfl))
       ·
        intro vf pf hR
        have e16 : (vf 16) = .bool true ∧ (pf 16) = [] := hR 16 (by decide)
        have e17 : (vf 17) = .agg #[.int .i64 d.W, .int .i64 d.H, .int .i64 d.T, .int .i64 d.R] ∧ (pf 17) = [] := hR 17 (by decide)
        have e20 : IsRow_o 3 1 2 ([s0 / (7 + (4 * d.T)), (ks.getD 0 0) / (7 + (4 * d.T))].map (Value.int .i64)) (vf 20) (pf 20) := hR 20 (by decide)
        obtain ⟨g21, v20, p20⟩ := e20
        have e21 : (vf 21) = .agg #[.int .i64 1, .int .i64 0, .int .i64 0, .slice (some ⟨g9, 0, none⟩) 1 1] ∧ (pf 21) = [] := hR 21 (by decide)
        refine Or.inl ⟨want_of (congrArg some e16.1) rfl, ?_⟩
        refine rq_less (l' := [rowE 3 1 (.slice (some ⟨g21, 0, none⟩) 2 2) 2 ([s0 / (7 + (4 * d.T)), (ks.getD 0 0) / (7 + (4 * d.T))].map (Value.int .i64)), rowE 28 2 (.slice (some ⟨g17, 0, none⟩) 2 2) 2 ([r.nv, r.fv, r.nv, r.fv]), rowE 44 4 (.slice (some ⟨g16, 0, none⟩) 2 2) 2 ([.int .i64 1, .int .i64 0, .int .i64 0, .slice (some ⟨g9, 0, none⟩) 1 1, .int .i64 1, .int .i64 0, .int .i64 0, .slice (some ⟨g9, 0, none⟩) 1 1]), rowE 3 1 (.slice (some ⟨g15, 0, none⟩) 2 2) 2 ([s0 / (7 + (4 * d.T)), (ks.getD 0 0) / (7 + (4 * d.T))].map (Value.int .i64)), rowE 28 2 (.slice (some ⟨g13, 0, none⟩) 1 1) 1 ([r.nv, r.fv]), rowE 44 4 (.slice (some ⟨g12, 0, none⟩) 1 1) 1 ([.int .i64 1, .int .i64 0, .int .i64 0, .slice (some ⟨g9, 0, none⟩) 1 1]), rowE 3 1 (.slice (some ⟨g11, 0, none⟩) 2 2) 2 ([s0 / (7 + (4 * d.T)), (ks.getD 0 0) / (7 + (4 * d.T))].map (Value.int .i64)), rowE 41 2 (.slice (some ⟨g9, 0, none⟩) 1 1) 1 ([1, (ks.getD 0 0) % (7 + (4 * d.T))].map (Value.int .i64)), boxE b10 #[.int .i64 1, .int .i64 0, .int .i64 0, .slice (some ⟨g9, 0, none⟩) 1 1] 44, boxE b6 #[r.nv, r.fv] 28, boxE b5 #[.int .i64 d.W, .int .i64 d.H, .int .i64 d.T, .int .i64 d.R] 25, rtE r, rowE 3 1 sv ks.length (ks.map (Value.int .i64))]) (sx 91 (congrArg some e17.1) (sx 94 (congrArg some v20) (sx 95 (congrArg some e21.1) (sub_nil _)))) (by first | (simp only [p20, v20, e16.2, e17.2, e21.2, List.flatMap_cons, List.flatMap_nil, List.append_nil, List.nil_append, List.cons_append]; exact List.Sublist.refl _) | simp [p20, v20, e16.2, e17.2, e21.2]) ?_
        exact (rq_call (by kernel_rfl) rfl (fun w hm => ret_ans (SourceNode_ans d [s0 / (7 + 4 * d.T), (ks.getD 0 0) / (7 + 4 * d.T)] _ (Cn.mk 1 0 0 (.slice (some ⟨g9, 0, none⟩) 1 1) [Pn.mk 1 ((ks.getD 0 0) % (7 + 4 * d.T))]) w (rd_row 0 rfl w hm) (by simp) pn_src (rd_row 7 rfl w hm : RdsW w (.slice (some ⟨g9, 0, none⟩) 1 1) 2 1 _).one)))
       ·
        intro vf pf hR
        have e16 : (vf 16) = .bool true ∧ (pf 16) = [] := hR 16 (by decide)
        refine Or.inl ⟨want_of (congrArg some e16.1) rfl, ?_⟩
        refine rq_less (sx 4 rfl (sub_nil _)) (List.sublist_append_right _ _) ?_
        exact rq_v (rv_ev rfl)
       ·
        intro vf pf hR
        have e16 : (vf 16) = .bool true ∧ (pf 16) = [] := hR 16 (by decide)
        have e20 : IsRow_o 3 1 2 ([s0 / (7 + (4 * d.T)), (ks.getD 0 0) / (7 + (4 * d.T))].map (Value.int .i64)) (vf 20) (pf 20) := hR 20 (by decide)
        obtain ⟨g21, v20, p20⟩ := e20
        have e22 : (vf 22) = .int .i64 (outPinI d (s0 / (7 + 4 * d.T)) 0) ∧ (pf 22) = [] := hR 22 (by decide)
        have e23 : (vf 23) = .int .i64 s0 ∧ (pf 23) = [] := hR 23 (by decide)
        refine Or.inl ⟨want_of (congrArg some e16.1) rfl, ?_⟩
        refine rq_less (l' := [rowE 3 1 (.slice (some ⟨g21, 0, none⟩) 2 2) 2 ([s0 / (7 + (4 * d.T)), (ks.getD 0 0) / (7 + (4 * d.T))].map (Value.int .i64)), rowE 28 2 (.slice (some ⟨g17, 0, none⟩) 2 2) 2 ([r.nv, r.fv, r.nv, r.fv]), rowE 44 4 (.slice (some ⟨g16, 0, none⟩) 2 2) 2 ([.int .i64 1, .int .i64 0, .int .i64 0, .slice (some ⟨g9, 0, none⟩) 1 1, .int .i64 1, .int .i64 0, .int .i64 0, .slice (some ⟨g9, 0, none⟩) 1 1]), rowE 3 1 (.slice (some ⟨g15, 0, none⟩) 2 2) 2 ([s0 / (7 + (4 * d.T)), (ks.getD 0 0) / (7 + (4 * d.T))].map (Value.int .i64)), rowE 28 2 (.slice (some ⟨g13, 0, none⟩) 1 1) 1 ([r.nv, r.fv]), rowE 44 4 (.slice (some ⟨g12, 0, none⟩) 1 1) 1 ([.int .i64 1, .int .i64 0, .int .i64 0, .slice (some ⟨g9, 0, none⟩) 1 1]), rowE 3 1 (.slice (some ⟨g11, 0, none⟩) 2 2) 2 ([s0 / (7 + (4 * d.T)), (ks.getD 0 0) / (7 + (4 * d.T))].map (Value.int .i64)), rowE 41 2 (.slice (some ⟨g9, 0, none⟩) 1 1) 1 ([1, (ks.getD 0 0) % (7 + (4 * d.T))].map (Value.int .i64)), boxE b10 #[.int .i64 1, .int .i64 0, .int .i64 0, .slice (some ⟨g9, 0, none⟩) 1 1] 44, boxE b6 #[r.nv, r.fv] 28, boxE b5 #[.int .i64 d.W, .int .i64 d.H, .int .i64 d.T, .int .i64 d.R] 25, rtE r, rowE 3 1 sv ks.length (ks.map (Value.int .i64))]) (sx 96 (congrArg some e22.1) (sx 97 (congrArg some e23.1) (sub_nil _))) (by first | (simp only [p20, v20, e16.2, e22.2, e23.2, List.flatMap_cons, List.flatMap_nil, List.append_nil, List.nil_append, List.cons_append]; exact List.Sublist.refl _) | simp [p20, v20, e16.2, e22.2, e23.2]) ?_
        exact rq_mono (rq_v (rv_cmp rfl rfl rfl rfl)) (fun _ _ h => ⟨h.1.trans (congrArg Value.bool hb22), h.2⟩)
       ·
        intro vf pf hR
        have e16 : (vf 16) = .bool true ∧ (pf 16) = [] := hR 16 (by decide)
        have e24 : (vf 24) = .bool true ∧ (pf 24) = [] := hR 24 (by decide)
        refine Or.inl ⟨rfl, ?_⟩
        refine rq_less (sx 90 (congrArg some e16.1) (sx 98 (congrArg some e24.1) (sub_nil _))) (List.sublist_append_right _ _) ?_
        exact rq_v (rv_ev rfl)
       ·
        intro vf pf hR
        have e25 : (vf 25) = .bool true ∧ (pf 25) = [] := hR 25 (by decide)
        refine Or.inl ⟨rfl, ?_⟩
        refine rq_less (sx 99 (congrArg some e25.1) (sub_nil _)) (List.sublist_append_right _ _) ?_
        exact rq_v (rv_ev rfl)
       ·
        intro vf pf hR
        have e26 : (vf 26) = .bool true ∧ (pf 26) = [] := hR 26 (by decide)
        refine Or.inl ⟨want_of (congrArg some e26.1) rfl, ?_⟩
        refine rq_less (sx 3 rfl (sub_nil _)) (List.sublist_append_right _ _) ?_
        exact rq_v (rv_loadN (cs := [.int .i64 d.W, .int .i64 d.H, .int .i64 d.T, .int .i64 d.R]) rfl (by kernel_rfl) (by kernel_rfl) rfl rfl (box_part 9 rfl 0 rfl))
       ·
        intro vf pf hR
        have e26 : (vf 26) = .bool true ∧ (pf 26) = [] := hR 26 (by decide)
        refine Or.inl ⟨want_of (congrArg some e26.1) rfl, ?_⟩
        refine rq_less (sx 7 rfl (sub_nil _)) (List.sublist_append_right _ _) ?_
        exact rq_v (rv_ev rfl)
       ·
        intro vf pf hR
        have e26 : (vf 26) = .bool true ∧ (pf 26) = [] := hR 26 (by decide)
        refine Or.inl ⟨want_of (congrArg some e26.1) rfl, ?_⟩
        refine rq_less (sx 8 rfl (sub_nil _)) (List.sublist_append_right _ _) ?_
        exact rq_v (rv_ev rfl)
       ·
        intro vf pf hR
        have e26 : (vf 26) = .bool true ∧ (pf 26) = [] := hR 26 (by decide)
        have e28 : (vf 28) = .int .i64 (s0 / (7 + (4 * d.T))) ∧ (pf 28) = [] := hR 28 (by decide)
        have e29 : (vf 29) = .int .i64 ((ks.getD 0 0) / (7 + (4 * d.T))) ∧ (pf 29) = [] := hR 29 (by decide)
        refine Or.inl ⟨want_of (congrArg some e26.1) rfl, ?_⟩
        refine rq_less (sx 102 (congrArg some e28.1) (sx 103 (congrArg some e29.1) (sub_nil _))) (List.sublist_append_right _ _) ?_
        exact rq_buildSlice (z := .int .i64 0) (s := 1) (cs := ([s0 / (7 + (4 * d.T)), (ks.getD 0 0) / (7 + (4 * d.T))].map (Value.int .i64))) rfl Try.underlying26 (by kernel_rfl) (by decide) rfl (by kernel_rfl) rfl
       ·
        intro vf pf hR
        have e26 : (vf 26) = .bool true ∧ (pf 26) = [] := hR 26 (by decide)
        refine Or.inl ⟨want_of (congrArg some e26.1) rfl, ?_⟩
        refine rq_less (sx 9 rfl (sub_nil _)) (List.sublist_append_right _ _) ?_
        exact rq_v (rv_loadN (cs := [.int .i64 1, .int .i64 0, .int .i64 0, .slice (some ⟨g9, 0, none⟩) 1 1]) rfl (by kernel_rfl) (by kernel_rfl) rfl rfl (box_part 7 rfl 0 rfl))
       ·
        intro vf pf hR
        have e26 : (vf 26) = .bool true ∧ (pf 26) = [] := hR 26 (by decide)
        have e27 : (vf 27) = .agg #[.int .i64 d.W, .int .i64 d.H, .int .i64 d.T, .int .i64 d.R] ∧ (pf 27) = [] := hR 27 (by decide)
        have e30 : IsRow_o 3 1 2 ([s0 / (7 + (4 * d.T)), (ks.getD 0 0) / (7 + (4 * d.T))].map (Value.int .i64)) (vf 30) (pf 30) := hR 30 (by decide)
        obtain ⟨g23, v30, p30⟩ := e30
        have e31 : (vf 31) = .agg #[.int .i64 1, .int .i64 0, .int .i64 0, .slice (some ⟨g9, 0, none⟩) 1 1] ∧ (pf 31) = [] := hR 31 (by decide)
        refine Or.inl ⟨want_of (congrArg some e26.1) rfl, ?_⟩
        refine rq_less (l' := [rowE 3 1 (.slice (some ⟨g23, 0, none⟩) 2 2) 2 ([s0 / (7 + (4 * d.T)), (ks.getD 0 0) / (7 + (4 * d.T))].map (Value.int .i64)), rowE 28 2 (.slice (some ⟨g17, 0, none⟩) 2 2) 2 ([r.nv, r.fv, r.nv, r.fv]), rowE 44 4 (.slice (some ⟨g16, 0, none⟩) 2 2) 2 ([.int .i64 1, .int .i64 0, .int .i64 0, .slice (some ⟨g9, 0, none⟩) 1 1, .int .i64 1, .int .i64 0, .int .i64 0, .slice (some ⟨g9, 0, none⟩) 1 1]), rowE 3 1 (.slice (some ⟨g15, 0, none⟩) 2 2) 2 ([s0 / (7 + (4 * d.T)), (ks.getD 0 0) / (7 + (4 * d.T))].map (Value.int .i64)), rowE 28 2 (.slice (some ⟨g13, 0, none⟩) 1 1) 1 ([r.nv, r.fv]), rowE 44 4 (.slice (some ⟨g12, 0, none⟩) 1 1) 1 ([.int .i64 1, .int .i64 0, .int .i64 0, .slice (some ⟨g9, 0, none⟩) 1 1]), rowE 3 1 (.slice (some ⟨g11, 0, none⟩) 2 2) 2 ([s0 / (7 + (4 * d.T)), (ks.getD 0 0) / (7 + (4 * d.T))].map (Value.int .i64)), rowE 41 2 (.slice (some ⟨g9, 0, none⟩) 1 1) 1 ([1, (ks.getD 0 0) % (7 + (4 * d.T))].map (Value.int .i64)), boxE b10 #[.int .i64 1, .int .i64 0, .int .i64 0, .slice (some ⟨g9, 0, none⟩) 1 1] 44, boxE b6 #[r.nv, r.fv] 28, boxE b5 #[.int .i64 d.W, .int .i64 d.H, .int .i64 d.T, .int .i64 d.R] 25, rtE r, rowE 3 1 sv ks.length (ks.map (Value.int .i64))]) (sx 101 (congrArg some e27.1) (sx 104 (congrArg some v30) (sx 105 (congrArg some e31.1) (sub_nil _)))) (by first | (simp only [p30, v30, e26.2, e27.2, e31.2, List.flatMap_cons, List.flatMap_nil, List.append_nil, List.nil_append, List.cons_append]; exact List.Sublist.refl _) | simp [p30, v30, e26.2, e27.2, e31.2]) ?_
        exact rq_call (by kernel_rfl) rfl (fun w hm => SinkNodes_ret d [s0 / (7 + 4 * d.T), (ks.getD 0 0) / (7 + 4 * d.T)] _ (Cn.mk 1 0 0 (.slice (some ⟨g9, 0, none⟩) 1 1) [Pn.mk 1 ((ks.getD 0 0) % (7 + 4 * d.T))]) w (rd_row 0 rfl w hm) (by simp) (rd_row 7 rfl w hm) (by simp) (pn_snk hx9) (pn_in hin9))
       ·
        intro vf pf hR
        have e26 : (vf 26) = .bool true ∧ (pf 26) = [] := hR 26 (by decide)
        have e32 : (fun v' post => post = [rowE 3 1 v' ([inPinI d ((ks.getD 0 0) / (7 + 4 * d.T)) ((ks.getD 0 0) % (7 + 4 * d.T))]).length (([inPinI d ((ks.getD 0 0) / (7 + 4 * d.T)) ((ks.getD 0 0) % (7 + 4 * d.T))]).map (Value.int .i64))]) (vf 32) (pf 32) := hR 32 (by decide)
        obtain ⟨v24, v32⟩ : ∃ x, vf 32 = x := ⟨_, rfl⟩
        obtain ⟨p25, p32⟩ : ∃ x, pf 32 = x := ⟨_, rfl⟩
        have hR26 := e32
        rw [v32, p32] at hR26
        subst hR26
        refine Or.inl ⟨want_of (congrArg some e26.1) rfl, ?_⟩
        refine rq_less (l' := [rowE 3 1 v24 (([inPinI d ((ks.getD 0 0) / (7 + 4 * d.T)) ((ks.getD 0 0) % (7 + 4 * d.T))]).length) (([inPinI d ((ks.getD 0 0) / (7 + 4 * d.T)) ((ks.getD 0 0) % (7 + 4 * d.T))]).map (Value.int .i64)), rowE 28 2 (.slice (some ⟨g17, 0, none⟩) 2 2) 2 ([r.nv, r.fv, r.nv, r.fv]), rowE 44 4 (.slice (some ⟨g16, 0, none⟩) 2 2) 2 ([.int .i64 1, .int .i64 0, .int .i64 0, .slice (some ⟨g9, 0, none⟩) 1 1, .int .i64 1, .int .i64 0, .int .i64 0, .slice (some ⟨g9, 0, none⟩) 1 1]), rowE 3 1 (.slice (some ⟨g15, 0, none⟩) 2 2) 2 ([s0 / (7 + (4 * d.T)), (ks.getD 0 0) / (7 + (4 * d.T))].map (Value.int .i64)), rowE 28 2 (.slice (some ⟨g13, 0, none⟩) 1 1) 1 ([r.nv, r.fv]), rowE 44 4 (.slice (some ⟨g12, 0, none⟩) 1 1) 1 ([.int .i64 1, .int .i64 0, .int .i64 0, .slice (some ⟨g9, 0, none⟩) 1 1]), rowE 3 1 (.slice (some ⟨g11, 0, none⟩) 2 2) 2 ([s0 / (7 + (4 * d.T)), (ks.getD 0 0) / (7 + (4 * d.T))].map (Value.int .i64)), rowE 41 2 (.slice (some ⟨g9, 0, none⟩) 1 1) 1 ([1, (ks.getD 0 0) % (7 + (4 * d.T))].map (Value.int .i64)), boxE b10 #[.int .i64 1, .int .i64 0, .int .i64 0, .slice (some ⟨g9, 0, none⟩) 1 1] 44, boxE b6 #[r.nv, r.fv] 28, boxE b5 #[.int .i64 d.W, .int .i64 d.H, .int .i64 d.T, .int .i64 d.R] 25, rtE r, rowE 3 1 sv ks.length (ks.map (Value.int .i64))]) (sx 106 (congrArg some v32) (sub_nil _)) (by first | (simp only [p32, v32, e26.2, List.flatMap_cons, List.flatMap_nil, List.append_nil, List.nil_append, List.cons_append]; exact List.Sublist.refl _) | simp [p32, v32, e26.2]) ?_
        exact (rq_call (by kernel_rfl) rfl (fun w hm => ret_ans (lawsGet_ans ([inPinI d ((ks.getD 0 0) / (7 + 4 * d.T)) ((ks.getD 0 0) % (7 + 4 * d.T))]) 0 _ w ((rd_row 0 rfl) w hm) (by first | omega | simp))))
       ·
        intro vf pf hR
        have e26 : (vf 26) = .bool true ∧ (pf 26) = [] := hR 26 (by decide)
        refine Or.inl ⟨want_of (congrArg some e26.1) rfl, ?_⟩
        refine rq_less (sx 5 rfl (sub_nil _)) (List.sublist_append_right _ _) ?_
        exact rq_v (rv_ev rfl)
       ·
        intro vf pf hR
        have e26 : (vf 26) = .bool true ∧ (pf 26) = [] := hR 26 (by decide)
        have e34 : (vf 34) = sv ∧ (pf 34) = [] := hR 34 (by decide)
        refine Or.inl ⟨want_of (congrArg some e26.1) rfl, ?_⟩
        refine rq_less (sx 108 (congrArg some e34.1) (sub_nil _)) (List.sublist_append_right _ _) ?_
        exact rq_v (rv_index (s := 1) rfl Try.underlying26 (by kernel_rfl) rfl rfl (rd_row 11 rfl) (by omega) (by first | omega | (simp only [List.length_set]; omega)))
       ·
        intro vf pf hR
        have e26 : (vf 26) = .bool true ∧ (pf 26) = [] := hR 26 (by decide)
        have e35 : (vf 35) = elP sv ((0 : Int).toNat * 1) ∧ (pf 35) = [] := hR 35 (by decide)
        refine Or.inl ⟨want_of (congrArg some e26.1) rfl, ?_⟩
        refine rq_less (sx 109 (congrArg some e35.1) (sub_nil _)) (List.sublist_append_right _ _) ?_
        exact rq_v (rv_loadEl (u := .int .i64 (ks.getD 0 0)) rfl (by kernel_rfl) rfl (rd_row 11 rfl) (ints_at1 (show _ < ks.length by first | omega | (simp only [List.length_set]; omega))))
       ·
        intro vf pf hR
        have e26 : (vf 26) = .bool true ∧ (pf 26) = [] := hR 26 (by decide)
        have e32 : (fun v' post => post = [rowE 3 1 v' ([inPinI d ((ks.getD 0 0) / (7 + 4 * d.T)) ((ks.getD 0 0) % (7 + 4 * d.T))]).length (([inPinI d ((ks.getD 0 0) / (7 + 4 * d.T)) ((ks.getD 0 0) % (7 + 4 * d.T))]).map (Value.int .i64))]) (vf 32) (pf 32) := hR 32 (by decide)
        obtain ⟨v24, v32⟩ : ∃ x, vf 32 = x := ⟨_, rfl⟩
        obtain ⟨p25, p32⟩ : ∃ x, pf 32 = x := ⟨_, rfl⟩
        have hR26 := e32
        rw [v32, p32] at hR26
        subst hR26
        have e33 : (vf 33) = .int .i64 (getI ([inPinI d ((ks.getD 0 0) / (7 + 4 * d.T)) ((ks.getD 0 0) % (7 + 4 * d.T))]) 0) ∧ (pf 33) = [] := hR 33 (by decide)
        have e36 : (vf 36) = .int .i64 (ks.getD 0 0) ∧ (pf 36) = [] := hR 36 (by decide)
        refine Or.inl ⟨want_of (congrArg some e26.1) rfl, ?_⟩
        refine rq_less (l' := [rowE 3 1 v24 (([inPinI d ((ks.getD 0 0) / (7 + 4 * d.T)) ((ks.getD 0 0) % (7 + 4 * d.T))]).length) (([inPinI d ((ks.getD 0 0) / (7 + 4 * d.T)) ((ks.getD 0 0) % (7 + 4 * d.T))]).map (Value.int .i64)), rowE 28 2 (.slice (some ⟨g17, 0, none⟩) 2 2) 2 ([r.nv, r.fv, r.nv, r.fv]), rowE 44 4 (.slice (some ⟨g16, 0, none⟩) 2 2) 2 ([.int .i64 1, .int .i64 0, .int .i64 0, .slice (some ⟨g9, 0, none⟩) 1 1, .int .i64 1, .int .i64 0, .int .i64 0, .slice (some ⟨g9, 0, none⟩) 1 1]), rowE 3 1 (.slice (some ⟨g15, 0, none⟩) 2 2) 2 ([s0 / (7 + (4 * d.T)), (ks.getD 0 0) / (7 + (4 * d.T))].map (Value.int .i64)), rowE 28 2 (.slice (some ⟨g13, 0, none⟩) 1 1) 1 ([r.nv, r.fv]), rowE 44 4 (.slice (some ⟨g12, 0, none⟩) 1 1) 1 ([.int .i64 1, .int .i64 0, .int .i64 0, .slice (some ⟨g9, 0, none⟩) 1 1]), rowE 3 1 (.slice (some ⟨g11, 0, none⟩) 2 2) 2 ([s0 / (7 + (4 * d.T)), (ks.getD 0 0) / (7 + (4 * d.T))].map (Value.int .i64)), rowE 41 2 (.slice (some ⟨g9, 0, none⟩) 1 1) 1 ([1, (ks.getD 0 0) % (7 + (4 * d.T))].map (Value.int .i64)), boxE b10 #[.int .i64 1, .int .i64 0, .int .i64 0, .slice (some ⟨g9, 0, none⟩) 1 1] 44, boxE b6 #[r.nv, r.fv] 28, boxE b5 #[.int .i64 d.W, .int .i64 d.H, .int .i64 d.T, .int .i64 d.R] 25, rtE r, rowE 3 1 sv ks.length (ks.map (Value.int .i64))]) (sx 107 (congrArg some e33.1) (sx 110 (congrArg some e36.1) (sub_nil _))) (by first | (simp only [p32, v32, e26.2, e33.2, e36.2, List.flatMap_cons, List.flatMap_nil, List.append_nil, List.nil_append, List.cons_append]; exact List.Sublist.refl _) | simp [p32, v32, e26.2, e33.2, e36.2]) ?_
        exact rq_mono (rq_v (rv_cmp rfl rfl rfl rfl)) (fun _ _ h => ⟨h.1.trans (congrArg Value.bool hb27), h.2⟩)
       ·
        intro vf pf hR
        have e26 : (vf 26) = .bool true ∧ (pf 26) = [] := hR 26 (by decide)
        have e37 : (vf 37) = .bool true ∧ (pf 37) = [] := hR 37 (by decide)
        refine Or.inl ⟨rfl, ?_⟩
        refine rq_less (sx 100 (congrArg some e26.1) (sx 111 (congrArg some e37.1) (sub_nil _))) (List.sublist_append_right _ _) ?_
        exact rq_v (rv_ev rfl)
      ·
       intro vf pf hR
       have e20 : IsRow_o 3 1 2 ([s0 / (7 + (4 * d.T)), (ks.getD 0 0) / (7 + (4 * d.T))].map (Value.int .i64)) (vf 20) (pf 20) := hR 20 (by decide)
       obtain ⟨g21, v20, p20⟩ := e20
       have e30 : IsRow_o 3 1 2 ([s0 / (7 + (4 * d.T)), (ks.getD 0 0) / (7 + (4 * d.T))].map (Value.int .i64)) (vf 30) (pf 30) := hR 30 (by decide)
       obtain ⟨g23, v30, p30⟩ := e30
       have e32 : (fun v' post => post = [rowE 3 1 v' ([inPinI d ((ks.getD 0 0) / (7 + 4 * d.T)) ((ks.getD 0 0) % (7 + 4 * d.T))]).length (([inPinI d ((ks.getD 0 0) / (7 + 4 * d.T)) ((ks.getD 0 0) % (7 + 4 * d.T))]).map (Value.int .i64))]) (vf 32) (pf 32) := hR 32 (by decide)
       obtain ⟨v24, v32⟩ : ∃ x, vf 32 = x := ⟨_, rfl⟩
       obtain ⟨p25, p32⟩ : ∃ x, pf 32 = x := ⟨_, rfl⟩
       have hR26 := e32
       rw [v32, p32] at hR26
       subst hR26
       have e38 : (vf 38) = .bool true ∧ (pf 38) = [] := hR 38 (by decide)
       have q0 : (vf 0) = .bool true ∧ (pf 0) = [] := hR 0 (by decide)
       have q1 : (vf 1) = sv ∧ (pf 1) = [] := hR 1 (by decide)
       have q2 : (vf 2) = .int .i64 (ks.length : Int) ∧ (pf 2) = [] := hR 2 (by decide)
       have q3 : (vf 3) = .bool true ∧ (pf 3) = [] := hR 3 (by decide)
       have q4 : (vf 4) = .bool true ∧ (pf 4) = [] := hR 4 (by decide)
       have q5 : (vf 5) = .bool true ∧ (pf 5) = [] := hR 5 (by decide)
       have q6 : (vf 6) = .bool false ∧ (pf 6) = [] := hR 6 (by decide)
       have q7 : (vf 7) = .bool true ∧ (pf 7) = [] := hR 7 (by decide)
       have q8 : (vf 8) = .bool true ∧ (pf 8) = [] := hR 8 (by decide)
       have q9 : (vf 9) = .bool true ∧ (pf 9) = [] := hR 9 (by decide)
       have q10 : (vf 10) = .agg #[.int .i64 d.W, .int .i64 d.H, .int .i64 d.T, .int .i64 d.R] ∧ (pf 10) = [] := hR 10 (by decide)
       have q11 : (vf 11) = .int .i64 s0 ∧ (pf 11) = [] := hR 11 (by decide)
       have q12 : (vf 12) = sv ∧ (pf 12) = [] := hR 12 (by decide)
       have q13 : (vf 13) = .agg #[r.nv, r.fv] ∧ (pf 13) = [] := hR 13 (by decide)
       have q14 : (vf 14) = .bool true ∧ (pf 14) = [] := hR 14 (by decide)
       have q15 : (vf 15) = .bool true ∧ (pf 15) = [] := hR 15 (by decide)
       have q16 : (vf 16) = .bool true ∧ (pf 16) = [] := hR 16 (by decide)
       have q17 : (vf 17) = .agg #[.int .i64 d.W, .int .i64 d.H, .int .i64 d.T, .int .i64 d.R] ∧ (pf 17) = [] := hR 17 (by decide)
       have q18 : (vf 18) = .int .i64 (s0 / (7 + (4 * d.T))) ∧ (pf 18) = [] := hR 18 (by decide)
       have q19 : (vf 19) = .int .i64 ((ks.getD 0 0) / (7 + (4 * d.T))) ∧ (pf 19) = [] := hR 19 (by decide)
       have q21 : (vf 21) = .agg #[.int .i64 1, .int .i64 0, .int .i64 0, .slice (some ⟨g9, 0, none⟩) 1 1] ∧ (pf 21) = [] := hR 21 (by decide)
       have q22 : (vf 22) = .int .i64 (outPinI d (s0 / (7 + 4 * d.T)) 0) ∧ (pf 22) = [] := hR 22 (by decide)
       have q23 : (vf 23) = .int .i64 s0 ∧ (pf 23) = [] := hR 23 (by decide)
       have q24 : (vf 24) = .bool true ∧ (pf 24) = [] := hR 24 (by decide)
       have q25 : (vf 25) = .bool true ∧ (pf 25) = [] := hR 25 (by decide)
       have q26 : (vf 26) = .bool true ∧ (pf 26) = [] := hR 26 (by decide)
       have q27 : (vf 27) = .agg #[.int .i64 d.W, .int .i64 d.H, .int .i64 d.T, .int .i64 d.R] ∧ (pf 27) = [] := hR 27 (by decide)
       have q28 : (vf 28) = .int .i64 (s0 / (7 + (4 * d.T))) ∧ (pf 28) = [] := hR 28 (by decide)
       have q29 : (vf 29) = .int .i64 ((ks.getD 0 0) / (7 + (4 * d.T))) ∧ (pf 29) = [] := hR 29 (by decide)
       have q31 : (vf 31) = .agg #[.int .i64 1, .int .i64 0, .int .i64 0, .slice (some ⟨g9, 0, none⟩) 1 1] ∧ (pf 31) = [] := hR 31 (by decide)
       have q33 : (vf 33) = .int .i64 (getI ([inPinI d ((ks.getD 0 0) / (7 + 4 * d.T)) ((ks.getD 0 0) % (7 + 4 * d.T))]) 0) ∧ (pf 33) = [] := hR 33 (by decide)
       have q34 : (vf 34) = sv ∧ (pf 34) = [] := hR 34 (by decide)
       have q35 : (vf 35) = elP sv ((0 : Int).toNat * 1) ∧ (pf 35) = [] := hR 35 (by decide)
       have q36 : (vf 36) = .int .i64 (ks.getD 0 0) ∧ (pf 36) = [] := hR 36 (by decide)
       have q37 : (vf 37) = .bool true ∧ (pf 37) = [] := hR 37 (by decide)
       have q38 : (vf 38) = .bool true ∧ (pf 38) = [] := hR 38 (by decide)
       refine hl_less (l' := [rowE 3 1 (.slice (some ⟨g21, 0, none⟩) 2 2) 2 ([s0 / (7 + (4 * d.T)), (ks.getD 0 0) / (7 + (4 * d.T))].map (Value.int .i64)), rowE 3 1 (.slice (some ⟨g23, 0, none⟩) 2 2) 2 ([s0 / (7 + (4 * d.T)), (ks.getD 0 0) / (7 + (4 * d.T))].map (Value.int .i64)), rowE 3 1 v24 (([inPinI d ((ks.getD 0 0) / (7 + 4 * d.T)) ((ks.getD 0 0) % (7 + 4 * d.T))]).length) (([inPinI d ((ks.getD 0 0) / (7 + 4 * d.T)) ((ks.getD 0 0) % (7 + 4 * d.T))]).map (Value.int .i64)), rowE 28 2 (.slice (some ⟨g17, 0, none⟩) 2 2) 2 ([r.nv, r.fv, r.nv, r.fv]), rowE 44 4 (.slice (some ⟨g16, 0, none⟩) 2 2) 2 ([.int .i64 1, .int .i64 0, .int .i64 0, .slice (some ⟨g9, 0, none⟩) 1 1, .int .i64 1, .int .i64 0, .int .i64 0, .slice (some ⟨g9, 0, none⟩) 1 1]), rowE 3 1 (.slice (some ⟨g15, 0, none⟩) 2 2) 2 ([s0 / (7 + (4 * d.T)), (ks.getD 0 0) / (7 + (4 * d.T))].map (Value.int .i64)), rowE 28 2 (.slice (some ⟨g13, 0, none⟩) 1 1) 1 ([r.nv, r.fv]), rowE 44 4 (.slice (some ⟨g12, 0, none⟩) 1 1) 1 ([.int .i64 1, .int .i64 0, .int .i64 0, .slice (some ⟨g9, 0, none⟩) 1 1]), rowE 3 1 (.slice (some ⟨g11, 0, none⟩) 2 2) 2 ([s0 / (7 + (4 * d.T)), (ks.getD 0 0) / (7 + (4 * d.T))].map (Value.int .i64)), rowE 41 2 (.slice (some ⟨g9, 0, none⟩) 1 1) 1 ([1, (ks.getD 0 0) % (7 + (4 * d.T))].map (Value.int .i64)), boxE b10 #[.int .i64 1, .int .i64 0, .int .i64 0, .slice (some ⟨g9, 0, none⟩) 1 1] 44, boxE b6 #[r.nv, r.fv] 28, boxE b5 #[.int .i64 d.W, .int .i64 d.H, .int .i64 d.T, .int .i64 d.R] 25, rtE r, rowE 3 1 sv ks.length (ks.map (Value.int .i64))]) (sx 0 rfl (sx 2 rfl (sx 3 rfl (sx 4 rfl (sx 5 rfl (sx 6 rfl (sx 7 rfl (sx 8 rfl (sx 9 rfl (sx 10 rfl (sx 11 rfl (sx 13 rfl (sx 23 rfl (sx 112 (congrArg some e38.1) (sub_nil _))))))))))))))) (by first | (simp only [p20, v20, p30, v30, p32, v32, q0.2, q1.2, q2.2, q3.2, q4.2, q5.2, q6.2, q7.2, q8.2, q9.2, q10.2, q11.2, q12.2, q13.2, q14.2, q15.2, q16.2, q17.2, q18.2, q19.2, q21.2, q22.2, q23.2, q24.2, q25.2, q26.2, q27.2, q28.2, q29.2, q31.2, q33.2, q34.2, q35.2, q36.2, q37.2, q38.2, List.flatMap_cons, List.flatMap_nil, List.append_nil, List.nil_append, List.cons_append]; exact List.Sublist.refl _) | simp [p20, v20, p30, v30, p32, v32, q0.2, q1.2, q2.2, q3.2, q4.2, q5.2, q6.2, q7.2, q8.2, q9.2, q10.2, q11.2, q12.2, q13.2, q14.2, q15.2, q16.2, q17.2, q18.2, q19.2, q21.2, q22.2, q23.2, q24.2, q25.2, q26.2, q27.2, q28.2, q29.2, q31.2, q33.2, q34.2, q35.2, q36.2, q37.2, q38.2]) ?_
       simp only [List.drop_succ_cons, List.drop_zero]
       refine hl_v rfl rfl rfl (rv_ev rfl) ?_
       refine hl_less (sx 0 rfl (sx 2 rfl (sx 3 rfl (sx 4 rfl (sx 5 rfl (sx 6 rfl (sx 7 rfl (sx 8 rfl (sx 9 rfl (sx 10 rfl (sx 11 rfl (sx 13 rfl (sx 23 rfl (sub_nil _)))))))))))))) (.refl _) ?_
       refine hl_nil ?_
       refine hq_then ?_
       refine hc_ret ?_
       exact hq_ans rfl rfl rfl
     ·
      have hk1 : ¬ ks.length = 1 := by
        have h8 : okRs d r.ns [inPinI d ((ks.getD 0 0) / (7 + 4 * d.T)) ((ks.getD 0 0) % (7 + 4 * d.T))] 1 = false := h14
        rw [hone] at h8
        simpa using h8
      refine hl_v rfl rfl rfl (rv_ev rfl) ?_
      refine hl_less (sx 0 rfl (sx 2 rfl (sx 3 rfl (sx 4 rfl (sx 5 rfl (sx 6 rfl (sx 7 rfl (sx 8 rfl (sx 9 rfl (sx 10 rfl (sx 13 rfl (sx 23 rfl (sub_nil _))))))))))))) (.refl _) ?_
      refine hl_nil ?_
      refine hq_then ?_
      refine hc_seq ?_
      refine hc_region ?_
      refine hl_v rfl rfl rfl (rv_loadN (cs := [.int .i64 d.W, .int .i64 d.H, .int .i64 d.T, .int .i64 d.R]) rfl (by kernel_rfl) (by kernel_rfl) rfl rfl (box_part 6 rfl 0 rfl)) ?_
      refine hl_v rfl rfl rfl (rv_ev rfl) ?_
      refine hl_v rfl rfl rfl (rv_ev rfl) ?_
      refine hl_row rfl rfl rfl (rq_buildSlice (z := .int .i64 0) (s := 1) (cs := ([s0 / (7 + (4 * d.T)), (ks.getD 0 0) / (7 + (4 * d.T))].map (Value.int .i64))) rfl Try.underlying26 (by kernel_rfl) (by decide) rfl (by kernel_rfl) rfl) ?_
      intro g28
      refine hl_v rfl rfl rfl (rv_loadN (cs := [.int .i64 1, .int .i64 0, .int .i64 0, .slice (some ⟨g9, 0, none⟩) 1 1]) rfl (by kernel_rfl) (by kernel_rfl) rfl rfl (box_part 5 rfl 0 rfl)) ?_
      refine hl_v rfl rfl rfl (rv_loadN (cs := [.int .i64 1, .int .i64 0, .int .i64 0, .slice (some ⟨g9, 0, none⟩) 1 1]) rfl (by kernel_rfl) (by kernel_rfl) rfl rfl (box_part 5 rfl 0 rfl)) ?_
      refine hl_row rfl rfl rfl (rq_buildSlice (z := .agg #[.int .i64 0, .int .i64 0, .int .i64 0, .slice none 0 0]) (s := 4) (cs := [.int .i64 1, .int .i64 0, .int .i64 0, .slice (some ⟨g9, 0, none⟩) 1 1, .int .i64 1, .int .i64 0, .int .i64 0, .slice (some ⟨g9, 0, none⟩) 1 1]) rfl Try.underlying46 (by kernel_rfl) (by decide) rfl (by kernel_rfl) rfl) ?_
      intro g29
      refine hl_v rfl rfl rfl (rv_loadN (cs := [r.nv, r.fv]) rfl (by kernel_rfl) (by kernel_rfl) rfl rfl (box_part 7 rfl 0 rfl)) ?_
      refine hl_v rfl rfl rfl (rv_loadN (cs := [r.nv, r.fv]) rfl (by kernel_rfl) (by kernel_rfl) rfl rfl (box_part 7 rfl 0 rfl)) ?_
      refine hl_row rfl rfl rfl (rq_buildSlice (z := .agg #[.slice none 0 0, .slice none 0 0]) (s := 2) (cs := [r.nv, r.fv, r.nv, r.fv]) rfl Try.underlying47 (by kernel_rfl) (by decide) rfl (by kernel_rfl) rfl) ?_
      intro g30
      refine hl_callV rfl rfl rfl (rq_call (by kernel_rfl) rfl (fun w hm => ret_ans (RoutesOk_ans d [s0 / (7 + 4 * d.T), (ks.getD 0 0) / (7 + 4 * d.T)] _ (Cn.mk 1 0 0 (.slice (some ⟨g9, 0, none⟩) 1 1) [Pn.mk 1 ((ks.getD 0 0) % (7 + 4 * d.T))]) [(Cn.mk 1 0 0 (.slice (some ⟨g9, 0, none⟩) 1 1) [Pn.mk 1 ((ks.getD 0 0) % (7 + 4 * d.T))]), (Cn.mk 1 0 0 (.slice (some ⟨g9, 0, none⟩) 1 1) [Pn.mk 1 ((ks.getD 0 0) % (7 + 4 * d.T))])] _ r [r, r] _ ks w hd (rd_row 2 rfl w hm) (by simp) (rdscn_of (rd_row 1 rfl w hm) (c := (Cn.mk 1 0 0 (.slice (some ⟨g9, 0, none⟩) 1 1) [Pn.mk 1 ((ks.getD 0 0) % (7 + 4 * d.T))])) (rd_row 6 rfl w hm) (by simp)) (by simp) (by simp) (rdsrt_of (r := r) (rs := [r, r]) (rd_row 0 rfl w hm) (rt_rds 10 rfl w hm) (by simp)) rfl (by simp) (cn_ok (v := .slice (some ⟨g9, 0, none⟩) 1 1) (x := (ks.getD 0 0) % (7 + 4 * d.T)) (by simp) hx9) (pn_in hin9) hrt9))) ?_
      refine hl_bool (fun h31 => absurd ((okRs_two).symm.trans h31) (by decide)) (fun h31 => ?_)
      refine hl_v rfl rfl rfl (rv_ev rfl) ?_
      refine hl_less (sx 0 rfl (sx 2 rfl (sx 3 rfl (sx 4 rfl (sx 5 rfl (sx 6 rfl (sx 7 rfl (sx 8 rfl (sx 9 rfl (sx 10 rfl (sx 11 rfl (sx 13 rfl (sx 23 rfl (sub_nil _)))))))))))))) (.refl _) ?_
      refine hl_nil ?_
      refine hq_then ?_
      refine hc_seq ?_
      have hb32 : ((ks.length : Int) == 1) = false := beq_eq_false_iff_ne.2 (by omega)
      have hb33 : (okR d r.ns ks) = true := (okR_ks hrt)
      have hb35 : ((outPinI d (s0 / (7 + 4 * d.T)) 0) == s0) = true := beq_iff_eq.2 (by omega)
      have hb40 : ((getI ([inPinI d ((ks.getD 0 0) / (7 + 4 * d.T)) ((ks.getD 0 0) % (7 + 4 * d.T))]) 0) == (ks.getD 0 0)) = true := beq_iff_eq.2 (by omega)
      refine hc_draw (by kernel_rfl) 39 [0, 1, 2, 3, 4, 5, 6, 7, 8, 9, 10, 11, 12, 13, 14, 15, 16, 17, 18, 19, 20, 21, 22, 23, 24, 25, 26, 27, 28, 29, 30, 31, 32, 33, 34, 35, 36, 37, 38] (List.take 39 _) (List.drop 39 _) [[], [], [1], [2], [0, 3], [4], [5], [5, 6], [5, 7], [8], [9], [9], [9], [9], [9, 10, 11, 12, 13], [9, 14], [15], [16], [16], [16], [16, 18, 19], [16], [16, 17, 20, 21], [16], [16, 20, 22, 23], [16, 24], [25], [26], [26], [26], [26, 28, 29], [26], [26, 27, 30, 31], [26, 32], [26], [26, 34], [26, 35], [26, 32, 33, 36], [26, 37]] [74, 75, 76, 77, 78, 79, 80, 81, 82, 83, 84, 85, 86, 87, 88, 89, 90, 91, 92, 93, 94, 95, 96, 97, 98, 99, 100, 101, 102, 103, 104, 105, 106, 107, 108, 109, 110, 111, 112] (fun i_ vs_ v_ p_ => match i_ with | 0 => v_ = .bool false ∧ p_ = [] | 1 => v_ = sv ∧ p_ = [] | 2 => v_ = .int .i64 (ks.length : Int) ∧ p_ = [] | 3 => v_ = .bool false ∧ p_ = [] | 4 => v_ = .bool true ∧ p_ = [] | 5 => v_ = .bool true ∧ p_ = [] | 6 => v_ = .bool false ∧ p_ = [] | 7 => v_ = .bool true ∧ p_ = [] | 8 => v_ = .bool true ∧ p_ = [] | 9 => v_ = .bool true ∧ p_ = [] | 10 => v_ = .agg #[.int .i64 d.W, .int .i64 d.H, .int .i64 d.T, .int .i64 d.R] ∧ p_ = [] | 11 => v_ = .int .i64 s0 ∧ p_ = [] | 12 => v_ = sv ∧ p_ = [] | 13 => v_ = .agg #[r.nv, r.fv] ∧ p_ = [] | 14 => v_ = .bool true ∧ p_ = [] | 15 => v_ = .bool true ∧ p_ = [] | 16 => v_ = .bool true ∧ p_ = [] | 17 => v_ = .agg #[.int .i64 d.W, .int .i64 d.H, .int .i64 d.T, .int .i64 d.R] ∧ p_ = [] | 18 => v_ = .int .i64 (s0 / (7 + (4 * d.T))) ∧ p_ = [] | 19 => v_ = .int .i64 ((ks.getD 0 0) / (7 + (4 * d.T))) ∧ p_ = [] | 20 => IsRow_o 3 1 2 ([s0 / (7 + (4 * d.T)), (ks.getD 0 0) / (7 + (4 * d.T))].map (Value.int .i64)) v_ p_ | 21 => v_ = .agg #[.int .i64 1, .int .i64 0, .int .i64 0, .slice (some ⟨g9, 0, none⟩) 1 1] ∧ p_ = [] | 22 => v_ = .int .i64 (outPinI d (s0 / (7 + 4 * d.T)) 0) ∧ p_ = [] | 23 => v_ = .int .i64 s0 ∧ p_ = [] | 24 => v_ = .bool true ∧ p_ = [] | 25 => v_ = .bool true ∧ p_ = [] | 26 => v_ = .bool true ∧ p_ = [] | 27 => v_ = .agg #[.int .i64 d.W, .int .i64 d.H, .int .i64 d.T, .int .i64 d.R] ∧ p_ = [] | 28 => v_ = .int .i64 (s0 / (7 + (4 * d.T))) ∧ p_ = [] | 29 => v_ = .int .i64 ((ks.getD 0 0) / (7 + (4 * d.T))) ∧ p_ = [] | 30 => IsRow_o 3 1 2 ([s0 / (7 + (4 * d.T)), (ks.getD 0 0) / (7 + (4 * d.T))].map (Value.int .i64)) v_ p_ | 31 => v_ = .agg #[.int .i64 1, .int .i64 0, .int .i64 0, .slice (some ⟨g9, 0, none⟩) 1 1] ∧ p_ = [] | 32 => (fun v' post => post = [rowE 3 1 v' ([inPinI d ((ks.getD 0 0) / (7 + 4 * d.T)) ((ks.getD 0 0) % (7 + 4 * d.T))]).length (([inPinI d ((ks.getD 0 0) / (7 + 4 * d.T)) ((ks.getD 0 0) % (7 + 4 * d.T))]).map (Value.int .i64))]) v_ p_ | 33 => v_ = .int .i64 (getI ([inPinI d ((ks.getD 0 0) / (7 + 4 * d.T)) ((ks.getD 0 0) % (7 + 4 * d.T))]) 0) ∧ p_ = [] | 34 => v_ = sv ∧ p_ = [] | 35 => v_ = elP sv ((0 : Int).toNat * 1) ∧ p_ = [] | 36 => v_ = .int .i64 (ks.getD 0 0) ∧ p_ = [] | 37 => v_ = .bool true ∧ p_ = [] | 38 => v_ = .bool true ∧ p_ = [] | _ => True) (List.take_append_drop 39 _).symm (by kernel_rfl) (by kernel_rfl) rfl rfl ?_ ?_
      ·
       refine ⟨?_, ?_, ?_, ?_, ?_, ?_, ?_, ?_, ?_, ?_, ?_, ?_, ?_, ?_, ?_, ?_, ?_, ?_, ?_, ?_, ?_, ?_, ?_, ?_, ?_, ?_, ?_, ?_, ?_, ?_, ?_, ?_, ?_, ?_, ?_, ?_, ?_, ?_, ?_, trivial⟩
       ·
        intro vf pf hR
        refine Or.inl ⟨rfl, ?_⟩
        refine rq_less (sx 10 rfl (sub_nil _)) (List.sublist_append_right _ _) ?_
        exact rq_v (rv_ev rfl)
       ·
        intro vf pf hR
        refine Or.inl ⟨rfl, ?_⟩
        refine rq_less (sx 5 rfl (sub_nil _)) (List.sublist_append_right _ _) ?_
        exact rq_v (rv_ev rfl)
       ·
        intro vf pf hR
        have e1 : (vf 1) = sv ∧ (pf 1) = [] := hR 1 (by decide)
        refine Or.inl ⟨rfl, ?_⟩
        refine rq_less (sx 75 (congrArg some e1.1) (sub_nil _)) (List.sublist_append_right _ _) ?_
        exact rq_v (rv_len rfl Try.underlying26 rfl (rd_row 11 rfl))
       ·
        intro vf pf hR
        have e2 : (vf 2) = .int .i64 (ks.length : Int) ∧ (pf 2) = [] := hR 2 (by decide)
        refine Or.inl ⟨rfl, ?_⟩
        refine rq_less (sx 76 (congrArg some e2.1) (sub_nil _)) (List.sublist_append_right _ _) ?_
        exact rq_mono (rq_v (rv_cmp rfl rfl rfl rfl)) (fun _ _ h => ⟨h.1.trans (congrArg Value.bool hb32), h.2⟩)
       ·
        intro vf pf hR
        have e0 : (vf 0) = .bool false ∧ (pf 0) = [] := hR 0 (by decide)
        have e3 : (vf 3) = .bool false ∧ (pf 3) = [] := hR 3 (by decide)
        refine Or.inl ⟨rfl, ?_⟩
        refine rq_less (sx 74 (congrArg some e0.1) (sx 77 (congrArg some e3.1) (sub_nil _))) (List.sublist_append_right _ _) ?_
        exact rq_v (rv_beql (m := false) (n := false) rfl Try.underlying4 rfl rfl)
       ·
        intro vf pf hR
        have e4 : (vf 4) = .bool true ∧ (pf 4) = [] := hR 4 (by decide)
        refine Or.inl ⟨rfl, ?_⟩
        refine rq_less (sx 78 (congrArg some e4.1) (sub_nil _)) (List.sublist_append_right _ _) ?_
        exact rq_v (rv_ev rfl)
       ·
        intro vf pf hR
        have e5 : (vf 5) = .bool true ∧ (pf 5) = [] := hR 5 (by decide)
        refine Or.inl ⟨want_of (congrArg some e5.1) rfl, ?_⟩
        refine rq_less (sx 11 rfl (sub_nil _)) (List.sublist_append_right _ _) ?_
        exact rq_v (rv_ev rfl)
       ·
        intro vf pf hR
        have e5 : (vf 5) = .bool true ∧ (pf 5) = [] := hR 5 (by decide)
        have e6 : (vf 6) = .bool false ∧ (pf 6) = [] := hR 6 (by decide)
        refine Or.inl ⟨want_of (congrArg some e5.1) rfl, ?_⟩
        refine rq_less (sx 80 (congrArg some e6.1) (sub_nil _)) (List.sublist_append_right _ _) ?_
        exact rq_v (rv_ev rfl)
       ·
        intro vf pf hR
        have e5 : (vf 5) = .bool true ∧ (pf 5) = [] := hR 5 (by decide)
        have e7 : (vf 7) = .bool true ∧ (pf 7) = [] := hR 7 (by decide)
        refine Or.inl ⟨rfl, ?_⟩
        refine rq_less (sx 79 (congrArg some e5.1) (sx 81 (congrArg some e7.1) (sub_nil _))) (List.sublist_append_right _ _) ?_
        exact rq_v (rv_ev rfl)
       ·
        intro vf pf hR
        have e8 : (vf 8) = .bool true ∧ (pf 8) = [] := hR 8 (by decide)
        refine Or.inl ⟨rfl, ?_⟩
        refine rq_less (sx 82 (congrArg some e8.1) (sub_nil _)) (List.sublist_append_right _ _) ?_
        exact rq_v (rv_ev rfl)
       ·
        intro vf pf hR
        have e9 : (vf 9) = .bool true ∧ (pf 9) = [] := hR 9 (by decide)
        refine Or.inl ⟨want_of (congrArg some e9.1) rfl, ?_⟩
        refine rq_less (sx 3 rfl (sub_nil _)) (List.sublist_append_right _ _) ?_
        exact rq_v (rv_loadN (cs := [.int .i64 d.W, .int .i64 d.H, .int .i64 d.T, .int .i64 d.R]) rfl (by kernel_rfl) (by kernel_rfl) rfl rfl (box_part 9 rfl 0 rfl))
       ·
        intro vf pf hR
        have e9 : (vf 9) = .bool true ∧ (pf 9) = [] := hR 9 (by decide)
        refine Or.inl ⟨want_of (congrArg some e9.1) rfl, ?_⟩
        refine rq_less (sx 4 rfl (sub_nil _)) (List.sublist_append_right _ _) ?_
        exact rq_v (rv_ev rfl)
       ·
        intro vf pf hR
        have e9 : (vf 9) = .bool true ∧ (pf 9) = [] := hR 9 (by decide)
        refine Or.inl ⟨want_of (congrArg some e9.1) rfl, ?_⟩
        refine rq_less (sx 5 rfl (sub_nil _)) (List.sublist_append_right _ _) ?_
        exact rq_v (rv_ev rfl)
       ·
        intro vf pf hR
        have e9 : (vf 9) = .bool true ∧ (pf 9) = [] := hR 9 (by decide)
        refine Or.inl ⟨want_of (congrArg some e9.1) rfl, ?_⟩
        refine rq_less (sx 6 rfl (sub_nil _)) (List.sublist_append_right _ _) ?_
        exact rq_v (rv_loadN (cs := [r.nv, r.fv]) rfl (by kernel_rfl) (by kernel_rfl) rfl rfl (box_part 8 rfl 0 rfl))
       ·
        intro vf pf hR
        have e9 : (vf 9) = .bool true ∧ (pf 9) = [] := hR 9 (by decide)
        have e10 : (vf 10) = .agg #[.int .i64 d.W, .int .i64 d.H, .int .i64 d.T, .int .i64 d.R] ∧ (pf 10) = [] := hR 10 (by decide)
        have e11 : (vf 11) = .int .i64 s0 ∧ (pf 11) = [] := hR 11 (by decide)
        have e12 : (vf 12) = sv ∧ (pf 12) = [] := hR 12 (by decide)
        have e13 : (vf 13) = .agg #[r.nv, r.fv] ∧ (pf 13) = [] := hR 13 (by decide)
        refine Or.inl ⟨want_of (congrArg some e9.1) rfl, ?_⟩
        refine rq_less (sx 84 (congrArg some e10.1) (sx 85 (congrArg some e11.1) (sx 86 (congrArg some e12.1) (sx 87 (congrArg some e13.1) (sub_nil _))))) (List.sublist_append_right _ _) ?_
        exact rq_mono (rq_call (by kernel_rfl) rfl (fun w hm => ret_ans (RouteOk_ans d s0 r ks ks _ w hd hrt (rt_rds 10 rfl w hm).1 (rt_rds 10 rfl w hm).2 ((rd_row 11 rfl) w hm) (by first | omega | (simp only [List.length_append, List.length_drop, List.length_cons, List.length_nil]; omega)) (rng_of (kSmall hrt hd))))) (fun _ _ h => ⟨h.1.trans (congrArg Value.bool hb33), h.2⟩)
       ·
        intro vf pf hR
        have e9 : (vf 9) = .bool true ∧ (pf 9) = [] := hR 9 (by decide)
        have e14 : (vf 14) = .bool true ∧ (pf 14) = [] := hR 14 (by decide)
        refine Or.inl ⟨rfl, ?_⟩
        refine rq_less (sx 83 (congrArg some e9.1) (sx 88 (congrArg some e14.1) (sub_nil _))) (List.sublist_append_right _ _) ?_
        exact rq_v (rv_ev rfl)
       ·
        intro vf pf hR
        have e15 : (vf 15) = .bool true ∧ (pf 15) = [] := hR 15 (by decide)
        refine Or.inl ⟨rfl, ?_⟩
        refine rq_less (sx 89 (congrArg some e15.1) (sub_nil _)) (List.sublist_append_right _ _) ?_
        exact rq_v (rv_ev rfl)
       ·
        intro vf pf hR
        have e16 : (vf 16) = .bool true ∧ (pf 16) = [] := hR 16 (by decide)
        refine Or.inl ⟨want_of (congrArg some e16.1) rfl, ?_⟩
        refine rq_less (sx 3 rfl (sub_nil _)) (List.sublist_append_right _ _) ?_
        exact rq_v (rv_loadN (cs := [.int .i64 d.W, .int .i64 d.H, .int .i64 d.T, .int .i64 d.R]) rfl (by kernel_rfl) (by kernel_rfl) rfl rfl (box_part 9 rfl 0 rfl))
       ·
        intro vf pf hR
        have e16 : (vf 16) = .bool true ∧ (pf 16) = [] := hR 16 (by decide)
        refine Or.inl ⟨want_of (congrArg some e16.1) rfl, ?_⟩
        refine rq_less (sx 7 rfl (sub_nil _)) (List.sublist_append_right _ _) ?_
        exact rq_v (rv_ev rfl)
       ·
        intro vf pf hR
        have e16 : (vf 16) = .bool true ∧ (pf 16) = [] := hR 16 (by decide)
        refine Or.inl ⟨want_of (congrArg some e16.1) rfl, ?_⟩
        refine rq_less (sx 8 rfl (sub_nil _)) (List.sublist_append_right _ _) ?_
        exact rq_v (rv_ev rfl)
       ·
        intro vf pf hR
        have e16 : (vf 16) = .bool true ∧ (pf 16) = [] := hR 16 (by decide)
        have e18 : (vf 18) = .int .i64 (s0 / (7 + (4 * d.T))) ∧ (pf 18) = [] := hR 18 (by decide)
        have e19 : (vf 19) = .int .i64 ((ks.getD 0 0) / (7 + (4 * d.T))) ∧ (pf 19) = [] := hR 19 (by decide)
        refine Or.inl ⟨want_of (congrArg some e16.1) rfl, ?_⟩
        refine rq_less (sx 92 (congrArg some e18.1) (sx 93 (congrArg some e19.1) (sub_nil _))) (List.sublist_append_right _ _) ?_
        exact rq_buildSlice (z := .int .i64 0) (s := 1) (cs := ([s0 / (7 + (4 * d.T)), (ks.getD 0 0) / (7 + (4 * d.T))].map (Value.int .i64))) rfl Try.underlying26 (by kernel_rfl) (by decide) rfl (by kernel_rfl) rfl
       ·
        intro vf pf hR
        have e16 : (vf 16) = .bool true ∧ (pf 16) = [] := hR 16 (by decide)
        refine Or.inl ⟨want_of (congrArg some e16.1) rfl, ?_⟩
        refine rq_less (sx 9 rfl (sub_nil _)) (List.sublist_append_right _ _) ?_
        exact rq_v (rv_loadN (cs := [.int .i64 1, .int .i64 0, .int .i64 0, .slice (some ⟨g9, 0, none⟩) 1 1]) rfl (by kernel_rfl) (by kernel_rfl) rfl rfl (box_part 7 rfl 0 rfl))
       ·
        intro vf pf hR
        have e16 : (vf 16) = .bool true ∧ (pf 16) = [] := hR 16 (by decide)
        have e17 : (vf 17) = .agg #[.int .i64 d.W, .int .i64 d.H, .int .i64 d.T, .int .i64 d.R] ∧ (pf 17) = [] := hR 17 (by decide)
        have e20 : IsRow_o 3 1 2 ([s0 / (7 + (4 * d.T)), (ks.getD 0 0) / (7 + (4 * d.T))].map (Value.int .i64)) (vf 20) (pf 20) := hR 20 (by decide)
        obtain ⟨g34, v20, p20⟩ := e20
        have e21 : (vf 21) = .agg #[.int .i64 1, .int .i64 0, .int .i64 0, .slice (some ⟨g9, 0, none⟩) 1 1] ∧ (pf 21) = [] := hR 21 (by decide)
        refine Or.inl ⟨want_of (congrArg some e16.1) rfl, ?_⟩
        refine rq_less (l' := [rowE 3 1 (.slice (some ⟨g34, 0, none⟩) 2 2) 2 ([s0 / (7 + (4 * d.T)), (ks.getD 0 0) / (7 + (4 * d.T))].map (Value.int .i64)), rowE 28 2 (.slice (some ⟨g30, 0, none⟩) 2 2) 2 ([r.nv, r.fv, r.nv, r.fv]), rowE 44 4 (.slice (some ⟨g29, 0, none⟩) 2 2) 2 ([.int .i64 1, .int .i64 0, .int .i64 0, .slice (some ⟨g9, 0, none⟩) 1 1, .int .i64 1, .int .i64 0, .int .i64 0, .slice (some ⟨g9, 0, none⟩) 1 1]), rowE 3 1 (.slice (some ⟨g28, 0, none⟩) 2 2) 2 ([s0 / (7 + (4 * d.T)), (ks.getD 0 0) / (7 + (4 * d.T))].map (Value.int .i64)), rowE 28 2 (.slice (some ⟨g13, 0, none⟩) 1 1) 1 ([r.nv, r.fv]), rowE 44 4 (.slice (some ⟨g12, 0, none⟩) 1 1) 1 ([.int .i64 1, .int .i64 0, .int .i64 0, .slice (some ⟨g9, 0, none⟩) 1 1]), rowE 3 1 (.slice (some ⟨g11, 0, none⟩) 2 2) 2 ([s0 / (7 + (4 * d.T)), (ks.getD 0 0) / (7 + (4 * d.T))].map (Value.int .i64)), rowE 41 2 (.slice (some ⟨g9, 0, none⟩) 1 1) 1 ([1, (ks.getD 0 0) % (7 + (4 * d.T))].map (Value.int .i64)), boxE b10 #[.int .i64 1, .int .i64 0, .int .i64 0, .slice (some ⟨g9, 0, none⟩) 1 1] 44, boxE b6 #[r.nv, r.fv] 28, boxE b5 #[.int .i64 d.W, .int .i64 d.H, .int .i64 d.T, .int .i64 d.R] 25, rtE r, rowE 3 1 sv ks.length (ks.map (Value.int .i64))]) (sx 91 (congrArg some e17.1) (sx 94 (congrArg some v20) (sx 95 (congrArg some e21.1) (sub_nil _)))) (by first | (simp only [p20, v20, e16.2, e17.2, e21.2, List.flatMap_cons, List.flatMap_nil, List.append_nil, List.nil_append, List.cons_append]; exact List.Sublist.refl _) | simp [p20, v20, e16.2, e17.2, e21.2]) ?_
        exact (rq_call (by kernel_rfl) rfl (fun w hm => ret_ans (SourceNode_ans d [s0 / (7 + 4 * d.T), (ks.getD 0 0) / (7 + 4 * d.T)] _ (Cn.mk 1 0 0 (.slice (some ⟨g9, 0, none⟩) 1 1) [Pn.mk 1 ((ks.getD 0 0) % (7 + 4 * d.T))]) w (rd_row 0 rfl w hm) (by simp) pn_src (rd_row 7 rfl w hm : RdsW w (.slice (some ⟨g9, 0, none⟩) 1 1) 2 1 _).one)))
       ·
        intro vf pf hR
        have e16 : (vf 16) = .bool true ∧ (pf 16) = [] := hR 16 (by decide)
        refine Or.inl ⟨want_of (congrArg some e16.1) rfl, ?_⟩
        refine rq_less (sx 4 rfl (sub_nil _)) (List.sublist_append_right _ _) ?_
        exact rq_v (rv_ev rfl)
       ·
        intro vf pf hR
        have e16 : (vf 16) = .bool true ∧ (pf 16) = [] := hR 16 (by decide)
        have e20 : IsRow_o 3 1 2 ([s0 / (7 + (4 * d.T)), (ks.getD 0 0) / (7 + (4 * d.T))].map (Value.int .i64)) (vf 20) (pf 20) := hR 20 (by decide)
        obtain ⟨g34, v20, p20⟩ := e20
        have e22 : (vf 22) = .int .i64 (outPinI d (s0 / (7 + 4 * d.T)) 0) ∧ (pf 22) = [] := hR 22 (by decide)
        have e23 : (vf 23) = .int .i64 s0 ∧ (pf 23) = [] := hR 23 (by decide)
        refine Or.inl ⟨want_of (congrArg some e16.1) rfl, ?_⟩
        refine rq_less (l' := [rowE 3 1 (.slice (some ⟨g34, 0, none⟩) 2 2) 2 ([s0 / (7 + (4 * d.T)), (ks.getD 0 0) / (7 + (4 * d.T))].map (Value.int .i64)), rowE 28 2 (.slice (some ⟨g30, 0, none⟩) 2 2) 2 ([r.nv, r.fv, r.nv, r.fv]), rowE 44 4 (.slice (some ⟨g29, 0, none⟩) 2 2) 2 ([.int .i64 1, .int .i64 0, .int .i64 0, .slice (some ⟨g9, 0, none⟩) 1 1, .int .i64 1, .int .i64 0, .int .i64 0, .slice (some ⟨g9, 0, none⟩) 1 1]), rowE 3 1 (.slice (some ⟨g28, 0, none⟩) 2 2) 2 ([s0 / (7 + (4 * d.T)), (ks.getD 0 0) / (7 + (4 * d.T))].map (Value.int .i64)), rowE 28 2 (.slice (some ⟨g13, 0, none⟩) 1 1) 1 ([r.nv, r.fv]), rowE 44 4 (.slice (some ⟨g12, 0, none⟩) 1 1) 1 ([.int .i64 1, .int .i64 0, .int .i64 0, .slice (some ⟨g9, 0, none⟩) 1 1]), rowE 3 1 (.slice (some ⟨g11, 0, none⟩) 2 2) 2 ([s0 / (7 + (4 * d.T)), (ks.getD 0 0) / (7 + (4 * d.T))].map (Value.int .i64)), rowE 41 2 (.slice (some ⟨g9, 0, none⟩) 1 1) 1 ([1, (ks.getD 0 0) % (7 + (4 * d.T))].map (Value.int .i64)), boxE b10 #[.int .i64 1, .int .i64 0, .int .i64 0, .slice (some ⟨g9, 0, none⟩) 1 1] 44, boxE b6 #[r.nv, r.fv] 28, boxE b5 #[.int .i64 d.W, .int .i64 d.H, .int .i64 d.T, .int .i64 d.R] 25, rtE r, rowE 3 1 sv ks.length (ks.map (Value.int .i64))]) (sx 96 (congrArg some e22.1) (sx 97 (congrArg some e23.1) (sub_nil _))) (by first | (simp only [p20, v20, e16.2, e22.2, e23.2, List.flatMap_cons, List.flatMap_nil, List.append_nil, List.nil_append, List.cons_append]; exact List.Sublist.refl _) | simp [p20, v20, e16.2, e22.2, e23.2]) ?_
        exact rq_mono (rq_v (rv_cmp rfl rfl rfl rfl)) (fun _ _ h => ⟨h.1.trans (congrArg Value.bool hb35), h.2⟩)
       ·
        intro vf pf hR
        have e16 : (vf 16) = .bool true ∧ (pf 16) = [] := hR 16 (by decide)
        have e24 : (vf 24) = .bool true ∧ (pf 24) = [] := hR 24 (by decide)
        refine Or.inl ⟨rfl, ?_⟩
        refine rq_less (sx 90 (congrArg some e16.1) (sx 98 (congrArg some e24.1) (sub_nil _))) (List.sublist_append_right _ _) ?_
        exact rq_v (rv_ev rfl)
       ·
        intro vf pf hR
        have e25 : (vf 25) = .bool true ∧ (pf 25) = [] := hR 25 (by decide)
        refine Or.inl ⟨rfl, ?_⟩
        refine rq_less (sx 99 (congrArg some e25.1) (sub_nil _)) (List.sublist_append_right _ _) ?_
        exact rq_v (rv_ev rfl)
       ·
        intro vf pf hR
        have e26 : (vf 26) = .bool true ∧ (pf 26) = [] := hR 26 (by decide)
        refine Or.inl ⟨want_of (congrArg some e26.1) rfl, ?_⟩
        refine rq_less (sx 3 rfl (sub_nil _)) (List.sublist_append_right _ _) ?_
        exact rq_v (rv_loadN (cs := [.int .i64 d.W, .int .i64 d.H, .int .i64 d.T, .int .i64 d.R]) rfl (by kernel_rfl) (by kernel_rfl) rfl rfl (box_part 9 rfl 0 rfl))
       ·
        intro vf pf hR
        have e26 : (vf 26) = .bool true ∧ (pf 26) = [] := hR 26 (by decide)
        refine Or.inl ⟨want_of (congrArg some e26.1) rfl, ?_⟩
        refine rq_less (sx 7 rfl (sub_nil _)) (List.sublist_append_right _ _) ?_
        exact rq_v (rv_ev rfl)
       ·
        intro vf pf hR
        have e26 : (vf 26) = .bool true ∧ (pf 26) = [] := hR 26 (by decide)
        refine Or.inl ⟨want_of (congrArg some e26.1) rfl, ?_⟩
        refine rq_less (sx 8 rfl (sub_nil _)) (List.sublist_append_right _ _) ?_
        exact rq_v (rv_ev rfl)
       ·
        intro vf pf hR
        have e26 : (vf 26) = .bool true ∧ (pf 26) = [] := hR 26 (by decide)
        have e28 : (vf 28) = .int .i64 (s0 / (7 + (4 * d.T))) ∧ (pf 28) = [] := hR 28 (by decide)
        have e29 : (vf 29) = .int .i64 ((ks.getD 0 0) / (7 + (4 * d.T))) ∧ (pf 29) = [] := hR 29 (by decide)
        refine Or.inl ⟨want_of (congrArg some e26.1) rfl, ?_⟩
        refine rq_less (sx 102 (congrArg some e28.1) (sx 103 (congrArg some e29.1) (sub_nil _))) (List.sublist_append_right _ _) ?_
        exact rq_buildSlice (z := .int .i64 0) (s := 1) (cs := ([s0 / (7 + (4 * d.T)), (ks.getD 0 0) / (7 + (4 * d.T))].map (Value.int .i64))) rfl Try.underlying26 (by kernel_rfl) (by decide) rfl (by kernel_rfl) rfl
       ·
        intro vf pf hR
        have e26 : (vf 26) = .bool true ∧ (pf 26) = [] := hR 26 (by decide)
        refine Or.inl ⟨want_of (congrArg some e26.1) rfl, ?_⟩
        refine rq_less (sx 9 rfl (sub_nil _)) (List.sublist_append_right _ _) ?_
        exact rq_v (rv_loadN (cs := [.int .i64 1, .int .i64 0, .int .i64 0, .slice (some ⟨g9, 0, none⟩) 1 1]) rfl (by kernel_rfl) (by kernel_rfl) rfl rfl (box_part 7 rfl 0 rfl))
       ·
        intro vf pf hR
        have e26 : (vf 26) = .bool true ∧ (pf 26) = [] := hR 26 (by decide)
        have e27 : (vf 27) = .agg #[.int .i64 d.W, .int .i64 d.H, .int .i64 d.T, .int .i64 d.R] ∧ (pf 27) = [] := hR 27 (by decide)
        have e30 : IsRow_o 3 1 2 ([s0 / (7 + (4 * d.T)), (ks.getD 0 0) / (7 + (4 * d.T))].map (Value.int .i64)) (vf 30) (pf 30) := hR 30 (by decide)
        obtain ⟨g36, v30, p30⟩ := e30
        have e31 : (vf 31) = .agg #[.int .i64 1, .int .i64 0, .int .i64 0, .slice (some ⟨g9, 0, none⟩) 1 1] ∧ (pf 31) = [] := hR 31 (by decide)
        refine Or.inl ⟨want_of (congrArg some e26.1) rfl, ?_⟩
        refine rq_less (l' := [rowE 3 1 (.slice (some ⟨g36, 0, none⟩) 2 2) 2 ([s0 / (7 + (4 * d.T)), (ks.getD 0 0) / (7 + (4 * d.T))].map (Value.int .i64)), rowE 28 2 (.slice (some ⟨g30, 0, none⟩) 2 2) 2 ([r.nv, r.fv, r.nv, r.fv]), rowE 44 4 (.slice (some ⟨g29, 0, none⟩) 2 2) 2 ([.int .i64 1, .int .i64 0, .int .i64 0, .slice (some ⟨g9, 0, none⟩) 1 1, .int .i64 1, .int .i64 0, .int .i64 0, .slice (some ⟨g9, 0, none⟩) 1 1]), rowE 3 1 (.slice (some ⟨g28, 0, none⟩) 2 2) 2 ([s0 / (7 + (4 * d.T)), (ks.getD 0 0) / (7 + (4 * d.T))].map (Value.int .i64)), rowE 28 2 (.slice (some ⟨g13, 0, none⟩) 1 1) 1 ([r.nv, r.fv]), rowE 44 4 (.slice (some ⟨g12, 0, none⟩) 1 1) 1 ([.int .i64 1, .int .i64 0, .int .i64 0, .slice (some ⟨g9, 0, none⟩) 1 1]), rowE 3 1 (.slice (some ⟨g11, 0, none⟩) 2 2) 2 ([s0 / (7 + (4 * d.T)), (ks.getD 0 0) / (7 + (4 * d.T))].map (Value.int .i64)), rowE 41 2 (.slice (some ⟨g9, 0, none⟩) 1 1) 1 ([1, (ks.getD 0 0) % (7 + (4 * d.T))].map (Value.int .i64)), boxE b10 #[.int .i64 1, .int .i64 0, .int .i64 0, .slice (some ⟨g9, 0, none⟩) 1 1] 44, boxE b6 #[r.nv, r.fv] 28, boxE b5 #[.int .i64 d.W, .int .i64 d.H, .int .i64 d.T, .int .i64 d.R] 25, rtE r, rowE 3 1 sv ks.length (ks.map (Value.int .i64))]) (sx 101 (congrArg some e27.1) (sx 104 (congrArg some v30) (sx 105 (congrArg some e31.1) (sub_nil _)))) (by first | (simp only [p30, v30, e26.2, e27.2, e31.2, List.flatMap_cons, List.flatMap_nil, List.append_nil, List.nil_append, List.cons_append]; exact List.Sublist.refl _) | simp [p30, v30, e26.2, e27.2, e31.2]) ?_
        exact rq_call (by kernel_rfl) rfl (fun w hm => SinkNodes_ret d [s0 / (7 + 4 * d.T), (ks.getD 0 0) / (7 + 4 * d.T)] _ (Cn.mk 1 0 0 (.slice (some ⟨g9, 0, none⟩) 1 1) [Pn.mk 1 ((ks.getD 0 0) % (7 + 4 * d.T))]) w (rd_row 0 rfl w hm) (by simp) (rd_row 7 rfl w hm) (by simp) (pn_snk hx9) (pn_in hin9))
       ·
        intro vf pf hR
        have e26 : (vf 26) = .bool true ∧ (pf 26) = [] := hR 26 (by decide)
        have e32 : (fun v' post => post = [rowE 3 1 v' ([inPinI d ((ks.getD 0 0) / (7 + 4 * d.T)) ((ks.getD 0 0) % (7 + 4 * d.T))]).length (([inPinI d ((ks.getD 0 0) / (7 + 4 * d.T)) ((ks.getD 0 0) % (7 + 4 * d.T))]).map (Value.int .i64))]) (vf 32) (pf 32) := hR 32 (by decide)
        obtain ⟨v37, v32⟩ : ∃ x, vf 32 = x := ⟨_, rfl⟩
        obtain ⟨p38, p32⟩ : ∃ x, pf 32 = x := ⟨_, rfl⟩
        have hR39 := e32
        rw [v32, p32] at hR39
        subst hR39
        refine Or.inl ⟨want_of (congrArg some e26.1) rfl, ?_⟩
        refine rq_less (l' := [rowE 3 1 v37 (([inPinI d ((ks.getD 0 0) / (7 + 4 * d.T)) ((ks.getD 0 0) % (7 + 4 * d.T))]).length) (([inPinI d ((ks.getD 0 0) / (7 + 4 * d.T)) ((ks.getD 0 0) % (7 + 4 * d.T))]).map (Value.int .i64)), rowE 28 2 (.slice (some ⟨g30, 0, none⟩) 2 2) 2 ([r.nv, r.fv, r.nv, r.fv]), rowE 44 4 (.slice (some ⟨g29, 0, none⟩) 2 2) 2 ([.int .i64 1, .int .i64 0, .int .i64 0, .slice (some ⟨g9, 0, none⟩) 1 1, .int .i64 1, .int .i64 0, .int .i64 0, .slice (some ⟨g9, 0, none⟩) 1 1]), rowE 3 1 (.slice (some ⟨g28, 0, none⟩) 2 2) 2 ([s0 / (7 + (4 * d.T)), (ks.getD 0 0) / (7 + (4 * d.T))].map (Value.int .i64)), rowE 28 2 (.slice (some ⟨g13, 0, none⟩) 1 1) 1 ([r.nv, r.fv]), rowE 44 4 (.slice (some ⟨g12, 0, none⟩) 1 1) 1 ([.int .i64 1, .int .i64 0, .int .i64 0, .slice (some ⟨g9, 0, none⟩) 1 1]), rowE 3 1 (.slice (some ⟨g11, 0, none⟩) 2 2) 2 ([s0 / (7 + (4 * d.T)), (ks.getD 0 0) / (7 + (4 * d.T))].map (Value.int .i64)), rowE 41 2 (.slice (some ⟨g9, 0, none⟩) 1 1) 1 ([1, (ks.getD 0 0) % (7 + (4 * d.T))].map (Value.int .i64)), boxE b10 #[.int .i64 1, .int .i64 0, .int .i64 0, .slice (some ⟨g9, 0, none⟩) 1 1] 44, boxE b6 #[r.nv, r.fv] 28, boxE b5 #[.int .i64 d.W, .int .i64 d.H, .int .i64 d.T, .int .i64 d.R] 25, rtE r, rowE 3 1 sv ks.length (ks.map (Value.int .i64))]) (sx 106 (congrArg some v32) (sub_nil _)) (by first | (simp only [p32, v32, e26.2, List.flatMap_cons, List.flatMap_nil, List.append_nil, List.nil_append, List.cons_append]; exact List.Sublist.refl _) | simp [p32, v32, e26.2]) ?_
        exact (rq_call (by kernel_rfl) rfl (fun w hm => ret_ans (lawsGet_ans ([inPinI d ((ks.getD 0 0) / (7 + 4 * d.T)) ((ks.getD 0 0) % (7 + 4 * d.T))]) 0 _ w ((rd_row 0 rfl) w hm) (by first | omega | simp))))
       ·
        intro vf pf hR
        have e26 : (vf 26) = .bool true ∧ (pf 26) = [] := hR 26 (by decide)
        refine Or.inl ⟨want_of (congrArg some e26.1) rfl, ?_⟩
        refine rq_less (sx 5 rfl (sub_nil _)) (List.sublist_append_right _ _) ?_
        exact rq_v (rv_ev rfl)
       ·
        intro vf pf hR
        have e26 : (vf 26) = .bool true ∧ (pf 26) = [] := hR 26 (by decide)
        have e34 : (vf 34) = sv ∧ (pf 34) = [] := hR 34 (by decide)
        refine Or.inl ⟨want_of (congrArg some e26.1) rfl, ?_⟩
        refine rq_less (sx 108 (congrArg some e34.1) (sub_nil _)) (List.sublist_append_right _ _) ?_
        exact rq_v (rv_index (s := 1) rfl Try.underlying26 (by kernel_rfl) rfl rfl (rd_row 11 rfl) (by omega) (by first | omega | (simp only [List.length_set]; omega)))
       ·
        intro vf pf hR
        have e26 : (vf 26) = .bool true ∧ (pf 26) = [] := hR 26 (by decide)
        have e35 : (vf 35) = elP sv ((0 : Int).toNat * 1) ∧ (pf 35) = [] := hR 35 (by decide)
        refine Or.inl ⟨want_of (congrArg some e26.1) rfl, ?_⟩
        refine rq_less (sx 109 (congrArg some e35.1) (sub_nil _)) (List.sublist_append_right _ _) ?_
        exact rq_v (rv_loadEl (u := .int .i64 (ks.getD 0 0)) rfl (by kernel_rfl) rfl (rd_row 11 rfl) (ints_at1 (show _ < ks.length by first | omega | (simp only [List.length_set]; omega))))
       ·
        intro vf pf hR
        have e26 : (vf 26) = .bool true ∧ (pf 26) = [] := hR 26 (by decide)
        have e32 : (fun v' post => post = [rowE 3 1 v' ([inPinI d ((ks.getD 0 0) / (7 + 4 * d.T)) ((ks.getD 0 0) % (7 + 4 * d.T))]).length (([inPinI d ((ks.getD 0 0) / (7 + 4 * d.T)) ((ks.getD 0 0) % (7 + 4 * d.T))]).map (Value.int .i64))]) (vf 32) (pf 32) := hR 32 (by decide)
        obtain ⟨v37, v32⟩ : ∃ x, vf 32 = x := ⟨_, rfl⟩
        obtain ⟨p38, p32⟩ : ∃ x, pf 32 = x := ⟨_, rfl⟩
        have hR39 := e32
        rw [v32, p32] at hR39
        subst hR39
        have e33 : (vf 33) = .int .i64 (getI ([inPinI d ((ks.getD 0 0) / (7 + 4 * d.T)) ((ks.getD 0 0) % (7 + 4 * d.T))]) 0) ∧ (pf 33) = [] := hR 33 (by decide)
        have e36 : (vf 36) = .int .i64 (ks.getD 0 0) ∧ (pf 36) = [] := hR 36 (by decide)
        refine Or.inl ⟨want_of (congrArg some e26.1) rfl, ?_⟩
        refine rq_less (l' := [rowE 3 1 v37 (([inPinI d ((ks.getD 0 0) / (7 + 4 * d.T)) ((ks.getD 0 0) % (7 + 4 * d.T))]).length) (([inPinI d ((ks.getD 0 0) / (7 + 4 * d.T)) ((ks.getD 0 0) % (7 + 4 * d.T))]).map (Value.int .i64)), rowE 28 2 (.slice (some ⟨g30, 0, none⟩) 2 2) 2 ([r.nv, r.fv, r.nv, r.fv]), rowE 44 4 (.slice (some ⟨g29, 0, none⟩) 2 2) 2 ([.int .i64 1, .int .i64 0, .int .i64 0, .slice (some ⟨g9, 0, none⟩) 1 1, .int .i64 1, .int .i64 0, .int .i64 0, .slice (some ⟨g9, 0, none⟩) 1 1]), rowE 3 1 (.slice (some ⟨g28, 0, none⟩) 2 2) 2 ([s0 / (7 + (4 * d.T)), (ks.getD 0 0) / (7 + (4 * d.T))].map (Value.int .i64)), rowE 28 2 (.slice (some ⟨g13, 0, none⟩) 1 1) 1 ([r.nv, r.fv]), rowE 44 4 (.slice (some ⟨g12, 0, none⟩) 1 1) 1 ([.int .i64 1, .int .i64 0, .int .i64 0, .slice (some ⟨g9, 0, none⟩) 1 1]), rowE 3 1 (.slice (some ⟨g11, 0, none⟩) 2 2) 2 ([s0 / (7 + (4 * d.T)), (ks.getD 0 0) / (7 + (4 * d.T))].map (Value.int .i64)), rowE 41 2 (.slice (some ⟨g9, 0, none⟩) 1 1) 1 ([1, (ks.getD 0 0) % (7 + (4 * d.T))].map (Value.int .i64)), boxE b10 #[.int .i64 1, .int .i64 0, .int .i64 0, .slice (some ⟨g9, 0, none⟩) 1 1] 44, boxE b6 #[r.nv, r.fv] 28, boxE b5 #[.int .i64 d.W, .int .i64 d.H, .int .i64 d.T, .int .i64 d.R] 25, rtE r, rowE 3 1 sv ks.length (ks.map (Value.int .i64))]) (sx 107 (congrArg some e33.1) (sx 110 (congrArg some e36.1) (sub_nil _))) (by first | (simp only [p32, v32, e26.2, e33.2, e36.2, List.flatMap_cons, List.flatMap_nil, List.append_nil, List.nil_append, List.cons_append]; exact List.Sublist.refl _) | simp [p32, v32, e26.2, e33.2, e36.2]) ?_
        exact rq_mono (rq_v (rv_cmp rfl rfl rfl rfl)) (fun _ _ h => ⟨h.1.trans (congrArg Value.bool hb40), h.2⟩)
       ·
        intro vf pf hR
        have e26 : (vf 26) = .bool true ∧ (pf 26) = [] := hR 26 (by decide)
        have e37 : (vf 37) = .bool true ∧ (pf 37) = [] := hR 37 (by decide)
        refine Or.inl ⟨rfl, ?_⟩
        refine rq_less (sx 100 (congrArg some e26.1) (sx 111 (congrArg some e37.1) (sub_nil _))) (List.sublist_append_right _ _) ?_
        exact rq_v (rv_ev rfl)
      ·
       intro vf pf hR
       have e20 : IsRow_o 3 1 2 ([s0 / (7 + (4 * d.T)), (ks.getD 0 0) / (7 + (4 * d.T))].map (Value.int .i64)) (vf 20) (pf 20) := hR 20 (by decide)
       obtain ⟨g34, v20, p20⟩ := e20
       have e30 : IsRow_o 3 1 2 ([s0 / (7 + (4 * d.T)), (ks.getD 0 0) / (7 + (4 * d.T))].map (Value.int .i64)) (vf 30) (pf 30) := hR 30 (by decide)
       obtain ⟨g36, v30, p30⟩ := e30
       have e32 : (fun v' post => post = [rowE 3 1 v' ([inPinI d ((ks.getD 0 0) / (7 + 4 * d.T)) ((ks.getD 0 0) % (7 + 4 * d.T))]).length (([inPinI d ((ks.getD 0 0) / (7 + 4 * d.T)) ((ks.getD 0 0) % (7 + 4 * d.T))]).map (Value.int .i64))]) (vf 32) (pf 32) := hR 32 (by decide)
       obtain ⟨v37, v32⟩ : ∃ x, vf 32 = x := ⟨_, rfl⟩
       obtain ⟨p38, p32⟩ : ∃ x, pf 32 = x := ⟨_, rfl⟩
       have hR39 := e32
       rw [v32, p32] at hR39
       subst hR39
       have e38 : (vf 38) = .bool true ∧ (pf 38) = [] := hR 38 (by decide)
       have q0 : (vf 0) = .bool false ∧ (pf 0) = [] := hR 0 (by decide)
       have q1 : (vf 1) = sv ∧ (pf 1) = [] := hR 1 (by decide)
       have q2 : (vf 2) = .int .i64 (ks.length : Int) ∧ (pf 2) = [] := hR 2 (by decide)
       have q3 : (vf 3) = .bool false ∧ (pf 3) = [] := hR 3 (by decide)
       have q4 : (vf 4) = .bool true ∧ (pf 4) = [] := hR 4 (by decide)
       have q5 : (vf 5) = .bool true ∧ (pf 5) = [] := hR 5 (by decide)
       have q6 : (vf 6) = .bool false ∧ (pf 6) = [] := hR 6 (by decide)
       have q7 : (vf 7) = .bool true ∧ (pf 7) = [] := hR 7 (by decide)
       have q8 : (vf 8) = .bool true ∧ (pf 8) = [] := hR 8 (by decide)
       have q9 : (vf 9) = .bool true ∧ (pf 9) = [] := hR 9 (by decide)
       have q10 : (vf 10) = .agg #[.int .i64 d.W, .int .i64 d.H, .int .i64 d.T, .int .i64 d.R] ∧ (pf 10) = [] := hR 10 (by decide)
       have q11 : (vf 11) = .int .i64 s0 ∧ (pf 11) = [] := hR 11 (by decide)
       have q12 : (vf 12) = sv ∧ (pf 12) = [] := hR 12 (by decide)
       have q13 : (vf 13) = .agg #[r.nv, r.fv] ∧ (pf 13) = [] := hR 13 (by decide)
       have q14 : (vf 14) = .bool true ∧ (pf 14) = [] := hR 14 (by decide)
       have q15 : (vf 15) = .bool true ∧ (pf 15) = [] := hR 15 (by decide)
       have q16 : (vf 16) = .bool true ∧ (pf 16) = [] := hR 16 (by decide)
       have q17 : (vf 17) = .agg #[.int .i64 d.W, .int .i64 d.H, .int .i64 d.T, .int .i64 d.R] ∧ (pf 17) = [] := hR 17 (by decide)
       have q18 : (vf 18) = .int .i64 (s0 / (7 + (4 * d.T))) ∧ (pf 18) = [] := hR 18 (by decide)
       have q19 : (vf 19) = .int .i64 ((ks.getD 0 0) / (7 + (4 * d.T))) ∧ (pf 19) = [] := hR 19 (by decide)
       have q21 : (vf 21) = .agg #[.int .i64 1, .int .i64 0, .int .i64 0, .slice (some ⟨g9, 0, none⟩) 1 1] ∧ (pf 21) = [] := hR 21 (by decide)
       have q22 : (vf 22) = .int .i64 (outPinI d (s0 / (7 + 4 * d.T)) 0) ∧ (pf 22) = [] := hR 22 (by decide)
       have q23 : (vf 23) = .int .i64 s0 ∧ (pf 23) = [] := hR 23 (by decide)
       have q24 : (vf 24) = .bool true ∧ (pf 24) = [] := hR 24 (by decide)
       have q25 : (vf 25) = .bool true ∧ (pf 25) = [] := hR 25 (by decide)
       have q26 : (vf 26) = .bool true ∧ (pf 26) = [] := hR 26 (by decide)
       have q27 : (vf 27) = .agg #[.int .i64 d.W, .int .i64 d.H, .int .i64 d.T, .int .i64 d.R] ∧ (pf 27) = [] := hR 27 (by decide)
       have q28 : (vf 28) = .int .i64 (s0 / (7 + (4 * d.T))) ∧ (pf 28) = [] := hR 28 (by decide)
       have q29 : (vf 29) = .int .i64 ((ks.getD 0 0) / (7 + (4 * d.T))) ∧ (pf 29) = [] := hR 29 (by decide)
       have q31 : (vf 31) = .agg #[.int .i64 1, .int .i64 0, .int .i64 0, .slice (some ⟨g9, 0, none⟩) 1 1] ∧ (pf 31) = [] := hR 31 (by decide)
       have q33 : (vf 33) = .int .i64 (getI ([inPinI d ((ks.getD 0 0) / (7 + 4 * d.T)) ((ks.getD 0 0) % (7 + 4 * d.T))]) 0) ∧ (pf 33) = [] := hR 33 (by decide)
       have q34 : (vf 34) = sv ∧ (pf 34) = [] := hR 34 (by decide)
       have q35 : (vf 35) = elP sv ((0 : Int).toNat * 1) ∧ (pf 35) = [] := hR 35 (by decide)
       have q36 : (vf 36) = .int .i64 (ks.getD 0 0) ∧ (pf 36) = [] := hR 36 (by decide)
       have q37 : (vf 37) = .bool true ∧ (pf 37) = [] := hR 37 (by decide)
       have q38 : (vf 38) = .bool true ∧ (pf 38) = [] := hR 38 (by decide)
       refine hl_less (l' := [rowE 3 1 (.slice (some ⟨g34, 0, none⟩) 2 2) 2 ([s0 / (7 + (4 * d.T)), (ks.getD 0 0) / (7 + (4 * d.T))].map (Value.int .i64)), rowE 3 1 (.slice (some ⟨g36, 0, none⟩) 2 2) 2 ([s0 / (7 + (4 * d.T)), (ks.getD 0 0) / (7 + (4 * d.T))].map (Value.int .i64)), rowE 3 1 v37 (([inPinI d ((ks.getD 0 0) / (7 + 4 * d.T)) ((ks.getD 0 0) % (7 + 4 * d.T))]).length) (([inPinI d ((ks.getD 0 0) / (7 + 4 * d.T)) ((ks.getD 0 0) % (7 + 4 * d.T))]).map (Value.int .i64)), rowE 28 2 (.slice (some ⟨g30, 0, none⟩) 2 2) 2 ([r.nv, r.fv, r.nv, r.fv]), rowE 44 4 (.slice (some ⟨g29, 0, none⟩) 2 2) 2 ([.int .i64 1, .int .i64 0, .int .i64 0, .slice (some ⟨g9, 0, none⟩) 1 1, .int .i64 1, .int .i64 0, .int .i64 0, .slice (some ⟨g9, 0, none⟩) 1 1]), rowE 3 1 (.slice (some ⟨g28, 0, none⟩) 2 2) 2 ([s0 / (7 + (4 * d.T)), (ks.getD 0 0) / (7 + (4 * d.T))].map (Value.int .i64)), rowE 28 2 (.slice (some ⟨g13, 0, none⟩) 1 1) 1 ([r.nv, r.fv]), rowE 44 4 (.slice (some ⟨g12, 0, none⟩) 1 1) 1 ([.int .i64 1, .int .i64 0, .int .i64 0, .slice (some ⟨g9, 0, none⟩) 1 1]), rowE 3 1 (.slice (some ⟨g11, 0, none⟩) 2 2) 2 ([s0 / (7 + (4 * d.T)), (ks.getD 0 0) / (7 + (4 * d.T))].map (Value.int .i64)), rowE 41 2 (.slice (some ⟨g9, 0, none⟩) 1 1) 1 ([1, (ks.getD 0 0) % (7 + (4 * d.T))].map (Value.int .i64)), boxE b10 #[.int .i64 1, .int .i64 0, .int .i64 0, .slice (some ⟨g9, 0, none⟩) 1 1] 44, boxE b6 #[r.nv, r.fv] 28, boxE b5 #[.int .i64 d.W, .int .i64 d.H, .int .i64 d.T, .int .i64 d.R] 25, rtE r, rowE 3 1 sv ks.length (ks.map (Value.int .i64))]) (sx 0 rfl (sx 2 rfl (sx 3 rfl (sx 4 rfl (sx 5 rfl (sx 6 rfl (sx 7 rfl (sx 8 rfl (sx 9 rfl (sx 10 rfl (sx 11 rfl (sx 13 rfl (sx 23 rfl (sx 112 (congrArg some e38.1) (sub_nil _))))))))))))))) (by first | (simp only [p20, v20, p30, v30, p32, v32, q0.2, q1.2, q2.2, q3.2, q4.2, q5.2, q6.2, q7.2, q8.2, q9.2, q10.2, q11.2, q12.2, q13.2, q14.2, q15.2, q16.2, q17.2, q18.2, q19.2, q21.2, q22.2, q23.2, q24.2, q25.2, q26.2, q27.2, q28.2, q29.2, q31.2, q33.2, q34.2, q35.2, q36.2, q37.2, q38.2, List.flatMap_cons, List.flatMap_nil, List.append_nil, List.nil_append, List.cons_append]; exact List.Sublist.refl _) | simp [p20, v20, p30, v30, p32, v32, q0.2, q1.2, q2.2, q3.2, q4.2, q5.2, q6.2, q7.2, q8.2, q9.2, q10.2, q11.2, q12.2, q13.2, q14.2, q15.2, q16.2, q17.2, q18.2, q19.2, q21.2, q22.2, q23.2, q24.2, q25.2, q26.2, q27.2, q28.2, q29.2, q31.2, q33.2, q34.2, q35.2, q36.2, q37.2, q38.2]) ?_
       simp only [List.drop_succ_cons, List.drop_zero]
       refine hl_v rfl rfl rfl (rv_ev rfl) ?_
       refine hl_less (sx 0 rfl (sx 2 rfl (sx 3 rfl (sx 4 rfl (sx 5 rfl (sx 6 rfl (sx 7 rfl (sx 8 rfl (sx 9 rfl (sx 10 rfl (sx 11 rfl (sx 13 rfl (sx 23 rfl (sub_nil _)))))))))))))) (.refl _) ?_
       refine hl_nil ?_
       refine hq_then ?_
       refine hc_ret ?_
       exact hq_ans rfl rfl rfl
end Go.Proofs.Ytagjmgfcbmbkhaa
