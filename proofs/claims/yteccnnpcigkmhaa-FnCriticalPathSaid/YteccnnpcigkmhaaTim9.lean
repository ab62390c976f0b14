/- The law FnCriticalPath: the walk. -/
import Derived.Test.YteccnnpcigkmhaaTim8
set_option linter.unusedVariables false
set_option linter.unusedSimpArgs false
namespace Go.Proofs.Yteccnnpcigkmhaa
open Go.RowKit
set_option maxHeartbeats 4000000 in
set_option maxRecDepth 100000 in
theorem walk_FnCriticalPath (a0 : Option Addr) (len0 cap0 : Nat) (z0 : List Int) (w : World) (hbr : BRow .u8 w a0 len0 cap0 z0) :
    Calls Try.prog 5 #[.slice a0 len0 cap0] w (Ans w (.bool true)) := by
  refine calls_hc (N := 71) (args := [.slice a0 len0 cap0]) Try.func5 rfl rfl ?_
  refine hc_less _ (sub_cons (d := 0) rfl (sub_nil _)) (.refl _) ?_
  refine hc_seq ?_
  refine hc_region ?_
  refine hl_v rfl rfl rfl (rv_ev rfl) ?_
  refine hl_less (sub_cons (d := 0) rfl (sub_cons (d := 2) rfl (sub_nil _))) (.refl _) ?_
  refine hl_nil ?_
  refine hq_then ?_
  refine hc_seq ?_
  refine hc_seq ?_
  refine hc_region ?_
  refine hl_v rfl rfl rfl (rv_ev rfl) ?_
  refine hl_callV rfl rfl rfl (rq_call (by kernel_rfl) rfl (fun w hm => ret_ans (ans_of (big_any a0 len0 cap0 w (hbr.len_le))))) ?_
  refine hl_bool (fun h1 => ?_) (fun h1 => ?_)
  ·
    have h1p := of_decide_eq_true h1
    refine hl_less (sub_cons (d := 0) rfl (sub_cons (d := 2) rfl (sub_cons (d := 12) rfl (sub_nil _)))) (.refl _) ?_
    refine hl_nil ?_
    refine hq_then ?_
    refine hc_true rfl ?_
    refine hc_seq ?_
    refine hc_region ?_
    refine hl_v rfl rfl rfl (rv_ev rfl) ?_
    refine hl_less (sub_cons (d := 0) rfl (sub_cons (d := 2) rfl (sub_cons (d := 12) rfl (sub_nil _)))) (.refl _) ?_
    refine hl_nil ?_
    refine hq_then ?_
    refine hc_ret ?_
    refine hq_then_ret ?_
    exact hq_ans rfl rfl rfl
  ·
    have h1p := of_decide_eq_false h1
    refine hl_less (sub_cons (d := 0) rfl (sub_cons (d := 2) rfl (sub_cons (d := 12) rfl (sub_nil _)))) (.refl _) ?_
    refine hl_nil ?_
    refine hq_then ?_
    refine hc_false rfl ?_
    refine hc_skip ?_
    refine hq_then ?_
    refine hc_seq ?_
    refine hc_region ?_
    refine hl_v rfl rfl rfl (rv_ev rfl) ?_
    refine hl_q rfl rfl rfl (rq_call (by kernel_rfl) rfl (fun w hm => DrawGraph_ret _ _ _ z0 w (hbr.below hm.bel) (by omega))) ?_
    intro v2 p3 hR4
    obtain ⟨n, gs, u, ua, ub, ue, pa, pb, pe, rfl, rfl, hg, ⟨hn2, hn9⟩, ⟨hl1, hl2, hl3, hl4⟩, hpa, hpb, hpe⟩ := hR4
    refine hl_v rfl rfl rfl (rv_ev rfl) ?_
    refine hl_v rfl rfl rfl (rv_ev rfl) ?_
    refine hl_v rfl rfl rfl (rv_ev rfl) ?_
    refine hl_v rfl rfl rfl (rv_ev rfl) ?_
    refine hl_v rfl rfl rfl (rv_ev rfl) ?_
    refine hl_box rfl rfl rfl (rq_alloc (z := .agg #[.int .i64 0, .slice none 0 0]) rfl (by kernel_rfl)) ?_
    intro b5
    refine hl_one (i := 1) rfl (fun ho6 => ?_)
    refine hl_storeBoxN (i := 0) (off := 0) (us := [.int .i64 n, u]) (l' := [boxE b5 #[.int .i64 n, u] 38, rowE 82 3 u gs.length (gs.flatMap arcC), rowE 47 2 ua pa.length (pa.flatMap pntC), rowE 47 2 ub pb.length (pb.flatMap pntC), rowE 72 3 ue pe.length (pe.flatMap excC)]) rfl rfl rfl (by kernel_rfl) rfl rfl rfl (all_cons rfl (all_cons ho6 all_nil)) rfl rfl rfl ?_
    refine hl_v rfl rfl rfl (rv_ev rfl) ?_
    refine hl_v rfl rfl rfl (rv_ev rfl) ?_
    refine hl_v rfl rfl rfl (rv_ev rfl) ?_
    refine hl_less (sub_cons (d := 0) rfl (sub_cons (d := 2) rfl (sub_cons (d := 3) rfl (sub_cons (d := 4) rfl (sub_cons (d := 5) rfl (sub_cons (d := 12) rfl (sub_nil _))))))) (.refl _) ?_
    refine hl_nil ?_
    refine hq_then ?_
    refine hc_seq ?_
    refine hc_region ?_
    refine hl_v rfl rfl rfl (rv_ev rfl) ?_
    refine hl_v rfl rfl rfl (rv_index (s := 2) rfl Try.underlying39 (by kernel_rfl) rfl rfl (rd_row 2 rfl) (by omega) (by first | omega | (simp only [List.length_set]; omega))) ?_
    refine hl_v rfl rfl rfl (rv_fieldEl (k0 := 0) rfl (by kernel_rfl) rfl (rd_row 2 rfl) (by first | omega | (simp only [List.length_set]; omega))) ?_
    refine hl_v rfl rfl rfl (rv_loadEl (u := .int .i64 ((pa.getD 0 pnt0).n)) rfl (by kernel_rfl) rfl (rd_row 2 rfl) ((flat_at pntC 2 (fun _ => rfl) pa pnt0 (show 0 < _ by first | omega | (simp only [List.length_set]; omega)) (by decide)).trans rfl)) ?_
    refine hl_v rfl rfl rfl (rv_ev rfl) ?_
    obtain ⟨s1, hsd⟩ : ∃ q, (pa.getD 0 pnt0).n = q := ⟨_, rfl⟩
    rw [hsd]
    have hs : 0 ≤ s1 ∧ s1 < n := by have := hpa 0 (by omega); rw [hsd] at this; exact this.1
    refine hl_less (sub_cons (d := 0) rfl (sub_cons (d := 2) rfl (sub_cons (d := 3) rfl (sub_cons (d := 4) rfl (sub_cons (d := 5) rfl (sub_cons (d := 7) rfl (sub_cons (d := 12) rfl (sub_nil _)))))))) (.refl _) ?_
    refine hl_nil ?_
    refine hq_then ?_
    refine hc_seq ?_
    refine hc_region ?_
    refine hl_v rfl rfl rfl (rv_ev rfl) ?_
    refine hl_v rfl rfl rfl (rv_index (s := 2) rfl Try.underlying39 (by kernel_rfl) rfl rfl (rd_row 3 rfl) (by omega) (by first | omega | (simp only [List.length_set]; omega))) ?_
    refine hl_v rfl rfl rfl (rv_fieldEl (k0 := 0) rfl (by kernel_rfl) rfl (rd_row 3 rfl) (by first | omega | (simp only [List.length_set]; omega))) ?_
    refine hl_v rfl rfl rfl (rv_loadEl (u := .int .i64 ((pb.getD 0 pnt0).n)) rfl (by kernel_rfl) rfl (rd_row 3 rfl) ((flat_at pntC 2 (fun _ => rfl) pb pnt0 (show 0 < _ by first | omega | (simp only [List.length_set]; omega)) (by decide)).trans rfl)) ?_
    refine hl_v rfl rfl rfl (rv_ev rfl) ?_
    obtain ⟨e1, hed⟩ : ∃ q, (pb.getD 0 pnt0).n = q := ⟨_, rfl⟩
    rw [hed]
    have he : 0 ≤ e1 ∧ e1 < n := by have := hpb 0 (by omega); rw [hed] at this; exact this.1
    refine hl_less (sub_cons (d := 0) rfl (sub_cons (d := 2) rfl (sub_cons (d := 3) rfl (sub_cons (d := 4) rfl (sub_cons (d := 5) rfl (sub_cons (d := 7) rfl (sub_cons (d := 8) rfl (sub_cons (d := 12) rfl (sub_nil _))))))))) (.refl _) ?_
    refine hl_nil ?_
    refine hq_then ?_
    refine hc_seq ?_
    refine hc_region ?_
    refine hl_v rfl rfl rfl (rv_loadN (cs := [.int .i64 n, u]) rfl (by kernel_rfl) (by kernel_rfl) rfl rfl (box_part 0 rfl 0 rfl)) ?_
    refine hl_v rfl rfl rfl (rv_ev rfl) ?_
    refine hl_v rfl rfl rfl (rv_ev rfl) ?_
    refine hl_q rfl rfl rfl (rq_call (by kernel_rfl) rfl (fun w hm => CriticalPath_ret n gs u s1 e1 w hg (rd_row 1 rfl w hm) hs he)) ?_
    intro v7 p8 hR9
    obtain ⟨yp, rfl, hypl, hyp0, hyp1⟩ := hR9
    refine hl_v rfl rfl rfl (rv_ev rfl) ?_
    refine hl_less (sub_cons (d := 0) rfl (sub_cons (d := 2) rfl (sub_cons (d := 3) rfl (sub_cons (d := 4) rfl (sub_cons (d := 5) rfl (sub_cons (d := 7) rfl (sub_cons (d := 8) rfl (sub_cons (d := 9) rfl (sub_cons (d := 12) rfl (sub_nil _)))))))))) (.refl _) ?_
    refine hl_nil ?_
    refine hq_then ?_
    refine hc_seq ?_
    refine hc_region ?_
    refine hl_v rfl rfl rfl (rv_loadN (cs := [.int .i64 n, u]) rfl (by kernel_rfl) (by kernel_rfl) rfl rfl (box_part 1 rfl 0 rfl)) ?_
    refine hl_v rfl rfl rfl (rv_ev rfl) ?_
    refine hl_q rfl rfl rfl (rq_call (by kernel_rfl) rfl (fun w hm => specLongest_ret n gs u s1 w hg (rd_row 2 rfl w hm) hs)) ?_
    intro v10 p11 hR12
    subst hR12
    have hdl := del_len true gs s1 n.toNat
    refine hl_v rfl rfl rfl (rv_ev rfl) ?_
    refine hl_callV rfl rfl rfl (rq_call (by kernel_rfl) rfl (fun w hm => ret_ans (lawsGet_ans (delL true gs s1 n.toNat) e1 _ w ((rd_row 0 rfl) w hm) (by omega)))) ?_
    refine hl_v rfl rfl rfl (rv_ev rfl) ?_
    refine hl_less (sub_cons (d := 0) rfl (sub_cons (d := 2) rfl (sub_cons (d := 3) rfl (sub_cons (d := 4) rfl (sub_cons (d := 5) rfl (sub_cons (d := 7) rfl (sub_cons (d := 8) rfl (sub_cons (d := 9) rfl (sub_cons (d := 10) rfl (sub_cons (d := 12) rfl (sub_nil _))))))))))) (.refl _) ?_
    refine hl_nil ?_
    refine hq_then ?_
    refine hc_seq ?_
    refine hc_seq ?_
    refine hc_region ?_
    have hgx : getI (delL true gs s1 n.toNat) e1 = Dl true gs s1 e1.toNat := by unfold getI; rw [if_pos ⟨by omega, by rw [del_len]; omega⟩]; exact del_at _ _ _ _ _ (by omega)
    have hdl := del_len true gs s1 n.toNat
    have hdb := Dl_bnd hg true s1 e1.toNat
    refine hl_v rfl rfl rfl (rv_ev rfl) ?_
    refine hl_lss rfl rfl rfl rfl rfl rfl (fun h13 => ?_) (fun h13 => ?_)
    ·
      refine hl_less (sub_cons (d := 0) rfl (sub_cons (d := 2) rfl (sub_cons (d := 3) rfl (sub_cons (d := 4) rfl (sub_cons (d := 5) rfl (sub_cons (d := 7) rfl (sub_cons (d := 8) rfl (sub_cons (d := 9) rfl (sub_cons (d := 10) rfl (sub_cons (d := 12) rfl (sub_cons (d := 38) rfl (sub_nil _)))))))))))) (.refl _) ?_
      refine hl_nil ?_
      refine hq_then ?_
      refine hc_true rfl ?_
      refine hc_seq ?_
      have hyn : yp.length = 0 := by rw [hyp0 (by omega)]; rfl
      have hb14 : ((yp.length : Int) == 0) = true := beq_iff_eq.2 (by omega)
      have hyn : yp.length = 0 := by rw [hyp0 (by omega)]; rfl
      have hyn : yp.length = 0 := by rw [hyp0 (by omega)]; rfl
      have hb18 : (((delL true gs s1 n.toNat).length : Int) == n) = true := beq_iff_eq.2 (by omega)
      refine hc_draw (by kernel_rfl) 12 [0, 1, 2, 3, 4, 5, 6, 7, 8, 9, 10, 11] (List.take 12 _) (List.drop 12 _) [[], [0], [1], [2], [3], [3], [3, 4, 5], [3, 6], [3], [3, 8], [3, 6, 7, 9], [3, 10]] [39, 40, 41, 42, 43, 44, 45, 46, 47, 48, 49, 50] (fun i_ vs_ v_ p_ => match i_ with | 0 => v_ = v7 ∧ p_ = [] | 1 => v_ = .int .i64 (yp.length : Int) ∧ p_ = [] | 2 => v_ = .bool true ∧ p_ = [] | 3 => v_ = .bool true ∧ p_ = [] | 4 => v_ = .agg #[.int .i64 n, u] ∧ p_ = [] | 5 => v_ = .int .i64 s1 ∧ p_ = [] | 6 => (fun v' post => post = [rowE 3 1 v' (delL true gs s1 n.toNat).length ((delL true gs s1 n.toNat).map (Value.int .i64))]) v_ p_ | 7 => v_ = .int .i64 ((delL true gs s1 n.toNat).length : Int) ∧ p_ = [] | 8 => v_ = .pointer (some ⟨b5, 0 + 0, none⟩) ∧ p_ = [] | 9 => v_ = .int .i64 n ∧ p_ = [] | 10 => v_ = .bool true ∧ p_ = [] | 11 => v_ = .bool true ∧ p_ = [] | _ => True) (List.take_append_drop 12 _).symm (by kernel_rfl) (by kernel_rfl) rfl rfl ?_ ?_
      ·
        refine ⟨?_, ?_, ?_, ?_, ?_, ?_, ?_, ?_, ?_, ?_, ?_, ?_, trivial⟩
        ·
          intro vf pf hR
          refine Or.inl ⟨rfl, ?_⟩
          refine rq_less (l' := [rowE 3 1 v10 ((delL true gs s1 n.toNat).length) ((delL true gs s1 n.toNat).map (Value.int .i64)), rowE 3 1 v7 yp.length (yp.map (Value.int .i64)), boxE b5 #[.int .i64 n, u] 38, rowE 82 3 u gs.length (gs.flatMap arcC), rowE 47 2 ua pa.length (pa.flatMap pntC), rowE 47 2 ub pb.length (pb.flatMap pntC), rowE 72 3 ue pe.length (pe.flatMap excC)]) (sub_cons (d := 9) rfl (sub_nil _)) (List.sublist_append_right _ _) ?_
          exact rq_v (rv_ev rfl)
        ·
          intro vf pf hR
          have e0 : (vf 0) = v7 ∧ (pf 0) = [] := hR 0 (by decide)
          refine Or.inl ⟨rfl, ?_⟩
          refine rq_less (l' := [rowE 3 1 v10 ((delL true gs s1 n.toNat).length) ((delL true gs s1 n.toNat).map (Value.int .i64)), rowE 3 1 v7 yp.length (yp.map (Value.int .i64)), boxE b5 #[.int .i64 n, u] 38, rowE 82 3 u gs.length (gs.flatMap arcC), rowE 47 2 ua pa.length (pa.flatMap pntC), rowE 47 2 ub pb.length (pb.flatMap pntC), rowE 72 3 ue pe.length (pe.flatMap excC)]) (sub_cons (d := 39) (congrArg some e0.1) (sub_nil _)) (List.sublist_append_right _ _) ?_
          exact rq_v (rv_len rfl Try.underlying43 rfl (rd_row 1 rfl))
        ·
          intro vf pf hR
          have e1 : (vf 1) = .int .i64 (yp.length : Int) ∧ (pf 1) = [] := hR 1 (by decide)
          refine Or.inl ⟨rfl, ?_⟩
          refine rq_less (l' := [rowE 3 1 v10 ((delL true gs s1 n.toNat).length) ((delL true gs s1 n.toNat).map (Value.int .i64)), rowE 3 1 v7 yp.length (yp.map (Value.int .i64)), boxE b5 #[.int .i64 n, u] 38, rowE 82 3 u gs.length (gs.flatMap arcC), rowE 47 2 ua pa.length (pa.flatMap pntC), rowE 47 2 ub pb.length (pb.flatMap pntC), rowE 72 3 ue pe.length (pe.flatMap excC)]) (sub_cons (d := 40) (congrArg some e1.1) (sub_nil _)) (List.sublist_append_right _ _) ?_
          exact rq_mono (rq_v (rv_cmp rfl rfl rfl rfl)) (fun _ _ h => ⟨h.1.trans (congrArg Value.bool hb14), h.2⟩)
        ·
          intro vf pf hR
          have e2 : (vf 2) = .bool true ∧ (pf 2) = [] := hR 2 (by decide)
          refine Or.inl ⟨rfl, ?_⟩
          refine rq_less (l' := [rowE 3 1 v10 ((delL true gs s1 n.toNat).length) ((delL true gs s1 n.toNat).map (Value.int .i64)), rowE 3 1 v7 yp.length (yp.map (Value.int .i64)), boxE b5 #[.int .i64 n, u] 38, rowE 82 3 u gs.length (gs.flatMap arcC), rowE 47 2 ua pa.length (pa.flatMap pntC), rowE 47 2 ub pb.length (pb.flatMap pntC), rowE 72 3 ue pe.length (pe.flatMap excC)]) (sub_cons (d := 41) (congrArg some e2.1) (sub_nil _)) (List.sublist_append_right _ _) ?_
          exact rq_v (rv_ev rfl)
        ·
          intro vf pf hR
          have e3 : (vf 3) = .bool true ∧ (pf 3) = [] := hR 3 (by decide)
          refine Or.inl ⟨want_of (congrArg some e3.1) rfl, ?_⟩
          refine rq_less (l' := [rowE 3 1 v10 ((delL true gs s1 n.toNat).length) ((delL true gs s1 n.toNat).map (Value.int .i64)), rowE 3 1 v7 yp.length (yp.map (Value.int .i64)), boxE b5 #[.int .i64 n, u] 38, rowE 82 3 u gs.length (gs.flatMap arcC), rowE 47 2 ua pa.length (pa.flatMap pntC), rowE 47 2 ub pb.length (pb.flatMap pntC), rowE 72 3 ue pe.length (pe.flatMap excC)]) (sub_cons (d := 3) rfl (sub_nil _)) (List.sublist_append_right _ _) ?_
          exact rq_v (rv_loadN (cs := [.int .i64 n, u]) rfl (by kernel_rfl) (by kernel_rfl) rfl rfl (box_part 2 rfl 0 rfl))
        ·
          intro vf pf hR
          have e3 : (vf 3) = .bool true ∧ (pf 3) = [] := hR 3 (by decide)
          refine Or.inl ⟨want_of (congrArg some e3.1) rfl, ?_⟩
          refine rq_less (l' := [rowE 3 1 v10 ((delL true gs s1 n.toNat).length) ((delL true gs s1 n.toNat).map (Value.int .i64)), rowE 3 1 v7 yp.length (yp.map (Value.int .i64)), boxE b5 #[.int .i64 n, u] 38, rowE 82 3 u gs.length (gs.flatMap arcC), rowE 47 2 ua pa.length (pa.flatMap pntC), rowE 47 2 ub pb.length (pb.flatMap pntC), rowE 72 3 ue pe.length (pe.flatMap excC)]) (sub_cons (d := 7) rfl (sub_nil _)) (List.sublist_append_right _ _) ?_
          exact rq_v (rv_ev rfl)
        ·
          intro vf pf hR
          have e3 : (vf 3) = .bool true ∧ (pf 3) = [] := hR 3 (by decide)
          have e4 : (vf 4) = .agg #[.int .i64 n, u] ∧ (pf 4) = [] := hR 4 (by decide)
          have e5 : (vf 5) = .int .i64 s1 ∧ (pf 5) = [] := hR 5 (by decide)
          refine Or.inl ⟨want_of (congrArg some e3.1) rfl, ?_⟩
          refine rq_less (l' := [rowE 3 1 v10 ((delL true gs s1 n.toNat).length) ((delL true gs s1 n.toNat).map (Value.int .i64)), rowE 3 1 v7 yp.length (yp.map (Value.int .i64)), boxE b5 #[.int .i64 n, u] 38, rowE 82 3 u gs.length (gs.flatMap arcC), rowE 47 2 ua pa.length (pa.flatMap pntC), rowE 47 2 ub pb.length (pb.flatMap pntC), rowE 72 3 ue pe.length (pe.flatMap excC)]) (sub_cons (d := 43) (congrArg some e4.1) (sub_cons (d := 44) (congrArg some e5.1) (sub_nil _))) (List.sublist_append_right _ _) ?_
          exact rq_call (by kernel_rfl) rfl (fun w hm => implLongest_ret n gs u s1 w hg (rd_row 3 rfl w hm) hs)
        ·
          intro vf pf hR
          have e3 : (vf 3) = .bool true ∧ (pf 3) = [] := hR 3 (by decide)
          have e6 : (fun v' post => post = [rowE 3 1 v' (delL true gs s1 n.toNat).length ((delL true gs s1 n.toNat).map (Value.int .i64))]) (vf 6) (pf 6) := hR 6 (by decide)
          obtain ⟨v15, v6⟩ : ∃ x, vf 6 = x := ⟨_, rfl⟩
          obtain ⟨p16, p6⟩ : ∃ x, pf 6 = x := ⟨_, rfl⟩
          have hR17 := e6
          rw [v6, p6] at hR17
          subst hR17
          refine Or.inl ⟨want_of (congrArg some e3.1) rfl, ?_⟩
          refine rq_less (l' := [rowE 3 1 v15 ((delL true gs s1 n.toNat).length) ((delL true gs s1 n.toNat).map (Value.int .i64)), rowE 3 1 v10 ((delL true gs s1 n.toNat).length) ((delL true gs s1 n.toNat).map (Value.int .i64)), rowE 3 1 v7 yp.length (yp.map (Value.int .i64)), boxE b5 #[.int .i64 n, u] 38, rowE 82 3 u gs.length (gs.flatMap arcC), rowE 47 2 ua pa.length (pa.flatMap pntC), rowE 47 2 ub pb.length (pb.flatMap pntC), rowE 72 3 ue pe.length (pe.flatMap excC)]) (sub_cons (d := 45) (congrArg some v6) (sub_nil _)) (by first | (simp only [p6, v6, e3.2, List.flatMap_cons, List.flatMap_nil, List.append_nil, List.nil_append, List.cons_append]; exact List.Sublist.refl _) | simp [p6, v6, e3.2]) ?_
          exact rq_v (rv_len rfl Try.underlying43 rfl (rd_row 0 rfl))
        ·
          intro vf pf hR
          have e3 : (vf 3) = .bool true ∧ (pf 3) = [] := hR 3 (by decide)
          refine Or.inl ⟨want_of (congrArg some e3.1) rfl, ?_⟩
          refine rq_less (l' := [rowE 3 1 v10 ((delL true gs s1 n.toNat).length) ((delL true gs s1 n.toNat).map (Value.int .i64)), rowE 3 1 v7 yp.length (yp.map (Value.int .i64)), boxE b5 #[.int .i64 n, u] 38, rowE 82 3 u gs.length (gs.flatMap arcC), rowE 47 2 ua pa.length (pa.flatMap pntC), rowE 47 2 ub pb.length (pb.flatMap pntC), rowE 72 3 ue pe.length (pe.flatMap excC)]) (sub_cons (d := 3) rfl (sub_nil _)) (List.sublist_append_right _ _) ?_
          exact rq_v (rv_field (k0 := 0) rfl (by kernel_rfl) rfl)
        ·
          intro vf pf hR
          have e3 : (vf 3) = .bool true ∧ (pf 3) = [] := hR 3 (by decide)
          have e8 : (vf 8) = .pointer (some ⟨b5, 0 + 0, none⟩) ∧ (pf 8) = [] := hR 8 (by decide)
          refine Or.inl ⟨want_of (congrArg some e3.1) rfl, ?_⟩
          refine rq_less (l' := [rowE 3 1 v10 ((delL true gs s1 n.toNat).length) ((delL true gs s1 n.toNat).map (Value.int .i64)), rowE 3 1 v7 yp.length (yp.map (Value.int .i64)), boxE b5 #[.int .i64 n, u] 38, rowE 82 3 u gs.length (gs.flatMap arcC), rowE 47 2 ua pa.length (pa.flatMap pntC), rowE 47 2 ub pb.length (pb.flatMap pntC), rowE 72 3 ue pe.length (pe.flatMap excC)]) (sub_cons (d := 47) (congrArg some e8.1) (sub_nil _)) (List.sublist_append_right _ _) ?_
          exact rq_v (rv_load rfl (by kernel_rfl) rfl (box_cell 2 rfl rfl))
        ·
          intro vf pf hR
          have e3 : (vf 3) = .bool true ∧ (pf 3) = [] := hR 3 (by decide)
          have e6 : (fun v' post => post = [rowE 3 1 v' (delL true gs s1 n.toNat).length ((delL true gs s1 n.toNat).map (Value.int .i64))]) (vf 6) (pf 6) := hR 6 (by decide)
          obtain ⟨v15, v6⟩ : ∃ x, vf 6 = x := ⟨_, rfl⟩
          obtain ⟨p16, p6⟩ : ∃ x, pf 6 = x := ⟨_, rfl⟩
          have hR17 := e6
          rw [v6, p6] at hR17
          subst hR17
          have e7 : (vf 7) = .int .i64 ((delL true gs s1 n.toNat).length : Int) ∧ (pf 7) = [] := hR 7 (by decide)
          have e9 : (vf 9) = .int .i64 n ∧ (pf 9) = [] := hR 9 (by decide)
          refine Or.inl ⟨want_of (congrArg some e3.1) rfl, ?_⟩
          refine rq_less (l' := [rowE 3 1 v15 ((delL true gs s1 n.toNat).length) ((delL true gs s1 n.toNat).map (Value.int .i64)), rowE 3 1 v10 ((delL true gs s1 n.toNat).length) ((delL true gs s1 n.toNat).map (Value.int .i64)), rowE 3 1 v7 yp.length (yp.map (Value.int .i64)), boxE b5 #[.int .i64 n, u] 38, rowE 82 3 u gs.length (gs.flatMap arcC), rowE 47 2 ua pa.length (pa.flatMap pntC), rowE 47 2 ub pb.length (pb.flatMap pntC), rowE 72 3 ue pe.length (pe.flatMap excC)]) (sub_cons (d := 46) (congrArg some e7.1) (sub_cons (d := 48) (congrArg some e9.1) (sub_nil _))) (by first | (simp only [p6, v6, e3.2, e7.2, e9.2, List.flatMap_cons, List.flatMap_nil, List.append_nil, List.nil_append, List.cons_append]; exact List.Sublist.refl _) | simp [p6, v6, e3.2, e7.2, e9.2]) ?_
          exact rq_mono (rq_v (rv_cmp rfl rfl rfl rfl)) (fun _ _ h => ⟨h.1.trans (congrArg Value.bool hb18), h.2⟩)
        ·
          intro vf pf hR
          have e3 : (vf 3) = .bool true ∧ (pf 3) = [] := hR 3 (by decide)
          have e10 : (vf 10) = .bool true ∧ (pf 10) = [] := hR 10 (by decide)
          refine Or.inl ⟨rfl, ?_⟩
          refine rq_less (l' := [rowE 3 1 v10 ((delL true gs s1 n.toNat).length) ((delL true gs s1 n.toNat).map (Value.int .i64)), rowE 3 1 v7 yp.length (yp.map (Value.int .i64)), boxE b5 #[.int .i64 n, u] 38, rowE 82 3 u gs.length (gs.flatMap arcC), rowE 47 2 ua pa.length (pa.flatMap pntC), rowE 47 2 ub pb.length (pb.flatMap pntC), rowE 72 3 ue pe.length (pe.flatMap excC)]) (sub_cons (d := 42) (congrArg some e3.1) (sub_cons (d := 49) (congrArg some e10.1) (sub_nil _))) (List.sublist_append_right _ _) ?_
          exact rq_v (rv_ev rfl)
      ·
        intro vf pf hR
        have e6 : (fun v' post => post = [rowE 3 1 v' (delL true gs s1 n.toNat).length ((delL true gs s1 n.toNat).map (Value.int .i64))]) (vf 6) (pf 6) := hR 6 (by decide)
        obtain ⟨v15, v6⟩ : ∃ x, vf 6 = x := ⟨_, rfl⟩
        obtain ⟨p16, p6⟩ : ∃ x, pf 6 = x := ⟨_, rfl⟩
        have hR17 := e6
        rw [v6, p6] at hR17
        subst hR17
        have e11 : (vf 11) = .bool true ∧ (pf 11) = [] := hR 11 (by decide)
        have q0 : (vf 0) = v7 ∧ (pf 0) = [] := hR 0 (by decide)
        have q1 : (vf 1) = .int .i64 (yp.length : Int) ∧ (pf 1) = [] := hR 1 (by decide)
        have q2 : (vf 2) = .bool true ∧ (pf 2) = [] := hR 2 (by decide)
        have q3 : (vf 3) = .bool true ∧ (pf 3) = [] := hR 3 (by decide)
        have q4 : (vf 4) = .agg #[.int .i64 n, u] ∧ (pf 4) = [] := hR 4 (by decide)
        have q5 : (vf 5) = .int .i64 s1 ∧ (pf 5) = [] := hR 5 (by decide)
        have q7 : (vf 7) = .int .i64 ((delL true gs s1 n.toNat).length : Int) ∧ (pf 7) = [] := hR 7 (by decide)
        have q8 : (vf 8) = .pointer (some ⟨b5, 0 + 0, none⟩) ∧ (pf 8) = [] := hR 8 (by decide)
        have q9 : (vf 9) = .int .i64 n ∧ (pf 9) = [] := hR 9 (by decide)
        have q10 : (vf 10) = .bool true ∧ (pf 10) = [] := hR 10 (by decide)
        have q11 : (vf 11) = .bool true ∧ (pf 11) = [] := hR 11 (by decide)
        refine hl_less (l' := [rowE 3 1 v15 ((delL true gs s1 n.toNat).length) ((delL true gs s1 n.toNat).map (Value.int .i64)), rowE 3 1 v10 ((delL true gs s1 n.toNat).length) ((delL true gs s1 n.toNat).map (Value.int .i64)), rowE 3 1 v7 yp.length (yp.map (Value.int .i64)), boxE b5 #[.int .i64 n, u] 38, rowE 82 3 u gs.length (gs.flatMap arcC), rowE 47 2 ua pa.length (pa.flatMap pntC), rowE 47 2 ub pb.length (pb.flatMap pntC), rowE 72 3 ue pe.length (pe.flatMap excC)]) (sub_cons (d := 0) rfl (sub_cons (d := 2) rfl (sub_cons (d := 3) rfl (sub_cons (d := 4) rfl (sub_cons (d := 5) rfl (sub_cons (d := 7) rfl (sub_cons (d := 8) rfl (sub_cons (d := 9) rfl (sub_cons (d := 10) rfl (sub_cons (d := 12) rfl (sub_cons (d := 38) rfl (sub_cons (d := 50) (congrArg some e11.1) (sub_nil _))))))))))))) (by first | (simp only [p6, v6, q0.2, q1.2, q2.2, q3.2, q4.2, q5.2, q7.2, q8.2, q9.2, q10.2, q11.2, List.flatMap_cons, List.flatMap_nil, List.append_nil, List.nil_append, List.cons_append]; exact List.Sublist.refl _) | simp [p6, v6, q0.2, q1.2, q2.2, q3.2, q4.2, q5.2, q7.2, q8.2, q9.2, q10.2, q11.2]) ?_
        simp only [List.drop_succ_cons, List.drop_zero]
        refine hl_v rfl rfl rfl (rv_ev rfl) ?_
        refine hl_less (sub_cons (d := 0) rfl (sub_cons (d := 2) rfl (sub_cons (d := 3) rfl (sub_cons (d := 4) rfl (sub_cons (d := 5) rfl (sub_cons (d := 7) rfl (sub_cons (d := 8) rfl (sub_cons (d := 9) rfl (sub_cons (d := 10) rfl (sub_cons (d := 12) rfl (sub_cons (d := 38) rfl (sub_nil _)))))))))))) (.refl _) ?_
        refine hl_nil ?_
        refine hq_then ?_
        refine hc_ret ?_
        refine hq_then_ret ?_
        exact hq_ans rfl rfl rfl
    ·
      refine hl_less (sub_cons (d := 0) rfl (sub_cons (d := 2) rfl (sub_cons (d := 3) rfl (sub_cons (d := 4) rfl (sub_cons (d := 5) rfl (sub_cons (d := 7) rfl (sub_cons (d := 8) rfl (sub_cons (d := 9) rfl (sub_cons (d := 10) rfl (sub_cons (d := 12) rfl (sub_cons (d := 38) rfl (sub_nil _)))))))))))) (.refl _) ?_
      refine hl_nil ?_
      refine hq_then ?_
      refine hc_false rfl ?_
      refine hc_skip ?_
      refine hq_then ?_
      refine hc_seq ?_
      refine hc_region ?_
      have hpo := hyp1 (by omega)
      have hp0 := hpo.l0
      have hg0 : getI yp 0 = s1 := by unfold getI; rw [if_pos ⟨by omega, by omega⟩]; exact hpo.first
      have hg1 : getI yp ((yp.length : Int) - 1) = e1 := by unfold getI; rw [if_pos ⟨by omega, by omega⟩, show ((yp.length : Int) - 1).toNat = yp.length - 1 by omega]; exact hpo.last
      refine hl_v rfl rfl rfl (rv_ev rfl) ?_
      refine hl_callV rfl rfl rfl (rq_call (by kernel_rfl) rfl (fun w hm => ret_ans (lawsGet_ans yp 0 _ w ((rd_row 1 rfl) w hm) (by omega)))) ?_
      refine hl_v rfl rfl rfl (rv_ev rfl) ?_
      refine hl_eql rfl rfl rfl rfl rfl rfl (fun h19 => ?_) (fun h19 => absurd h19 (by omega))
      refine hl_v rfl rfl rfl (rv_ev rfl) ?_
      refine hl_v rfl rfl rfl (rv_ev rfl) ?_
      refine hl_v rfl rfl rfl (rv_ev rfl) ?_
      refine hl_v rfl rfl rfl (rv_len rfl Try.underlying43 rfl (rd_row 1 rfl)) ?_
      refine hl_v rfl rfl rfl (rv_sub rfl rfl rfl (by constructor <;> omega)) ?_
      refine hl_callV rfl rfl rfl (rq_call (by kernel_rfl) rfl (fun w hm => ret_ans (lawsGet_ans yp ((yp.length : Int) - 1) _ w ((rd_row 1 rfl) w hm) (by omega)))) ?_
      refine hl_v rfl rfl rfl (rv_ev rfl) ?_
      refine hl_eql rfl rfl rfl rfl rfl rfl (fun h20 => ?_) (fun h20 => absurd h20 (by omega))
      refine hl_v rfl rfl rfl (rv_ev rfl) ?_
      refine hl_v rfl rfl rfl (rv_ev rfl) ?_
      refine hl_v rfl rfl rfl (rv_loadN (cs := [.int .i64 n, u]) rfl (by kernel_rfl) (by kernel_rfl) rfl rfl (box_part 2 rfl 0 rfl)) ?_
      refine hl_v rfl rfl rfl (rv_ev rfl) ?_
      refine hl_callV rfl rfl rfl (rq_call (by kernel_rfl) rfl (fun w hm => ret_ans (PathDelay_ans n gs u s1 e1 yp v7 w hg (rd_row 3 rfl w hm) hs (hyp1 (by omega)) (rd_row 1 rfl w hm)))) ?_
      refine hl_v rfl rfl rfl (rv_ev rfl) ?_
      refine hl_eql rfl rfl rfl rfl rfl rfl (fun h21 => ?_) (fun h21 => absurd h21 (by omega))
      refine hl_v rfl rfl rfl (rv_ev rfl) ?_
      refine hl_v rfl rfl rfl (rv_ev rfl) ?_
      refine hl_less (sub_cons (d := 0) rfl (sub_cons (d := 2) rfl (sub_cons (d := 3) rfl (sub_cons (d := 4) rfl (sub_cons (d := 5) rfl (sub_cons (d := 7) rfl (sub_cons (d := 8) rfl (sub_cons (d := 9) rfl (sub_cons (d := 10) rfl (sub_cons (d := 12) rfl (sub_cons (d := 38) rfl (sub_nil _)))))))))))) (.refl _) ?_
      refine hl_nil ?_
      refine hq_then ?_
      refine hc_ret ?_
      exact hq_ans rfl rfl rfl
end Go.Proofs.Yteccnnpcigkmhaa
