/- Texts of the law FnSolveLit, part 4: what it uses. -/
import Derived.Test.YtakbbebpimlnpaaSl3
set_option linter.unusedVariables false
set_option linter.unusedSimpArgs false
namespace Go.Proofs.Ytakbbebpimlnpaa
open Go.RowKit Go.ChangeShapes
open Go.RowKit
set_option maxHeartbeats 4000000 in
set_option maxRecDepth 100000 in
theorem visit_step (b : Nat) (n : Int) (cv : Value) (rs : List CRow) (F : Nat) (ds ps : List Int) (dv qv : Value) (s : Sv) (w0 : World) (l : List HP) (w : World) (hm0 : Mem w0 (svE b n cv s :: l) w) (c : SCtx n rs F) (hin : VIn n rs F ds ps s) (hcl : ∀ w, Mem w0 l w → RdsCl w cv rs) (hdv : Rd w0 l dv 1 ds.length (ds.map (Value.int .i64))) (hqv : Rd w0 l qv 1 ps.length (ps.map (Value.int .i64))) (IH : ∀ (ds2 ps2 : List Int) (dv2 qv2 : Value) (s9 : Sv) (l2 : List HP) (w2 : World), zeros_o (ownL ds2 ps2) < zeros_o (ownL ds ps) → VIn n rs F ds2 ps2 s9 → (∀ w, Mem w0 l2 w → RdsCl w cv rs) → Rd w0 l2 dv2 1 ds2.length (ds2.map (Value.int .i64)) → Rd w0 l2 qv2 1 ps2.length (ps2.map (Value.int .i64)) → Mem w0 (svE b n cv s9 :: l2) w2 → Calls Try.prog 133 #[.pointer (some ⟨b, 0, none⟩), dv2, qv2] w2 (fun e_ w_ => ∃ v_ p_, e_ = .returned v_ ∧ (fun u_ p_ => ∃ (s2 : Sv) (cd : Int), u_ = .int .i64 cd ∧ p_ = svE b n cv s2 ∧ VPost n rs F (ownL ds2 ps2) s9.v s2.v cd s2.fo ∧ (s2.pr.length : Int) - s9.pr.length ≤ s2.v - s9.v) v_ p_ ∧ Mem w0 (p_ :: l2) w_)) :
  Calls Try.prog 133 #[.pointer (some ⟨b, 0, none⟩), dv, qv] w (fun e_ w_ => ∃ v_ p_, e_ = .returned v_ ∧ (fun u_ p_ => ∃ (s2 : Sv) (cd : Int), u_ = .int .i64 cd ∧ p_ = svE b n cv s2 ∧ VPost n rs F (ownL ds ps) s.v s2.v cd s2.fo ∧ (s2.pr.length : Int) - s.pr.length ≤ s2.v - s.v) v_ p_ ∧ Mem w0 (p_ :: l) w_) := by
 have hn0 := c.hr.n0
 have hn1 := c.hr.n1
 have hpl0 := hin.hps.1
 have hlen0 := hin.len
 have hv6 := vpre_lt hin.pre
 have hv00 := hin.v0
 have hpr0 := hin.pr
 refine calls_hcM (N := 119) (args := [.pointer (some ⟨b, 0, none⟩), dv, qv]) Try.func133 rfl rfl (l := (boxE b #[.int .i64 n, cv, .int .i64 600, .int .i64 s.v, s.pv, s.fv] 125 :: bigE (s.pr.map cPart) :: rowE 26 1 s.pv s.pr.length (s.pr.flatMap crowC) :: rowE 3 1 s.fv s.fo.length (s.fo.map (Value.int .i64)) :: l)) hm0.unbig ?_
 refine hc_less _ (sx 0 rfl (sx 1 rfl (sx 2 rfl (sub_nil _)))) (.refl _) ?_
 refine hc_seq ?_
 refine hc_region ?_
 refine hl_v rfl rfl rfl (rv_ev rfl) ?_
 refine hl_less (sx 0 rfl (sx 1 rfl (sx 2 rfl (sx 6 rfl (sub_nil _))))) (.refl _) ?_
 refine hl_nil ?_
 refine hq_then ?_
 refine hc_seq ?_
 refine hc_seq ?_
 rcases Bool.eq_false_or_eq_true (decide (600 ≤ s.v)) with hb1 | hb1
 ·
  have hb1p : 600 ≤ s.v := of_decide_eq_true hb1
  refine hc_draw (by kernel_rfl) 9 [0, 1, 2, 3, 4, 5, 6, 7, 8] (List.take 9 _) (List.drop 9 _) [[], [0], [1], [2], [], [4], [5], [6], [3, 7]] [15, 16, 17, 18, 19, 20, 21, 22, 23] (fun i_ vs_ v_ p_ => match i_ with | 0 => v_ = .pointer (some ⟨b, 0, none⟩) ∧ p_ = [] | 1 => v_ = .pointer (some ⟨b, 0, none⟩) ∧ p_ = [] | 2 => v_ = .pointer (some ⟨b, 0 + 3, none⟩) ∧ p_ = [] | 3 => v_ = .int .i64 s.v ∧ p_ = [] | 4 => v_ = .pointer (some ⟨b, 0, none⟩) ∧ p_ = [] | 5 => v_ = .pointer (some ⟨b, 0, none⟩) ∧ p_ = [] | 6 => v_ = .pointer (some ⟨b, 0 + 2, none⟩) ∧ p_ = [] | 7 => v_ = .int .i64 600 ∧ p_ = [] | 8 => v_ = .bool true ∧ p_ = [] | _ => True) (List.take_append_drop 9 _).symm (by kernel_rfl) (by kernel_rfl) rfl rfl ?_ ?_
  ·
   refine ⟨?_, ?_, ?_, ?_, ?_, ?_, ?_, ?_, ?_, trivial⟩
   ·
    intro vf pf hR
    refine Or.inl ⟨rfl, ?_⟩
    refine rq_less (sx 0 rfl (sub_nil _)) (List.sublist_append_right _ _) ?_
    exact rq_v (rv_ev rfl)
   ·
    intro vf pf hR
    have e0 : (vf 0) = .pointer (some ⟨b, 0, none⟩) ∧ (pf 0) = [] := hR 0 (by decide)
    refine Or.inl ⟨rfl, ?_⟩
    refine rq_less (sx 15 (congrArg some e0.1) (sub_nil _)) (List.sublist_append_right _ _) ?_
    exact rq_v (rv_nilCheck rfl rfl)
   ·
    intro vf pf hR
    have e1 : (vf 1) = .pointer (some ⟨b, 0, none⟩) ∧ (pf 1) = [] := hR 1 (by decide)
    refine Or.inl ⟨rfl, ?_⟩
    refine rq_less (sx 16 (congrArg some e1.1) (sub_nil _)) (List.sublist_append_right _ _) ?_
    exact rq_v (rv_field (k0 := 3) rfl (by kernel_rfl) rfl)
   ·
    intro vf pf hR
    have e2 : (vf 2) = .pointer (some ⟨b, 0 + 3, none⟩) ∧ (pf 2) = [] := hR 2 (by decide)
    refine Or.inl ⟨rfl, ?_⟩
    refine rq_less (sx 17 (congrArg some e2.1) (sub_nil _)) (List.sublist_append_right _ _) ?_
    exact rq_v (rv_load rfl (by kernel_rfl) rfl (box_cell 0 rfl rfl))
   ·
    intro vf pf hR
    refine Or.inl ⟨rfl, ?_⟩
    refine rq_less (sx 0 rfl (sub_nil _)) (List.sublist_append_right _ _) ?_
    exact rq_v (rv_ev rfl)
   ·
    intro vf pf hR
    have e4 : (vf 4) = .pointer (some ⟨b, 0, none⟩) ∧ (pf 4) = [] := hR 4 (by decide)
    refine Or.inl ⟨rfl, ?_⟩
    refine rq_less (sx 19 (congrArg some e4.1) (sub_nil _)) (List.sublist_append_right _ _) ?_
    exact rq_v (rv_nilCheck rfl rfl)
   ·
    intro vf pf hR
    have e5 : (vf 5) = .pointer (some ⟨b, 0, none⟩) ∧ (pf 5) = [] := hR 5 (by decide)
    refine Or.inl ⟨rfl, ?_⟩
    refine rq_less (sx 20 (congrArg some e5.1) (sub_nil _)) (List.sublist_append_right _ _) ?_
    exact rq_v (rv_field (k0 := 2) rfl (by kernel_rfl) rfl)
   ·
    intro vf pf hR
    have e6 : (vf 6) = .pointer (some ⟨b, 0 + 2, none⟩) ∧ (pf 6) = [] := hR 6 (by decide)
    refine Or.inl ⟨rfl, ?_⟩
    refine rq_less (sx 21 (congrArg some e6.1) (sub_nil _)) (List.sublist_append_right _ _) ?_
    exact rq_v (rv_load rfl (by kernel_rfl) rfl (box_cell 0 rfl rfl))
   ·
    intro vf pf hR
    have e3 : (vf 3) = .int .i64 s.v ∧ (pf 3) = [] := hR 3 (by decide)
    have e7 : (vf 7) = .int .i64 600 ∧ (pf 7) = [] := hR 7 (by decide)
    refine Or.inl ⟨rfl, ?_⟩
    refine rq_less (sx 18 (congrArg some e3.1) (sx 22 (congrArg some e7.1) (sub_nil _))) (List.sublist_append_right _ _) ?_
    exact rq_mono (rq_v (rv_cmp rfl rfl rfl rfl)) (fun _ _ h => ⟨h.1.trans (congrArg Value.bool hb1), h.2⟩)
  ·
   intro vf pf hR
   have e8 : (vf 8) = .bool true ∧ (pf 8) = [] := hR 8 (by decide)
   refine hl_less (l' := (boxE b #[.int .i64 n, cv, .int .i64 600, .int .i64 s.v, s.pv, s.fv] 125 :: bigE (s.pr.map cPart) :: rowE 26 1 s.pv s.pr.length (s.pr.flatMap crowC) :: rowE 3 1 s.fv s.fo.length (s.fo.map (Value.int .i64)) :: l)) (sx 0 rfl (sx 1 rfl (sx 2 rfl (sx 6 rfl (sx 23 (congrArg some e8.1) (sub_nil _)))))) (List.sublist_append_right _ _) ?_
   simp only [List.drop_succ_cons, List.drop_zero]
   refine hl_less (sx 0 rfl (sx 1 rfl (sx 2 rfl (sx 6 rfl (sx 23 rfl (sub_nil _)))))) (.refl _) ?_
   refine hl_nil ?_
   refine hq_then ?_
   refine hc_true rfl ?_
   refine hc_seq ?_
   refine hc_region ?_
   refine hl_v rfl rfl rfl (rv_ev rfl) ?_
   refine hl_less (sx 0 rfl (sx 1 rfl (sx 2 rfl (sx 6 rfl (sx 23 rfl (sub_nil _)))))) (.refl _) ?_
   refine hl_nil ?_
   refine hq_then ?_
   refine hc_ret ?_
   refine hq_then_ret ?_
   exfalso
   have hv6 := vpre_lt hin.pre
   omega
 ·
  have hb1p : ¬ (600 ≤ s.v) := of_decide_eq_false hb1
  refine hc_draw (by kernel_rfl) 9 [0, 1, 2, 3, 4, 5, 6, 7, 8] (List.take 9 _) (List.drop 9 _) [[], [0], [1], [2], [], [4], [5], [6], [3, 7]] [15, 16, 17, 18, 19, 20, 21, 22, 23] (fun i_ vs_ v_ p_ => match i_ with | 0 => v_ = .pointer (some ⟨b, 0, none⟩) ∧ p_ = [] | 1 => v_ = .pointer (some ⟨b, 0, none⟩) ∧ p_ = [] | 2 => v_ = .pointer (some ⟨b, 0 + 3, none⟩) ∧ p_ = [] | 3 => v_ = .int .i64 s.v ∧ p_ = [] | 4 => v_ = .pointer (some ⟨b, 0, none⟩) ∧ p_ = [] | 5 => v_ = .pointer (some ⟨b, 0, none⟩) ∧ p_ = [] | 6 => v_ = .pointer (some ⟨b, 0 + 2, none⟩) ∧ p_ = [] | 7 => v_ = .int .i64 600 ∧ p_ = [] | 8 => v_ = .bool false ∧ p_ = [] | _ => True) (List.take_append_drop 9 _).symm (by kernel_rfl) (by kernel_rfl) rfl rfl ?_ ?_
  ·
   refine ⟨?_, ?_, ?_, ?_, ?_, ?_, ?_, ?_, ?_, trivial⟩
   ·
    intro vf pf hR
    refine Or.inl ⟨rfl, ?_⟩
    refine rq_less (sx 0 rfl (sub_nil _)) (List.sublist_append_right _ _) ?_
    exact rq_v (rv_ev rfl)
   ·
    intro vf pf hR
    have e0 : (vf 0) = .pointer (some ⟨b, 0, none⟩) ∧ (pf 0) = [] := hR 0 (by decide)
    refine Or.inl ⟨rfl, ?_⟩
    refine rq_less (sx 15 (congrArg some e0.1) (sub_nil _)) (List.sublist_append_right _ _) ?_
    exact rq_v (rv_nilCheck rfl rfl)
   ·
    intro vf pf hR
    have e1 : (vf 1) = .pointer (some ⟨b, 0, none⟩) ∧ (pf 1) = [] := hR 1 (by decide)
    refine Or.inl ⟨rfl, ?_⟩
    refine rq_less (sx 16 (congrArg some e1.1) (sub_nil _)) (List.sublist_append_right _ _) ?_
    exact rq_v (rv_field (k0 := 3) rfl (by kernel_rfl) rfl)
   ·
    intro vf pf hR
    have e2 : (vf 2) = .pointer (some ⟨b, 0 + 3, none⟩) ∧ (pf 2) = [] := hR 2 (by decide)
    refine Or.inl ⟨rfl, ?_⟩
    refine rq_less (sx 17 (congrArg some e2.1) (sub_nil _)) (List.sublist_append_right _ _) ?_
    exact rq_v (rv_load rfl (by kernel_rfl) rfl (box_cell 0 rfl rfl))
   ·
    intro vf pf hR
    refine Or.inl ⟨rfl, ?_⟩
    refine rq_less (sx 0 rfl (sub_nil _)) (List.sublist_append_right _ _) ?_
    exact rq_v (rv_ev rfl)
   ·
    intro vf pf hR
    have e4 : (vf 4) = .pointer (some ⟨b, 0, none⟩) ∧ (pf 4) = [] := hR 4 (by decide)
    refine Or.inl ⟨rfl, ?_⟩
    refine rq_less (sx 19 (congrArg some e4.1) (sub_nil _)) (List.sublist_append_right _ _) ?_
    exact rq_v (rv_nilCheck rfl rfl)
   ·
    intro vf pf hR
    have e5 : (vf 5) = .pointer (some ⟨b, 0, none⟩) ∧ (pf 5) = [] := hR 5 (by decide)
    refine Or.inl ⟨rfl, ?_⟩
    refine rq_less (sx 20 (congrArg some e5.1) (sub_nil _)) (List.sublist_append_right _ _) ?_
    exact rq_v (rv_field (k0 := 2) rfl (by kernel_rfl) rfl)
   ·
    intro vf pf hR
    have e6 : (vf 6) = .pointer (some ⟨b, 0 + 2, none⟩) ∧ (pf 6) = [] := hR 6 (by decide)
    refine Or.inl ⟨rfl, ?_⟩
    refine rq_less (sx 21 (congrArg some e6.1) (sub_nil _)) (List.sublist_append_right _ _) ?_
    exact rq_v (rv_load rfl (by kernel_rfl) rfl (box_cell 0 rfl rfl))
   ·
    intro vf pf hR
    have e3 : (vf 3) = .int .i64 s.v ∧ (pf 3) = [] := hR 3 (by decide)
    have e7 : (vf 7) = .int .i64 600 ∧ (pf 7) = [] := hR 7 (by decide)
    refine Or.inl ⟨rfl, ?_⟩
    refine rq_less (sx 18 (congrArg some e3.1) (sx 22 (congrArg some e7.1) (sub_nil _))) (List.sublist_append_right _ _) ?_
    exact rq_mono (rq_v (rv_cmp rfl rfl rfl rfl)) (fun _ _ h => ⟨h.1.trans (congrArg Value.bool hb1), h.2⟩)
  ·
   intro vf pf hR
   have e8 : (vf 8) = .bool false ∧ (pf 8) = [] := hR 8 (by decide)
   refine hl_less (l' := (boxE b #[.int .i64 n, cv, .int .i64 600, .int .i64 s.v, s.pv, s.fv] 125 :: bigE (s.pr.map cPart) :: rowE 26 1 s.pv s.pr.length (s.pr.flatMap crowC) :: rowE 3 1 s.fv s.fo.length (s.fo.map (Value.int .i64)) :: l)) (sx 0 rfl (sx 1 rfl (sx 2 rfl (sx 6 rfl (sx 23 (congrArg some e8.1) (sub_nil _)))))) (List.sublist_append_right _ _) ?_
   simp only [List.drop_succ_cons, List.drop_zero]
   refine hl_less (sx 0 rfl (sx 1 rfl (sx 2 rfl (sx 6 rfl (sx 23 rfl (sub_nil _)))))) (.refl _) ?_
   refine hl_nil ?_
   refine hq_then ?_
   refine hc_false rfl ?_
   refine hc_skip ?_
   refine hq_then ?_
   refine hc_seq ?_
   refine hc_region ?_
   refine hl_v rfl rfl rfl (rv_ev rfl) ?_
   refine hl_v rfl rfl rfl (rv_nilCheck rfl rfl) ?_
   refine hl_v rfl rfl rfl (rv_field (k0 := 3) rfl (by kernel_rfl) rfl) ?_
   refine hl_v rfl rfl rfl (rv_load rfl (by kernel_rfl) rfl (box_cell 0 rfl rfl)) ?_
   refine hl_v rfl rfl rfl (rv_add rfl rfl rfl (by constructor <;> omega)) ?_
   refine hl_v rfl rfl rfl (rv_nilCheck rfl rfl) ?_
   refine hl_v rfl rfl rfl (rv_field (k0 := 3) rfl (by kernel_rfl) rfl) ?_
   refine hl_storeBox (i := 0) (l' := (boxE b #[.int .i64 n, cv, .int .i64 600, .int .i64 (s.v + 1), s.pv, s.fv] 125 :: bigE (s.pr.map cPart) :: rowE 26 1 s.pv s.pr.length (s.pr.flatMap crowC) :: rowE 3 1 s.fv s.fo.length (s.fo.map (Value.int .i64)) :: l)) rfl rfl rfl (by kernel_rfl) rfl rfl rfl rfl rfl rfl ?_
   refine hl_less (sx 0 rfl (sx 1 rfl (sx 2 rfl (sx 6 rfl (sx 23 rfl (sub_nil _)))))) (.refl _) ?_
   refine hl_nil ?_
   refine hq_then ?_
   refine hc_seq ?_
   refine hc_region ?_
   refine hl_v rfl rfl rfl (rv_ev rfl) ?_
   refine hl_q rfl rfl rfl (rq_call (by kernel_rfl) rfl (fun w hm => copyInts_ret ps _ w ((fun w hm => hqv w (hm.sub (.cons _ (.cons _ (.cons _ (.cons _ (.refl _))))))) w hm) (by omega))) ?_
   intro v2 p3 hR4
   subst hR4
   refine hl_v rfl rfl rfl (rv_ev rfl) ?_
   refine hl_less (sx 0 rfl (sx 1 rfl (sx 2 rfl (sx 6 rfl (sx 7 rfl (sx 23 rfl (sub_nil _))))))) (.refl _) ?_
   refine hl_nil ?_
   refine hq_then ?_
   refine hc_meet1 (α := List Int) (fun own => (rowE 3 1 v2 own.length (own.map (Value.int .i64)) :: boxE b #[.int .i64 n, cv, .int .i64 600, .int .i64 (s.v + 1), s.pv, s.fv] 125 :: bigE (s.pr.map cPart) :: rowE 26 1 s.pv s.pr.length (s.pr.flatMap crowC) :: rowE 3 1 s.fv s.fo.length (s.fo.map (Value.int .i64)) :: l)) (fun own => [(0, .pointer (some ⟨b, 0, none⟩)), (1, dv), (2, qv), (6, .int .i64 0), (7, v2), (23, .bool false)]) (fun own => own = (ownL ds ps)) ?_ ?_
   ·
    refine hc_seq ?_
    refine hc_region ?_
    refine hl_v rfl rfl rfl (rv_ev rfl) ?_
    refine hl_v rfl rfl rfl (rv_len rfl Try.underlying26 rfl (fun w hm => hdv w (hm.sub (.cons _ (.cons _ (.cons _ (.cons _ (.cons _ (.refl _))))))))) ?_
    refine hl_gtr rfl rfl rfl rfl rfl rfl (fun h5 => ?_) (fun h5 => ?_)
    ·
     refine hl_less (sx 0 rfl (sx 1 rfl (sx 2 rfl (sx 6 rfl (sx 7 rfl (sx 23 rfl (sx 35 rfl (sub_nil _)))))))) (.refl _) ?_
     refine hl_nil ?_
     refine hq_then ?_
     refine hc_true rfl ?_
     refine hc_seq ?_
     refine hc_region ?_
     refine hl_v rfl rfl rfl (rv_ev rfl) ?_
     refine hl_v rfl rfl rfl (rv_ev rfl) ?_
     refine hl_v rfl rfl rfl (rv_len rfl Try.underlying26 rfl (fun w hm => hdv w (hm.sub (.cons _ (.cons _ (.cons _ (.cons _ (.cons _ (.refl _))))))))) ?_
     refine hl_v rfl rfl rfl (rv_sub rfl rfl rfl (by constructor <;> omega)) ?_
     obtain ⟨e, hme⟩ : ∃ e : Nat, (ds.length : Int) - 1 = (e : Int) := ⟨ds.length - 1, by omega⟩
     rw [hme]
     have hme2 : ds.length - 1 = e := by omega
     refine hl_v rfl rfl rfl (rv_index (s := 1) rfl Try.underlying26 (by kernel_rfl) rfl rfl (fun w hm => hdv w (hm.sub (.cons _ (.cons _ (.cons _ (.cons _ (.cons _ (.refl _)))))))) (by omega) (by first | omega | (simp only [List.length_set]; omega))) ?_
     have hdl := hin.hds e (by omega)
     refine hl_v rfl rfl rfl (rv_loadEl (u := .int .i64 (ds.getD e 0)) rfl (by kernel_rfl) rfl (fun w hm => hdv w (hm.sub (.cons _ (.cons _ (.cons _ (.cons _ (.cons _ (.refl _)))))))) (ints_at1 (show _ < ds.length by first | omega | (simp only [List.length_set]; omega)))) ?_
     refine hl_v rfl rfl rfl (rv_ev rfl) ?_
     refine hl_less (sx 0 rfl (sx 1 rfl (sx 2 rfl (sx 6 rfl (sx 7 rfl (sx 8 rfl (sx 23 rfl (sx 35 rfl (sub_nil _))))))))) (.refl _) ?_
     refine hl_nil ?_
     refine hq_then ?_
     refine hc_seq ?_
     refine hc_region ?_
     refine hl_v rfl rfl rfl (rv_ev rfl) ?_
     refine hl_gtr rfl rfl rfl rfl rfl rfl (fun h6 => ?_) (fun h6 => ?_)
     ·
      refine hl_less (sx 0 rfl (sx 1 rfl (sx 2 rfl (sx 6 rfl (sx 7 rfl (sx 8 rfl (sx 23 rfl (sx 35 rfl (sx 43 rfl (sub_nil _)))))))))) (.refl _) ?_
      refine hl_nil ?_
      refine hq_then ?_
      refine hc_true rfl ?_
      refine hc_region ?_
      refine hl_v rfl rfl rfl (rv_ev rfl) ?_
      refine hl_v rfl rfl rfl (rv_ev rfl) ?_
      refine hl_v rfl rfl rfl (rv_sub rfl rfl rfl (by constructor <;> omega)) ?_
      refine hl_v rfl rfl rfl (rv_index (s := 1) rfl Try.underlying26 (by kernel_rfl) rfl rfl (rd_row 0 rfl) (by omega) (by first | omega | (simp only [List.length_set]; omega))) ?_
      refine hl_storeEl (i := 0) (n' := (ps.set (((ds.getD e 0) - 1).toNat) 1).length) (xs' := ((ps.set (((ds.getD e 0) - 1).toNat) 1).map (Value.int .i64))) (l' := (rowE 3 1 v2 ((ps.set (((ds.getD e 0) - 1).toNat) 1).length) ((ps.set (((ds.getD e 0) - 1).toNat) 1).map (Value.int .i64)) :: boxE b #[.int .i64 n, cv, .int .i64 600, .int .i64 (s.v + 1), s.pv, s.fv] 125 :: bigE (s.pr.map cPart) :: rowE 26 1 s.pv s.pr.length (s.pr.flatMap crowC) :: rowE 3 1 s.fv s.fo.length (s.fo.map (Value.int .i64)) :: l)) rfl rfl rfl (by kernel_rfl) rfl rfl rfl rfl (by first | omega | (simp only [List.length_set]; omega)) List.length_set.symm (ints_set _ _ _) rfl ?_
      refine hl_less (sx 0 rfl (sx 1 rfl (sx 2 rfl (sx 6 rfl (sx 7 rfl (sx 8 rfl (sx 23 rfl (sx 35 rfl (sx 43 rfl (sub_nil _)))))))))) (.refl _) ?_
      refine hl_nil ?_
      exact hq_meet1 (ps.set (((ds.getD e 0) - 1).toNat) 1) (by unfold ownL; first | rw [if_pos (by omega)] | (rw [if_neg (by omega), hme2]; unfold decL; first | rw [if_pos (by omega)] | rw [if_neg (by omega)])) (sx 0 rfl (sx 1 rfl (sx 2 rfl (sx 6 rfl (sx 7 rfl (sx 23 rfl (sub_nil _))))))) ((.cons_cons _ (.cons_cons _ (.cons_cons _ (.cons_cons _ (.cons_cons _ (.refl _)))))))
     ·
      refine hl_less (sx 0 rfl (sx 1 rfl (sx 2 rfl (sx 6 rfl (sx 7 rfl (sx 8 rfl (sx 23 rfl (sx 35 rfl (sx 43 rfl (sub_nil _)))))))))) (.refl _) ?_
      refine hl_nil ?_
      refine hq_then ?_
      refine hc_false rfl ?_
      refine hc_region ?_
      refine hl_v rfl rfl rfl (rv_ev rfl) ?_
      refine hl_v rfl rfl rfl (rv_ev rfl) ?_
      refine hl_v rfl rfl rfl (rv_neg rfl rfl (by omega) (by omega)) ?_
      refine hl_v rfl rfl rfl (rv_sub rfl rfl rfl (by constructor <;> omega)) ?_
      refine hl_v rfl rfl rfl (rv_index (s := 1) rfl Try.underlying26 (by kernel_rfl) rfl rfl (rd_row 0 rfl) (by omega) (by first | omega | (simp only [List.length_set]; omega))) ?_
      refine hl_storeEl (i := 0) (n' := (ps.set (((-(ds.getD e 0)) - 1).toNat) (-1)).length) (xs' := ((ps.set (((-(ds.getD e 0)) - 1).toNat) (-1)).map (Value.int .i64))) (l' := (rowE 3 1 v2 ((ps.set (((-(ds.getD e 0)) - 1).toNat) (-1)).length) ((ps.set (((-(ds.getD e 0)) - 1).toNat) (-1)).map (Value.int .i64)) :: boxE b #[.int .i64 n, cv, .int .i64 600, .int .i64 (s.v + 1), s.pv, s.fv] 125 :: bigE (s.pr.map cPart) :: rowE 26 1 s.pv s.pr.length (s.pr.flatMap crowC) :: rowE 3 1 s.fv s.fo.length (s.fo.map (Value.int .i64)) :: l)) rfl rfl rfl (by kernel_rfl) rfl rfl rfl rfl (by first | omega | (simp only [List.length_set]; omega)) List.length_set.symm (ints_set _ _ _) rfl ?_
      refine hl_less (sx 0 rfl (sx 1 rfl (sx 2 rfl (sx 6 rfl (sx 7 rfl (sx 8 rfl (sx 23 rfl (sx 35 rfl (sx 43 rfl (sub_nil _)))))))))) (.refl _) ?_
      refine hl_nil ?_
      exact hq_meet1 (ps.set (((-(ds.getD e 0)) - 1).toNat) (-1)) (by unfold ownL; first | rw [if_pos (by omega)] | (rw [if_neg (by omega), hme2]; unfold decL; first | rw [if_pos (by omega)] | rw [if_neg (by omega)])) (sx 0 rfl (sx 1 rfl (sx 2 rfl (sx 6 rfl (sx 7 rfl (sx 23 rfl (sub_nil _))))))) ((.cons_cons _ (.cons_cons _ (.cons_cons _ (.cons_cons _ (.cons_cons _ (.refl _)))))))
    ·
     refine hl_less (sx 0 rfl (sx 1 rfl (sx 2 rfl (sx 6 rfl (sx 7 rfl (sx 23 rfl (sx 35 rfl (sub_nil _)))))))) (.refl _) ?_
     refine hl_nil ?_
     refine hq_then ?_
     refine hc_false rfl ?_
     refine hc_skip ?_
     exact hq_meet1 ps (by unfold ownL; first | rw [if_pos (by omega)] | (rw [if_neg (by omega), hme2]; unfold decL; first | rw [if_pos (by omega)] | rw [if_neg (by omega)])) (sx 0 rfl (sx 1 rfl (sx 2 rfl (sx 6 rfl (sx 7 rfl (sx 23 rfl (sub_nil _))))))) ((.cons_cons _ (.cons_cons _ (.cons_cons _ (.cons_cons _ (.cons_cons _ (.refl _)))))))
   intro own hm7
   have hown := hm7
   have hownl : own.length = ps.length := by rw [hown]; unfold ownL; split <;> first | rfl | exact dec_len _ _
   refine hc_seq ?_
   refine hc_region ?_
   refine hl_v rfl rfl rfl (rv_ev rfl) ?_
   refine hl_v rfl rfl rfl (rv_nilCheck rfl rfl) ?_
   refine hl_v rfl rfl rfl (rv_field (k0 := 0) rfl (by kernel_rfl) rfl) ?_
   refine hl_v rfl rfl rfl (rv_field (k0 := 1) rfl (by kernel_rfl) rfl) ?_
   refine hl_v rfl rfl rfl (rv_load rfl (by kernel_rfl) rfl (box_cell 1 rfl rfl)) ?_
   refine hl_v rfl rfl rfl (rv_ev rfl) ?_
   refine hl_q rfl rfl rfl (rq_call (by kernel_rfl) rfl (fun w hm => propagate_fx n rs cv own _ w c.hr (hcl w (hm.sub (.cons _ (.cons _ (.cons _ (.cons _ (.cons _ (.refl _)))))))) (by rw [hown]; exact own_ok hin.hps) (rd_row 0 rfl w hm))) ?_
   intro v8 p9 hR10
   obtain ⟨pu, out, pok, rfl, rfl, hpok, hpfx⟩ := hR10
   rw [hown] at hpok hpfx
   refine hl_v rfl rfl rfl (rv_ev rfl) ?_
   refine hl_v rfl rfl rfl (rv_ev rfl) ?_
   refine hl_v rfl rfl rfl (rv_ev rfl) ?_
   refine hl_bool (fun h11 => ?_) (fun h11 => ?_)
   ·
    refine hl_v rfl rfl rfl (rv_ev rfl) ?_
    refine hl_v rfl rfl rfl (rv_ev rfl) ?_
    refine hl_less (sx 0 rfl (sx 1 rfl (sx 2 rfl (sx 6 rfl (sx 7 rfl (sx 9 rfl (sx 10 rfl (sx 23 rfl (sub_nil _))))))))) (.refl _) ?_
    refine hl_nil ?_
    refine hq_then ?_
    refine hc_seq ?_
    refine hc_seq ?_
    refine hc_region ?_
    refine hl_v rfl rfl rfl (rv_ev rfl) ?_
    refine hl_less (sx 0 rfl (sx 1 rfl (sx 2 rfl (sx 6 rfl (sx 7 rfl (sx 9 rfl (sx 10 rfl (sx 23 rfl (sx 63 rfl (sub_nil _)))))))))) (.refl _) ?_
    refine hl_nil ?_
    refine hq_then ?_
    refine hc_true rfl ?_
    refine hc_seq ?_
    refine hc_region ?_
    refine hl_v rfl rfl rfl (rv_ev rfl) ?_
    refine hl_less (sx 0 rfl (sx 1 rfl (sx 2 rfl (sx 6 rfl (sx 7 rfl (sx 9 rfl (sx 10 rfl (sx 11 rfl (sx 23 rfl (sx 63 rfl (sub_nil _))))))))))) (.refl _) ?_
    refine hl_nil ?_
    refine hq_then ?_
    refine hc_seq ?_
    refine hc_block ?_
    refine hc_loop1 (α := Nat) (fun k => (rowE 3 1 pu out.length (out.map (Value.int .i64)) :: rowE 3 1 v2 own.length (own.map (Value.int .i64)) :: boxE b #[.int .i64 n, cv, .int .i64 600, .int .i64 (s.v + 1), s.pv, s.fv] 125 :: bigE (s.pr.map cPart) :: rowE 26 1 s.pv s.pr.length (s.pr.flatMap crowC) :: rowE 3 1 s.fv s.fo.length (s.fo.map (Value.int .i64)) :: l)) (fun k => [(0, .pointer (some ⟨b, 0, none⟩)), (1, dv), (2, qv), (6, .int .i64 0), (7, v2), (9, pu), (10, .bool true), (11, .int .i64 (k : Int)), (23, .bool false), (63, .bool true)]) (fun k => k ≤ out.length ∧ ∀ i, i < k → out.getD i 0 ≠ 0) (fun k => out.length - k) 0 ⟨Nat.zero_le _, fun i hi => absurd hi (by omega)⟩ (sx 0 rfl (sx 1 rfl (sx 2 rfl (sx 6 rfl (sx 7 rfl (sx 9 rfl (sx 10 rfl (sx 11 rfl (sx 23 rfl (sx 63 rfl (sub_nil _))))))))))) ((.cons_cons _ (.cons_cons _ (.cons_cons _ (.cons_cons _ (.cons_cons _ (.cons_cons _ (.refl _)))))))) ?_
    intro k hi12
    obtain ⟨hk, hkb⟩ := hi12
    have hfx := hpfx (by assumption)
    have hol := hfx.ok.1
    refine hc_seq ?_
    refine hc_seq ?_
    refine hc_region ?_
    refine hl_v rfl rfl rfl (rv_ev rfl) ?_
    refine hl_v rfl rfl rfl (rv_ev rfl) ?_
    refine hl_v rfl rfl rfl (rv_len rfl Try.underlying26 rfl (rd_row 0 rfl)) ?_
    refine hl_lss rfl rfl rfl rfl rfl rfl (fun h13 => ?_) (fun h13 => ?_)
    ·
     refine hl_v rfl rfl rfl (rv_ev rfl) ?_
     refine hl_v rfl rfl rfl (rv_ev rfl) ?_
     refine hl_v rfl rfl rfl (rv_ev rfl) ?_
     refine hl_v rfl rfl rfl (rv_index (s := 1) rfl Try.underlying26 (by kernel_rfl) rfl rfl (rd_row 0 rfl) (by omega) (by first | omega | (simp only [List.length_set]; omega))) ?_
     refine hl_v rfl rfl rfl (rv_loadEl (u := .int .i64 (out.getD k 0)) rfl (by kernel_rfl) rfl (rd_row 0 rfl) (ints_at1 (show _ < out.length by first | omega | (simp only [List.length_set]; omega)))) ?_
     refine hl_neq rfl rfl rfl rfl rfl rfl (fun h14 => ?_) (fun h14 => ?_)
     ·
      refine hl_v rfl rfl rfl (rv_ev rfl) ?_
      refine hl_less (sx 0 rfl (sx 1 rfl (sx 2 rfl (sx 6 rfl (sx 7 rfl (sx 9 rfl (sx 10 rfl (sx 11 rfl (sx 23 rfl (sx 63 rfl (sx 74 rfl (sub_nil _)))))))))))) (.refl _) ?_
      refine hl_nil ?_
      refine hq_then ?_
      refine hc_true rfl ?_
      refine hc_skip ?_
      refine hq_then ?_
      refine hc_block ?_
      refine hc_region ?_
      refine hl_v rfl rfl rfl (rv_ev rfl) ?_
      refine hl_v rfl rfl rfl (rv_add rfl rfl rfl (by constructor <;> omega)) ?_
      refine hl_v rfl rfl rfl (rv_ev rfl) ?_
      refine hl_less (sx 0 rfl (sx 1 rfl (sx 2 rfl (sx 6 rfl (sx 7 rfl (sx 9 rfl (sx 10 rfl (sx 11 rfl (sx 23 rfl (sx 63 rfl (sx 74 rfl (sub_nil _)))))))))))) (.refl _) ?_
      refine hl_nil ?_
      refine hq_block_normal ?_
      exact hq_round1 (k + 1) ⟨by omega, fun i hi => by by_cases e9 : i = k; (subst e9; assumption); exact hkb i (by omega)⟩ (by omega) (sx 0 rfl (sx 1 rfl (sx 2 rfl (sx 6 rfl (sx 7 rfl (sx 9 rfl (sx 10 rfl (sx 11 rfl (sx 23 rfl (sx 63 rfl (sub_nil _))))))))))) ((.cons_cons _ (.cons_cons _ (.cons_cons _ (.cons_cons _ (.cons_cons _ (.cons_cons _ (.refl _))))))))
     ·
      refine hl_v rfl rfl rfl (rv_ev rfl) ?_
      refine hl_less (sx 0 rfl (sx 1 rfl (sx 2 rfl (sx 6 rfl (sx 7 rfl (sx 9 rfl (sx 10 rfl (sx 11 rfl (sx 23 rfl (sx 63 rfl (sx 74 rfl (sub_nil _)))))))))))) (.refl _) ?_
      refine hl_nil ?_
      refine hq_then ?_
      refine hc_false rfl ?_
      refine hc_exit ?_
      refine hq_then_exit ?_
      refine hq_then_exit ?_
      refine hq_block_exit ?_
      refine hq_then ?_
      refine hc_seq ?_
      refine hc_seq ?_
      refine hc_region ?_
      refine hl_v rfl rfl rfl (rv_ev rfl) ?_
      refine hl_v rfl rfl rfl (rv_ev rfl) ?_
      refine hl_v rfl rfl rfl (rv_len rfl Try.underlying26 rfl (rd_row 0 rfl)) ?_
      refine hl_eql rfl rfl rfl rfl rfl rfl (fun h15 => ?_) (fun h15 => ?_)
      ·
       refine hl_less (sx 0 rfl (sx 1 rfl (sx 2 rfl (sx 6 rfl (sx 7 rfl (sx 9 rfl (sx 10 rfl (sx 11 rfl (sx 23 rfl (sx 63 rfl (sx 74 rfl (sx 80 rfl (sub_nil _))))))))))))) (.refl _) ?_
       refine hl_nil ?_
       refine hq_then ?_
       refine hc_true rfl ?_
       refine hc_seq ?_
       refine hc_region ?_
       refine hl_v rfl rfl rfl (rv_ev rfl) ?_
       refine hl_v rfl rfl rfl (rv_ev rfl) ?_
       refine hl_v rfl rfl rfl (rv_nilCheck rfl rfl) ?_
       refine hl_v rfl rfl rfl (rv_field (k0 := 5) rfl (by kernel_rfl) rfl) ?_
       refine hl_one (i := 0) rfl (fun ho16 => ?_)
       refine hl_storeBox (i := 2) (l' := (rowE 3 1 pu out.length (out.map (Value.int .i64)) :: rowE 3 1 v2 own.length (own.map (Value.int .i64)) :: boxE b #[.int .i64 n, cv, .int .i64 600, .int .i64 (s.v + 1), s.pv, pu] 125 :: bigE (s.pr.map cPart) :: rowE 26 1 s.pv s.pr.length (s.pr.flatMap crowC) :: rowE 3 1 s.fv s.fo.length (s.fo.map (Value.int .i64)) :: l)) rfl rfl rfl (by kernel_rfl) rfl rfl ho16 rfl rfl rfl ?_
       refine hl_less (sx 0 rfl (sx 1 rfl (sx 2 rfl (sx 6 rfl (sx 7 rfl (sx 9 rfl (sx 10 rfl (sx 11 rfl (sx 23 rfl (sx 63 rfl (sx 74 rfl (sx 80 rfl (sub_nil _))))))))))))) (.refl _) ?_
       refine hl_nil ?_
       refine hq_then ?_
       refine hc_seq ?_
       refine hc_region ?_
       refine hl_v rfl rfl rfl (rv_ev rfl) ?_
       refine hl_less (sx 0 rfl (sx 1 rfl (sx 2 rfl (sx 6 rfl (sx 7 rfl (sx 9 rfl (sx 10 rfl (sx 11 rfl (sx 23 rfl (sx 63 rfl (sx 74 rfl (sx 80 rfl (sub_nil _))))))))))))) (.refl _) ?_
       refine hl_nil ?_
       refine hq_then ?_
       refine hc_ret ?_
       refine hq_then_ret ?_
       refine hq_then_ret ?_
       refine hq_conv (boxE b #[.int .i64 n, cv, .int .i64 600, .int .i64 (s.v + 1), s.pv, pu] 125 :: bigE (s.pr.map cPart) :: rowE 26 1 s.pv s.pr.length (s.pr.flatMap crowC) :: rowE 3 1 pu out.length (out.map (Value.int .i64)) :: rowE 3 1 v2 own.length (own.map (Value.int .i64)) :: rowE 3 1 s.fv s.fo.length (s.fo.map (Value.int .i64)) :: l) (conv_pick (src := [rowE 3 1 pu out.length (out.map (Value.int .i64)), rowE 3 1 v2 own.length (own.map (Value.int .i64)), boxE b #[.int .i64 n, cv, .int .i64 600, .int .i64 (s.v + 1), s.pv, pu] 125, bigE (s.pr.map cPart), rowE 26 1 s.pv s.pr.length (s.pr.flatMap crowC), rowE 3 1 s.fv s.fo.length (s.fo.map (Value.int .i64))]) (dst := [boxE b #[.int .i64 n, cv, .int .i64 600, .int .i64 (s.v + 1), s.pv, pu] 125, bigE (s.pr.map cPart), rowE 26 1 s.pv s.pr.length (s.pr.flatMap crowC), rowE 3 1 pu out.length (out.map (Value.int .i64)), rowE 3 1 v2 own.length (own.map (Value.int .i64)), rowE 3 1 s.fv s.fo.length (s.fo.map (Value.int .i64))]) (l := l) [2, 3, 4, 0, 1, 5] (by decide) rfl) ?_
       refine hq_conv (svE b n cv (Sv.mk (s.v + 1) s.pv s.pr pu out) :: rowE 3 1 v2 own.length (own.map (Value.int .i64)) :: rowE 3 1 s.fv s.fo.length (s.fo.map (Value.int .i64)) :: l) (conv_big (ps := [boxE b #[.int .i64 n, cv, .int .i64 600, .int .i64 (s.v + 1), s.pv, pu] 125, bigE (s.pr.map cPart), rowE 26 1 s.pv s.pr.length (s.pr.flatMap crowC), rowE 3 1 pu out.length (out.map (Value.int .i64))])) ?_
       exact hq_retMut (p' := svE b n cv (Sv.mk (s.v + 1) s.pv s.pr pu out)) rfl rfl ((.cons_cons _ (.cons _ (.cons _ (.refl _))))) ⟨(Sv.mk (s.v + 1) s.pv s.pr pu out), 1, rfl, rfl, by first | (exfalso; omega) | exact full_out (out := out) c hfx (fun q hq => hkb q (by omega)) (vpre_lt hin.pre), by show (s.pr.length : Int) - s.pr.length ≤ s.v + 1 - s.v; omega⟩
      ·
       refine hl_less (sx 0 rfl (sx 1 rfl (sx 2 rfl (sx 6 rfl (sx 7 rfl (sx 9 rfl (sx 10 rfl (sx 11 rfl (sx 23 rfl (sx 63 rfl (sx 74 rfl (sx 80 rfl (sub_nil _))))))))))))) (.refl _) ?_
       refine hl_nil ?_
       refine hq_then ?_
       refine hc_false rfl ?_
       refine hc_skip ?_
       refine hq_then ?_
       refine hc_seq ?_
       refine hc_region ?_
       refine hl_v rfl rfl rfl (rv_ev rfl) ?_
       refine hl_v rfl rfl rfl (rv_add rfl rfl rfl (by constructor <;> omega)) ?_
       refine hl_v rfl rfl rfl (rv_neg rfl rfl (by omega) (by omega)) ?_
       refine hl_v rfl rfl rfl (rv_ev rfl) ?_
       refine hl_v rfl rfl rfl (rv_add rfl rfl rfl (by constructor <;> omega)) ?_
       refine hl_row rfl rfl rfl (rq_buildSlice (z := .int .i64 0) (s := 1) (cs := ([-((k : Int) + 1), (k : Int) + 1].map (Value.int .i64))) rfl Try.underlying26 (by kernel_rfl) (by decide) rfl (by kernel_rfl) rfl) ?_
       intro g17
       refine hl_v rfl rfl rfl (rv_len rfl Try.underlying26 rfl (rd_row 0 rfl)) ?_
       refine hl_v rfl rfl rfl (rv_ev rfl) ?_
       refine hl_less (sx 0 rfl (sx 1 rfl (sx 2 rfl (sx 6 rfl (sx 7 rfl (sx 9 rfl (sx 10 rfl (sx 11 rfl (sx 23 rfl (sx 63 rfl (sx 74 rfl (sx 80 rfl (sx 90 rfl (sx 91 rfl (sx 92 rfl (sub_nil _)))))))))))))))) (.refl _) ?_
       refine hl_nil ?_
       refine hq_then ?_
       refine hc_block ?_
       have hfr : SFree n rs (ownL ds ps) out k := ⟨own_ok hin.hps, hfx, by omega, by first | assumption | (exfalso; omega), hkb⟩
       refine hc_conv (boxE b #[.int .i64 n, cv, .int .i64 600, .int .i64 (s.v + 1), s.pv, s.fv] 125 :: bigE (s.pr.map cPart) :: rowE 26 1 s.pv s.pr.length (s.pr.flatMap crowC) :: rowE 3 1 s.fv s.fo.length (s.fo.map (Value.int .i64)) :: rowE 3 1 (.slice (some ⟨g17, 0, none⟩) 2 2) 2 ([-((k : Int) + 1), (k : Int) + 1].map (Value.int .i64)) :: rowE 3 1 pu out.length (out.map (Value.int .i64)) :: rowE 3 1 v2 own.length (own.map (Value.int .i64)) :: l) (conv_pick (src := [rowE 3 1 (.slice (some ⟨g17, 0, none⟩) 2 2) 2 ([-((k : Int) + 1), (k : Int) + 1].map (Value.int .i64)), rowE 3 1 pu out.length (out.map (Value.int .i64)), rowE 3 1 v2 own.length (own.map (Value.int .i64)), boxE b #[.int .i64 n, cv, .int .i64 600, .int .i64 (s.v + 1), s.pv, s.fv] 125, bigE (s.pr.map cPart), rowE 26 1 s.pv s.pr.length (s.pr.flatMap crowC), rowE 3 1 s.fv s.fo.length (s.fo.map (Value.int .i64))]) (dst := [boxE b #[.int .i64 n, cv, .int .i64 600, .int .i64 (s.v + 1), s.pv, s.fv] 125, bigE (s.pr.map cPart), rowE 26 1 s.pv s.pr.length (s.pr.flatMap crowC), rowE 3 1 s.fv s.fo.length (s.fo.map (Value.int .i64)), rowE 3 1 (.slice (some ⟨g17, 0, none⟩) 2 2) 2 ([-((k : Int) + 1), (k : Int) + 1].map (Value.int .i64)), rowE 3 1 pu out.length (out.map (Value.int .i64)), rowE 3 1 v2 own.length (own.map (Value.int .i64))]) (l := l) [3, 4, 5, 6, 0, 1, 2] (by decide) rfl) ?_
       refine hc_conv (svE b n cv (Sv.mk (s.v + 1) s.pv s.pr s.fv s.fo) :: rowE 3 1 (.slice (some ⟨g17, 0, none⟩) 2 2) 2 ([-((k : Int) + 1), (k : Int) + 1].map (Value.int .i64)) :: rowE 3 1 pu out.length (out.map (Value.int .i64)) :: rowE 3 1 v2 own.length (own.map (Value.int .i64)) :: l) (conv_big (ps := [boxE b #[.int .i64 n, cv, .int .i64 600, .int .i64 (s.v + 1), s.pv, s.fv] 125, bigE (s.pr.map cPart), rowE 26 1 s.pv s.pr.length (s.pr.flatMap crowC), rowE 3 1 s.fv s.fo.length (s.fo.map (Value.int .i64))])) ?_
       refine hc_loop2 (α := Nat) (β := Sv) (fun i s1 => (svE b n cv s1 :: rowE 3 1 (.slice (some ⟨g17, 0, none⟩) 2 2) 2 ([-((k : Int) + 1), (k : Int) + 1].map (Value.int .i64)) :: rowE 3 1 pu out.length (out.map (Value.int .i64)) :: rowE 3 1 v2 own.length (own.map (Value.int .i64)) :: l)) (fun i s1 => [(0, .pointer (some ⟨b, 0, none⟩)), (1, dv), (2, qv), (6, .int .i64 0), (7, v2), (9, pu), (10, .bool true), (11, .int .i64 (k : Int)), (23, .bool false), (63, .bool true), (74, .bool false), (80, .bool false), (90, .slice (some ⟨g17, 0, none⟩) 2 2), (91, .int .i64 (2 : Int)), (92, .int .i64 (i : Int))]) (fun i s1 => i ≤ 2 ∧ LoopI n rs F (ownL ds ps) out k s.v i s1.v ∧ (s1.pr.length : Int) - s.pr.length ≤ s1.v - s.v - 1 ∧ s1.v ≤ 600) (fun i s1 => 2 - i) 0 (Sv.mk (s.v + 1) s.pv s.pr s.fv s.fo) ⟨by omega, .inl ⟨rfl, rfl⟩, by show (s.pr.length : Int) - s.pr.length ≤ s.v + 1 - s.v - 1; omega, by show s.v + 1 ≤ 600; omega⟩ (sx 0 rfl (sx 1 rfl (sx 2 rfl (sx 6 rfl (sx 7 rfl (sx 9 rfl (sx 10 rfl (sx 11 rfl (sx 23 rfl (sx 63 rfl (sx 74 rfl (sx 80 rfl (sx 90 rfl (sx 91 rfl (sx 92 rfl (sub_nil _)))))))))))))))) ((.cons_cons _ (.cons_cons _ (.cons_cons _ (.cons_cons _ (.refl _)))))) ?_
       intro i s1 hi18
       obtain ⟨hi, hI, hpl, h6⟩ := hi18
       refine hc_seq ?_
       refine hc_region ?_
       refine hl_lss rfl rfl rfl rfl rfl rfl (fun h19 => ?_) (fun h19 => ?_)
       ·
        refine hl_less (sx 0 rfl (sx 1 rfl (sx 2 rfl (sx 6 rfl (sx 7 rfl (sx 9 rfl (sx 10 rfl (sx 11 rfl (sx 23 rfl (sx 63 rfl (sx 74 rfl (sx 80 rfl (sx 90 rfl (sx 91 rfl (sx 92 rfl (sx 93 rfl (sub_nil _))))))))))))))))) (.refl _) ?_
        refine hl_nil ?_
        refine hq_then ?_
        refine hc_seq ?_
        refine hc_true rfl ?_
        refine hc_skip ?_
        refine hq_then ?_
        refine hc_seq ?_
        refine hc_block ?_
        refine hc_seq ?_
        refine hc_region ?_
        refine hl_v rfl rfl rfl (rv_index (s := 1) rfl Try.underlying26 (by kernel_rfl) rfl rfl (rd_row 1 rfl) (by omega) (by first | omega | (simp only [List.length_set]; omega))) ?_
        refine hl_v rfl rfl rfl (rv_loadEl (u := .int .i64 (([-((k : Int) + 1), (k : Int) + 1]).getD i 0)) rfl (by kernel_rfl) rfl (rd_row 1 rfl) (ints_at1 (show _ < 2 by first | omega | (simp only [List.length_set]; omega)))) ?_
        refine hl_v rfl rfl rfl (rv_ev rfl) ?_
        refine hl_less (sx 0 rfl (sx 1 rfl (sx 2 rfl (sx 6 rfl (sx 7 rfl (sx 9 rfl (sx 10 rfl (sx 11 rfl (sx 13 rfl (sx 23 rfl (sx 63 rfl (sx 74 rfl (sx 80 rfl (sx 90 rfl (sx 91 rfl (sx 92 rfl (sx 93 rfl (sub_nil _)))))))))))))))))) (.refl _) ?_
        refine hl_nil ?_
        refine hq_then ?_
        refine hc_seq ?_
        refine hc_region ?_
        obtain ⟨hc1, hc2, hc3, hc4⟩ := child_in c hfr hin.pre hI (by omega) (d := ([-((k : Int) + 1), (k : Int) + 1]).getD i 0) rfl
        have hzn := zeros_next hfx
        have hln := hin.len
        have hpr9 := hin.pr
        have hv09 := hin.v0
        refine hl_v rfl rfl rfl (rv_ev rfl) ?_
        refine hl_v rfl rfl rfl (rv_ev rfl) ?_
        refine hl_q rfl rfl rfl (rq_call (by kernel_rfl) rfl (fun w hm => copyInts_ret ds _ w ((fun w hm => hdv w (hm.sub (.cons _ (.cons _ (.cons _ (.cons _ (.refl _))))))) w hm) (by omega))) ?_
        intro v20 p21 hR22
        subst hR22
        refine hl_v rfl rfl rfl (rv_ev rfl) ?_
        refine hl_row rfl rfl rfl (rq_buildSlice (z := .int .i64 0) (s := 1) (cs := ([([-((k : Int) + 1), (k : Int) + 1]).getD i 0].map (Value.int .i64))) rfl Try.underlying26 (by kernel_rfl) (by decide) rfl (by kernel_rfl) rfl) ?_
        intro g23
        refine hl_append (i := 1) (z := .int .i64 0) (bytes := 8) (n' := (ds ++ ([([-((k : Int) + 1), (k : Int) + 1]).getD i 0])).length) (xs' := ((ds ++ ([([-((k : Int) + 1), (k : Int) + 1]).getD i 0])).map (Value.int .i64))) (L := fun v24 => (rowE 3 1 (.slice (some ⟨g23, 0, none⟩) 1 1) 1 ([([-((k : Int) + 1), (k : Int) + 1]).getD i 0].map (Value.int .i64)) :: rowE 3 1 v24 ((ds ++ ([([-((k : Int) + 1), (k : Int) + 1]).getD i 0])).length) ((ds ++ ([([-((k : Int) + 1), (k : Int) + 1]).getD i 0])).map (Value.int .i64)) :: svE b n cv s1 :: rowE 3 1 (.slice (some ⟨g17, 0, none⟩) 2 2) 2 ([-((k : Int) + 1), (k : Int) + 1].map (Value.int .i64)) :: rowE 3 1 pu out.length (out.map (Value.int .i64)) :: rowE 3 1 v2 own.length (own.map (Value.int .i64)) :: l)) rfl rfl rfl rfl Try.underlying26 (by kernel_rfl) (by kernel_rfl) rfl rfl rfl (rd_row 0 rfl) (ints_one _) (by first | omega | (simp; omega)) (len_app ds ([([-((k : Int) + 1), (k : Int) + 1]).getD i 0])) (ints_app ds ([([-((k : Int) + 1), (k : Int) + 1]).getD i 0])) (fun _ => rfl) ?_
        intro v24
        refine hl_v rfl rfl rfl (rv_ev rfl) ?_
        refine hl_callM2 (R := (fun u_ p_ => ∃ (s2 : Sv) (cd : Int), u_ = .int .i64 cd ∧ p_ = svE b n cv s2 ∧ VPost n rs F (ownL (ds ++ [([-((k : Int) + 1), (k : Int) + 1]).getD i 0]) out) s1.v s2.v cd s2.fo ∧ (s2.pr.length : Int) - s1.pr.length ≤ s2.v - s1.v)) 2 rfl rfl (by kernel_rfl) rfl rfl (fun L w hX hm => IH (ds ++ [([-((k : Int) + 1), (k : Int) + 1]).getD i 0]) out _ pu s1 _ _ (by rw [own_app]; omega) ⟨hfx.ok, fun q hq => by rw [List.length_append, List.length_singleton] at hq; by_cases e9 : q < ds.length; (rw [getD_left e9]; exact hin.hds q e9); (rw [getD_right (by omega), show q - ds.length = 0 by omega]; exact hc3), by rw [own_app, List.length_append, List.length_singleton]; omega, by rw [own_app]; exact hc1, by omega, by omega⟩ (fun w h => hcl w ((hX w h).sub (.cons _ (.cons _ (.cons _ (.cons _ (.cons _ (.refl _)))))))) (fun w h => rd_row 1 rfl w (hX w h)) (fun w h => rd_row 3 rfl w (hX w h)) hm) ?_
        intro v25 p26 hR27
        obtain ⟨s3, cd, rfl, rfl, hvp, hpl3⟩ := hR27
        refine hl_eqL (l' := (rowE 3 1 (.slice (some ⟨g23, 0, none⟩) 1 1) 1 ([([-((k : Int) + 1), (k : Int) + 1]).getD i 0].map (Value.int .i64)) :: rowE 3 1 v24 ((ds ++ ([([-((k : Int) + 1), (k : Int) + 1]).getD i 0])).length) ((ds ++ ([([-((k : Int) + 1), (k : Int) + 1]).getD i 0])).map (Value.int .i64)) :: svE b n cv s3 :: rowE 3 1 (.slice (some ⟨g17, 0, none⟩) 2 2) 2 ([-((k : Int) + 1), (k : Int) + 1].map (Value.int .i64)) :: rowE 3 1 pu out.length (out.map (Value.int .i64)) :: rowE 3 1 v2 own.length (own.map (Value.int .i64)) :: l)) rfl ?_
        refine hl_v rfl rfl rfl (rv_ev rfl) ?_
        refine hl_less (sx 0 rfl (sx 1 rfl (sx 2 rfl (sx 6 rfl (sx 7 rfl (sx 9 rfl (sx 10 rfl (sx 11 rfl (sx 13 rfl (sx 14 rfl (sx 23 rfl (sx 63 rfl (sx 74 rfl (sx 80 rfl (sx 90 rfl (sx 91 rfl (sx 92 rfl (sx 93 rfl (sub_nil _))))))))))))))))))) (.refl _) ?_
        refine hl_nil ?_
        refine hq_then ?_
        refine hc_seq ?_
        refine hc_region ?_
        refine hl_v rfl rfl rfl (rv_ev rfl) ?_
        refine hl_neq rfl rfl rfl rfl rfl rfl (fun h28 => ?_) (fun h28 => ?_)
        ·
         refine hl_less (sx 0 rfl (sx 1 rfl (sx 2 rfl (sx 6 rfl (sx 7 rfl (sx 9 rfl (sx 10 rfl (sx 11 rfl (sx 13 rfl (sx 14 rfl (sx 23 rfl (sx 63 rfl (sx 74 rfl (sx 80 rfl (sx 90 rfl (sx 91 rfl (sx 92 rfl (sx 93 rfl (sx 105 rfl (sub_nil _)))))))))))))))))))) (.refl _) ?_
         refine hl_nil ?_
         refine hq_then ?_
         refine hc_true rfl ?_
         refine hc_seq ?_
         refine hc_region ?_
         refine hl_v rfl rfl rfl (rv_ev rfl) ?_
         refine hl_v rfl rfl rfl (rv_ev rfl) ?_
         refine hl_less (sx 0 rfl (sx 1 rfl (sx 2 rfl (sx 6 rfl (sx 7 rfl (sx 9 rfl (sx 10 rfl (sx 11 rfl (sx 13 rfl (sx 14 rfl (sx 23 rfl (sx 63 rfl (sx 74 rfl (sx 80 rfl (sx 90 rfl (sx 91 rfl (sx 92 rfl (sx 93 rfl (sx 105 rfl (sub_nil _)))))))))))))))))))) (.refl _) ?_
         refine hl_nil ?_
         refine hq_then ?_
         refine hc_ret ?_
         refine hq_block_ret ?_
         refine hq_then_ret ?_
         refine hq_then_ret ?_
         refine hq_block_ret ?_
         refine hq_then_ret ?_
         refine hq_conv (svE b n cv s3 :: l) (conv_pick (src := [rowE 3 1 (.slice (some ⟨g23, 0, none⟩) 1 1) 1 ([([-((k : Int) + 1), (k : Int) + 1]).getD i 0].map (Value.int .i64)), rowE 3 1 v24 ((ds ++ ([([-((k : Int) + 1), (k : Int) + 1]).getD i 0])).length) ((ds ++ ([([-((k : Int) + 1), (k : Int) + 1]).getD i 0])).map (Value.int .i64)), svE b n cv s3, rowE 3 1 (.slice (some ⟨g17, 0, none⟩) 2 2) 2 ([-((k : Int) + 1), (k : Int) + 1].map (Value.int .i64)), rowE 3 1 pu out.length (out.map (Value.int .i64)), rowE 3 1 v2 own.length (own.map (Value.int .i64))]) (dst := [svE b n cv s3]) (l := l) [2] (by decide) rfl) ?_
         exact hq_retMut (p' := svE b n cv s3) rfl rfl ((.cons_cons _ (.refl _))) ⟨s3, cd, rfl, rfl, by have h9 := hvp; rw [own_app] at h9; exact child_end c hI (by omega) h9 (by omega), by omega⟩
        ·
         refine hl_less (sx 0 rfl (sx 1 rfl (sx 2 rfl (sx 6 rfl (sx 7 rfl (sx 9 rfl (sx 10 rfl (sx 11 rfl (sx 13 rfl (sx 14 rfl (sx 23 rfl (sx 63 rfl (sx 74 rfl (sx 80 rfl (sx 90 rfl (sx 91 rfl (sx 92 rfl (sx 93 rfl (sx 105 rfl (sub_nil _)))))))))))))))))))) (.refl _) ?_
         refine hl_nil ?_
         refine hq_then ?_
         refine hc_false rfl ?_
         refine hc_skip ?_
         refine hq_block_normal ?_
         refine hq_then ?_
         refine hc_region ?_
         refine hl_v rfl rfl rfl (rv_add rfl rfl rfl (by constructor <;> omega)) ?_
         refine hl_v rfl rfl rfl (rv_ev rfl) ?_
         refine hl_less (sx 0 rfl (sx 1 rfl (sx 2 rfl (sx 6 rfl (sx 7 rfl (sx 9 rfl (sx 10 rfl (sx 11 rfl (sx 13 rfl (sx 14 rfl (sx 23 rfl (sx 63 rfl (sx 74 rfl (sx 80 rfl (sx 90 rfl (sx 91 rfl (sx 92 rfl (sx 93 rfl (sx 105 rfl (sub_nil _)))))))))))))))))))) (.refl _) ?_
         refine hl_nil ?_
         exact hq_round2 (i + 1) s3 ⟨by omega, by have h9 := hvp; rw [own_app, show cd = 2 by omega] at h9; exact child_out c hfr hin.pre hI (by omega) rfl h9, by omega, hvp.mono.2⟩ (by omega) (sx 0 rfl (sx 1 rfl (sx 2 rfl (sx 6 rfl (sx 7 rfl (sx 9 rfl (sx 10 rfl (sx 11 rfl (sx 23 rfl (sx 63 rfl (sx 74 rfl (sx 80 rfl (sx 90 rfl (sx 91 rfl (sx 92 rfl (sub_nil _)))))))))))))))) ((.cons _ (.cons _ (.cons_cons _ (.cons_cons _ (.cons_cons _ (.cons_cons _ (.refl _))))))))
       ·
        refine hl_less (sx 0 rfl (sx 1 rfl (sx 2 rfl (sx 6 rfl (sx 7 rfl (sx 9 rfl (sx 10 rfl (sx 11 rfl (sx 23 rfl (sx 63 rfl (sx 74 rfl (sx 80 rfl (sx 90 rfl (sx 91 rfl (sx 92 rfl (sx 93 rfl (sub_nil _))))))))))))))))) (.refl _) ?_
        refine hl_nil ?_
        refine hq_then ?_
        refine hc_seq ?_
        refine hc_false rfl ?_
        refine hc_exit ?_
        refine hq_then_exit ?_
        refine hq_then_exit ?_
        refine hq_block_exit ?_
        refine hq_then ?_
        refine hc_seq ?_
        refine hc_conv (svE b n cv s1 :: rowE 3 1 (.slice (some ⟨g17, 0, none⟩) 2 2) 2 ([-((k : Int) + 1), (k : Int) + 1].map (Value.int .i64)) :: rowE 3 1 pu out.length (out.map (Value.int .i64)) :: rowE 3 1 v2 own.length (own.map (Value.int .i64)) :: l) (conv_pick (src := [svE b n cv s1, rowE 3 1 (.slice (some ⟨g17, 0, none⟩) 2 2) 2 ([-((k : Int) + 1), (k : Int) + 1].map (Value.int .i64)), rowE 3 1 pu out.length (out.map (Value.int .i64)), rowE 3 1 v2 own.length (own.map (Value.int .i64))]) (dst := [svE b n cv s1, rowE 3 1 (.slice (some ⟨g17, 0, none⟩) 2 2) 2 ([-((k : Int) + 1), (k : Int) + 1].map (Value.int .i64)), rowE 3 1 pu out.length (out.map (Value.int .i64)), rowE 3 1 v2 own.length (own.map (Value.int .i64))]) (l := l) [0, 1, 2, 3] (by decide) rfl) ?_
        refine hc_conv (boxE b #[.int .i64 n, cv, .int .i64 600, .int .i64 s1.v, s1.pv, s1.fv] 125 :: bigE (s1.pr.map cPart) :: rowE 26 1 s1.pv s1.pr.length (s1.pr.flatMap crowC) :: rowE 3 1 s1.fv s1.fo.length (s1.fo.map (Value.int .i64)) :: rowE 3 1 (.slice (some ⟨g17, 0, none⟩) 2 2) 2 ([-((k : Int) + 1), (k : Int) + 1].map (Value.int .i64)) :: rowE 3 1 pu out.length (out.map (Value.int .i64)) :: rowE 3 1 v2 own.length (own.map (Value.int .i64)) :: l) conv_unbig ?_
        refine hc_conv (rowE 26 1 s1.pv s1.pr.length (s1.pr.flatMap crowC) :: boxE b #[.int .i64 n, cv, .int .i64 600, .int .i64 s1.v, s1.pv, s1.fv] 125 :: bigE (s1.pr.map cPart) :: rowE 3 1 s1.fv s1.fo.length (s1.fo.map (Value.int .i64)) :: rowE 3 1 (.slice (some ⟨g17, 0, none⟩) 2 2) 2 ([-((k : Int) + 1), (k : Int) + 1].map (Value.int .i64)) :: rowE 3 1 pu out.length (out.map (Value.int .i64)) :: rowE 3 1 v2 own.length (own.map (Value.int .i64)) :: l) (conv_pick (src := [boxE b #[.int .i64 n, cv, .int .i64 600, .int .i64 s1.v, s1.pv, s1.fv] 125, bigE (s1.pr.map cPart), rowE 26 1 s1.pv s1.pr.length (s1.pr.flatMap crowC), rowE 3 1 s1.fv s1.fo.length (s1.fo.map (Value.int .i64)), rowE 3 1 (.slice (some ⟨g17, 0, none⟩) 2 2) 2 ([-((k : Int) + 1), (k : Int) + 1].map (Value.int .i64)), rowE 3 1 pu out.length (out.map (Value.int .i64)), rowE 3 1 v2 own.length (own.map (Value.int .i64))]) (dst := [rowE 26 1 s1.pv s1.pr.length (s1.pr.flatMap crowC), boxE b #[.int .i64 n, cv, .int .i64 600, .int .i64 s1.v, s1.pv, s1.fv] 125, bigE (s1.pr.map cPart), rowE 3 1 s1.fv s1.fo.length (s1.fo.map (Value.int .i64)), rowE 3 1 (.slice (some ⟨g17, 0, none⟩) 2 2) 2 ([-((k : Int) + 1), (k : Int) + 1].map (Value.int .i64)), rowE 3 1 pu out.length (out.map (Value.int .i64)), rowE 3 1 v2 own.length (own.map (Value.int .i64))]) (l := l) [2, 0, 1, 3, 4, 5, 6] (by decide) rfl) ?_
        refine hc_draw4 (l := (boxE b #[.int .i64 n, cv, .int .i64 600, .int .i64 s1.v, s1.pv, s1.fv] 125 :: bigE (s1.pr.map cPart) :: rowE 3 1 s1.fv s1.fo.length (s1.fo.map (Value.int .i64)) :: rowE 3 1 (.slice (some ⟨g17, 0, none⟩) 2 2) 2 ([-((k : Int) + 1), (k : Int) + 1].map (Value.int .i64)) :: rowE 3 1 pu out.length (out.map (Value.int .i64)) :: rowE 3 1 v2 own.length (own.map (Value.int .i64)) :: l)) (by kernel_rfl) 9 [0, 1, 2, 3, 4, 5, 6, 7, 8] (List.take 9 _) (List.drop 9 _) [[], [], [1], [2], [3], [], [5], [6], [4, 6, 7]] [some 108, some 109, some 110, some 111, some 112, some 113, some 114, some 115, some 116] (fun i_ vs_ v_ p_ => match i_ with | 0 => v_ = .pointer (some ⟨b, 0, none⟩) ∧ p_ = [] | 1 => v_ = .pointer (some ⟨b, 0, none⟩) ∧ p_ = [] | 2 => v_ = .pointer (some ⟨b, 0, none⟩) ∧ p_ = [] | 3 => v_ = .pointer (some ⟨b, 0 + 4, none⟩) ∧ p_ = [] | 4 => v_ = s1.pv ∧ p_ = [] | 5 => v_ = dv ∧ p_ = [] | 6 => (fun v' post => post = [rowE 3 1 v' (ds.map (fun x => -x)).length ((ds.map (fun x => -x)).map (Value.int .i64))] ∧ v'.oneCell' = true) v_ p_ | 7 => IsRow_o 26 1 1 ([(List.getD vs_ 0 undef)]) v_ p_ | 8 => (∃ pm_, p_ = [pm_] ∧ (fun u_ p_ => p_ = rowE 26 1 u_ ((s1.pr ++ [CRow.mk (List.getD vs_ 1 undef) (ds.map (fun x => -x))]).length) ((s1.pr ++ [CRow.mk (List.getD vs_ 1 undef) (ds.map (fun x => -x))]).flatMap crowC)) v_ pm_) | _ => True) [[], [], [1], [2], [3], [], [5], [6], [4, 6, 7]] [none, none, none, none, none, none, none, none, some 12] [[rowE 26 1 s1.pv s1.pr.length (s1.pr.flatMap crowC)]] [0, 1, 2, 3, 4, 5, 6, 7, 8] 12 (List.take_append_drop 9 _).symm (by kernel_rfl) (by kernel_rfl) (by kernel_rfl) rfl rfl ?_ ?_
        ·
         refine ⟨?_, ?_, ?_, ?_, ?_, ?_, ?_, ?_, ?_, trivial⟩
         ·
          intro vf pf hmu hR
          refine Or.inl ⟨rfl, ?_⟩
          show RunQ _ _ _ (([] : List Nat).flatMap pf ++ _) (envOf3 _ vf [] ++ _) _ _
          refine rq_less (sx 0 rfl (sub_nil _)) (List.sublist_append_right _ _) ?_
          exact rq_v (rv_ev rfl)
         ·
          intro vf pf hmu hR
          refine Or.inl ⟨rfl, ?_⟩
          show RunQ _ _ _ (([] : List Nat).flatMap pf ++ _) (envOf3 _ vf [] ++ _) _ _
          refine rq_less (sx 0 rfl (sub_nil _)) (List.sublist_append_right _ _) ?_
          exact rq_v (rv_ev rfl)
         ·
          intro vf pf hmu hR
          have e1 : (vf 1) = .pointer (some ⟨b, 0, none⟩) ∧ (pf 1) = [] := hR 1 (by decide)
          refine Or.inl ⟨rfl, ?_⟩
          show RunQ _ _ _ (([1] : List Nat).flatMap pf ++ _) (envOf3 _ vf [1] ++ _) _ _
          refine rq_less (sx 109 (congrArg some e1.1) (sub_nil _)) (List.sublist_append_right _ _) ?_
          exact rq_v (rv_nilCheck rfl rfl)
         ·
          intro vf pf hmu hR
          have e2 : (vf 2) = .pointer (some ⟨b, 0, none⟩) ∧ (pf 2) = [] := hR 2 (by decide)
          refine Or.inl ⟨rfl, ?_⟩
          show RunQ _ _ _ (([2] : List Nat).flatMap pf ++ _) (envOf3 _ vf [2] ++ _) _ _
          refine rq_less (sx 110 (congrArg some e2.1) (sub_nil _)) (List.sublist_append_right _ _) ?_
          exact rq_v (rv_field (k0 := 4) rfl (by kernel_rfl) rfl)
         ·
          intro vf pf hmu hR
          have e3 : (vf 3) = .pointer (some ⟨b, 0 + 4, none⟩) ∧ (pf 3) = [] := hR 3 (by decide)
          refine Or.inl ⟨rfl, ?_⟩
          show RunQ _ _ _ (([3] : List Nat).flatMap pf ++ _) (envOf3 _ vf [3] ++ _) _ _
          refine rq_less (sx 111 (congrArg some e3.1) (sub_nil _)) (List.sublist_append_right _ _) ?_
          exact rq_v (rv_load rfl (by kernel_rfl) rfl (box_cell 0 rfl rfl))
         ·
          intro vf pf hmu hR
          refine Or.inl ⟨rfl, ?_⟩
          show RunQ _ _ _ (([] : List Nat).flatMap pf ++ _) (envOf3 _ vf [] ++ _) _ _
          refine rq_less (sx 1 rfl (sub_nil _)) (List.sublist_append_right _ _) ?_
          exact rq_v (rv_ev rfl)
         ·
          intro vf pf hmu hR
          have e5 : (vf 5) = dv ∧ (pf 5) = [] := hR 5 (by decide)
          refine Or.inl ⟨rfl, ?_⟩
          show RunQ _ _ _ (([5] : List Nat).flatMap pf ++ _) (envOf3 _ vf [5] ++ _) _ _
          refine rq_less (sx 113 (congrArg some e5.1) (sub_nil _)) (List.sublist_append_right _ _) ?_
          exact rq_call (by kernel_rfl) rfl (fun w hm => negations_ret ds _ w (hdv w (hm.sub (.cons _ (.cons _ (.cons _ (.cons _ (.cons _ (.cons _ (.refl _))))))))) (by have := hin.len; omega) (fun i hi => by have := hin.hds i hi; have := c.hr.n1; omega))
         ·
          intro vf pf hmu hR
          have e6 : (fun v' post => post = [rowE 3 1 v' (ds.map (fun x => -x)).length ((ds.map (fun x => -x)).map (Value.int .i64))] ∧ v'.oneCell' = true) (vf 6) (pf 6) := hR 6 (by decide)
          obtain ⟨v29, v6⟩ : ∃ x, vf 6 = x := ⟨_, rfl⟩
          obtain ⟨p30, p6⟩ : ∃ x, pf 6 = x := ⟨_, rfl⟩
          have hR31 := e6
          rw [v6, p6] at hR31
          obtain ⟨rfl, honeN⟩ := hR31
          refine Or.inl ⟨rfl, ?_⟩
          show RunQ _ _ _ (([6] : List Nat).flatMap pf ++ _) (envOf3 _ vf [6] ++ _) _ _
          refine rq_less (l' := (rowE 3 1 v29 ((ds.map (fun x => -x)).length) ((ds.map (fun x => -x)).map (Value.int .i64)) :: boxE b #[.int .i64 n, cv, .int .i64 600, .int .i64 s1.v, s1.pv, s1.fv] 125 :: bigE (s1.pr.map cPart) :: rowE 3 1 s1.fv s1.fo.length (s1.fo.map (Value.int .i64)) :: rowE 3 1 (.slice (some ⟨g17, 0, none⟩) 2 2) 2 ([-((k : Int) + 1), (k : Int) + 1].map (Value.int .i64)) :: rowE 3 1 pu out.length (out.map (Value.int .i64)) :: rowE 3 1 v2 own.length (own.map (Value.int .i64)) :: l)) (sx 114 (congrArg some v6) (sub_nil _)) (by first | (simp only [p6, v6, List.flatMap_cons, List.flatMap_nil, List.append_nil, List.nil_append, List.cons_append]; exact List.Sublist.refl _) | simp [p6, v6]) ?_
          exact rq_mono (rq_buildSlice1M rfl Try.underlying40 (by kernel_rfl) rfl (fun w hm => (rd_row 0 rfl w hm).one)) (fun v_ p_ h => by show IsRow_o 26 1 1 ([(vf 6)]) v_ p_; rw [v6]; exact h)
         ·
          intro vf pf hmu hR
          have e4 : (vf 4) = s1.pv ∧ (pf 4) = [] := hR 4 (by decide)
          have e6 : (fun v' post => post = [rowE 3 1 v' (ds.map (fun x => -x)).length ((ds.map (fun x => -x)).map (Value.int .i64))] ∧ v'.oneCell' = true) (vf 6) (pf 6) := hR 6 (by decide)
          obtain ⟨v29, v6⟩ : ∃ x, vf 6 = x := ⟨_, rfl⟩
          obtain ⟨p30, p6⟩ : ∃ x, pf 6 = x := ⟨_, rfl⟩
          have hR31 := e6
          rw [v6, p6] at hR31
          obtain ⟨rfl, honeN⟩ := hR31
          have e7 : IsRow_o 26 1 1 ([(vf 6)]) (vf 7) (pf 7) := hR 7 (by decide)
          rw [v6] at e7
          obtain ⟨g32, v7, p7⟩ := e7
          refine Or.inl ⟨rfl, ?_⟩
          show RunM _ _ _ (pf 12) (([4, 6, 7] : List Nat).flatMap pf ++ _) (envOf3 _ vf [4, 6, 7] ++ _) _ _
          have hmu0 : pf 12 = [rowE 26 1 s1.pv s1.pr.length (s1.pr.flatMap crowC)] := hmu 0 (show 0 < 1 by omega)
          rw [hmu0]
          refine rm_less (X' := (rowE 3 1 v29 ((ds.map (fun x => -x)).length) ((ds.map (fun x => -x)).map (Value.int .i64)) :: rowE 26 1 (.slice (some ⟨g32, 0, none⟩) 1 1) 1 ([v29]) :: boxE b #[.int .i64 n, cv, .int .i64 600, .int .i64 s1.v, s1.pv, s1.fv] 125 :: bigE (s1.pr.map cPart) :: rowE 3 1 s1.fv s1.fo.length (s1.fo.map (Value.int .i64)) :: rowE 3 1 (.slice (some ⟨g17, 0, none⟩) 2 2) 2 ([-((k : Int) + 1), (k : Int) + 1].map (Value.int .i64)) :: rowE 3 1 pu out.length (out.map (Value.int .i64)) :: rowE 3 1 v2 own.length (own.map (Value.int .i64)) :: l)) (sx 112 (congrArg some e4.1) (sx 115 (congrArg some v7) (sub_nil _))) (by first | (simp only [p6, v6, p7, v7, e4.2, List.flatMap_cons, List.flatMap_nil, List.append_nil, List.nil_append, List.cons_append]; exact List.Sublist.refl _) | simp [p6, v6, p7, v7, e4.2]) ?_
          exact rm_mono (rm_append (d := 0) (z := .slice none 0 0) (bytes := 24) (n' := (s1.pr ++ [CRow.mk v29 (ds.map (fun x => -x))]).length) (xs' := ((s1.pr ++ [CRow.mk v29 (ds.map (fun x => -x))]).flatMap crowC)) rfl Try.underlying40 (by kernel_rfl) (by kernel_rfl) rfl rfl (rd_row 1 rfl) (all_cons honeN all_nil) (by first | omega | (simp only [List.length_append, List.length_cons, List.length_nil]; omega)) (len_app s1.pr [CRow.mk v29 (ds.map (fun x => -x))]) (flat_app1 crowC s1.pr (CRow.mk v29 (ds.map (fun x => -x))) _ rfl)) (fun v_ p_ h => by show (∃ pm_, p_ = [pm_] ∧ (fun u_ p_ => p_ = rowE 26 1 u_ ((s1.pr ++ [CRow.mk (vf 6) (ds.map (fun x => -x))]).length) ((s1.pr ++ [CRow.mk (vf 6) (ds.map (fun x => -x))]).flatMap crowC)) v_ pm_); rw [v6]; exact h)
        ·
         intro vf pf hmu hR
         have e0 : (vf 0) = .pointer (some ⟨b, 0, none⟩) ∧ (pf 0) = [] := hR 0 (by decide)
         have e6 : (fun v' post => post = [rowE 3 1 v' (ds.map (fun x => -x)).length ((ds.map (fun x => -x)).map (Value.int .i64))] ∧ v'.oneCell' = true) (vf 6) (pf 6) := hR 6 (by decide)
         obtain ⟨v29, v6⟩ : ∃ x, vf 6 = x := ⟨_, rfl⟩
         obtain ⟨p30, p6⟩ : ∃ x, pf 6 = x := ⟨_, rfl⟩
         have hR31 := e6
         rw [v6, p6] at hR31
         obtain ⟨rfl, honeN⟩ := hR31
         have e7 : IsRow_o 26 1 1 ([(vf 6)]) (vf 7) (pf 7) := hR 7 (by decide)
         rw [v6] at e7
         obtain ⟨g32, v7, p7⟩ := e7
         have e8 : (∃ pm_, (pf 8) = [pm_] ∧ (fun u_ p_ => p_ = rowE 26 1 u_ ((s1.pr ++ [CRow.mk (vf 6) (ds.map (fun x => -x))]).length) ((s1.pr ++ [CRow.mk (vf 6) (ds.map (fun x => -x))]).flatMap crowC)) (vf 8) pm_) := hR 8 (by decide)
         rw [v6] at e8
         obtain ⟨p34, p8, hR35⟩ := e8
         obtain ⟨v33, v8⟩ : ∃ x, vf 8 = x := ⟨_, rfl⟩
         rw [v8] at hR35
         subst hR35
         have q0 : (vf 0) = .pointer (some ⟨b, 0, none⟩) ∧ (pf 0) = [] := hR 0 (by decide)
         have q1 : (vf 1) = .pointer (some ⟨b, 0, none⟩) ∧ (pf 1) = [] := hR 1 (by decide)
         have q2 : (vf 2) = .pointer (some ⟨b, 0, none⟩) ∧ (pf 2) = [] := hR 2 (by decide)
         have q3 : (vf 3) = .pointer (some ⟨b, 0 + 4, none⟩) ∧ (pf 3) = [] := hR 3 (by decide)
         have q4 : (vf 4) = s1.pv ∧ (pf 4) = [] := hR 4 (by decide)
         have q5 : (vf 5) = dv ∧ (pf 5) = [] := hR 5 (by decide)
         refine hl_less (l' := (rowE 3 1 v29 ((ds.map (fun x => -x)).length) ((ds.map (fun x => -x)).map (Value.int .i64)) :: rowE 26 1 (.slice (some ⟨g32, 0, none⟩) 1 1) 1 ([v29]) :: rowE 26 1 v33 ((s1.pr ++ [CRow.mk v29 (ds.map (fun x => -x))]).length) ((s1.pr ++ [CRow.mk v29 (ds.map (fun x => -x))]).flatMap crowC) :: boxE b #[.int .i64 n, cv, .int .i64 600, .int .i64 s1.v, s1.pv, s1.fv] 125 :: bigE (s1.pr.map cPart) :: rowE 3 1 s1.fv s1.fo.length (s1.fo.map (Value.int .i64)) :: rowE 3 1 (.slice (some ⟨g17, 0, none⟩) 2 2) 2 ([-((k : Int) + 1), (k : Int) + 1].map (Value.int .i64)) :: rowE 3 1 pu out.length (out.map (Value.int .i64)) :: rowE 3 1 v2 own.length (own.map (Value.int .i64)) :: l)) (sx 0 rfl (sx 1 rfl (sx 2 rfl (sx 6 rfl (sx 7 rfl (sx 9 rfl (sx 10 rfl (sx 11 rfl (sx 23 rfl (sx 63 rfl (sx 74 rfl (sx 80 rfl (sx 90 rfl (sx 91 rfl (sx 92 rfl (sx 93 rfl (sx 108 (congrArg some e0.1) (sx 116 (congrArg some v8) (sub_nil _))))))))))))))))))) (by first | (simp only [p6, v6, p7, v7, p8, v8, q0.2, q1.2, q2.2, q3.2, q4.2, q5.2, List.flatMap_cons, List.flatMap_nil, List.append_nil, List.nil_append, List.cons_append]; exact List.Sublist.refl _) | simp [p6, v6, p7, v7, p8, v8, q0.2, q1.2, q2.2, q3.2, q4.2, q5.2]) ?_
         simp only [List.drop_succ_cons, List.drop_zero]
         refine hl_v rfl rfl rfl (rv_nilCheck rfl rfl) ?_
         refine hl_v rfl rfl rfl (rv_field (k0 := 4) rfl (by kernel_rfl) rfl) ?_
         refine hl_one (i := 2) rfl (fun ho36 => ?_)
         refine hl_storeBox (i := 3) (l' := (rowE 3 1 v29 ((ds.map (fun x => -x)).length) ((ds.map (fun x => -x)).map (Value.int .i64)) :: rowE 26 1 (.slice (some ⟨g32, 0, none⟩) 1 1) 1 ([v29]) :: rowE 26 1 v33 ((s1.pr ++ [CRow.mk v29 (ds.map (fun x => -x))]).length) ((s1.pr ++ [CRow.mk v29 (ds.map (fun x => -x))]).flatMap crowC) :: boxE b #[.int .i64 n, cv, .int .i64 600, .int .i64 s1.v, v33, s1.fv] 125 :: bigE (s1.pr.map cPart) :: rowE 3 1 s1.fv s1.fo.length (s1.fo.map (Value.int .i64)) :: rowE 3 1 (.slice (some ⟨g17, 0, none⟩) 2 2) 2 ([-((k : Int) + 1), (k : Int) + 1].map (Value.int .i64)) :: rowE 3 1 pu out.length (out.map (Value.int .i64)) :: rowE 3 1 v2 own.length (own.map (Value.int .i64)) :: l)) rfl rfl rfl (by kernel_rfl) rfl rfl ho36 rfl rfl rfl ?_
         refine hl_less (sx 0 rfl (sx 1 rfl (sx 2 rfl (sx 6 rfl (sx 7 rfl (sx 9 rfl (sx 10 rfl (sx 11 rfl (sx 23 rfl (sx 63 rfl (sx 74 rfl (sx 80 rfl (sx 90 rfl (sx 91 rfl (sx 92 rfl (sx 93 rfl (sub_nil _))))))))))))))))) (.refl _) ?_
         refine hl_nil ?_
         refine hq_then ?_
         refine hc_seq ?_
         refine hc_region ?_
         refine hl_v rfl rfl rfl (rv_ev rfl) ?_
         refine hl_less (sx 0 rfl (sx 1 rfl (sx 2 rfl (sx 6 rfl (sx 7 rfl (sx 9 rfl (sx 10 rfl (sx 11 rfl (sx 23 rfl (sx 63 rfl (sx 74 rfl (sx 80 rfl (sx 90 rfl (sx 91 rfl (sx 92 rfl (sx 93 rfl (sub_nil _))))))))))))))))) (.refl _) ?_
         refine hl_nil ?_
         refine hq_then ?_
         refine hc_ret ?_
         refine hq_conv (bigE (s1.pr.map cPart) :: rowE 3 1 v29 ((ds.map (fun x => -x)).length) ((ds.map (fun x => -x)).map (Value.int .i64)) :: rowE 26 1 (.slice (some ⟨g32, 0, none⟩) 1 1) 1 ([v29]) :: rowE 26 1 v33 ((s1.pr ++ [CRow.mk v29 (ds.map (fun x => -x))]).length) ((s1.pr ++ [CRow.mk v29 (ds.map (fun x => -x))]).flatMap crowC) :: boxE b #[.int .i64 n, cv, .int .i64 600, .int .i64 s1.v, v33, s1.fv] 125 :: rowE 3 1 s1.fv s1.fo.length (s1.fo.map (Value.int .i64)) :: rowE 3 1 (.slice (some ⟨g17, 0, none⟩) 2 2) 2 ([-((k : Int) + 1), (k : Int) + 1].map (Value.int .i64)) :: rowE 3 1 pu out.length (out.map (Value.int .i64)) :: rowE 3 1 v2 own.length (own.map (Value.int .i64)) :: l) (conv_pick (src := [rowE 3 1 v29 ((ds.map (fun x => -x)).length) ((ds.map (fun x => -x)).map (Value.int .i64)), rowE 26 1 (.slice (some ⟨g32, 0, none⟩) 1 1) 1 ([v29]), rowE 26 1 v33 ((s1.pr ++ [CRow.mk v29 (ds.map (fun x => -x))]).length) ((s1.pr ++ [CRow.mk v29 (ds.map (fun x => -x))]).flatMap crowC), boxE b #[.int .i64 n, cv, .int .i64 600, .int .i64 s1.v, v33, s1.fv] 125, bigE (s1.pr.map cPart), rowE 3 1 s1.fv s1.fo.length (s1.fo.map (Value.int .i64)), rowE 3 1 (.slice (some ⟨g17, 0, none⟩) 2 2) 2 ([-((k : Int) + 1), (k : Int) + 1].map (Value.int .i64)), rowE 3 1 pu out.length (out.map (Value.int .i64)), rowE 3 1 v2 own.length (own.map (Value.int .i64))]) (dst := [bigE (s1.pr.map cPart), rowE 3 1 v29 ((ds.map (fun x => -x)).length) ((ds.map (fun x => -x)).map (Value.int .i64)), rowE 26 1 (.slice (some ⟨g32, 0, none⟩) 1 1) 1 ([v29]), rowE 26 1 v33 ((s1.pr ++ [CRow.mk v29 (ds.map (fun x => -x))]).length) ((s1.pr ++ [CRow.mk v29 (ds.map (fun x => -x))]).flatMap crowC), boxE b #[.int .i64 n, cv, .int .i64 600, .int .i64 s1.v, v33, s1.fv] 125, rowE 3 1 s1.fv s1.fo.length (s1.fo.map (Value.int .i64)), rowE 3 1 (.slice (some ⟨g17, 0, none⟩) 2 2) 2 ([-((k : Int) + 1), (k : Int) + 1].map (Value.int .i64)), rowE 3 1 pu out.length (out.map (Value.int .i64)), rowE 3 1 v2 own.length (own.map (Value.int .i64))]) (l := l) [4, 0, 1, 2, 3, 5, 6, 7, 8] (by decide) rfl) ?_
         refine hq_conv (bigE ((s1.pr ++ [CRow.mk v29 (ds.map (fun x => -x))]).map cPart) :: rowE 26 1 (.slice (some ⟨g32, 0, none⟩) 1 1) 1 ([v29]) :: rowE 26 1 v33 ((s1.pr ++ [CRow.mk v29 (ds.map (fun x => -x))]).length) ((s1.pr ++ [CRow.mk v29 (ds.map (fun x => -x))]).flatMap crowC) :: boxE b #[.int .i64 n, cv, .int .i64 600, .int .i64 s1.v, v33, s1.fv] 125 :: rowE 3 1 s1.fv s1.fo.length (s1.fo.map (Value.int .i64)) :: rowE 3 1 (.slice (some ⟨g17, 0, none⟩) 2 2) 2 ([-((k : Int) + 1), (k : Int) + 1].map (Value.int .i64)) :: rowE 3 1 pu out.length (out.map (Value.int .i64)) :: rowE 3 1 v2 own.length (own.map (Value.int .i64)) :: l) (fun w hm => by rw [List.map_append]; exact conv_snoc w hm) ?_
         refine hq_conv (boxE b #[.int .i64 n, cv, .int .i64 600, .int .i64 s1.v, v33, s1.fv] 125 :: bigE ((s1.pr ++ [CRow.mk v29 (ds.map (fun x => -x))]).map cPart) :: rowE 26 1 v33 ((s1.pr ++ [CRow.mk v29 (ds.map (fun x => -x))]).length) ((s1.pr ++ [CRow.mk v29 (ds.map (fun x => -x))]).flatMap crowC) :: rowE 3 1 s1.fv s1.fo.length (s1.fo.map (Value.int .i64)) :: rowE 26 1 (.slice (some ⟨g32, 0, none⟩) 1 1) 1 ([v29]) :: rowE 3 1 (.slice (some ⟨g17, 0, none⟩) 2 2) 2 ([-((k : Int) + 1), (k : Int) + 1].map (Value.int .i64)) :: rowE 3 1 pu out.length (out.map (Value.int .i64)) :: rowE 3 1 v2 own.length (own.map (Value.int .i64)) :: l) (conv_pick (src := [bigE ((s1.pr ++ [CRow.mk v29 (ds.map (fun x => -x))]).map cPart), rowE 26 1 (.slice (some ⟨g32, 0, none⟩) 1 1) 1 ([v29]), rowE 26 1 v33 ((s1.pr ++ [CRow.mk v29 (ds.map (fun x => -x))]).length) ((s1.pr ++ [CRow.mk v29 (ds.map (fun x => -x))]).flatMap crowC), boxE b #[.int .i64 n, cv, .int .i64 600, .int .i64 s1.v, v33, s1.fv] 125, rowE 3 1 s1.fv s1.fo.length (s1.fo.map (Value.int .i64)), rowE 3 1 (.slice (some ⟨g17, 0, none⟩) 2 2) 2 ([-((k : Int) + 1), (k : Int) + 1].map (Value.int .i64)), rowE 3 1 pu out.length (out.map (Value.int .i64)), rowE 3 1 v2 own.length (own.map (Value.int .i64))]) (dst := [boxE b #[.int .i64 n, cv, .int .i64 600, .int .i64 s1.v, v33, s1.fv] 125, bigE ((s1.pr ++ [CRow.mk v29 (ds.map (fun x => -x))]).map cPart), rowE 26 1 v33 ((s1.pr ++ [CRow.mk v29 (ds.map (fun x => -x))]).length) ((s1.pr ++ [CRow.mk v29 (ds.map (fun x => -x))]).flatMap crowC), rowE 3 1 s1.fv s1.fo.length (s1.fo.map (Value.int .i64)), rowE 26 1 (.slice (some ⟨g32, 0, none⟩) 1 1) 1 ([v29]), rowE 3 1 (.slice (some ⟨g17, 0, none⟩) 2 2) 2 ([-((k : Int) + 1), (k : Int) + 1].map (Value.int .i64)), rowE 3 1 pu out.length (out.map (Value.int .i64)), rowE 3 1 v2 own.length (own.map (Value.int .i64))]) (l := l) [3, 0, 2, 4, 1, 5, 6, 7] (by decide) rfl) ?_
         refine hq_conv (svE b n cv (Sv.mk s1.v v33 (s1.pr ++ [CRow.mk v29 (ds.map (fun x => -x))]) s1.fv s1.fo) :: rowE 26 1 (.slice (some ⟨g32, 0, none⟩) 1 1) 1 ([v29]) :: rowE 3 1 (.slice (some ⟨g17, 0, none⟩) 2 2) 2 ([-((k : Int) + 1), (k : Int) + 1].map (Value.int .i64)) :: rowE 3 1 pu out.length (out.map (Value.int .i64)) :: rowE 3 1 v2 own.length (own.map (Value.int .i64)) :: l) (conv_big (ps := [boxE b #[.int .i64 n, cv, .int .i64 600, .int .i64 s1.v, v33, s1.fv] 125, bigE ((s1.pr ++ [CRow.mk v29 (ds.map (fun x => -x))]).map cPart), rowE 26 1 v33 ((s1.pr ++ [CRow.mk v29 (ds.map (fun x => -x))]).length) ((s1.pr ++ [CRow.mk v29 (ds.map (fun x => -x))]).flatMap crowC), rowE 3 1 s1.fv s1.fo.length (s1.fo.map (Value.int .i64))])) ?_
         exact hq_retMut (p' := svE b n cv (Sv.mk s1.v v33 (s1.pr ++ [CRow.mk v29 (ds.map (fun x => -x))]) s1.fv s1.fo)) rfl rfl ((.cons_cons _ (.cons _ (.cons _ (.cons _ (.cons _ (.refl _))))))) ⟨(Sv.mk s1.v v33 (s1.pr ++ [CRow.mk v29 (ds.map (fun x => -x))]) s1.fv s1.fo), 2, rfl, rfl, both_out c hpok (by rw [show (2 : Nat) = i by omega]; exact hI) h6, by show ((s1.pr ++ [CRow.mk v29 (ds.map (fun x => -x))]).length : Int) - s.pr.length ≤ _; rw [List.length_append, List.length_singleton]; (show _ ≤ (s1.v) - s.v); omega⟩
    ·
     refine hl_v rfl rfl rfl (rv_ev rfl) ?_
     refine hl_skip rfl rfl rfl ?_
     refine hl_skip rfl rfl rfl ?_
     refine hl_skip rfl rfl rfl ?_
     refine hl_skip rfl rfl rfl ?_
     refine hl_skip rfl rfl rfl ?_
     refine hl_v rfl rfl rfl (rv_ev rfl) ?_
     refine hl_less (sx 0 rfl (sx 1 rfl (sx 2 rfl (sx 6 rfl (sx 7 rfl (sx 9 rfl (sx 10 rfl (sx 11 rfl (sx 23 rfl (sx 63 rfl (sx 74 rfl (sub_nil _)))))))))))) (.refl _) ?_
     refine hl_nil ?_
     refine hq_then ?_
     refine hc_false rfl ?_
     refine hc_exit ?_
     refine hq_then_exit ?_
     refine hq_then_exit ?_
     refine hq_block_exit ?_
     refine hq_then ?_
     refine hc_seq ?_
     refine hc_seq ?_
     refine hc_region ?_
     refine hl_v rfl rfl rfl (rv_ev rfl) ?_
     refine hl_v rfl rfl rfl (rv_ev rfl) ?_
     refine hl_v rfl rfl rfl (rv_len rfl Try.underlying26 rfl (rd_row 0 rfl)) ?_
     refine hl_eql rfl rfl rfl rfl rfl rfl (fun h37 => ?_) (fun h37 => ?_)
     ·
      refine hl_less (sx 0 rfl (sx 1 rfl (sx 2 rfl (sx 6 rfl (sx 7 rfl (sx 9 rfl (sx 10 rfl (sx 11 rfl (sx 23 rfl (sx 63 rfl (sx 74 rfl (sx 80 rfl (sub_nil _))))))))))))) (.refl _) ?_
      refine hl_nil ?_
      refine hq_then ?_
      refine hc_true rfl ?_
      refine hc_seq ?_
      refine hc_region ?_
      refine hl_v rfl rfl rfl (rv_ev rfl) ?_
      refine hl_v rfl rfl rfl (rv_ev rfl) ?_
      refine hl_v rfl rfl rfl (rv_nilCheck rfl rfl) ?_
      refine hl_v rfl rfl rfl (rv_field (k0 := 5) rfl (by kernel_rfl) rfl) ?_
      refine hl_one (i := 0) rfl (fun ho38 => ?_)
      refine hl_storeBox (i := 2) (l' := (rowE 3 1 pu out.length (out.map (Value.int .i64)) :: rowE 3 1 v2 own.length (own.map (Value.int .i64)) :: boxE b #[.int .i64 n, cv, .int .i64 600, .int .i64 (s.v + 1), s.pv, pu] 125 :: bigE (s.pr.map cPart) :: rowE 26 1 s.pv s.pr.length (s.pr.flatMap crowC) :: rowE 3 1 s.fv s.fo.length (s.fo.map (Value.int .i64)) :: l)) rfl rfl rfl (by kernel_rfl) rfl rfl ho38 rfl rfl rfl ?_
      refine hl_less (sx 0 rfl (sx 1 rfl (sx 2 rfl (sx 6 rfl (sx 7 rfl (sx 9 rfl (sx 10 rfl (sx 11 rfl (sx 23 rfl (sx 63 rfl (sx 74 rfl (sx 80 rfl (sub_nil _))))))))))))) (.refl _) ?_
      refine hl_nil ?_
      refine hq_then ?_
      refine hc_seq ?_
      refine hc_region ?_
      refine hl_v rfl rfl rfl (rv_ev rfl) ?_
      refine hl_less (sx 0 rfl (sx 1 rfl (sx 2 rfl (sx 6 rfl (sx 7 rfl (sx 9 rfl (sx 10 rfl (sx 11 rfl (sx 23 rfl (sx 63 rfl (sx 74 rfl (sx 80 rfl (sub_nil _))))))))))))) (.refl _) ?_
      refine hl_nil ?_
      refine hq_then ?_
      refine hc_ret ?_
      refine hq_then_ret ?_
      refine hq_then_ret ?_
      refine hq_conv (boxE b #[.int .i64 n, cv, .int .i64 600, .int .i64 (s.v + 1), s.pv, pu] 125 :: bigE (s.pr.map cPart) :: rowE 26 1 s.pv s.pr.length (s.pr.flatMap crowC) :: rowE 3 1 pu out.length (out.map (Value.int .i64)) :: rowE 3 1 v2 own.length (own.map (Value.int .i64)) :: rowE 3 1 s.fv s.fo.length (s.fo.map (Value.int .i64)) :: l) (conv_pick (src := [rowE 3 1 pu out.length (out.map (Value.int .i64)), rowE 3 1 v2 own.length (own.map (Value.int .i64)), boxE b #[.int .i64 n, cv, .int .i64 600, .int .i64 (s.v + 1), s.pv, pu] 125, bigE (s.pr.map cPart), rowE 26 1 s.pv s.pr.length (s.pr.flatMap crowC), rowE 3 1 s.fv s.fo.length (s.fo.map (Value.int .i64))]) (dst := [boxE b #[.int .i64 n, cv, .int .i64 600, .int .i64 (s.v + 1), s.pv, pu] 125, bigE (s.pr.map cPart), rowE 26 1 s.pv s.pr.length (s.pr.flatMap crowC), rowE 3 1 pu out.length (out.map (Value.int .i64)), rowE 3 1 v2 own.length (own.map (Value.int .i64)), rowE 3 1 s.fv s.fo.length (s.fo.map (Value.int .i64))]) (l := l) [2, 3, 4, 0, 1, 5] (by decide) rfl) ?_
      refine hq_conv (svE b n cv (Sv.mk (s.v + 1) s.pv s.pr pu out) :: rowE 3 1 v2 own.length (own.map (Value.int .i64)) :: rowE 3 1 s.fv s.fo.length (s.fo.map (Value.int .i64)) :: l) (conv_big (ps := [boxE b #[.int .i64 n, cv, .int .i64 600, .int .i64 (s.v + 1), s.pv, pu] 125, bigE (s.pr.map cPart), rowE 26 1 s.pv s.pr.length (s.pr.flatMap crowC), rowE 3 1 pu out.length (out.map (Value.int .i64))])) ?_
      exact hq_retMut (p' := svE b n cv (Sv.mk (s.v + 1) s.pv s.pr pu out)) rfl rfl ((.cons_cons _ (.cons _ (.cons _ (.refl _))))) ⟨(Sv.mk (s.v + 1) s.pv s.pr pu out), 1, rfl, rfl, by first | (exfalso; omega) | exact full_out (out := out) c hfx (fun q hq => hkb q (by omega)) (vpre_lt hin.pre), by show (s.pr.length : Int) - s.pr.length ≤ s.v + 1 - s.v; omega⟩
     ·
      refine hl_less (sx 0 rfl (sx 1 rfl (sx 2 rfl (sx 6 rfl (sx 7 rfl (sx 9 rfl (sx 10 rfl (sx 11 rfl (sx 23 rfl (sx 63 rfl (sx 74 rfl (sx 80 rfl (sub_nil _))))))))))))) (.refl _) ?_
      refine hl_nil ?_
      refine hq_then ?_
      refine hc_false rfl ?_
      refine hc_skip ?_
      refine hq_then ?_
      refine hc_seq ?_
      refine hc_region ?_
      refine hl_v rfl rfl rfl (rv_ev rfl) ?_
      refine hl_v rfl rfl rfl (rv_add rfl rfl rfl (by constructor <;> omega)) ?_
      refine hl_v rfl rfl rfl (rv_neg rfl rfl (by omega) (by omega)) ?_
      refine hl_v rfl rfl rfl (rv_ev rfl) ?_
      refine hl_v rfl rfl rfl (rv_add rfl rfl rfl (by constructor <;> omega)) ?_
      refine hl_row rfl rfl rfl (rq_buildSlice (z := .int .i64 0) (s := 1) (cs := ([-((k : Int) + 1), (k : Int) + 1].map (Value.int .i64))) rfl Try.underlying26 (by kernel_rfl) (by decide) rfl (by kernel_rfl) rfl) ?_
      intro g39
      refine hl_v rfl rfl rfl (rv_len rfl Try.underlying26 rfl (rd_row 0 rfl)) ?_
      refine hl_v rfl rfl rfl (rv_ev rfl) ?_
      refine hl_less (sx 0 rfl (sx 1 rfl (sx 2 rfl (sx 6 rfl (sx 7 rfl (sx 9 rfl (sx 10 rfl (sx 11 rfl (sx 23 rfl (sx 63 rfl (sx 74 rfl (sx 80 rfl (sx 90 rfl (sx 91 rfl (sx 92 rfl (sub_nil _)))))))))))))))) (.refl _) ?_
      refine hl_nil ?_
      refine hq_then ?_
      refine hc_block ?_
      have hfr : SFree n rs (ownL ds ps) out k := ⟨own_ok hin.hps, hfx, by omega, by first | assumption | (exfalso; omega), hkb⟩
      refine hc_conv (boxE b #[.int .i64 n, cv, .int .i64 600, .int .i64 (s.v + 1), s.pv, s.fv] 125 :: bigE (s.pr.map cPart) :: rowE 26 1 s.pv s.pr.length (s.pr.flatMap crowC) :: rowE 3 1 s.fv s.fo.length (s.fo.map (Value.int .i64)) :: rowE 3 1 (.slice (some ⟨g39, 0, none⟩) 2 2) 2 ([-((k : Int) + 1), (k : Int) + 1].map (Value.int .i64)) :: rowE 3 1 pu out.length (out.map (Value.int .i64)) :: rowE 3 1 v2 own.length (own.map (Value.int .i64)) :: l) (conv_pick (src := [rowE 3 1 (.slice (some ⟨g39, 0, none⟩) 2 2) 2 ([-((k : Int) + 1), (k : Int) + 1].map (Value.int .i64)), rowE 3 1 pu out.length (out.map (Value.int .i64)), rowE 3 1 v2 own.length (own.map (Value.int .i64)), boxE b #[.int .i64 n, cv, .int .i64 600, .int .i64 (s.v + 1), s.pv, s.fv] 125, bigE (s.pr.map cPart), rowE 26 1 s.pv s.pr.length (s.pr.flatMap crowC), rowE 3 1 s.fv s.fo.length (s.fo.map (Value.int .i64))]) (dst := [boxE b #[.int .i64 n, cv, .int .i64 600, .int .i64 (s.v + 1), s.pv, s.fv] 125, bigE (s.pr.map cPart), rowE 26 1 s.pv s.pr.length (s.pr.flatMap crowC), rowE 3 1 s.fv s.fo.length (s.fo.map (Value.int .i64)), rowE 3 1 (.slice (some ⟨g39, 0, none⟩) 2 2) 2 ([-((k : Int) + 1), (k : Int) + 1].map (Value.int .i64)), rowE 3 1 pu out.length (out.map (Value.int .i64)), rowE 3 1 v2 own.length (own.map (Value.int .i64))]) (l := l) [3, 4, 5, 6, 0, 1, 2] (by decide) rfl) ?_
      refine hc_conv (svE b n cv (Sv.mk (s.v + 1) s.pv s.pr s.fv s.fo) :: rowE 3 1 (.slice (some ⟨g39, 0, none⟩) 2 2) 2 ([-((k : Int) + 1), (k : Int) + 1].map (Value.int .i64)) :: rowE 3 1 pu out.length (out.map (Value.int .i64)) :: rowE 3 1 v2 own.length (own.map (Value.int .i64)) :: l) (conv_big (ps := [boxE b #[.int .i64 n, cv, .int .i64 600, .int .i64 (s.v + 1), s.pv, s.fv] 125, bigE (s.pr.map cPart), rowE 26 1 s.pv s.pr.length (s.pr.flatMap crowC), rowE 3 1 s.fv s.fo.length (s.fo.map (Value.int .i64))])) ?_
      refine hc_loop2 (α := Nat) (β := Sv) (fun i s1 => (svE b n cv s1 :: rowE 3 1 (.slice (some ⟨g39, 0, none⟩) 2 2) 2 ([-((k : Int) + 1), (k : Int) + 1].map (Value.int .i64)) :: rowE 3 1 pu out.length (out.map (Value.int .i64)) :: rowE 3 1 v2 own.length (own.map (Value.int .i64)) :: l)) (fun i s1 => [(0, .pointer (some ⟨b, 0, none⟩)), (1, dv), (2, qv), (6, .int .i64 0), (7, v2), (9, pu), (10, .bool true), (11, .int .i64 (k : Int)), (23, .bool false), (63, .bool true), (74, .bool false), (80, .bool false), (90, .slice (some ⟨g39, 0, none⟩) 2 2), (91, .int .i64 (2 : Int)), (92, .int .i64 (i : Int))]) (fun i s1 => i ≤ 2 ∧ LoopI n rs F (ownL ds ps) out k s.v i s1.v ∧ (s1.pr.length : Int) - s.pr.length ≤ s1.v - s.v - 1 ∧ s1.v ≤ 600) (fun i s1 => 2 - i) 0 (Sv.mk (s.v + 1) s.pv s.pr s.fv s.fo) ⟨by omega, .inl ⟨rfl, rfl⟩, by show (s.pr.length : Int) - s.pr.length ≤ s.v + 1 - s.v - 1; omega, by show s.v + 1 ≤ 600; omega⟩ (sx 0 rfl (sx 1 rfl (sx 2 rfl (sx 6 rfl (sx 7 rfl (sx 9 rfl (sx 10 rfl (sx 11 rfl (sx 23 rfl (sx 63 rfl (sx 74 rfl (sx 80 rfl (sx 90 rfl (sx 91 rfl (sx 92 rfl (sub_nil _)))))))))))))))) ((.cons_cons _ (.cons_cons _ (.cons_cons _ (.cons_cons _ (.refl _)))))) ?_
      intro i s1 hi40
      obtain ⟨hi, hI, hpl, h6⟩ := hi40
      refine hc_seq ?_
      refine hc_region ?_
      refine hl_lss rfl rfl rfl rfl rfl rfl (fun h41 => ?_) (fun h41 => ?_)
      ·
       refine hl_less (sx 0 rfl (sx 1 rfl (sx 2 rfl (sx 6 rfl (sx 7 rfl (sx 9 rfl (sx 10 rfl (sx 11 rfl (sx 23 rfl (sx 63 rfl (sx 74 rfl (sx 80 rfl (sx 90 rfl (sx 91 rfl (sx 92 rfl (sx 93 rfl (sub_nil _))))))))))))))))) (.refl _) ?_
       refine hl_nil ?_
       refine hq_then ?_
       refine hc_seq ?_
       refine hc_true rfl ?_
       refine hc_skip ?_
       refine hq_then ?_
       refine hc_seq ?_
       refine hc_block ?_
       refine hc_seq ?_
       refine hc_region ?_
       refine hl_v rfl rfl rfl (rv_index (s := 1) rfl Try.underlying26 (by kernel_rfl) rfl rfl (rd_row 1 rfl) (by omega) (by first | omega | (simp only [List.length_set]; omega))) ?_
       refine hl_v rfl rfl rfl (rv_loadEl (u := .int .i64 (([-((k : Int) + 1), (k : Int) + 1]).getD i 0)) rfl (by kernel_rfl) rfl (rd_row 1 rfl) (ints_at1 (show _ < 2 by first | omega | (simp only [List.length_set]; omega)))) ?_
       refine hl_v rfl rfl rfl (rv_ev rfl) ?_
       refine hl_less (sx 0 rfl (sx 1 rfl (sx 2 rfl (sx 6 rfl (sx 7 rfl (sx 9 rfl (sx 10 rfl (sx 11 rfl (sx 13 rfl (sx 23 rfl (sx 63 rfl (sx 74 rfl (sx 80 rfl (sx 90 rfl (sx 91 rfl (sx 92 rfl (sx 93 rfl (sub_nil _)))))))))))))))))) (.refl _) ?_
       refine hl_nil ?_
       refine hq_then ?_
       refine hc_seq ?_
       refine hc_region ?_
       obtain ⟨hc1, hc2, hc3, hc4⟩ := child_in c hfr hin.pre hI (by omega) (d := ([-((k : Int) + 1), (k : Int) + 1]).getD i 0) rfl
       have hzn := zeros_next hfx
       have hln := hin.len
       have hpr9 := hin.pr
       have hv09 := hin.v0
       refine hl_v rfl rfl rfl (rv_ev rfl) ?_
       refine hl_v rfl rfl rfl (rv_ev rfl) ?_
       refine hl_q rfl rfl rfl (rq_call (by kernel_rfl) rfl (fun w hm => copyInts_ret ds _ w ((fun w hm => hdv w (hm.sub (.cons _ (.cons _ (.cons _ (.cons _ (.refl _))))))) w hm) (by omega))) ?_
       intro v42 p43 hR44
       subst hR44
       refine hl_v rfl rfl rfl (rv_ev rfl) ?_
       refine hl_row rfl rfl rfl (rq_buildSlice (z := .int .i64 0) (s := 1) (cs := ([([-((k : Int) + 1), (k : Int) + 1]).getD i 0].map (Value.int .i64))) rfl Try.underlying26 (by kernel_rfl) (by decide) rfl (by kernel_rfl) rfl) ?_
       intro g45
       refine hl_append (i := 1) (z := .int .i64 0) (bytes := 8) (n' := (ds ++ ([([-((k : Int) + 1), (k : Int) + 1]).getD i 0])).length) (xs' := ((ds ++ ([([-((k : Int) + 1), (k : Int) + 1]).getD i 0])).map (Value.int .i64))) (L := fun v46 => (rowE 3 1 (.slice (some ⟨g45, 0, none⟩) 1 1) 1 ([([-((k : Int) + 1), (k : Int) + 1]).getD i 0].map (Value.int .i64)) :: rowE 3 1 v46 ((ds ++ ([([-((k : Int) + 1), (k : Int) + 1]).getD i 0])).length) ((ds ++ ([([-((k : Int) + 1), (k : Int) + 1]).getD i 0])).map (Value.int .i64)) :: svE b n cv s1 :: rowE 3 1 (.slice (some ⟨g39, 0, none⟩) 2 2) 2 ([-((k : Int) + 1), (k : Int) + 1].map (Value.int .i64)) :: rowE 3 1 pu out.length (out.map (Value.int .i64)) :: rowE 3 1 v2 own.length (own.map (Value.int .i64)) :: l)) rfl rfl rfl rfl Try.underlying26 (by kernel_rfl) (by kernel_rfl) rfl rfl rfl (rd_row 0 rfl) (ints_one _) (by first | omega | (simp; omega)) (len_app ds ([([-((k : Int) + 1), (k : Int) + 1]).getD i 0])) (ints_app ds ([([-((k : Int) + 1), (k : Int) + 1]).getD i 0])) (fun _ => rfl) ?_
       intro v46
       refine hl_v rfl rfl rfl (rv_ev rfl) ?_
       refine hl_callM2 (R := (fun u_ p_ => ∃ (s2 : Sv) (cd : Int), u_ = .int .i64 cd ∧ p_ = svE b n cv s2 ∧ VPost n rs F (ownL (ds ++ [([-((k : Int) + 1), (k : Int) + 1]).getD i 0]) out) s1.v s2.v cd s2.fo ∧ (s2.pr.length : Int) - s1.pr.length ≤ s2.v - s1.v)) 2 rfl rfl (by kernel_rfl) rfl rfl (fun L w hX hm => IH (ds ++ [([-((k : Int) + 1), (k : Int) + 1]).getD i 0]) out _ pu s1 _ _ (by rw [own_app]; omega) ⟨hfx.ok, fun q hq => by rw [List.length_append, List.length_singleton] at hq; by_cases e9 : q < ds.length; (rw [getD_left e9]; exact hin.hds q e9); (rw [getD_right (by omega), show q - ds.length = 0 by omega]; exact hc3), by rw [own_app, List.length_append, List.length_singleton]; omega, by rw [own_app]; exact hc1, by omega, by omega⟩ (fun w h => hcl w ((hX w h).sub (.cons _ (.cons _ (.cons _ (.cons _ (.cons _ (.refl _)))))))) (fun w h => rd_row 1 rfl w (hX w h)) (fun w h => rd_row 3 rfl w (hX w h)) hm) ?_
       intro v47 p48 hR49
       obtain ⟨s3, cd, rfl, rfl, hvp, hpl3⟩ := hR49
       refine hl_eqL (l' := (rowE 3 1 (.slice (some ⟨g45, 0, none⟩) 1 1) 1 ([([-((k : Int) + 1), (k : Int) + 1]).getD i 0].map (Value.int .i64)) :: rowE 3 1 v46 ((ds ++ ([([-((k : Int) + 1), (k : Int) + 1]).getD i 0])).length) ((ds ++ ([([-((k : Int) + 1), (k : Int) + 1]).getD i 0])).map (Value.int .i64)) :: svE b n cv s3 :: rowE 3 1 (.slice (some ⟨g39, 0, none⟩) 2 2) 2 ([-((k : Int) + 1), (k : Int) + 1].map (Value.int .i64)) :: rowE 3 1 pu out.length (out.map (Value.int .i64)) :: rowE 3 1 v2 own.length (own.map (Value.int .i64)) :: l)) rfl ?_
       refine hl_v rfl rfl rfl (rv_ev rfl) ?_
       refine hl_less (sx 0 rfl (sx 1 rfl (sx 2 rfl (sx 6 rfl (sx 7 rfl (sx 9 rfl (sx 10 rfl (sx 11 rfl (sx 13 rfl (sx 14 rfl (sx 23 rfl (sx 63 rfl (sx 74 rfl (sx 80 rfl (sx 90 rfl (sx 91 rfl (sx 92 rfl (sx 93 rfl (sub_nil _))))))))))))))))))) (.refl _) ?_
       refine hl_nil ?_
       refine hq_then ?_
       refine hc_seq ?_
       refine hc_region ?_
       refine hl_v rfl rfl rfl (rv_ev rfl) ?_
       refine hl_neq rfl rfl rfl rfl rfl rfl (fun h50 => ?_) (fun h50 => ?_)
       ·
        refine hl_less (sx 0 rfl (sx 1 rfl (sx 2 rfl (sx 6 rfl (sx 7 rfl (sx 9 rfl (sx 10 rfl (sx 11 rfl (sx 13 rfl (sx 14 rfl (sx 23 rfl (sx 63 rfl (sx 74 rfl (sx 80 rfl (sx 90 rfl (sx 91 rfl (sx 92 rfl (sx 93 rfl (sx 105 rfl (sub_nil _)))))))))))))))))))) (.refl _) ?_
        refine hl_nil ?_
        refine hq_then ?_
        refine hc_true rfl ?_
        refine hc_seq ?_
        refine hc_region ?_
        refine hl_v rfl rfl rfl (rv_ev rfl) ?_
        refine hl_v rfl rfl rfl (rv_ev rfl) ?_
        refine hl_less (sx 0 rfl (sx 1 rfl (sx 2 rfl (sx 6 rfl (sx 7 rfl (sx 9 rfl (sx 10 rfl (sx 11 rfl (sx 13 rfl (sx 14 rfl (sx 23 rfl (sx 63 rfl (sx 74 rfl (sx 80 rfl (sx 90 rfl (sx 91 rfl (sx 92 rfl (sx 93 rfl (sx 105 rfl (sub_nil _)))))))))))))))))))) (.refl _) ?_
        refine hl_nil ?_
        refine hq_then ?_
        refine hc_ret ?_
        refine hq_block_ret ?_
        refine hq_then_ret ?_
        refine hq_then_ret ?_
        refine hq_block_ret ?_
        refine hq_then_ret ?_
        refine hq_conv (svE b n cv s3 :: l) (conv_pick (src := [rowE 3 1 (.slice (some ⟨g45, 0, none⟩) 1 1) 1 ([([-((k : Int) + 1), (k : Int) + 1]).getD i 0].map (Value.int .i64)), rowE 3 1 v46 ((ds ++ ([([-((k : Int) + 1), (k : Int) + 1]).getD i 0])).length) ((ds ++ ([([-((k : Int) + 1), (k : Int) + 1]).getD i 0])).map (Value.int .i64)), svE b n cv s3, rowE 3 1 (.slice (some ⟨g39, 0, none⟩) 2 2) 2 ([-((k : Int) + 1), (k : Int) + 1].map (Value.int .i64)), rowE 3 1 pu out.length (out.map (Value.int .i64)), rowE 3 1 v2 own.length (own.map (Value.int .i64))]) (dst := [svE b n cv s3]) (l := l) [2] (by decide) rfl) ?_
        exact hq_retMut (p' := svE b n cv s3) rfl rfl ((.cons_cons _ (.refl _))) ⟨s3, cd, rfl, rfl, by have h9 := hvp; rw [own_app] at h9; exact child_end c hI (by omega) h9 (by omega), by omega⟩
       ·
        refine hl_less (sx 0 rfl (sx 1 rfl (sx 2 rfl (sx 6 rfl (sx 7 rfl (sx 9 rfl (sx 10 rfl (sx 11 rfl (sx 13 rfl (sx 14 rfl (sx 23 rfl (sx 63 rfl (sx 74 rfl (sx 80 rfl (sx 90 rfl (sx 91 rfl (sx 92 rfl (sx 93 rfl (sx 105 rfl (sub_nil _)))))))))))))))))))) (.refl _) ?_
        refine hl_nil ?_
        refine hq_then ?_
        refine hc_false rfl ?_
        refine hc_skip ?_
        refine hq_block_normal ?_
        refine hq_then ?_
        refine hc_region ?_
        refine hl_v rfl rfl rfl (rv_add rfl rfl rfl (by constructor <;> omega)) ?_
        refine hl_v rfl rfl rfl (rv_ev rfl) ?_
        refine hl_less (sx 0 rfl (sx 1 rfl (sx 2 rfl (sx 6 rfl (sx 7 rfl (sx 9 rfl (sx 10 rfl (sx 11 rfl (sx 13 rfl (sx 14 rfl (sx 23 rfl (sx 63 rfl (sx 74 rfl (sx 80 rfl (sx 90 rfl (sx 91 rfl (sx 92 rfl (sx 93 rfl (sx 105 rfl (sub_nil _)))))))))))))))))))) (.refl _) ?_
        refine hl_nil ?_
        exact hq_round2 (i + 1) s3 ⟨by omega, by have h9 := hvp; rw [own_app, show cd = 2 by omega] at h9; exact child_out c hfr hin.pre hI (by omega) rfl h9, by omega, hvp.mono.2⟩ (by omega) (sx 0 rfl (sx 1 rfl (sx 2 rfl (sx 6 rfl (sx 7 rfl (sx 9 rfl (sx 10 rfl (sx 11 rfl (sx 23 rfl (sx 63 rfl (sx 74 rfl (sx 80 rfl (sx 90 rfl (sx 91 rfl (sx 92 rfl (sub_nil _)))))))))))))))) ((.cons _ (.cons _ (.cons_cons _ (.cons_cons _ (.cons_cons _ (.cons_cons _ (.refl _))))))))
      ·
       refine hl_less (sx 0 rfl (sx 1 rfl (sx 2 rfl (sx 6 rfl (sx 7 rfl (sx 9 rfl (sx 10 rfl (sx 11 rfl (sx 23 rfl (sx 63 rfl (sx 74 rfl (sx 80 rfl (sx 90 rfl (sx 91 rfl (sx 92 rfl (sx 93 rfl (sub_nil _))))))))))))))))) (.refl _) ?_
       refine hl_nil ?_
       refine hq_then ?_
       refine hc_seq ?_
       refine hc_false rfl ?_
       refine hc_exit ?_
       refine hq_then_exit ?_
       refine hq_then_exit ?_
       refine hq_block_exit ?_
       refine hq_then ?_
       refine hc_seq ?_
       refine hc_conv (svE b n cv s1 :: rowE 3 1 (.slice (some ⟨g39, 0, none⟩) 2 2) 2 ([-((k : Int) + 1), (k : Int) + 1].map (Value.int .i64)) :: rowE 3 1 pu out.length (out.map (Value.int .i64)) :: rowE 3 1 v2 own.length (own.map (Value.int .i64)) :: l) (conv_pick (src := [svE b n cv s1, rowE 3 1 (.slice (some ⟨g39, 0, none⟩) 2 2) 2 ([-((k : Int) + 1), (k : Int) + 1].map (Value.int .i64)), rowE 3 1 pu out.length (out.map (Value.int .i64)), rowE 3 1 v2 own.length (own.map (Value.int .i64))]) (dst := [svE b n cv s1, rowE 3 1 (.slice (some ⟨g39, 0, none⟩) 2 2) 2 ([-((k : Int) + 1), (k : Int) + 1].map (Value.int .i64)), rowE 3 1 pu out.length (out.map (Value.int .i64)), rowE 3 1 v2 own.length (own.map (Value.int .i64))]) (l := l) [0, 1, 2, 3] (by decide) rfl) ?_
       refine hc_conv (boxE b #[.int .i64 n, cv, .int .i64 600, .int .i64 s1.v, s1.pv, s1.fv] 125 :: bigE (s1.pr.map cPart) :: rowE 26 1 s1.pv s1.pr.length (s1.pr.flatMap crowC) :: rowE 3 1 s1.fv s1.fo.length (s1.fo.map (Value.int .i64)) :: rowE 3 1 (.slice (some ⟨g39, 0, none⟩) 2 2) 2 ([-((k : Int) + 1), (k : Int) + 1].map (Value.int .i64)) :: rowE 3 1 pu out.length (out.map (Value.int .i64)) :: rowE 3 1 v2 own.length (own.map (Value.int .i64)) :: l) conv_unbig ?_
       refine hc_conv (rowE 26 1 s1.pv s1.pr.length (s1.pr.flatMap crowC) :: boxE b #[.int .i64 n, cv, .int .i64 600, .int .i64 s1.v, s1.pv, s1.fv] 125 :: bigE (s1.pr.map cPart) :: rowE 3 1 s1.fv s1.fo.length (s1.fo.map (Value.int .i64)) :: rowE 3 1 (.slice (some ⟨g39, 0, none⟩) 2 2) 2 ([-((k : Int) + 1), (k : Int) + 1].map (Value.int .i64)) :: rowE 3 1 pu out.length (out.map (Value.int .i64)) :: rowE 3 1 v2 own.length (own.map (Value.int .i64)) :: l) (conv_pick (src := [boxE b #[.int .i64 n, cv, .int .i64 600, .int .i64 s1.v, s1.pv, s1.fv] 125, bigE (s1.pr.map cPart), rowE 26 1 s1.pv s1.pr.length (s1.pr.flatMap crowC), rowE 3 1 s1.fv s1.fo.length (s1.fo.map (Value.int .i64)), rowE 3 1 (.slice (some ⟨g39, 0, none⟩) 2 2) 2 ([-((k : Int) + 1), (k : Int) + 1].map (Value.int .i64)), rowE 3 1 pu out.length (out.map (Value.int .i64)), rowE 3 1 v2 own.length (own.map (Value.int .i64))]) (dst := [rowE 26 1 s1.pv s1.pr.length (s1.pr.flatMap crowC), boxE b #[.int .i64 n, cv, .int .i64 600, .int .i64 s1.v, s1.pv, s1.fv] 125, bigE (s1.pr.map cPart), rowE 3 1 s1.fv s1.fo.length (s1.fo.map (Value.int .i64)), rowE 3 1 (.slice (some ⟨g39, 0, none⟩) 2 2) 2 ([-((k : Int) + 1), (k : Int) + 1].map (Value.int .i64)), rowE 3 1 pu out.length (out.map (Value.int .i64)), rowE 3 1 v2 own.length (own.map (Value.int .i64))]) (l := l) [2, 0, 1, 3, 4, 5, 6] (by decide) rfl) ?_
       refine hc_draw4 (l := (boxE b #[.int .i64 n, cv, .int .i64 600, .int .i64 s1.v, s1.pv, s1.fv] 125 :: bigE (s1.pr.map cPart) :: rowE 3 1 s1.fv s1.fo.length (s1.fo.map (Value.int .i64)) :: rowE 3 1 (.slice (some ⟨g39, 0, none⟩) 2 2) 2 ([-((k : Int) + 1), (k : Int) + 1].map (Value.int .i64)) :: rowE 3 1 pu out.length (out.map (Value.int .i64)) :: rowE 3 1 v2 own.length (own.map (Value.int .i64)) :: l)) (by kernel_rfl) 9 [0, 1, 2, 3, 4, 5, 6, 7, 8] (List.take 9 _) (List.drop 9 _) [[], [], [1], [2], [3], [], [5], [6], [4, 6, 7]] [some 108, some 109, some 110, some 111, some 112, some 113, some 114, some 115, some 116] (fun i_ vs_ v_ p_ => match i_ with | 0 => v_ = .pointer (some ⟨b, 0, none⟩) ∧ p_ = [] | 1 => v_ = .pointer (some ⟨b, 0, none⟩) ∧ p_ = [] | 2 => v_ = .pointer (some ⟨b, 0, none⟩) ∧ p_ = [] | 3 => v_ = .pointer (some ⟨b, 0 + 4, none⟩) ∧ p_ = [] | 4 => v_ = s1.pv ∧ p_ = [] | 5 => v_ = dv ∧ p_ = [] | 6 => (fun v' post => post = [rowE 3 1 v' (ds.map (fun x => -x)).length ((ds.map (fun x => -x)).map (Value.int .i64))] ∧ v'.oneCell' = true) v_ p_ | 7 => IsRow_o 26 1 1 ([(List.getD vs_ 0 undef)]) v_ p_ | 8 => (∃ pm_, p_ = [pm_] ∧ (fun u_ p_ => p_ = rowE 26 1 u_ ((s1.pr ++ [CRow.mk (List.getD vs_ 1 undef) (ds.map (fun x => -x))]).length) ((s1.pr ++ [CRow.mk (List.getD vs_ 1 undef) (ds.map (fun x => -x))]).flatMap crowC)) v_ pm_) | _ => True) [[], [], [1], [2], [3], [], [5], [6], [4, 6, 7]] [none, none, none, none, none, none, none, none, some 12] [[rowE 26 1 s1.pv s1.pr.length (s1.pr.flatMap crowC)]] [0, 1, 2, 3, 4, 5, 6, 7, 8] 12 (List.take_append_drop 9 _).symm (by kernel_rfl) (by kernel_rfl) (by kernel_rfl) rfl rfl ?_ ?_
       ·
        refine ⟨?_, ?_, ?_, ?_, ?_, ?_, ?_, ?_, ?_, trivial⟩
        ·
         intro vf pf hmu hR
         refine Or.inl ⟨rfl, ?_⟩
         show RunQ _ _ _ (([] : List Nat).flatMap pf ++ _) (envOf3 _ vf [] ++ _) _ _
         refine rq_less (sx 0 rfl (sub_nil _)) (List.sublist_append_right _ _) ?_
         exact rq_v (rv_ev rfl)
        ·
         intro vf pf hmu hR
         refine Or.inl ⟨rfl, ?_⟩
         show RunQ _ _ _ (([] : List Nat).flatMap pf ++ _) (envOf3 _ vf [] ++ _) _ _
         refine rq_less (sx 0 rfl (sub_nil _)) (List.sublist_append_right _ _) ?_
         exact rq_v (rv_ev rfl)
        ·
         intro vf pf hmu hR
         have e1 : (vf 1) = .pointer (some ⟨b, 0, none⟩) ∧ (pf 1) = [] := hR 1 (by decide)
         refine Or.inl ⟨rfl, ?_⟩
         show RunQ _ _ _ (([1] : List Nat).flatMap pf ++ _) (envOf3 _ vf [1] ++ _) _ _
         refine rq_less (sx 109 (congrArg some e1.1) (sub_nil _)) (List.sublist_append_right _ _) ?_
         exact rq_v (rv_nilCheck rfl rfl)
        ·
         intro vf pf hmu hR
         have e2 : (vf 2) = .pointer (some ⟨b, 0, none⟩) ∧ (pf 2) = [] := hR 2 (by decide)
         refine Or.inl ⟨rfl, ?_⟩
         show RunQ _ _ _ (([2] : List Nat).flatMap pf ++ _) (envOf3 _ vf [2] ++ _) _ _
         refine rq_less (sx 110 (congrArg some e2.1) (sub_nil _)) (List.sublist_append_right _ _) ?_
         exact rq_v (rv_field (k0 := 4) rfl (by kernel_rfl) rfl)
        ·
         intro vf pf hmu hR
         have e3 : (vf 3) = .pointer (some ⟨b, 0 + 4, none⟩) ∧ (pf 3) = [] := hR 3 (by decide)
         refine Or.inl ⟨rfl, ?_⟩
         show RunQ _ _ _ (([3] : List Nat).flatMap pf ++ _) (envOf3 _ vf [3] ++ _) _ _
         refine rq_less (sx 111 (congrArg some e3.1) (sub_nil _)) (List.sublist_append_right _ _) ?_
         exact rq_v (rv_load rfl (by kernel_rfl) rfl (box_cell 0 rfl rfl))
        ·
         intro vf pf hmu hR
         refine Or.inl ⟨rfl, ?_⟩
         show RunQ _ _ _ (([] : List Nat).flatMap pf ++ _) (envOf3 _ vf [] ++ _) _ _
         refine rq_less (sx 1 rfl (sub_nil _)) (List.sublist_append_right _ _) ?_
         exact rq_v (rv_ev rfl)
        ·
         intro vf pf hmu hR
         have e5 : (vf 5) = dv ∧ (pf 5) = [] := hR 5 (by decide)
         refine Or.inl ⟨rfl, ?_⟩
         show RunQ _ _ _ (([5] : List Nat).flatMap pf ++ _) (envOf3 _ vf [5] ++ _) _ _
         refine rq_less (sx 113 (congrArg some e5.1) (sub_nil _)) (List.sublist_append_right _ _) ?_
         exact rq_call (by kernel_rfl) rfl (fun w hm => negations_ret ds _ w (hdv w (hm.sub (.cons _ (.cons _ (.cons _ (.cons _ (.cons _ (.cons _ (.refl _))))))))) (by have := hin.len; omega) (fun i hi => by have := hin.hds i hi; have := c.hr.n1; omega))
        ·
         intro vf pf hmu hR
         have e6 : (fun v' post => post = [rowE 3 1 v' (ds.map (fun x => -x)).length ((ds.map (fun x => -x)).map (Value.int .i64))] ∧ v'.oneCell' = true) (vf 6) (pf 6) := hR 6 (by decide)
         obtain ⟨v51, v6⟩ : ∃ x, vf 6 = x := ⟨_, rfl⟩
         obtain ⟨p52, p6⟩ : ∃ x, pf 6 = x := ⟨_, rfl⟩
         have hR53 := e6
         rw [v6, p6] at hR53
         obtain ⟨rfl, honeN⟩ := hR53
         refine Or.inl ⟨rfl, ?_⟩
         show RunQ _ _ _ (([6] : List Nat).flatMap pf ++ _) (envOf3 _ vf [6] ++ _) _ _
         refine rq_less (l' := (rowE 3 1 v51 ((ds.map (fun x => -x)).length) ((ds.map (fun x => -x)).map (Value.int .i64)) :: boxE b #[.int .i64 n, cv, .int .i64 600, .int .i64 s1.v, s1.pv, s1.fv] 125 :: bigE (s1.pr.map cPart) :: rowE 3 1 s1.fv s1.fo.length (s1.fo.map (Value.int .i64)) :: rowE 3 1 (.slice (some ⟨g39, 0, none⟩) 2 2) 2 ([-((k : Int) + 1), (k : Int) + 1].map (Value.int .i64)) :: rowE 3 1 pu out.length (out.map (Value.int .i64)) :: rowE 3 1 v2 own.length (own.map (Value.int .i64)) :: l)) (sx 114 (congrArg some v6) (sub_nil _)) (by first | (simp only [p6, v6, List.flatMap_cons, List.flatMap_nil, List.append_nil, List.nil_append, List.cons_append]; exact List.Sublist.refl _) | simp [p6, v6]) ?_
         exact rq_mono (rq_buildSlice1M rfl Try.underlying40 (by kernel_rfl) rfl (fun w hm => (rd_row 0 rfl w hm).one)) (fun v_ p_ h => by show IsRow_o 26 1 1 ([(vf 6)]) v_ p_; rw [v6]; exact h)
        ·
         intro vf pf hmu hR
         have e4 : (vf 4) = s1.pv ∧ (pf 4) = [] := hR 4 (by decide)
         have e6 : (fun v' post => post = [rowE 3 1 v' (ds.map (fun x => -x)).length ((ds.map (fun x => -x)).map (Value.int .i64))] ∧ v'.oneCell' = true) (vf 6) (pf 6) := hR 6 (by decide)
         obtain ⟨v51, v6⟩ : ∃ x, vf 6 = x := ⟨_, rfl⟩
         obtain ⟨p52, p6⟩ : ∃ x, pf 6 = x := ⟨_, rfl⟩
         have hR53 := e6
         rw [v6, p6] at hR53
         obtain ⟨rfl, honeN⟩ := hR53
         have e7 : IsRow_o 26 1 1 ([(vf 6)]) (vf 7) (pf 7) := hR 7 (by decide)
         rw [v6] at e7
         obtain ⟨g54, v7, p7⟩ := e7
         refine Or.inl ⟨rfl, ?_⟩
         show RunM _ _ _ (pf 12) (([4, 6, 7] : List Nat).flatMap pf ++ _) (envOf3 _ vf [4, 6, 7] ++ _) _ _
         have hmu0 : pf 12 = [rowE 26 1 s1.pv s1.pr.length (s1.pr.flatMap crowC)] := hmu 0 (show 0 < 1 by omega)
         rw [hmu0]
         refine rm_less (X' := (rowE 3 1 v51 ((ds.map (fun x => -x)).length) ((ds.map (fun x => -x)).map (Value.int .i64)) :: rowE 26 1 (.slice (some ⟨g54, 0, none⟩) 1 1) 1 ([v51]) :: boxE b #[.int .i64 n, cv, .int .i64 600, .int .i64 s1.v, s1.pv, s1.fv] 125 :: bigE (s1.pr.map cPart) :: rowE 3 1 s1.fv s1.fo.length (s1.fo.map (Value.int .i64)) :: rowE 3 1 (.slice (some ⟨g39, 0, none⟩) 2 2) 2 ([-((k : Int) + 1), (k : Int) + 1].map (Value.int .i64)) :: rowE 3 1 pu out.length (out.map (Value.int .i64)) :: rowE 3 1 v2 own.length (own.map (Value.int .i64)) :: l)) (sx 112 (congrArg some e4.1) (sx 115 (congrArg some v7) (sub_nil _))) (by first | (simp only [p6, v6, p7, v7, e4.2, List.flatMap_cons, List.flatMap_nil, List.append_nil, List.nil_append, List.cons_append]; exact List.Sublist.refl _) | simp [p6, v6, p7, v7, e4.2]) ?_
         exact rm_mono (rm_append (d := 0) (z := .slice none 0 0) (bytes := 24) (n' := (s1.pr ++ [CRow.mk v51 (ds.map (fun x => -x))]).length) (xs' := ((s1.pr ++ [CRow.mk v51 (ds.map (fun x => -x))]).flatMap crowC)) rfl Try.underlying40 (by kernel_rfl) (by kernel_rfl) rfl rfl (rd_row 1 rfl) (all_cons honeN all_nil) (by first | omega | (simp only [List.length_append, List.length_cons, List.length_nil]; omega)) (len_app s1.pr [CRow.mk v51 (ds.map (fun x => -x))]) (flat_app1 crowC s1.pr (CRow.mk v51 (ds.map (fun x => -x))) _ rfl)) (fun v_ p_ h => by show (∃ pm_, p_ = [pm_] ∧ (fun u_ p_ => p_ = rowE 26 1 u_ ((s1.pr ++ [CRow.mk (vf 6) (ds.map (fun x => -x))]).length) ((s1.pr ++ [CRow.mk (vf 6) (ds.map (fun x => -x))]).flatMap crowC)) v_ pm_); rw [v6]; exact h)
       ·
        intro vf pf hmu hR
        have e0 : (vf 0) = .pointer (some ⟨b, 0, none⟩) ∧ (pf 0) = [] := hR 0 (by decide)
        have e6 : (fun v' post => post = [rowE 3 1 v' (ds.map (fun x => -x)).length ((ds.map (fun x => -x)).map (Value.int .i64))] ∧ v'.oneCell' = true) (vf 6) (pf 6) := hR 6 (by decide)
        obtain ⟨v51, v6⟩ : ∃ x, vf 6 = x := ⟨_, rfl⟩
        obtain ⟨p52, p6⟩ : ∃ x, pf 6 = x := ⟨_, rfl⟩
        have hR53 := e6
        rw [v6, p6] at hR53
        obtain ⟨rfl, honeN⟩ := hR53
        have e7 : IsRow_o 26 1 1 ([(vf 6)]) (vf 7) (pf 7) := hR 7 (by decide)
        rw [v6] at e7
        obtain ⟨g54, v7, p7⟩ := e7
        have e8 : (∃ pm_, (pf 8) = [pm_] ∧ (fun u_ p_ => p_ = rowE 26 1 u_ ((s1.pr ++ [CRow.mk (vf 6) (ds.map (fun x => -x))]).length) ((s1.pr ++ [CRow.mk (vf 6) (ds.map (fun x => -x))]).flatMap crowC)) (vf 8) pm_) := hR 8 (by decide)
        rw [v6] at e8
        obtain ⟨p56, p8, hR57⟩ := e8
        obtain ⟨v55, v8⟩ : ∃ x, vf 8 = x := ⟨_, rfl⟩
        rw [v8] at hR57
        subst hR57
        have q0 : (vf 0) = .pointer (some ⟨b, 0, none⟩) ∧ (pf 0) = [] := hR 0 (by decide)
        have q1 : (vf 1) = .pointer (some ⟨b, 0, none⟩) ∧ (pf 1) = [] := hR 1 (by decide)
        have q2 : (vf 2) = .pointer (some ⟨b, 0, none⟩) ∧ (pf 2) = [] := hR 2 (by decide)
        have q3 : (vf 3) = .pointer (some ⟨b, 0 + 4, none⟩) ∧ (pf 3) = [] := hR 3 (by decide)
        have q4 : (vf 4) = s1.pv ∧ (pf 4) = [] := hR 4 (by decide)
        have q5 : (vf 5) = dv ∧ (pf 5) = [] := hR 5 (by decide)
        refine hl_less (l' := (rowE 3 1 v51 ((ds.map (fun x => -x)).length) ((ds.map (fun x => -x)).map (Value.int .i64)) :: rowE 26 1 (.slice (some ⟨g54, 0, none⟩) 1 1) 1 ([v51]) :: rowE 26 1 v55 ((s1.pr ++ [CRow.mk v51 (ds.map (fun x => -x))]).length) ((s1.pr ++ [CRow.mk v51 (ds.map (fun x => -x))]).flatMap crowC) :: boxE b #[.int .i64 n, cv, .int .i64 600, .int .i64 s1.v, s1.pv, s1.fv] 125 :: bigE (s1.pr.map cPart) :: rowE 3 1 s1.fv s1.fo.length (s1.fo.map (Value.int .i64)) :: rowE 3 1 (.slice (some ⟨g39, 0, none⟩) 2 2) 2 ([-((k : Int) + 1), (k : Int) + 1].map (Value.int .i64)) :: rowE 3 1 pu out.length (out.map (Value.int .i64)) :: rowE 3 1 v2 own.length (own.map (Value.int .i64)) :: l)) (sx 0 rfl (sx 1 rfl (sx 2 rfl (sx 6 rfl (sx 7 rfl (sx 9 rfl (sx 10 rfl (sx 11 rfl (sx 23 rfl (sx 63 rfl (sx 74 rfl (sx 80 rfl (sx 90 rfl (sx 91 rfl (sx 92 rfl (sx 93 rfl (sx 108 (congrArg some e0.1) (sx 116 (congrArg some v8) (sub_nil _))))))))))))))))))) (by first | (simp only [p6, v6, p7, v7, p8, v8, q0.2, q1.2, q2.2, q3.2, q4.2, q5.2, List.flatMap_cons, List.flatMap_nil, List.append_nil, List.nil_append, List.cons_append]; exact List.Sublist.refl _) | simp [p6, v6, p7, v7, p8, v8, q0.2, q1.2, q2.2, q3.2, q4.2, q5.2]) ?_
        simp only [List.drop_succ_cons, List.drop_zero]
        refine hl_v rfl rfl rfl (rv_nilCheck rfl rfl) ?_
        refine hl_v rfl rfl rfl (rv_field (k0 := 4) rfl (by kernel_rfl) rfl) ?_
        refine hl_one (i := 2) rfl (fun ho58 => ?_)
        refine hl_storeBox (i := 3) (l' := (rowE 3 1 v51 ((ds.map (fun x => -x)).length) ((ds.map (fun x => -x)).map (Value.int .i64)) :: rowE 26 1 (.slice (some ⟨g54, 0, none⟩) 1 1) 1 ([v51]) :: rowE 26 1 v55 ((s1.pr ++ [CRow.mk v51 (ds.map (fun x => -x))]).length) ((s1.pr ++ [CRow.mk v51 (ds.map (fun x => -x))]).flatMap crowC) :: boxE b #[.int .i64 n, cv, .int .i64 600, .int .i64 s1.v, v55, s1.fv] 125 :: bigE (s1.pr.map cPart) :: rowE 3 1 s1.fv s1.fo.length (s1.fo.map (Value.int .i64)) :: rowE 3 1 (.slice (some ⟨g39, 0, none⟩) 2 2) 2 ([-((k : Int) + 1), (k : Int) + 1].map (Value.int .i64)) :: rowE 3 1 pu out.length (out.map (Value.int .i64)) :: rowE 3 1 v2 own.length (own.map (Value.int .i64)) :: l)) rfl rfl rfl (by kernel_rfl) rfl rfl ho58 rfl rfl rfl ?_
        refine hl_less (sx 0 rfl (sx 1 rfl (sx 2 rfl (sx 6 rfl (sx 7 rfl (sx 9 rfl (sx 10 rfl (sx 11 rfl (sx 23 rfl (sx 63 rfl (sx 74 rfl (sx 80 rfl (sx 90 rfl (sx 91 rfl (sx 92 rfl (sx 93 rfl (sub_nil _))))))))))))))))) (.refl _) ?_
        refine hl_nil ?_
        refine hq_then ?_
        refine hc_seq ?_
        refine hc_region ?_
        refine hl_v rfl rfl rfl (rv_ev rfl) ?_
        refine hl_less (sx 0 rfl (sx 1 rfl (sx 2 rfl (sx 6 rfl (sx 7 rfl (sx 9 rfl (sx 10 rfl (sx 11 rfl (sx 23 rfl (sx 63 rfl (sx 74 rfl (sx 80 rfl (sx 90 rfl (sx 91 rfl (sx 92 rfl (sx 93 rfl (sub_nil _))))))))))))))))) (.refl _) ?_
        refine hl_nil ?_
        refine hq_then ?_
        refine hc_ret ?_
        refine hq_conv (bigE (s1.pr.map cPart) :: rowE 3 1 v51 ((ds.map (fun x => -x)).length) ((ds.map (fun x => -x)).map (Value.int .i64)) :: rowE 26 1 (.slice (some ⟨g54, 0, none⟩) 1 1) 1 ([v51]) :: rowE 26 1 v55 ((s1.pr ++ [CRow.mk v51 (ds.map (fun x => -x))]).length) ((s1.pr ++ [CRow.mk v51 (ds.map (fun x => -x))]).flatMap crowC) :: boxE b #[.int .i64 n, cv, .int .i64 600, .int .i64 s1.v, v55, s1.fv] 125 :: rowE 3 1 s1.fv s1.fo.length (s1.fo.map (Value.int .i64)) :: rowE 3 1 (.slice (some ⟨g39, 0, none⟩) 2 2) 2 ([-((k : Int) + 1), (k : Int) + 1].map (Value.int .i64)) :: rowE 3 1 pu out.length (out.map (Value.int .i64)) :: rowE 3 1 v2 own.length (own.map (Value.int .i64)) :: l) (conv_pick (src := [rowE 3 1 v51 ((ds.map (fun x => -x)).length) ((ds.map (fun x => -x)).map (Value.int .i64)), rowE 26 1 (.slice (some ⟨g54, 0, none⟩) 1 1) 1 ([v51]), rowE 26 1 v55 ((s1.pr ++ [CRow.mk v51 (ds.map (fun x => -x))]).length) ((s1.pr ++ [CRow.mk v51 (ds.map (fun x => -x))]).flatMap crowC), boxE b #[.int .i64 n, cv, .int .i64 600, .int .i64 s1.v, v55, s1.fv] 125, bigE (s1.pr.map cPart), rowE 3 1 s1.fv s1.fo.length (s1.fo.map (Value.int .i64)), rowE 3 1 (.slice (some ⟨g39, 0, none⟩) 2 2) 2 ([-((k : Int) + 1), (k : Int) + 1].map (Value.int .i64)), rowE 3 1 pu out.length (out.map (Value.int .i64)), rowE 3 1 v2 own.length (own.map (Value.int .i64))]) (dst := [bigE (s1.pr.map cPart), rowE 3 1 v51 ((ds.map (fun x => -x)).length) ((ds.map (fun x => -x)).map (Value.int .i64)), rowE 26 1 (.slice (some ⟨g54, 0, none⟩) 1 1) 1 ([v51]), rowE 26 1 v55 ((s1.pr ++ [CRow.mk v51 (ds.map (fun x => -x))]).length) ((s1.pr ++ [CRow.mk v51 (ds.map (fun x => -x))]).flatMap crowC), boxE b #[.int .i64 n, cv, .int .i64 600, .int .i64 s1.v, v55, s1.fv] 125, rowE 3 1 s1.fv s1.fo.length (s1.fo.map (Value.int .i64)), rowE 3 1 (.slice (some ⟨g39, 0, none⟩) 2 2) 2 ([-((k : Int) + 1), (k : Int) + 1].map (Value.int .i64)), rowE 3 1 pu out.length (out.map (Value.int .i64)), rowE 3 1 v2 own.length (own.map (Value.int .i64))]) (l := l) [4, 0, 1, 2, 3, 5, 6, 7, 8] (by decide) rfl) ?_
        refine hq_conv (bigE ((s1.pr ++ [CRow.mk v51 (ds.map (fun x => -x))]).map cPart) :: rowE 26 1 (.slice (some ⟨g54, 0, none⟩) 1 1) 1 ([v51]) :: rowE 26 1 v55 ((s1.pr ++ [CRow.mk v51 (ds.map (fun x => -x))]).length) ((s1.pr ++ [CRow.mk v51 (ds.map (fun x => -x))]).flatMap crowC) :: boxE b #[.int .i64 n, cv, .int .i64 600, .int .i64 s1.v, v55, s1.fv] 125 :: rowE 3 1 s1.fv s1.fo.length (s1.fo.map (Value.int .i64)) :: rowE 3 1 (.slice (some ⟨g39, 0, none⟩) 2 2) 2 ([-((k : Int) + 1), (k : Int) + 1].map (Value.int .i64)) :: rowE 3 1 pu out.length (out.map (Value.int .i64)) :: rowE 3 1 v2 own.length (own.map (Value.int .i64)) :: l) (fun w hm => by rw [List.map_append]; exact conv_snoc w hm) ?_
        refine hq_conv (boxE b #[.int .i64 n, cv, .int .i64 600, .int .i64 s1.v, v55, s1.fv] 125 :: bigE ((s1.pr ++ [CRow.mk v51 (ds.map (fun x => -x))]).map cPart) :: rowE 26 1 v55 ((s1.pr ++ [CRow.mk v51 (ds.map (fun x => -x))]).length) ((s1.pr ++ [CRow.mk v51 (ds.map (fun x => -x))]).flatMap crowC) :: rowE 3 1 s1.fv s1.fo.length (s1.fo.map (Value.int .i64)) :: rowE 26 1 (.slice (some ⟨g54, 0, none⟩) 1 1) 1 ([v51]) :: rowE 3 1 (.slice (some ⟨g39, 0, none⟩) 2 2) 2 ([-((k : Int) + 1), (k : Int) + 1].map (Value.int .i64)) :: rowE 3 1 pu out.length (out.map (Value.int .i64)) :: rowE 3 1 v2 own.length (own.map (Value.int .i64)) :: l) (conv_pick (src := [bigE ((s1.pr ++ [CRow.mk v51 (ds.map (fun x => -x))]).map cPart), rowE 26 1 (.slice (some ⟨g54, 0, none⟩) 1 1) 1 ([v51]), rowE 26 1 v55 ((s1.pr ++ [CRow.mk v51 (ds.map (fun x => -x))]).length) ((s1.pr ++ [CRow.mk v51 (ds.map (fun x => -x))]).flatMap crowC), boxE b #[.int .i64 n, cv, .int .i64 600, .int .i64 s1.v, v55, s1.fv] 125, rowE 3 1 s1.fv s1.fo.length (s1.fo.map (Value.int .i64)), rowE 3 1 (.slice (some ⟨g39, 0, none⟩) 2 2) 2 ([-((k : Int) + 1), (k : Int) + 1].map (Value.int .i64)), rowE 3 1 pu out.length (out.map (Value.int .i64)), rowE 3 1 v2 own.length (own.map (Value.int .i64))]) (dst := [boxE b #[.int .i64 n, cv, .int .i64 600, .int .i64 s1.v, v55, s1.fv] 125, bigE ((s1.pr ++ [CRow.mk v51 (ds.map (fun x => -x))]).map cPart), rowE 26 1 v55 ((s1.pr ++ [CRow.mk v51 (ds.map (fun x => -x))]).length) ((s1.pr ++ [CRow.mk v51 (ds.map (fun x => -x))]).flatMap crowC), rowE 3 1 s1.fv s1.fo.length (s1.fo.map (Value.int .i64)), rowE 26 1 (.slice (some ⟨g54, 0, none⟩) 1 1) 1 ([v51]), rowE 3 1 (.slice (some ⟨g39, 0, none⟩) 2 2) 2 ([-((k : Int) + 1), (k : Int) + 1].map (Value.int .i64)), rowE 3 1 pu out.length (out.map (Value.int .i64)), rowE 3 1 v2 own.length (own.map (Value.int .i64))]) (l := l) [3, 0, 2, 4, 1, 5, 6, 7] (by decide) rfl) ?_
        refine hq_conv (svE b n cv (Sv.mk s1.v v55 (s1.pr ++ [CRow.mk v51 (ds.map (fun x => -x))]) s1.fv s1.fo) :: rowE 26 1 (.slice (some ⟨g54, 0, none⟩) 1 1) 1 ([v51]) :: rowE 3 1 (.slice (some ⟨g39, 0, none⟩) 2 2) 2 ([-((k : Int) + 1), (k : Int) + 1].map (Value.int .i64)) :: rowE 3 1 pu out.length (out.map (Value.int .i64)) :: rowE 3 1 v2 own.length (own.map (Value.int .i64)) :: l) (conv_big (ps := [boxE b #[.int .i64 n, cv, .int .i64 600, .int .i64 s1.v, v55, s1.fv] 125, bigE ((s1.pr ++ [CRow.mk v51 (ds.map (fun x => -x))]).map cPart), rowE 26 1 v55 ((s1.pr ++ [CRow.mk v51 (ds.map (fun x => -x))]).length) ((s1.pr ++ [CRow.mk v51 (ds.map (fun x => -x))]).flatMap crowC), rowE 3 1 s1.fv s1.fo.length (s1.fo.map (Value.int .i64))])) ?_
        exact hq_retMut (p' := svE b n cv (Sv.mk s1.v v55 (s1.pr ++ [CRow.mk v51 (ds.map (fun x => -x))]) s1.fv s1.fo)) rfl rfl ((.cons_cons _ (.cons _ (.cons _ (.cons _ (.cons _ (.refl _))))))) ⟨(Sv.mk s1.v v55 (s1.pr ++ [CRow.mk v51 (ds.map (fun x => -x))]) s1.fv s1.fo), 2, rfl, rfl, both_out c hpok (by rw [show (2 : Nat) = i by omega]; exact hI) h6, by show ((s1.pr ++ [CRow.mk v51 (ds.map (fun x => -x))]).length : Int) - s.pr.length ≤ _; rw [List.length_append, List.length_singleton]; (show _ ≤ (s1.v) - s.v); omega⟩
   ·
    refine hl_v rfl rfl rfl (rv_ev rfl) ?_
    refine hl_v rfl rfl rfl (rv_ev rfl) ?_
    refine hl_less (sx 0 rfl (sx 1 rfl (sx 2 rfl (sx 6 rfl (sx 7 rfl (sx 9 rfl (sx 10 rfl (sx 23 rfl (sub_nil _))))))))) (.refl _) ?_
    refine hl_nil ?_
    refine hq_then ?_
    refine hc_seq ?_
    refine hc_seq ?_
    refine hc_region ?_
    refine hl_v rfl rfl rfl (rv_ev rfl) ?_
    refine hl_less (sx 0 rfl (sx 1 rfl (sx 2 rfl (sx 6 rfl (sx 7 rfl (sx 9 rfl (sx 10 rfl (sx 23 rfl (sx 63 rfl (sub_nil _)))))))))) (.refl _) ?_
    refine hl_nil ?_
    refine hq_then ?_
    refine hc_false rfl ?_
    refine hc_skip ?_
    refine hq_then ?_
    refine hc_seq ?_
    have hv6 := vpre_lt hin.pre
    refine hc_conv (rowE 26 1 s.pv s.pr.length (s.pr.flatMap crowC) :: rowE 3 1 pu out.length (out.map (Value.int .i64)) :: rowE 3 1 v2 own.length (own.map (Value.int .i64)) :: boxE b #[.int .i64 n, cv, .int .i64 600, .int .i64 (s.v + 1), s.pv, s.fv] 125 :: bigE (s.pr.map cPart) :: rowE 3 1 s.fv s.fo.length (s.fo.map (Value.int .i64)) :: l) (conv_pick (src := [rowE 3 1 pu out.length (out.map (Value.int .i64)), rowE 3 1 v2 own.length (own.map (Value.int .i64)), boxE b #[.int .i64 n, cv, .int .i64 600, .int .i64 (s.v + 1), s.pv, s.fv] 125, bigE (s.pr.map cPart), rowE 26 1 s.pv s.pr.length (s.pr.flatMap crowC), rowE 3 1 s.fv s.fo.length (s.fo.map (Value.int .i64))]) (dst := [rowE 26 1 s.pv s.pr.length (s.pr.flatMap crowC), rowE 3 1 pu out.length (out.map (Value.int .i64)), rowE 3 1 v2 own.length (own.map (Value.int .i64)), boxE b #[.int .i64 n, cv, .int .i64 600, .int .i64 (s.v + 1), s.pv, s.fv] 125, bigE (s.pr.map cPart), rowE 3 1 s.fv s.fo.length (s.fo.map (Value.int .i64))]) (l := l) [4, 0, 1, 2, 3, 5] (by decide) rfl) ?_
    refine hc_draw4 (l := (rowE 3 1 pu out.length (out.map (Value.int .i64)) :: rowE 3 1 v2 own.length (own.map (Value.int .i64)) :: boxE b #[.int .i64 n, cv, .int .i64 600, .int .i64 (s.v + 1), s.pv, s.fv] 125 :: bigE (s.pr.map cPart) :: rowE 3 1 s.fv s.fo.length (s.fo.map (Value.int .i64)) :: l)) (by kernel_rfl) 9 [0, 1, 2, 3, 4, 5, 6, 7, 8] (List.take 9 _) (List.drop 9 _) [[], [], [1], [2], [3], [], [5], [6], [4, 6, 7]] [some 108, some 109, some 110, some 111, some 112, some 113, some 114, some 115, some 116] (fun i_ vs_ v_ p_ => match i_ with | 0 => v_ = .pointer (some ⟨b, 0, none⟩) ∧ p_ = [] | 1 => v_ = .pointer (some ⟨b, 0, none⟩) ∧ p_ = [] | 2 => v_ = .pointer (some ⟨b, 0, none⟩) ∧ p_ = [] | 3 => v_ = .pointer (some ⟨b, 0 + 4, none⟩) ∧ p_ = [] | 4 => v_ = s.pv ∧ p_ = [] | 5 => v_ = dv ∧ p_ = [] | 6 => (fun v' post => post = [rowE 3 1 v' (ds.map (fun x => -x)).length ((ds.map (fun x => -x)).map (Value.int .i64))] ∧ v'.oneCell' = true) v_ p_ | 7 => IsRow_o 26 1 1 ([(List.getD vs_ 0 undef)]) v_ p_ | 8 => (∃ pm_, p_ = [pm_] ∧ (fun u_ p_ => p_ = rowE 26 1 u_ ((s.pr ++ [CRow.mk (List.getD vs_ 1 undef) (ds.map (fun x => -x))]).length) ((s.pr ++ [CRow.mk (List.getD vs_ 1 undef) (ds.map (fun x => -x))]).flatMap crowC)) v_ pm_) | _ => True) [[], [], [1], [2], [3], [], [5], [6], [4, 6, 7]] [none, none, none, none, none, none, none, none, some 12] [[rowE 26 1 s.pv s.pr.length (s.pr.flatMap crowC)]] [0, 1, 2, 3, 4, 5, 6, 7, 8] 12 (List.take_append_drop 9 _).symm (by kernel_rfl) (by kernel_rfl) (by kernel_rfl) rfl rfl ?_ ?_
    ·
     refine ⟨?_, ?_, ?_, ?_, ?_, ?_, ?_, ?_, ?_, trivial⟩
     ·
      intro vf pf hmu hR
      refine Or.inl ⟨rfl, ?_⟩
      show RunQ _ _ _ (([] : List Nat).flatMap pf ++ _) (envOf3 _ vf [] ++ _) _ _
      refine rq_less (sx 0 rfl (sub_nil _)) (List.sublist_append_right _ _) ?_
      exact rq_v (rv_ev rfl)
     ·
      intro vf pf hmu hR
      refine Or.inl ⟨rfl, ?_⟩
      show RunQ _ _ _ (([] : List Nat).flatMap pf ++ _) (envOf3 _ vf [] ++ _) _ _
      refine rq_less (sx 0 rfl (sub_nil _)) (List.sublist_append_right _ _) ?_
      exact rq_v (rv_ev rfl)
     ·
      intro vf pf hmu hR
      have e1 : (vf 1) = .pointer (some ⟨b, 0, none⟩) ∧ (pf 1) = [] := hR 1 (by decide)
      refine Or.inl ⟨rfl, ?_⟩
      show RunQ _ _ _ (([1] : List Nat).flatMap pf ++ _) (envOf3 _ vf [1] ++ _) _ _
      refine rq_less (sx 109 (congrArg some e1.1) (sub_nil _)) (List.sublist_append_right _ _) ?_
      exact rq_v (rv_nilCheck rfl rfl)
     ·
      intro vf pf hmu hR
      have e2 : (vf 2) = .pointer (some ⟨b, 0, none⟩) ∧ (pf 2) = [] := hR 2 (by decide)
      refine Or.inl ⟨rfl, ?_⟩
      show RunQ _ _ _ (([2] : List Nat).flatMap pf ++ _) (envOf3 _ vf [2] ++ _) _ _
      refine rq_less (sx 110 (congrArg some e2.1) (sub_nil _)) (List.sublist_append_right _ _) ?_
      exact rq_v (rv_field (k0 := 4) rfl (by kernel_rfl) rfl)
     ·
      intro vf pf hmu hR
      have e3 : (vf 3) = .pointer (some ⟨b, 0 + 4, none⟩) ∧ (pf 3) = [] := hR 3 (by decide)
      refine Or.inl ⟨rfl, ?_⟩
      show RunQ _ _ _ (([3] : List Nat).flatMap pf ++ _) (envOf3 _ vf [3] ++ _) _ _
      refine rq_less (sx 111 (congrArg some e3.1) (sub_nil _)) (List.sublist_append_right _ _) ?_
      exact rq_v (rv_load rfl (by kernel_rfl) rfl (box_cell 2 rfl rfl))
     ·
      intro vf pf hmu hR
      refine Or.inl ⟨rfl, ?_⟩
      show RunQ _ _ _ (([] : List Nat).flatMap pf ++ _) (envOf3 _ vf [] ++ _) _ _
      refine rq_less (sx 1 rfl (sub_nil _)) (List.sublist_append_right _ _) ?_
      exact rq_v (rv_ev rfl)
     ·
      intro vf pf hmu hR
      have e5 : (vf 5) = dv ∧ (pf 5) = [] := hR 5 (by decide)
      refine Or.inl ⟨rfl, ?_⟩
      show RunQ _ _ _ (([5] : List Nat).flatMap pf ++ _) (envOf3 _ vf [5] ++ _) _ _
      refine rq_less (sx 113 (congrArg some e5.1) (sub_nil _)) (List.sublist_append_right _ _) ?_
      exact rq_call (by kernel_rfl) rfl (fun w hm => negations_ret ds _ w (hdv w (hm.sub (.cons _ (.cons _ (.cons _ (.cons _ (.cons _ (.refl _)))))))) (by have := hin.len; omega) (fun i hi => by have := hin.hds i hi; have := c.hr.n1; omega))
     ·
      intro vf pf hmu hR
      have e6 : (fun v' post => post = [rowE 3 1 v' (ds.map (fun x => -x)).length ((ds.map (fun x => -x)).map (Value.int .i64))] ∧ v'.oneCell' = true) (vf 6) (pf 6) := hR 6 (by decide)
      obtain ⟨v59, v6⟩ : ∃ x, vf 6 = x := ⟨_, rfl⟩
      obtain ⟨p60, p6⟩ : ∃ x, pf 6 = x := ⟨_, rfl⟩
      have hR61 := e6
      rw [v6, p6] at hR61
      obtain ⟨rfl, honeN⟩ := hR61
      refine Or.inl ⟨rfl, ?_⟩
      show RunQ _ _ _ (([6] : List Nat).flatMap pf ++ _) (envOf3 _ vf [6] ++ _) _ _
      refine rq_less (l' := (rowE 3 1 v59 ((ds.map (fun x => -x)).length) ((ds.map (fun x => -x)).map (Value.int .i64)) :: rowE 3 1 pu out.length (out.map (Value.int .i64)) :: rowE 3 1 v2 own.length (own.map (Value.int .i64)) :: boxE b #[.int .i64 n, cv, .int .i64 600, .int .i64 (s.v + 1), s.pv, s.fv] 125 :: bigE (s.pr.map cPart) :: rowE 3 1 s.fv s.fo.length (s.fo.map (Value.int .i64)) :: l)) (sx 114 (congrArg some v6) (sub_nil _)) (by first | (simp only [p6, v6, List.flatMap_cons, List.flatMap_nil, List.append_nil, List.nil_append, List.cons_append]; exact List.Sublist.refl _) | simp [p6, v6]) ?_
      exact rq_mono (rq_buildSlice1M rfl Try.underlying40 (by kernel_rfl) rfl (fun w hm => (rd_row 0 rfl w hm).one)) (fun v_ p_ h => by show IsRow_o 26 1 1 ([(vf 6)]) v_ p_; rw [v6]; exact h)
     ·
      intro vf pf hmu hR
      have e4 : (vf 4) = s.pv ∧ (pf 4) = [] := hR 4 (by decide)
      have e6 : (fun v' post => post = [rowE 3 1 v' (ds.map (fun x => -x)).length ((ds.map (fun x => -x)).map (Value.int .i64))] ∧ v'.oneCell' = true) (vf 6) (pf 6) := hR 6 (by decide)
      obtain ⟨v59, v6⟩ : ∃ x, vf 6 = x := ⟨_, rfl⟩
      obtain ⟨p60, p6⟩ : ∃ x, pf 6 = x := ⟨_, rfl⟩
      have hR61 := e6
      rw [v6, p6] at hR61
      obtain ⟨rfl, honeN⟩ := hR61
      have e7 : IsRow_o 26 1 1 ([(vf 6)]) (vf 7) (pf 7) := hR 7 (by decide)
      rw [v6] at e7
      obtain ⟨g62, v7, p7⟩ := e7
      refine Or.inl ⟨rfl, ?_⟩
      show RunM _ _ _ (pf 12) (([4, 6, 7] : List Nat).flatMap pf ++ _) (envOf3 _ vf [4, 6, 7] ++ _) _ _
      have hmu0 : pf 12 = [rowE 26 1 s.pv s.pr.length (s.pr.flatMap crowC)] := hmu 0 (show 0 < 1 by omega)
      rw [hmu0]
      refine rm_less (X' := (rowE 3 1 v59 ((ds.map (fun x => -x)).length) ((ds.map (fun x => -x)).map (Value.int .i64)) :: rowE 26 1 (.slice (some ⟨g62, 0, none⟩) 1 1) 1 ([v59]) :: rowE 3 1 pu out.length (out.map (Value.int .i64)) :: rowE 3 1 v2 own.length (own.map (Value.int .i64)) :: boxE b #[.int .i64 n, cv, .int .i64 600, .int .i64 (s.v + 1), s.pv, s.fv] 125 :: bigE (s.pr.map cPart) :: rowE 3 1 s.fv s.fo.length (s.fo.map (Value.int .i64)) :: l)) (sx 112 (congrArg some e4.1) (sx 115 (congrArg some v7) (sub_nil _))) (by first | (simp only [p6, v6, p7, v7, e4.2, List.flatMap_cons, List.flatMap_nil, List.append_nil, List.nil_append, List.cons_append]; exact List.Sublist.refl _) | simp [p6, v6, p7, v7, e4.2]) ?_
      exact rm_mono (rm_append (d := 0) (z := .slice none 0 0) (bytes := 24) (n' := (s.pr ++ [CRow.mk v59 (ds.map (fun x => -x))]).length) (xs' := ((s.pr ++ [CRow.mk v59 (ds.map (fun x => -x))]).flatMap crowC)) rfl Try.underlying40 (by kernel_rfl) (by kernel_rfl) rfl rfl (rd_row 1 rfl) (all_cons honeN all_nil) (by first | omega | (simp only [List.length_append, List.length_cons, List.length_nil]; omega)) (len_app s.pr [CRow.mk v59 (ds.map (fun x => -x))]) (flat_app1 crowC s.pr (CRow.mk v59 (ds.map (fun x => -x))) _ rfl)) (fun v_ p_ h => by show (∃ pm_, p_ = [pm_] ∧ (fun u_ p_ => p_ = rowE 26 1 u_ ((s.pr ++ [CRow.mk (vf 6) (ds.map (fun x => -x))]).length) ((s.pr ++ [CRow.mk (vf 6) (ds.map (fun x => -x))]).flatMap crowC)) v_ pm_); rw [v6]; exact h)
    ·
     intro vf pf hmu hR
     have e0 : (vf 0) = .pointer (some ⟨b, 0, none⟩) ∧ (pf 0) = [] := hR 0 (by decide)
     have e6 : (fun v' post => post = [rowE 3 1 v' (ds.map (fun x => -x)).length ((ds.map (fun x => -x)).map (Value.int .i64))] ∧ v'.oneCell' = true) (vf 6) (pf 6) := hR 6 (by decide)
     obtain ⟨v59, v6⟩ : ∃ x, vf 6 = x := ⟨_, rfl⟩
     obtain ⟨p60, p6⟩ : ∃ x, pf 6 = x := ⟨_, rfl⟩
     have hR61 := e6
     rw [v6, p6] at hR61
     obtain ⟨rfl, honeN⟩ := hR61
     have e7 : IsRow_o 26 1 1 ([(vf 6)]) (vf 7) (pf 7) := hR 7 (by decide)
     rw [v6] at e7
     obtain ⟨g62, v7, p7⟩ := e7
     have e8 : (∃ pm_, (pf 8) = [pm_] ∧ (fun u_ p_ => p_ = rowE 26 1 u_ ((s.pr ++ [CRow.mk (vf 6) (ds.map (fun x => -x))]).length) ((s.pr ++ [CRow.mk (vf 6) (ds.map (fun x => -x))]).flatMap crowC)) (vf 8) pm_) := hR 8 (by decide)
     rw [v6] at e8
     obtain ⟨p64, p8, hR65⟩ := e8
     obtain ⟨v63, v8⟩ : ∃ x, vf 8 = x := ⟨_, rfl⟩
     rw [v8] at hR65
     subst hR65
     have q0 : (vf 0) = .pointer (some ⟨b, 0, none⟩) ∧ (pf 0) = [] := hR 0 (by decide)
     have q1 : (vf 1) = .pointer (some ⟨b, 0, none⟩) ∧ (pf 1) = [] := hR 1 (by decide)
     have q2 : (vf 2) = .pointer (some ⟨b, 0, none⟩) ∧ (pf 2) = [] := hR 2 (by decide)
     have q3 : (vf 3) = .pointer (some ⟨b, 0 + 4, none⟩) ∧ (pf 3) = [] := hR 3 (by decide)
     have q4 : (vf 4) = s.pv ∧ (pf 4) = [] := hR 4 (by decide)
     have q5 : (vf 5) = dv ∧ (pf 5) = [] := hR 5 (by decide)
     refine hl_less (l' := (rowE 3 1 v59 ((ds.map (fun x => -x)).length) ((ds.map (fun x => -x)).map (Value.int .i64)) :: rowE 26 1 (.slice (some ⟨g62, 0, none⟩) 1 1) 1 ([v59]) :: rowE 26 1 v63 ((s.pr ++ [CRow.mk v59 (ds.map (fun x => -x))]).length) ((s.pr ++ [CRow.mk v59 (ds.map (fun x => -x))]).flatMap crowC) :: rowE 3 1 pu out.length (out.map (Value.int .i64)) :: rowE 3 1 v2 own.length (own.map (Value.int .i64)) :: boxE b #[.int .i64 n, cv, .int .i64 600, .int .i64 (s.v + 1), s.pv, s.fv] 125 :: bigE (s.pr.map cPart) :: rowE 3 1 s.fv s.fo.length (s.fo.map (Value.int .i64)) :: l)) (sx 0 rfl (sx 1 rfl (sx 2 rfl (sx 6 rfl (sx 7 rfl (sx 9 rfl (sx 10 rfl (sx 23 rfl (sx 63 rfl (sx 108 (congrArg some e0.1) (sx 116 (congrArg some v8) (sub_nil _)))))))))))) (by first | (simp only [p6, v6, p7, v7, p8, v8, q0.2, q1.2, q2.2, q3.2, q4.2, q5.2, List.flatMap_cons, List.flatMap_nil, List.append_nil, List.nil_append, List.cons_append]; exact List.Sublist.refl _) | simp [p6, v6, p7, v7, p8, v8, q0.2, q1.2, q2.2, q3.2, q4.2, q5.2]) ?_
     simp only [List.drop_succ_cons, List.drop_zero]
     refine hl_v rfl rfl rfl (rv_nilCheck rfl rfl) ?_
     refine hl_v rfl rfl rfl (rv_field (k0 := 4) rfl (by kernel_rfl) rfl) ?_
     refine hl_one (i := 2) rfl (fun ho66 => ?_)
     refine hl_storeBox (i := 5) (l' := (rowE 3 1 v59 ((ds.map (fun x => -x)).length) ((ds.map (fun x => -x)).map (Value.int .i64)) :: rowE 26 1 (.slice (some ⟨g62, 0, none⟩) 1 1) 1 ([v59]) :: rowE 26 1 v63 ((s.pr ++ [CRow.mk v59 (ds.map (fun x => -x))]).length) ((s.pr ++ [CRow.mk v59 (ds.map (fun x => -x))]).flatMap crowC) :: rowE 3 1 pu out.length (out.map (Value.int .i64)) :: rowE 3 1 v2 own.length (own.map (Value.int .i64)) :: boxE b #[.int .i64 n, cv, .int .i64 600, .int .i64 (s.v + 1), v63, s.fv] 125 :: bigE (s.pr.map cPart) :: rowE 3 1 s.fv s.fo.length (s.fo.map (Value.int .i64)) :: l)) rfl rfl rfl (by kernel_rfl) rfl rfl ho66 rfl rfl rfl ?_
     refine hl_less (sx 0 rfl (sx 1 rfl (sx 2 rfl (sx 6 rfl (sx 7 rfl (sx 9 rfl (sx 10 rfl (sx 23 rfl (sx 63 rfl (sub_nil _)))))))))) (.refl _) ?_
     refine hl_nil ?_
     refine hq_then ?_
     refine hc_seq ?_
     refine hc_region ?_
     refine hl_v rfl rfl rfl (rv_ev rfl) ?_
     refine hl_less (sx 0 rfl (sx 1 rfl (sx 2 rfl (sx 6 rfl (sx 7 rfl (sx 9 rfl (sx 10 rfl (sx 23 rfl (sx 63 rfl (sub_nil _)))))))))) (.refl _) ?_
     refine hl_nil ?_
     refine hq_then ?_
     refine hc_ret ?_
     refine hq_conv (bigE (s.pr.map cPart) :: rowE 3 1 v59 ((ds.map (fun x => -x)).length) ((ds.map (fun x => -x)).map (Value.int .i64)) :: rowE 26 1 (.slice (some ⟨g62, 0, none⟩) 1 1) 1 ([v59]) :: rowE 26 1 v63 ((s.pr ++ [CRow.mk v59 (ds.map (fun x => -x))]).length) ((s.pr ++ [CRow.mk v59 (ds.map (fun x => -x))]).flatMap crowC) :: rowE 3 1 pu out.length (out.map (Value.int .i64)) :: rowE 3 1 v2 own.length (own.map (Value.int .i64)) :: boxE b #[.int .i64 n, cv, .int .i64 600, .int .i64 (s.v + 1), v63, s.fv] 125 :: rowE 3 1 s.fv s.fo.length (s.fo.map (Value.int .i64)) :: l) (conv_pick (src := [rowE 3 1 v59 ((ds.map (fun x => -x)).length) ((ds.map (fun x => -x)).map (Value.int .i64)), rowE 26 1 (.slice (some ⟨g62, 0, none⟩) 1 1) 1 ([v59]), rowE 26 1 v63 ((s.pr ++ [CRow.mk v59 (ds.map (fun x => -x))]).length) ((s.pr ++ [CRow.mk v59 (ds.map (fun x => -x))]).flatMap crowC), rowE 3 1 pu out.length (out.map (Value.int .i64)), rowE 3 1 v2 own.length (own.map (Value.int .i64)), boxE b #[.int .i64 n, cv, .int .i64 600, .int .i64 (s.v + 1), v63, s.fv] 125, bigE (s.pr.map cPart), rowE 3 1 s.fv s.fo.length (s.fo.map (Value.int .i64))]) (dst := [bigE (s.pr.map cPart), rowE 3 1 v59 ((ds.map (fun x => -x)).length) ((ds.map (fun x => -x)).map (Value.int .i64)), rowE 26 1 (.slice (some ⟨g62, 0, none⟩) 1 1) 1 ([v59]), rowE 26 1 v63 ((s.pr ++ [CRow.mk v59 (ds.map (fun x => -x))]).length) ((s.pr ++ [CRow.mk v59 (ds.map (fun x => -x))]).flatMap crowC), rowE 3 1 pu out.length (out.map (Value.int .i64)), rowE 3 1 v2 own.length (own.map (Value.int .i64)), boxE b #[.int .i64 n, cv, .int .i64 600, .int .i64 (s.v + 1), v63, s.fv] 125, rowE 3 1 s.fv s.fo.length (s.fo.map (Value.int .i64))]) (l := l) [6, 0, 1, 2, 3, 4, 5, 7] (by decide) rfl) ?_
     refine hq_conv (bigE ((s.pr ++ [CRow.mk v59 (ds.map (fun x => -x))]).map cPart) :: rowE 26 1 (.slice (some ⟨g62, 0, none⟩) 1 1) 1 ([v59]) :: rowE 26 1 v63 ((s.pr ++ [CRow.mk v59 (ds.map (fun x => -x))]).length) ((s.pr ++ [CRow.mk v59 (ds.map (fun x => -x))]).flatMap crowC) :: rowE 3 1 pu out.length (out.map (Value.int .i64)) :: rowE 3 1 v2 own.length (own.map (Value.int .i64)) :: boxE b #[.int .i64 n, cv, .int .i64 600, .int .i64 (s.v + 1), v63, s.fv] 125 :: rowE 3 1 s.fv s.fo.length (s.fo.map (Value.int .i64)) :: l) (fun w hm => by rw [List.map_append]; exact conv_snoc w hm) ?_
     refine hq_conv (boxE b #[.int .i64 n, cv, .int .i64 600, .int .i64 (s.v + 1), v63, s.fv] 125 :: bigE ((s.pr ++ [CRow.mk v59 (ds.map (fun x => -x))]).map cPart) :: rowE 26 1 v63 ((s.pr ++ [CRow.mk v59 (ds.map (fun x => -x))]).length) ((s.pr ++ [CRow.mk v59 (ds.map (fun x => -x))]).flatMap crowC) :: rowE 3 1 s.fv s.fo.length (s.fo.map (Value.int .i64)) :: rowE 26 1 (.slice (some ⟨g62, 0, none⟩) 1 1) 1 ([v59]) :: rowE 3 1 pu out.length (out.map (Value.int .i64)) :: rowE 3 1 v2 own.length (own.map (Value.int .i64)) :: l) (conv_pick (src := [bigE ((s.pr ++ [CRow.mk v59 (ds.map (fun x => -x))]).map cPart), rowE 26 1 (.slice (some ⟨g62, 0, none⟩) 1 1) 1 ([v59]), rowE 26 1 v63 ((s.pr ++ [CRow.mk v59 (ds.map (fun x => -x))]).length) ((s.pr ++ [CRow.mk v59 (ds.map (fun x => -x))]).flatMap crowC), rowE 3 1 pu out.length (out.map (Value.int .i64)), rowE 3 1 v2 own.length (own.map (Value.int .i64)), boxE b #[.int .i64 n, cv, .int .i64 600, .int .i64 (s.v + 1), v63, s.fv] 125, rowE 3 1 s.fv s.fo.length (s.fo.map (Value.int .i64))]) (dst := [boxE b #[.int .i64 n, cv, .int .i64 600, .int .i64 (s.v + 1), v63, s.fv] 125, bigE ((s.pr ++ [CRow.mk v59 (ds.map (fun x => -x))]).map cPart), rowE 26 1 v63 ((s.pr ++ [CRow.mk v59 (ds.map (fun x => -x))]).length) ((s.pr ++ [CRow.mk v59 (ds.map (fun x => -x))]).flatMap crowC), rowE 3 1 s.fv s.fo.length (s.fo.map (Value.int .i64)), rowE 26 1 (.slice (some ⟨g62, 0, none⟩) 1 1) 1 ([v59]), rowE 3 1 pu out.length (out.map (Value.int .i64)), rowE 3 1 v2 own.length (own.map (Value.int .i64))]) (l := l) [5, 0, 2, 6, 1, 3, 4] (by decide) rfl) ?_
     refine hq_conv (svE b n cv (Sv.mk (s.v + 1) v63 (s.pr ++ [CRow.mk v59 (ds.map (fun x => -x))]) s.fv s.fo) :: rowE 26 1 (.slice (some ⟨g62, 0, none⟩) 1 1) 1 ([v59]) :: rowE 3 1 pu out.length (out.map (Value.int .i64)) :: rowE 3 1 v2 own.length (own.map (Value.int .i64)) :: l) (conv_big (ps := [boxE b #[.int .i64 n, cv, .int .i64 600, .int .i64 (s.v + 1), v63, s.fv] 125, bigE ((s.pr ++ [CRow.mk v59 (ds.map (fun x => -x))]).map cPart), rowE 26 1 v63 ((s.pr ++ [CRow.mk v59 (ds.map (fun x => -x))]).length) ((s.pr ++ [CRow.mk v59 (ds.map (fun x => -x))]).flatMap crowC), rowE 3 1 s.fv s.fo.length (s.fo.map (Value.int .i64))])) ?_
     exact hq_retMut (p' := svE b n cv (Sv.mk (s.v + 1) v63 (s.pr ++ [CRow.mk v59 (ds.map (fun x => -x))]) s.fv s.fo)) rfl rfl ((.cons_cons _ (.cons _ (.cons _ (.cons _ (.refl _)))))) ⟨(Sv.mk (s.v + 1) v63 (s.pr ++ [CRow.mk v59 (ds.map (fun x => -x))]) s.fv s.fo), 2, rfl, rfl, conf_out hpok (by assumption) hv6, by show ((s.pr ++ [CRow.mk v59 (ds.map (fun x => -x))]).length : Int) - s.pr.length ≤ _; rw [List.length_append, List.length_singleton]; (show _ ≤ (s.v + 1) - s.v); omega⟩
open Go.RowKit
theorem visit_mut (b : Nat) (n : Int) (cv : Value) (rs : List CRow) (F : Nat) (w0 : World) (c : SCtx n rs F) : ∀ (k : Nat) (ds ps : List Int) (dv qv : Value) (s : Sv) (l : List HP) (w : World), zeros_o (ownL ds ps) < k → VIn n rs F ds ps s → (∀ w, Mem w0 l w → RdsCl w cv rs) → Rd w0 l dv 1 ds.length (ds.map (Value.int .i64)) → Rd w0 l qv 1 ps.length (ps.map (Value.int .i64)) → Mem w0 (svE b n cv s :: l) w →
    Calls Try.prog 133 #[.pointer (some ⟨b, 0, none⟩), dv, qv] w (fun e_ w_ => ∃ v_ p_, e_ = .returned v_ ∧ (fun u_ p_ => ∃ (s2 : Sv) (cd : Int), u_ = .int .i64 cd ∧ p_ = svE b n cv s2 ∧ VPost n rs F (ownL ds ps) s.v s2.v cd s2.fo ∧ (s2.pr.length : Int) - s.pr.length ≤ s2.v - s.v) v_ p_ ∧ Mem w0 (p_ :: l) w_)
  | 0, ds, ps, dv, qv, s, l, w, hk, _, _, _, _, _ => absurd hk (by omega)
  | k + 1, ds, ps, dv, qv, s, l, w, hk, hin, hcl, hdv, hqv, hm => visit_step b n cv rs F ds ps dv qv s w0 l w hm c hin hcl hdv hqv (fun ds2 ps2 dv2 qv2 s9 l2 w2 hz hin2 hcl2 hdv2 hqv2 hm2 => visit_mut b n cv rs F w0 c k ds2 ps2 dv2 qv2 s9 l2 w2 (by omega) hin2 hcl2 hdv2 hqv2 hm2)
theorem val_neg (zs : List Int) {l : Int} (h : l ≠ 0) : valI zs (-l) = -valI zs l := by
  unfold valI
  by_cases c : l < 0
  · rw [if_neg (by omega), if_pos c, Int.neg_neg]
  · rw [if_pos (by omega), if_neg c, Int.neg_neg]
theorem val_node {zs : List Int} {k : Int} (h : 0 ≤ k) : valI zs (k + 1) = zs.getD k.toNat 0 := by
  unfold valI; rw [if_neg (by omega), show k + 1 - 1 = k by omega]
theorem val_lv {zs : List Int} {l : Int} (h : 0 ≤ l) (hz : zs.getD (l / 2).toNat 0 ≠ 0) : valI zs (lvI l) ≠ 0 ∧ valI zs (-lvI l) = -valI zs (lvI l) ∧ lvI l ≠ 0 := by
  have hn := val_node (zs := zs) (k := l / 2) (by omega)
  have hl : lvI l ≠ 0 := by unfold lvI; split <;> omega
  refine ⟨?_, val_neg zs hl, hl⟩
  unfold lvI
  split
  · rw [val_neg zs (by omega), hn]; omega
  · rw [hn]; exact hz
theorem fx2 {zs : List Int} {a b : Int} (h : Fx [a, b] zs) (ha : valI zs a = 0) (hb : valI zs b ≠ 0) : valI zs b = 1 := by
  rcases h with ⟨i, hi, hv⟩ | ⟨i, j, hi, hj, h1, h2, h3⟩
  · match i, hi with
    | 0, _ => have : valI zs a = 1 := hv; omega
    | 1, _ => exact hv
  · match i, j, hi, hj with
    | 0, 0, _, _ => exact absurd rfl h3
    | 0, 1, _, _ => exact absurd h2 hb
    | 1, _, _, _ => exact absurd h1 hb
theorem fx3 {zs : List Int} {a b c : Int} (h : Fx [a, b, c] zs) (ha : valI zs a = 0) (hb : valI zs b = -1) (hc : valI zs c = -1) : False := by
  rcases h with ⟨i, hi, hv⟩ | ⟨i, j, hi, hj, h1, h2, h3⟩
  · match i, hi with
    | 0, _ => have : valI zs a = 1 := hv; omega
    | 1, _ => have : valI zs b = 1 := hv; omega
    | 2, _ => have : valI zs c = 1 := hv; omega
  · match i, j, hi, hj with
    | 0, 0, _, _ => exact h3 rfl
    | 0, 1, _, _ => have : valI zs b = 0 := h2; omega
    | 0, 2, _, _ => have : valI zs c = 0 := h2; omega
    | 1, _, _, _ => have : valI zs b = 0 := h1; omega
    | 2, _, _, _ => have : valI zs c = 0 := h1; omega
theorem fx_all {zs c : List Int} (h : Fx c zs) (hz : ∀ x ∈ c, valI zs x ≠ 0) : SatC c zs := by
  rcases h with h | ⟨i, j, hi, hj, h1, h2, h3⟩
  · exact h
  · exact absurd h1 (hz _ (getD_memX hi))
theorem nc_mem {n : Nt} {l : Int} {rs : List CRow} {xs : List Int} (h : NcOk n l rs xs) {zs : List Int} (hf : ∀ q, q < rs.length → Fx (rs.getD q crow0).xs zs) {c : List Int} (hc : c ∈ ncL n xs xs.length ++ [[lvI l]]) : Fx c zs := by
  rw [← h.rs] at hc
  obtain ⟨r, hr, rfl⟩ := List.mem_map.1 hc
  obtain ⟨q, hq, rfl⟩ := List.mem_iff_getElem.1 hr
  have := hf q hq
  rw [List.getD_eq_getElem?_getD, List.getElem?_eq_getElem hq] at this
  exact this
theorem nc_cone {n : Nt} {l : Int} {xs : List Int} {k : Int} (hk : k ∈ xs) (ha : isAndB n k = true) {c : List Int} (hc : c ∈ clK n k) : c ∈ ncL n xs xs.length ++ [[lvI l]] := by
  refine List.mem_append.2 (.inl ?_)
  unfold ncL
  rw [List.take_length]
  exact List.mem_append.2 (.inr (List.mem_flatMap.2 ⟨k, List.mem_filter.2 ⟨hk, ha⟩, hc⟩))
theorem cone_set {n : Nt} (hn : NtOk n) {l : Int} {rs : List CRow} {xs zs : List Int} (h : NcOk n l rs xs) (hf : ∀ q, q < rs.length → Fx (rs.getD q crow0).xs zs) (hl : ∀ k : Int, 0 ≤ k → k < n.fst → zs.getD k.toNat 0 ≠ 0) :
    ∀ (N : Nat) (k : Int), k.toNat < N → k ∈ xs → zs.getD k.toNat 0 ≠ 0
  | 0, k, hk, _ => absurd hk (by omega)
  | N + 1, k, hk, hx => by
    obtain ⟨r0, r1⟩ := h.cone.rng k hx
    by_cases hc : k < n.fst
    · exact hl k r0 hc
    · have hand : isAndB n k = true := isAnd_iff.2 ⟨by omega, r1⟩
      obtain ⟨o1, o2, o3, o4, o5, o6⟩ := nd_ok hn (k := k) (by omega) r1
      obtain ⟨m1, m2⟩ := h.cone.clo k hx (by omega)
      have ia := cone_set hn h hf hl N (ndA n k / 2) (by omega) m1
      have ib := cone_set hn h hf hl N (ndB n k / 2) (by omega) m2
      obtain ⟨a1, a2, a3⟩ := val_lv o3 ia
      obtain ⟨b1, b2, b3⟩ := val_lv o5 ib
      intro h0
      have g0 := val_node (zs := zs) r0
      rw [h0] at g0
      have g1 := val_neg zs (l := k + 1) (by omega)
      rw [g0] at g1
      have va := fx2 (nc_mem h hf (nc_cone hx hand (c := [-(k + 1), lvI (ndA n k)]) (by simp [clK]))) (by omega) a1
      have vb := fx2 (nc_mem h hf (nc_cone hx hand (c := [-(k + 1), lvI (ndB n k)]) (by simp [clK]))) (by omega) b1
      exact fx3 (nc_mem h hf (nc_cone hx hand (c := [k + 1, -lvI (ndA n k), -lvI (ndB n k)]) (by simp [clK]))) g0 (by omega) (by omega)
theorem sctx_nc {n : Nt} (hn : NtOk n) {l : Int} {rs : List CRow} {xs : List Int} (h : NcOk n l rs xs) (h0 : 0 ≤ l) (h1 : l < 2 * n.cnt) (hg : (n.gs.length : Int) ≤ 14) : SCtx n.cnt rs n.fst.toNat := by
  have hi0 := hn.i0
  have hfst : n.fst = 1 + n.ins + n.ss.length := rfl
  have hcnt : n.cnt = 1 + n.ins + n.ss.length + n.gs.length := rfl
  refine ⟨h.cl hn h0 h1, by omega, fun zs hp hf hz => ?_⟩
  have hzl := hp.1
  have hl : ∀ k : Int, 0 ≤ k → k < n.fst → zs.getD k.toNat 0 ≠ 0 := fun k k0 k1 => hz k.toNat (by omega) (by omega)
  have hall : ∀ k ∈ xs, zs.getD k.toNat 0 ≠ 0 := fun k hk => cone_set hn h hf hl (k.toNat + 1) k (by omega) hk
  intro q hq
  refine fx_all (hf q hq) (fun x hx => ?_)
  have hm : (rs.getD q crow0).xs ∈ rs.map CRow.xs := List.mem_map.2 ⟨_, getD_memX hq, rfl⟩
  rw [h.rs] at hm
  rcases List.mem_append.1 hm with hm | hm
  · unfold ncL at hm
    rw [List.take_length] at hm
    rcases List.mem_append.1 hm with hm | hm
    · rw [List.mem_singleton] at hm
      rw [hm, List.mem_singleton] at hx
      subst hx
      have h2 := val_neg zs (l := 0 + 1) (by omega)
      rw [val_node (Int.le_refl 0)] at h2
      have h3 := hl 0 (by omega) (by omega)
      have h4 : valI zs (-1) = -zs.getD (0 : Int).toNat 0 := h2
      omega
    · obtain ⟨k, hk, hc⟩ := List.mem_flatMap.1 hm
      obtain ⟨hkx, hka⟩ := List.mem_filter.1 hk
      obtain ⟨r0, r1⟩ := isAnd_iff.1 hka
      obtain ⟨o1, o2, o3, o4, o5, o6⟩ := nd_ok hn r0 r1
      obtain ⟨m1, m2⟩ := h.cone.clo k hkx r0
      obtain ⟨a1, a2, a3⟩ := val_lv o3 (hall _ m1)
      obtain ⟨b1, b2, b3⟩ := val_lv o5 (hall _ m2)
      have g0 := val_node (zs := zs) (k := k) (by omega)
      have g1 := val_neg zs (l := k + 1) (by omega)
      have g2 := hall k hkx
      generalize (rs.getD q crow0).xs = cc at hx hc
      simp only [clK, List.mem_cons, List.not_mem_nil, or_false] at hc
      rcases hc with rfl | rfl | rfl <;> (simp only [List.mem_cons, List.not_mem_nil, or_false] at hx)
      · rcases hx with rfl | rfl <;> omega
      · rcases hx with rfl | rfl <;> omega
      · rcases hx with rfl | rfl | rfl <;> omega
  · rw [List.mem_singleton] at hm
    rw [hm, List.mem_singleton] at hx
    subst hx
    exact (val_lv h0 (hall _ h.cone.top)).1
open Go.RowKit
theorem built_solver (n m : Int) (v : Value) (h : v.oneCell' = true) : Try.prog.built 125 [(0, .agg #[.int .i64 n, v]), (1, .int .i64 m)] = some #[.int .i64 n, v, .int .i64 m, .int .i64 0, .slice none 0 0, .slice none 0 0] := by
  cases v <;> first | (exact absurd h Bool.false_ne_true) | kernel_rfl
def oneL (fo : List Int) (k : Nat) : List Bl := (fo.take k).map fun x => Bl.mk (decide (x = 1))
theorem oneL_len {fo : List Int} {k : Nat} (h : k ≤ fo.length) : (oneL fo k).length = k := by simp [oneL]; omega
theorem oneL_step {fo : List Int} {k : Nat} {b : Bool} (h : k < fo.length) (hb : b = decide (fo.getD k 0 = 1)) : oneL fo k ++ [Bl.mk b] = oneL fo (k + 1) := by
  unfold oneL; rw [take_snocG 0 h, List.map_append, hb]; rfl
theorem oneL_full {n : Int} {fo : List Int} (h : Full n fo) : fullL (oneL fo fo.length) = fo := by
  unfold oneL fullL
  rw [List.take_length, List.map_map]
  refine List.ext_getElem (by simp) (fun i h1 h2 => ?_)
  rw [List.getElem_map]
  have a := h.1.2 i h2
  have b := h.2 i h2
  rw [List.getD_eq_getElem?_getD, List.getElem?_eq_getElem h2] at a b
  have a2 : -1 ≤ fo[i] ∧ fo[i] ≤ 1 := a
  have b2 : fo[i] ≠ 0 := b
  show (if decide (fo[i] = 1) = true then (1 : Int) else -1) = fo[i]
  by_cases c : fo[i] = 1
  · rw [c]; rfl
  · rw [decide_eq_false c]; simp; omega
def SRes (n : Int) (rs : List CRow) (cd : Int) (bs : List Bl) : Prop := (cd = 1 ∧ Full n (fullL bs) ∧ SatF rs (fullL bs)) ∨ (cd = 2 ∧ bs = [] ∧ ∀ fs, Full n fs → SatF rs fs → False)
theorem zeros_rep : ∀ k : Nat, zeros_o (List.replicate k 0) = k
  | 0 => rfl
  | k + 1 => by rw [List.replicate_succ]; simp only [zeros_o, zeros_rep k, if_true]; omega
theorem vin_start {n : Int} {rs : List CRow} {F : Nat} (c : SCtx n rs F) (hF : F ≤ 8) : VIn n rs F [] (List.replicate n.toNat 0) (Sv.mk 0 (.slice none 0 0) [] (.slice none 0 0) []) := by
  have h0 := c.hr.n0
  have h1 := c.hr.n1
  have hz : zeros_o (ownL [] (List.replicate n.toNat 0)) = n.toNat := zeros_rep _
  refine ⟨⟨by simp; omega, fun i hi => by simp at hi; simp [hi]⟩, fun i hi => absurd hi (by simp), by rw [hz]; simp; omega, .inr ?_, by simp, by simp⟩
  have hp : pz F (ownL [] (List.replicate n.toNat 0)) ≤ 8 := by
    have := zeros_le ((List.replicate n.toNat (0 : Int)).take F)
    rw [List.length_take] at this
    show zeros_o ((List.replicate n.toNat (0 : Int)).take F) ≤ 8
    omega
  have h9 := pow_mono (show pz F (ownL [] (List.replicate n.toNat 0)) + 1 ≤ 9 by omega)
  have h8 : (2 : Int) ^ 9 = 512 := by decide
  show (0 : Int) + 2 ^ (pz F (ownL [] (List.replicate n.toNat 0)) + 1) + 14 ≤ 600
  omega
theorem no_start {n : Int} {rs : List CRow} (h : NoFs n rs (ownL [] (List.replicate n.toNat 0))) : ∀ fs, Full n fs → SatF rs fs → False := fun fs h1 h2 => h fs h1 h2 (fun k hk hne => by
  have e : (ownL [] (List.replicate n.toNat (0 : Int))).getD k 0 = 0 := by
    show (List.replicate n.toNat (0 : Int)).getD k 0 = 0
    rw [List.getD_eq_getElem?_getD, List.getElem?_replicate]; split <;> rfl
  exact absurd e hne)
set_option maxHeartbeats 4000000 in
set_option maxRecDepth 100000 in
theorem Solve_ret (n : Int) (cv : Value) (rs : List CRow) (F : Nat) (w : World) (c : SCtx n rs F) (hF8 : F ≤ 8) (hone : cv.oneCell' = true) (hcl : RdsCl w cv rs) :
  Calls Try.prog 89 #[.agg #[.int .i64 n, cv], .int .i64 600] w (Ret w (fun v' post => ∃ (cd : Int) (u q : Value) (bs : List Bl), v' = .tuple #[.int .i64 cd, u, q] ∧ post = [rowE 4 1 u bs.length (bs.flatMap blC)] ∧ SRes n rs cd bs)) := by
 have hn0 := c.hr.n0
 have hn1 := c.hr.n1
 refine calls_hc (N := 57) (args := [.agg #[.int .i64 n, cv], .int .i64 600]) Try.func89 rfl rfl ?_
 refine hc_less _ (sx 0 rfl (sx 1 rfl (sub_nil _))) (.refl _) ?_
 refine hc_seq ?_
 refine hc_region ?_
 refine hl_box rfl rfl rfl (rq_box rfl rfl) ?_
 intro b1
 refine hl_v rfl rfl rfl (rv_ev rfl) ?_
 refine hl_v rfl rfl rfl (rv_ev rfl) ?_
 refine hl_v rfl rfl rfl (rv_ev rfl) ?_
 refine hl_less (sx 0 rfl (sx 1 rfl (sx 2 rfl (sx 4 rfl (sx 5 rfl (sx 6 rfl (sub_nil _))))))) (.refl _) ?_
 refine hl_nil ?_
 refine hq_then ?_
 refine hc_seq ?_
 refine hc_seq ?_
 refine hc_region ?_
 refine hl_v rfl rfl rfl (rv_loadN (cs := [.int .i64 n, cv]) rfl (by kernel_rfl) (by kernel_rfl) rfl rfl (box_part 0 rfl 0 rfl)) ?_
 refine hl_callV rfl rfl rfl (rq_call (by kernel_rfl) rfl (fun w hm => ret_ans (implCnfOk_yes n rs cv w c.hr (hcl.below hm.bel)))) ?_
 refine hl_v rfl rfl rfl (rv_ev rfl) ?_
 refine hl_v rfl rfl rfl (rv_ev rfl) ?_
 refine hl_v rfl rfl rfl (rv_ev rfl) ?_
 refine hl_callV rfl rfl rfl (rq_call (by kernel_rfl) rfl (fun w hm => ret_ans (inr_yes3 (by omega) (by omega) w))) ?_
 refine hl_v rfl rfl rfl (rv_ev rfl) ?_
 refine hl_v rfl rfl rfl (rv_ev rfl) ?_
 refine hl_less (sx 0 rfl (sx 1 rfl (sx 2 rfl (sx 4 rfl (sx 5 rfl (sx 6 rfl (sx 19 rfl (sub_nil _)))))))) (.refl _) ?_
 refine hl_nil ?_
 refine hq_then ?_
 refine hc_false rfl ?_
 refine hc_skip ?_
 refine hq_then ?_
 refine hc_seq ?_
 refine hc_region ?_
 refine hl_v rfl rfl rfl (rv_loadN (cs := [.int .i64 n, cv]) rfl (by kernel_rfl) (by kernel_rfl) rfl rfl (box_part 0 rfl 0 rfl)) ?_
 refine hl_v rfl rfl rfl (rv_ev rfl) ?_
 refine hl_v rfl rfl rfl (rv_build (cs := #[.int .i64 n, cv, .int .i64 600, .int .i64 0, .slice none 0 0, .slice none 0 0]) rfl rfl (built_solver n 600 cv hone)) ?_
 refine hl_box rfl rfl rfl (rq_box rfl rfl) ?_
 intro b2
 refine hl_v rfl rfl rfl (rv_ev rfl) ?_
 refine hl_less (sx 0 rfl (sx 1 rfl (sx 2 rfl (sx 4 rfl (sx 5 rfl (sx 6 rfl (sx 7 rfl (sx 19 rfl (sub_nil _))))))))) (.refl _) ?_
 refine hl_nil ?_
 refine hq_then ?_
 refine hc_seq ?_
 refine hc_region ?_
 refine hl_v rfl rfl rfl (rv_ev rfl) ?_
 refine hl_v rfl rfl rfl (rv_field (k0 := 0) rfl (by kernel_rfl) rfl) ?_
 refine hl_v rfl rfl rfl (rv_load rfl (by kernel_rfl) rfl (box_cell 1 rfl rfl)) ?_
 refine hl_row rfl rfl rfl (rq_make (z := .int .i64 0) (s := 1) (bytes := 8) (n := (List.replicate (n).toNat (0 : Int)).length) (cs := ((List.replicate (n).toNat (0 : Int)).map (Value.int .i64))) rfl Try.underlying26 (by kernel_rfl) (by decide) rfl rfl (by first | (rw [List.length_replicate]; done) | (rw [List.length_replicate]; omega)) (by first | (rw [List.length_replicate]; done) | (rw [List.length_replicate]; omega)) (by rw [List.length_replicate]; omega) (ints_make _)) ?_
 intro g3
 refine hl_conv [boxE b2 #[.int .i64 n, cv, .int .i64 600, .int .i64 0, .slice none 0 0, .slice none 0 0] 125, rowE 3 1 (.slice (some ⟨g3, 0, none⟩) ((List.replicate (n).toNat (0 : Int)).length) ((List.replicate (n).toNat (0 : Int)).length)) ((List.replicate (n).toNat (0 : Int)).length) ((List.replicate (n).toNat (0 : Int)).map (Value.int .i64)), boxE b1 #[.int .i64 n, cv] 42] (conv_pick (src := [rowE 3 1 (.slice (some ⟨g3, 0, none⟩) ((List.replicate (n).toNat (0 : Int)).length) ((List.replicate (n).toNat (0 : Int)).length)) ((List.replicate (n).toNat (0 : Int)).length) ((List.replicate (n).toNat (0 : Int)).map (Value.int .i64)), boxE b2 #[.int .i64 n, cv, .int .i64 600, .int .i64 0, .slice none 0 0, .slice none 0 0] 125, boxE b1 #[.int .i64 n, cv] 42]) (dst := [boxE b2 #[.int .i64 n, cv, .int .i64 600, .int .i64 0, .slice none 0 0, .slice none 0 0] 125, rowE 3 1 (.slice (some ⟨g3, 0, none⟩) ((List.replicate (n).toNat (0 : Int)).length) ((List.replicate (n).toNat (0 : Int)).length)) ((List.replicate (n).toNat (0 : Int)).length) ((List.replicate (n).toNat (0 : Int)).map (Value.int .i64)), boxE b1 #[.int .i64 n, cv] 42]) (l := []) [1, 0, 2] (by decide) rfl) ?_
 refine hl_conv [svE b2 n cv (Sv.mk 0 (.slice none 0 0) [] (.slice none 0 0) []), rowE 3 1 (.slice (some ⟨g3, 0, none⟩) ((List.replicate (n).toNat (0 : Int)).length) ((List.replicate (n).toNat (0 : Int)).length)) ((List.replicate (n).toNat (0 : Int)).length) ((List.replicate (n).toNat (0 : Int)).map (Value.int .i64)), boxE b1 #[.int .i64 n, cv] 42] (fun w hm => by
   have h1 := (hm.nilRow 3 1).nilRow 26 1
   have h2 := Mem.big (ps := []) h1
   have h3 : Mem _ ([boxE b2 #[.int .i64 n, cv, .int .i64 600, .int .i64 0, .slice none 0 0, .slice none 0 0] 125, bigE (([] : List CRow).map cPart), rowE 26 1 (.slice none 0 0) 0 [], rowE 3 1 (.slice none 0 0) 0 []] ++ ([rowE 3 1 (.slice (some ⟨g3, 0, none⟩) ((List.replicate (n).toNat (0 : Int)).length) ((List.replicate (n).toNat (0 : Int)).length)) ((List.replicate (n).toNat (0 : Int)).length) ((List.replicate (n).toNat (0 : Int)).map (Value.int .i64)), boxE b1 #[.int .i64 n, cv] 42])) w := Mem.perm h2 (List.Perm.append_right ([rowE 3 1 (.slice (some ⟨g3, 0, none⟩) ((List.replicate (n).toNat (0 : Int)).length) ((List.replicate (n).toNat (0 : Int)).length)) ((List.replicate (n).toNat (0 : Int)).length) ((List.replicate (n).toNat (0 : Int)).map (Value.int .i64)), boxE b1 #[.int .i64 n, cv] 42]) (List.perm_append_comm (l₁ := [bigE (([] : List CRow).map cPart), rowE 26 1 (.slice none 0 0) 0 [], rowE 3 1 (.slice none 0 0) 0 []]) (l₂ := [boxE b2 #[.int .i64 n, cv, .int .i64 600, .int .i64 0, .slice none 0 0, .slice none 0 0] 125])))
   exact h3.big) ?_
 refine hl_callM2 (R := (fun u_ p_ => ∃ (s2 : Sv) (cd : Int), u_ = .int .i64 cd ∧ p_ = svE b2 n cv s2 ∧ VPost n rs F (ownL [] (List.replicate n.toNat (0 : Int))) (Sv.mk 0 (.slice none 0 0) [] (.slice none 0 0) []).v s2.v cd s2.fo ∧ (s2.pr.length : Int) - (Sv.mk 0 (.slice none 0 0) [] (.slice none 0 0) []).pr.length ≤ s2.v - (Sv.mk 0 (.slice none 0 0) [] (.slice none 0 0) []).v)) 0 rfl rfl (by kernel_rfl) rfl rfl (fun L w hX hm => visit_mut b2 n cv rs F _ c (zeros_o (ownL [] (List.replicate n.toNat (0 : Int))) + 1) [] (List.replicate n.toNat (0 : Int)) _ _ (Sv.mk 0 (.slice none 0 0) [] (.slice none 0 0) []) _ _ (by omega) (vin_start c hF8) (fun w h => hcl.below h.bel) (fun w h => rd_row 0 rfl w (h.nilRow 3 1)) (fun w h => rd_row 0 rfl w (hX w h)) hm) ?_
 intro v4 p5 hR6
 obtain ⟨s3, cd, rfl, rfl, hvp, hpl3⟩ := hR6
 refine hl_eqL (l' := [svE b2 n cv s3, rowE 3 1 (.slice (some ⟨g3, 0, none⟩) ((List.replicate (n).toNat (0 : Int)).length) ((List.replicate (n).toNat (0 : Int)).length)) ((List.replicate (n).toNat (0 : Int)).length) ((List.replicate (n).toNat (0 : Int)).map (Value.int .i64)), boxE b1 #[.int .i64 n, cv] 42]) rfl ?_
 refine hl_v rfl rfl rfl (rv_ev rfl) ?_
 refine hl_less (sx 0 rfl (sx 1 rfl (sx 2 rfl (sx 4 rfl (sx 5 rfl (sx 6 rfl (sx 7 rfl (sx 8 rfl (sx 19 rfl (sub_nil _)))))))))) (.refl _) ?_
 refine hl_nil ?_
 refine hq_then ?_
 refine hc_seq ?_
 refine hc_seq ?_
 refine hc_region ?_
 refine hl_v rfl rfl rfl (rv_ev rfl) ?_
 refine hl_less (sx 0 rfl (sx 1 rfl (sx 2 rfl (sx 4 rfl (sx 5 rfl (sx 6 rfl (sx 7 rfl (sx 8 rfl (sx 19 rfl (sx 29 rfl (sub_nil _))))))))))) (.refl _) ?_
 refine hl_nil ?_
 refine hq_then ?_
 refine hc_block ?_
 refine hc_seq ?_
 refine hc_region ?_
 refine hl_eql rfl rfl rfl rfl rfl rfl (fun h7 => ?_) (fun h7 => ?_)
 ·
  refine hl_v rfl rfl rfl (rv_ev rfl) ?_
  refine hl_less (sx 0 rfl (sx 1 rfl (sx 2 rfl (sx 4 rfl (sx 5 rfl (sx 6 rfl (sx 7 rfl (sx 8 rfl (sx 19 rfl (sx 29 rfl (sx 30 rfl (sub_nil _)))))))))))) (.refl _) ?_
  refine hl_nil ?_
  refine hq_then ?_
  refine hc_true rfl ?_
  refine hc_seq ?_
  refine hc_region ?_
  refine hl_nilRow 4 1 ?_
  refine hl_eqL (l' := [rowE 4 1 (.slice none 0 0) (([] : List Bl).length) (([] : List Bl).flatMap blC), svE b2 n cv s3, rowE 3 1 (.slice (some ⟨g3, 0, none⟩) ((List.replicate (n).toNat (0 : Int)).length) ((List.replicate (n).toNat (0 : Int)).length)) ((List.replicate (n).toNat (0 : Int)).length) ((List.replicate (n).toNat (0 : Int)).map (Value.int .i64)), boxE b1 #[.int .i64 n, cv] 42]) rfl ?_
  refine hl_v rfl rfl rfl (rv_ev rfl) ?_
  refine hl_less (sx 0 rfl (sx 1 rfl (sx 2 rfl (sx 4 rfl (sx 5 rfl (sx 6 rfl (sx 7 rfl (sx 8 rfl (sx 9 rfl (sx 19 rfl (sx 29 rfl (sx 30 rfl (sub_nil _))))))))))))) (.refl _) ?_
  refine hl_nil ?_
  refine hq_then ?_
  refine hc_seq ?_
  refine hc_seq ?_
  refine hc_region ?_
  have hfol : s3.fo.length ≤ 400 := by rcases hvp.r with ⟨h9, h8, h7⟩ | ⟨h9, -⟩; (have := h8.1.1; omega); (exfalso; omega)
  refine hl_conv [svE b2 n cv s3, rowE 4 1 (.slice none 0 0) (([] : List Bl).length) (([] : List Bl).flatMap blC), rowE 3 1 (.slice (some ⟨g3, 0, none⟩) ((List.replicate (n).toNat (0 : Int)).length) ((List.replicate (n).toNat (0 : Int)).length)) ((List.replicate (n).toNat (0 : Int)).length) ((List.replicate (n).toNat (0 : Int)).map (Value.int .i64)), boxE b1 #[.int .i64 n, cv] 42] (conv_pick (src := [rowE 4 1 (.slice none 0 0) (([] : List Bl).length) (([] : List Bl).flatMap blC), svE b2 n cv s3, rowE 3 1 (.slice (some ⟨g3, 0, none⟩) ((List.replicate (n).toNat (0 : Int)).length) ((List.replicate (n).toNat (0 : Int)).length)) ((List.replicate (n).toNat (0 : Int)).length) ((List.replicate (n).toNat (0 : Int)).map (Value.int .i64)), boxE b1 #[.int .i64 n, cv] 42]) (dst := [svE b2 n cv s3, rowE 4 1 (.slice none 0 0) (([] : List Bl).length) (([] : List Bl).flatMap blC), rowE 3 1 (.slice (some ⟨g3, 0, none⟩) ((List.replicate (n).toNat (0 : Int)).length) ((List.replicate (n).toNat (0 : Int)).length)) ((List.replicate (n).toNat (0 : Int)).length) ((List.replicate (n).toNat (0 : Int)).map (Value.int .i64)), boxE b1 #[.int .i64 n, cv] 42]) (l := []) [1, 0, 2, 3] (by decide) rfl) ?_
  refine hl_conv [boxE b2 #[.int .i64 n, cv, .int .i64 600, .int .i64 s3.v, s3.pv, s3.fv] 125, bigE (s3.pr.map cPart), rowE 26 1 s3.pv s3.pr.length (s3.pr.flatMap crowC), rowE 3 1 s3.fv s3.fo.length (s3.fo.map (Value.int .i64)), rowE 4 1 (.slice none 0 0) (([] : List Bl).length) (([] : List Bl).flatMap blC), rowE 3 1 (.slice (some ⟨g3, 0, none⟩) ((List.replicate (n).toNat (0 : Int)).length) ((List.replicate (n).toNat (0 : Int)).length)) ((List.replicate (n).toNat (0 : Int)).length) ((List.replicate (n).toNat (0 : Int)).map (Value.int .i64)), boxE b1 #[.int .i64 n, cv] 42] conv_unbig ?_
  refine hl_v rfl rfl rfl (rv_ev rfl) ?_
  refine hl_v rfl rfl rfl (rv_nilCheck rfl rfl) ?_
  refine hl_v rfl rfl rfl (rv_field (k0 := 5) rfl (by kernel_rfl) rfl) ?_
  refine hl_v rfl rfl rfl (rv_load rfl (by kernel_rfl) rfl (box_cell 0 rfl rfl)) ?_
  refine hl_v rfl rfl rfl (rv_len rfl Try.underlying26 rfl (rd_row 3 rfl)) ?_
  refine hl_v rfl rfl rfl (rv_ev rfl) ?_
  refine hl_less (sx 0 rfl (sx 1 rfl (sx 2 rfl (sx 4 rfl (sx 5 rfl (sx 6 rfl (sx 7 rfl (sx 8 rfl (sx 9 rfl (sx 19 rfl (sx 29 rfl (sx 30 rfl (sx 35 rfl (sx 36 rfl (sx 37 rfl (sub_nil _)))))))))))))))) (.refl _) ?_
  refine hl_nil ?_
  refine hq_then ?_
  refine hc_block ?_
  refine hc_loop3 (α := Nat) (β := Value) (γ := List Bl) (fun j u zs => [boxE b2 #[.int .i64 n, cv, .int .i64 600, .int .i64 s3.v, s3.pv, s3.fv] 125, bigE (s3.pr.map cPart), rowE 26 1 s3.pv s3.pr.length (s3.pr.flatMap crowC), rowE 3 1 s3.fv s3.fo.length (s3.fo.map (Value.int .i64)), rowE 4 1 u zs.length (zs.flatMap blC), rowE 3 1 (.slice (some ⟨g3, 0, none⟩) ((List.replicate (n).toNat (0 : Int)).length) ((List.replicate (n).toNat (0 : Int)).length)) ((List.replicate (n).toNat (0 : Int)).length) ((List.replicate (n).toNat (0 : Int)).map (Value.int .i64)), boxE b1 #[.int .i64 n, cv] 42]) (fun j u zs => [(0, .agg #[.int .i64 n, cv]), (1, .int .i64 600), (2, .pointer (some ⟨b1, 0, none⟩)), (4, .int .i64 0), (5, .slice none 0 0), (6, .slice none 0 0), (7, .pointer (some ⟨b2, 0, none⟩)), (8, .int .i64 cd), (9, u), (19, .bool false), (29, .int .i64 cd), (30, .bool true), (35, s3.fv), (36, .int .i64 (s3.fo.length : Int)), (37, .int .i64 (j : Int))]) (fun j u zs => j ≤ s3.fo.length ∧ zs = oneL s3.fo j) (fun j u zs => s3.fo.length - j) 0 _ [] ⟨by omega, rfl⟩ (sx 0 rfl (sx 1 rfl (sx 2 rfl (sx 4 rfl (sx 5 rfl (sx 6 rfl (sx 7 rfl (sx 8 rfl (sx 9 rfl (sx 19 rfl (sx 29 rfl (sx 30 rfl (sx 35 rfl (sx 36 rfl (sx 37 rfl (sub_nil _)))))))))))))))) ((.cons_cons _ (.cons_cons _ (.cons_cons _ (.cons_cons _ (.cons_cons _ (.cons_cons _ (.cons_cons _ .slnil)))))))) ?_
  intro j u zs hi9
  obtain ⟨hj, hz⟩ := hi9
  have hzl : zs.length = j := by rw [hz]; exact oneL_len hj
  refine hc_seq ?_
  refine hc_region ?_
  refine hl_lss rfl rfl rfl rfl rfl rfl (fun h10 => ?_) (fun h10 => ?_)
  ·
   refine hl_less (sx 0 rfl (sx 1 rfl (sx 2 rfl (sx 4 rfl (sx 5 rfl (sx 6 rfl (sx 7 rfl (sx 8 rfl (sx 9 rfl (sx 19 rfl (sx 29 rfl (sx 30 rfl (sx 35 rfl (sx 36 rfl (sx 37 rfl (sx 38 rfl (sub_nil _))))))))))))))))) (.refl _) ?_
   refine hl_nil ?_
   refine hq_then ?_
   refine hc_seq ?_
   refine hc_true rfl ?_
   refine hc_skip ?_
   refine hq_then ?_
   refine hc_seq ?_
   refine hc_block ?_
   refine hc_seq ?_
   refine hc_region ?_
   refine hl_v rfl rfl rfl (rv_index (s := 1) rfl Try.underlying26 (by kernel_rfl) rfl rfl (rd_row 3 rfl) (by omega) (by first | omega | (simp only [List.length_set]; omega))) ?_
   refine hl_v rfl rfl rfl (rv_loadEl (u := .int .i64 (s3.fo.getD j 0)) rfl (by kernel_rfl) rfl (rd_row 3 rfl) (ints_at1 (show _ < s3.fo.length by first | omega | (simp only [List.length_set]; omega)))) ?_
   refine hl_v rfl rfl rfl (rv_ev rfl) ?_
   refine hl_less (sx 0 rfl (sx 1 rfl (sx 2 rfl (sx 4 rfl (sx 5 rfl (sx 6 rfl (sx 7 rfl (sx 8 rfl (sx 9 rfl (sx 11 rfl (sx 19 rfl (sx 29 rfl (sx 30 rfl (sx 35 rfl (sx 36 rfl (sx 37 rfl (sx 38 rfl (sub_nil _)))))))))))))))))) (.refl _) ?_
   refine hl_nil ?_
   refine hq_then ?_
   refine hc_region ?_
   refine hl_v rfl rfl rfl (rv_ev rfl) ?_
   refine hl_v rfl rfl rfl (rv_ev rfl) ?_
   refine hl_eql rfl rfl rfl rfl rfl rfl (fun h11 => ?_) (fun h11 => ?_)
   ·
    refine hl_row rfl rfl rfl (rq_buildSlice (z := .bool false) (s := 1) (cs := [.bool true]) rfl Try.underlying45 (by kernel_rfl) (by decide) rfl (by kernel_rfl) rfl) ?_
    intro g12
    refine hl_append (i := 5) (z := .bool false) (bytes := 1) (n' := (zs ++ [(Bl.mk (true))]).length) (xs' := ((zs ++ [(Bl.mk (true))]).flatMap blC)) (L := fun v13 => [rowE 4 1 (.slice (some ⟨g12, 0, none⟩) 1 1) 1 ([.bool true]), boxE b2 #[.int .i64 n, cv, .int .i64 600, .int .i64 s3.v, s3.pv, s3.fv] 125, bigE (s3.pr.map cPart), rowE 26 1 s3.pv s3.pr.length (s3.pr.flatMap crowC), rowE 3 1 s3.fv s3.fo.length (s3.fo.map (Value.int .i64)), rowE 4 1 v13 ((zs ++ [(Bl.mk (true))]).length) ((zs ++ [(Bl.mk (true))]).flatMap blC), rowE 3 1 (.slice (some ⟨g3, 0, none⟩) ((List.replicate (n).toNat (0 : Int)).length) ((List.replicate (n).toNat (0 : Int)).length)) ((List.replicate (n).toNat (0 : Int)).length) ((List.replicate (n).toNat (0 : Int)).map (Value.int .i64)), boxE b1 #[.int .i64 n, cv] 42]) rfl rfl rfl rfl Try.underlying45 (by kernel_rfl) (by kernel_rfl) rfl rfl rfl (rd_row 0 rfl) (by simp [Value.oneCell']) (by first | omega | (simp only [List.length_append, List.length_cons, List.length_nil]; omega)) (len_app zs [(Bl.mk (true))]) (flat_app1 blC zs (Bl.mk (true)) _ rfl) (fun _ => rfl) ?_
    intro v13
    refine hl_v rfl rfl rfl (rv_ev rfl) ?_
    refine hl_less (sx 0 rfl (sx 1 rfl (sx 2 rfl (sx 4 rfl (sx 5 rfl (sx 6 rfl (sx 7 rfl (sx 8 rfl (sx 9 rfl (sx 11 rfl (sx 19 rfl (sx 29 rfl (sx 30 rfl (sx 35 rfl (sx 36 rfl (sx 37 rfl (sx 38 rfl (sub_nil _)))))))))))))))))) (.refl _) ?_
    refine hl_nil ?_
    refine hq_block_normal ?_
    refine hq_then ?_
    refine hc_region ?_
    refine hl_v rfl rfl rfl (rv_add rfl rfl rfl (by constructor <;> omega)) ?_
    refine hl_v rfl rfl rfl (rv_ev rfl) ?_
    refine hl_less (sx 0 rfl (sx 1 rfl (sx 2 rfl (sx 4 rfl (sx 5 rfl (sx 6 rfl (sx 7 rfl (sx 8 rfl (sx 9 rfl (sx 11 rfl (sx 19 rfl (sx 29 rfl (sx 30 rfl (sx 35 rfl (sx 36 rfl (sx 37 rfl (sx 38 rfl (sub_nil _)))))))))))))))))) (.refl _) ?_
    refine hl_nil ?_
    exact hq_round3 (j + 1) v13 (zs ++ [(Bl.mk (true))]) ⟨by omega, by rw [hz]; exact oneL_step (by omega) (by first | rfl | assumption | (exact (decide_eq_true (by assumption)).symm) | (exact (decide_eq_false (by assumption)).symm))⟩ (by omega) (sx 0 rfl (sx 1 rfl (sx 2 rfl (sx 4 rfl (sx 5 rfl (sx 6 rfl (sx 7 rfl (sx 8 rfl (sx 9 rfl (sx 19 rfl (sx 29 rfl (sx 30 rfl (sx 35 rfl (sx 36 rfl (sx 37 rfl (sub_nil _)))))))))))))))) ((.cons _ (.cons_cons _ (.cons_cons _ (.cons_cons _ (.cons_cons _ (.cons_cons _ (.cons_cons _ (.cons_cons _ .slnil)))))))))
   ·
    refine hl_row rfl rfl rfl (rq_buildSlice (z := .bool false) (s := 1) (cs := [.bool false]) rfl Try.underlying45 (by kernel_rfl) (by decide) rfl (by kernel_rfl) rfl) ?_
    intro g14
    refine hl_append (i := 5) (z := .bool false) (bytes := 1) (n' := (zs ++ [(Bl.mk (false))]).length) (xs' := ((zs ++ [(Bl.mk (false))]).flatMap blC)) (L := fun v15 => [rowE 4 1 (.slice (some ⟨g14, 0, none⟩) 1 1) 1 ([.bool false]), boxE b2 #[.int .i64 n, cv, .int .i64 600, .int .i64 s3.v, s3.pv, s3.fv] 125, bigE (s3.pr.map cPart), rowE 26 1 s3.pv s3.pr.length (s3.pr.flatMap crowC), rowE 3 1 s3.fv s3.fo.length (s3.fo.map (Value.int .i64)), rowE 4 1 v15 ((zs ++ [(Bl.mk (false))]).length) ((zs ++ [(Bl.mk (false))]).flatMap blC), rowE 3 1 (.slice (some ⟨g3, 0, none⟩) ((List.replicate (n).toNat (0 : Int)).length) ((List.replicate (n).toNat (0 : Int)).length)) ((List.replicate (n).toNat (0 : Int)).length) ((List.replicate (n).toNat (0 : Int)).map (Value.int .i64)), boxE b1 #[.int .i64 n, cv] 42]) rfl rfl rfl rfl Try.underlying45 (by kernel_rfl) (by kernel_rfl) rfl rfl rfl (rd_row 0 rfl) (by simp [Value.oneCell']) (by first | omega | (simp only [List.length_append, List.length_cons, List.length_nil]; omega)) (len_app zs [(Bl.mk (false))]) (flat_app1 blC zs (Bl.mk (false)) _ rfl) (fun _ => rfl) ?_
    intro v15
    refine hl_v rfl rfl rfl (rv_ev rfl) ?_
    refine hl_less (sx 0 rfl (sx 1 rfl (sx 2 rfl (sx 4 rfl (sx 5 rfl (sx 6 rfl (sx 7 rfl (sx 8 rfl (sx 9 rfl (sx 11 rfl (sx 19 rfl (sx 29 rfl (sx 30 rfl (sx 35 rfl (sx 36 rfl (sx 37 rfl (sx 38 rfl (sub_nil _)))))))))))))))))) (.refl _) ?_
    refine hl_nil ?_
    refine hq_block_normal ?_
    refine hq_then ?_
    refine hc_region ?_
    refine hl_v rfl rfl rfl (rv_add rfl rfl rfl (by constructor <;> omega)) ?_
    refine hl_v rfl rfl rfl (rv_ev rfl) ?_
    refine hl_less (sx 0 rfl (sx 1 rfl (sx 2 rfl (sx 4 rfl (sx 5 rfl (sx 6 rfl (sx 7 rfl (sx 8 rfl (sx 9 rfl (sx 11 rfl (sx 19 rfl (sx 29 rfl (sx 30 rfl (sx 35 rfl (sx 36 rfl (sx 37 rfl (sx 38 rfl (sub_nil _)))))))))))))))))) (.refl _) ?_
    refine hl_nil ?_
    exact hq_round3 (j + 1) v15 (zs ++ [(Bl.mk (false))]) ⟨by omega, by rw [hz]; exact oneL_step (by omega) (by first | rfl | assumption | (exact (decide_eq_true (by assumption)).symm) | (exact (decide_eq_false (by assumption)).symm))⟩ (by omega) (sx 0 rfl (sx 1 rfl (sx 2 rfl (sx 4 rfl (sx 5 rfl (sx 6 rfl (sx 7 rfl (sx 8 rfl (sx 9 rfl (sx 19 rfl (sx 29 rfl (sx 30 rfl (sx 35 rfl (sx 36 rfl (sx 37 rfl (sub_nil _)))))))))))))))) ((.cons _ (.cons_cons _ (.cons_cons _ (.cons_cons _ (.cons_cons _ (.cons_cons _ (.cons_cons _ (.cons_cons _ .slnil)))))))))
  ·
   refine hl_less (sx 0 rfl (sx 1 rfl (sx 2 rfl (sx 4 rfl (sx 5 rfl (sx 6 rfl (sx 7 rfl (sx 8 rfl (sx 9 rfl (sx 19 rfl (sx 29 rfl (sx 30 rfl (sx 35 rfl (sx 36 rfl (sx 37 rfl (sx 38 rfl (sub_nil _))))))))))))))))) (.refl _) ?_
   refine hl_nil ?_
   refine hq_then ?_
   refine hc_seq ?_
   refine hc_false rfl ?_
   refine hc_exit ?_
   refine hq_then_exit ?_
   refine hq_then_exit ?_
   refine hq_block_exit ?_
   refine hq_then ?_
   refine hc_seq ?_
   refine hc_region ?_
   refine hl_v rfl rfl rfl (rv_ev rfl) ?_
   refine hl_v rfl rfl rfl (rv_ev rfl) ?_
   refine hl_v rfl rfl rfl (rv_ev rfl) ?_
   refine hl_v rfl rfl rfl (rv_ev rfl) ?_
   refine hl_v rfl rfl rfl (rv_ev rfl) ?_
   refine hl_less (sx 0 rfl (sx 1 rfl (sx 2 rfl (sx 4 rfl (sx 5 rfl (sx 6 rfl (sx 7 rfl (sx 8 rfl (sx 9 rfl (sx 19 rfl (sx 29 rfl (sx 30 rfl (sx 35 rfl (sx 36 rfl (sx 37 rfl (sx 38 rfl (sub_nil _))))))))))))))))) (.refl _) ?_
   refine hl_nil ?_
   refine hq_then ?_
   refine hc_ret ?_
   refine hq_block_ret ?_
   refine hq_then_ret ?_
   exact hq_retM (rs := [.tmp 4, .tmp 5, .tmp 6]) (vs := [.int .i64 cd, u, .slice none 0 0]) (post := [rowE 4 1 u zs.length (zs.flatMap blC)]) rfl ⟨rfl, rfl, rfl, trivial⟩ rfl ((.cons _ (.cons _ (.cons _ (.cons _ (.cons_cons _ (.cons _ (.cons _ .slnil)))))))) ⟨_, _, _, zs, rfl, rfl, by rcases hvp.r with ⟨h9, h8, h7⟩ | ⟨h9, -⟩; (have e9 := oneL_full h8; rw [hz, show j = s3.fo.length by omega]; exact .inl ⟨h9, by rw [e9]; exact h8, by rw [e9]; exact h7⟩); (exfalso; omega)⟩
 ·
  refine hl_v rfl rfl rfl (rv_ev rfl) ?_
  refine hl_less (sx 0 rfl (sx 1 rfl (sx 2 rfl (sx 4 rfl (sx 5 rfl (sx 6 rfl (sx 7 rfl (sx 8 rfl (sx 19 rfl (sx 29 rfl (sx 30 rfl (sub_nil _)))))))))))) (.refl _) ?_
  refine hl_nil ?_
  refine hq_then ?_
  refine hc_false rfl ?_
  refine hc_seq ?_
  refine hc_region ?_
  refine hl_eql rfl rfl rfl rfl rfl rfl (fun h16 => ?_) (fun h16 => ?_)
  ·
   refine hl_v rfl rfl rfl (rv_ev rfl) ?_
   refine hl_less (sx 0 rfl (sx 1 rfl (sx 2 rfl (sx 4 rfl (sx 5 rfl (sx 6 rfl (sx 7 rfl (sx 8 rfl (sx 19 rfl (sx 29 rfl (sx 30 rfl (sx 49 rfl (sub_nil _))))))))))))) (.refl _) ?_
   refine hl_nil ?_
   refine hq_then ?_
   refine hc_true rfl ?_
   refine hc_seq ?_
   refine hc_conv [svE b2 n cv s3, rowE 3 1 (.slice (some ⟨g3, 0, none⟩) ((List.replicate (n).toNat (0 : Int)).length) ((List.replicate (n).toNat (0 : Int)).length)) ((List.replicate (n).toNat (0 : Int)).length) ((List.replicate (n).toNat (0 : Int)).map (Value.int .i64)), boxE b1 #[.int .i64 n, cv] 42] (conv_pick (src := [svE b2 n cv s3, rowE 3 1 (.slice (some ⟨g3, 0, none⟩) ((List.replicate (n).toNat (0 : Int)).length) ((List.replicate (n).toNat (0 : Int)).length)) ((List.replicate (n).toNat (0 : Int)).length) ((List.replicate (n).toNat (0 : Int)).map (Value.int .i64)), boxE b1 #[.int .i64 n, cv] 42]) (dst := [svE b2 n cv s3, rowE 3 1 (.slice (some ⟨g3, 0, none⟩) ((List.replicate (n).toNat (0 : Int)).length) ((List.replicate (n).toNat (0 : Int)).length)) ((List.replicate (n).toNat (0 : Int)).length) ((List.replicate (n).toNat (0 : Int)).map (Value.int .i64)), boxE b1 #[.int .i64 n, cv] 42]) (l := []) [0, 1, 2] (by decide) rfl) ?_
   refine hc_conv [boxE b2 #[.int .i64 n, cv, .int .i64 600, .int .i64 s3.v, s3.pv, s3.fv] 125, bigE (s3.pr.map cPart), rowE 26 1 s3.pv s3.pr.length (s3.pr.flatMap crowC), rowE 3 1 s3.fv s3.fo.length (s3.fo.map (Value.int .i64)), rowE 3 1 (.slice (some ⟨g3, 0, none⟩) ((List.replicate (n).toNat (0 : Int)).length) ((List.replicate (n).toNat (0 : Int)).length)) ((List.replicate (n).toNat (0 : Int)).length) ((List.replicate (n).toNat (0 : Int)).map (Value.int .i64)), boxE b1 #[.int .i64 n, cv] 42] conv_unbig ?_
   refine hc_less _ (sx 0 rfl (sx 1 rfl (sx 2 rfl (sx 6 rfl (sx 7 rfl (sx 8 rfl (sx 19 rfl (sx 29 rfl (sx 30 rfl (sx 49 rfl (sub_nil _))))))))))) (.refl _) ?_
   refine hc_draw (by kernel_rfl) 7 [0, 1, 2, 3, 4, 5, 6] (List.take 7 _) (List.drop 7 _) [[], [], [1], [2], [3], [0], []] [51, 52, 53, 54, 55, 4, 5] (fun i_ vs_ v_ p_ => match i_ with | 0 => v_ = .int .i64 cd ∧ p_ = [] | 1 => v_ = .pointer (some ⟨b2, 0, none⟩) ∧ p_ = [] | 2 => v_ = .pointer (some ⟨b2, 0, none⟩) ∧ p_ = [] | 3 => v_ = .pointer (some ⟨b2, 0 + 4, none⟩) ∧ p_ = [] | 4 => v_ = s3.pv ∧ p_ = [] | 5 => v_ = .int .i64 cd ∧ p_ = [] | 6 => v_ = .slice none 0 0 ∧ p_ = [] | _ => True) (List.take_append_drop 7 _).symm (by kernel_rfl) (by kernel_rfl) rfl rfl ?_ ?_
   ·
    refine ⟨?_, ?_, ?_, ?_, ?_, ?_, ?_, trivial⟩
    ·
     intro vf pf hR
     refine Or.inl ⟨rfl, ?_⟩
     refine rq_less (sx 8 rfl (sub_nil _)) (List.sublist_append_right _ _) ?_
     exact rq_v (rv_ev rfl)
    ·
     intro vf pf hR
     refine Or.inl ⟨rfl, ?_⟩
     refine rq_less (sx 7 rfl (sub_nil _)) (List.sublist_append_right _ _) ?_
     exact rq_v (rv_ev rfl)
    ·
     intro vf pf hR
     have e1 : (vf 1) = .pointer (some ⟨b2, 0, none⟩) ∧ (pf 1) = [] := hR 1 (by decide)
     refine Or.inl ⟨rfl, ?_⟩
     refine rq_less (sx 52 (congrArg some e1.1) (sub_nil _)) (List.sublist_append_right _ _) ?_
     exact rq_v (rv_nilCheck rfl rfl)
    ·
     intro vf pf hR
     have e2 : (vf 2) = .pointer (some ⟨b2, 0, none⟩) ∧ (pf 2) = [] := hR 2 (by decide)
     refine Or.inl ⟨rfl, ?_⟩
     refine rq_less (sx 53 (congrArg some e2.1) (sub_nil _)) (List.sublist_append_right _ _) ?_
     exact rq_v (rv_field (k0 := 4) rfl (by kernel_rfl) rfl)
    ·
     intro vf pf hR
     have e3 : (vf 3) = .pointer (some ⟨b2, 0 + 4, none⟩) ∧ (pf 3) = [] := hR 3 (by decide)
     refine Or.inl ⟨rfl, ?_⟩
     refine rq_less (sx 54 (congrArg some e3.1) (sub_nil _)) (List.sublist_append_right _ _) ?_
     exact rq_v (rv_load rfl (by kernel_rfl) rfl (box_cell 0 rfl rfl))
    ·
     intro vf pf hR
     have e0 : (vf 0) = .int .i64 cd ∧ (pf 0) = [] := hR 0 (by decide)
     refine Or.inl ⟨rfl, ?_⟩
     refine rq_less (sx 51 (congrArg some e0.1) (sub_nil _)) (List.sublist_append_right _ _) ?_
     exact rq_v (rv_ev rfl)
    ·
     intro vf pf hR
     refine Or.inl ⟨rfl, ?_⟩
     refine rq_less (sub_nil _) (List.sublist_append_right _ _) ?_
     exact rq_v (rv_ev rfl)
   ·
    intro vf pf hR
    have e4 : (vf 4) = s3.pv ∧ (pf 4) = [] := hR 4 (by decide)
    have e5 : (vf 5) = .int .i64 cd ∧ (pf 5) = [] := hR 5 (by decide)
    have e6 : (vf 6) = .slice none 0 0 ∧ (pf 6) = [] := hR 6 (by decide)
    refine hl_less (l' := [boxE b2 #[.int .i64 n, cv, .int .i64 600, .int .i64 s3.v, s3.pv, s3.fv] 125, bigE (s3.pr.map cPart), rowE 26 1 s3.pv s3.pr.length (s3.pr.flatMap crowC), rowE 3 1 s3.fv s3.fo.length (s3.fo.map (Value.int .i64)), rowE 3 1 (.slice (some ⟨g3, 0, none⟩) ((List.replicate (n).toNat (0 : Int)).length) ((List.replicate (n).toNat (0 : Int)).length)) ((List.replicate (n).toNat (0 : Int)).length) ((List.replicate (n).toNat (0 : Int)).map (Value.int .i64)), boxE b1 #[.int .i64 n, cv] 42]) (sx 0 rfl (sx 1 rfl (sx 2 rfl (sx 4 (congrArg some e5.1) (sx 5 (congrArg some e6.1) (sx 6 rfl (sx 7 rfl (sx 8 rfl (sx 19 rfl (sx 29 rfl (sx 30 rfl (sx 49 rfl (sx 55 (congrArg some e4.1) (sub_nil _)))))))))))))) (List.sublist_append_right _ _) ?_
    simp only [List.drop_succ_cons, List.drop_zero]
    refine hl_v rfl rfl rfl (rv_ev rfl) ?_
    refine hl_less (sx 0 rfl (sx 1 rfl (sx 2 rfl (sx 4 rfl (sx 5 rfl (sx 6 rfl (sx 7 rfl (sx 8 rfl (sx 19 rfl (sx 29 rfl (sx 30 rfl (sx 49 rfl (sub_nil _))))))))))))) (.refl _) ?_
    refine hl_nil ?_
    refine hq_then ?_
    refine hc_ret ?_
    refine hq_block_ret ?_
    refine hq_then_ret ?_
    refine hq_conv (rowE 4 1 (.slice none 0 0) 0 [] :: [boxE b2 #[.int .i64 n, cv, .int .i64 600, .int .i64 s3.v, s3.pv, s3.fv] 125, bigE (s3.pr.map cPart), rowE 26 1 s3.pv s3.pr.length (s3.pr.flatMap crowC), rowE 3 1 s3.fv s3.fo.length (s3.fo.map (Value.int .i64)), rowE 3 1 (.slice (some ⟨g3, 0, none⟩) ((List.replicate (n).toNat (0 : Int)).length) ((List.replicate (n).toNat (0 : Int)).length)) ((List.replicate (n).toNat (0 : Int)).length) ((List.replicate (n).toNat (0 : Int)).map (Value.int .i64)), boxE b1 #[.int .i64 n, cv] 42]) (fun w hm => hm.nilRow 4 1) ?_
    exact hq_retM (rs := [.tmp 4, .tmp 5, .tmp 6]) (vs := [.int .i64 cd, .slice none 0 0, s3.pv]) (post := [rowE 4 1 (.slice none 0 0) 0 []]) rfl ⟨rfl, rfl, rfl, trivial⟩ rfl (.cons_cons _ (List.nil_sublist _)) ⟨_, _, _, [], rfl, rfl, by rcases hvp.r with ⟨h9, -⟩ | ⟨h9, h8, -⟩; (exfalso; omega); exact .inr ⟨h9, rfl, no_start h8⟩⟩
  ·
   refine hl_v rfl rfl rfl (rv_ev rfl) ?_
   refine hl_less (sx 0 rfl (sx 1 rfl (sx 2 rfl (sx 4 rfl (sx 5 rfl (sx 6 rfl (sx 7 rfl (sx 8 rfl (sx 19 rfl (sx 29 rfl (sx 30 rfl (sx 49 rfl (sub_nil _))))))))))))) (.refl _) ?_
   refine hl_nil ?_
   refine hq_then ?_
   refine hc_false rfl ?_
   refine hc_skip ?_
   refine hq_block_normal ?_
   refine hq_then ?_
   refine hc_seq ?_
   refine hc_region ?_
   refine hl_v rfl rfl rfl (rv_ev rfl) ?_
   refine hl_v rfl rfl rfl (rv_ev rfl) ?_
   refine hl_v rfl rfl rfl (rv_ev rfl) ?_
   refine hl_v rfl rfl rfl (rv_ev rfl) ?_
   refine hl_less (sx 0 rfl (sx 1 rfl (sx 2 rfl (sx 4 rfl (sx 5 rfl (sx 6 rfl (sx 7 rfl (sx 8 rfl (sx 19 rfl (sx 29 rfl (sx 30 rfl (sx 49 rfl (sub_nil _))))))))))))) (.refl _) ?_
   refine hl_nil ?_
   refine hq_then ?_
   refine hc_ret ?_
   refine hq_conv (rowE 4 1 (.slice none 0 0) 0 [] :: [svE b2 n cv s3, rowE 3 1 (.slice (some ⟨g3, 0, none⟩) ((List.replicate (n).toNat (0 : Int)).length) ((List.replicate (n).toNat (0 : Int)).length)) ((List.replicate (n).toNat (0 : Int)).length) ((List.replicate (n).toNat (0 : Int)).map (Value.int .i64)), boxE b1 #[.int .i64 n, cv] 42]) (fun w hm => hm.nilRow 4 1) ?_
   exact hq_retM (rs := [.tmp 4, .tmp 5, .tmp 6]) (vs := [.int .i64 cd, .slice none 0 0, .slice none 0 0]) (post := [rowE 4 1 (.slice none 0 0) 0 []]) rfl ⟨rfl, rfl, rfl, trivial⟩ rfl (.cons_cons _ (List.nil_sublist _)) ⟨_, _, _, [], rfl, rfl, by rcases hvp.r with ⟨h9, -⟩ | ⟨h9, h8, -⟩; (exfalso; omega); exact .inr ⟨h9, rfl, no_start h8⟩⟩
open Go.RowKit
def litsL (bs : List Bl) (k : Nat) : List Int := (bs.take k).map fun b => if b.b = true then 1 else 0
theorem litsL_len {bs : List Bl} {k : Nat} (h : k ≤ bs.length) : (litsL bs k).length = k := by simp [litsL]; omega
theorem litsL_yes {bs : List Bl} {k : Nat} (h : k < bs.length) (hb : (bs.getD k bl0).b = true) : litsL bs k ++ [1] = litsL bs (k + 1) := by
  unfold litsL; rw [take_snocG bl0 h, List.map_append]; show _ = _ ++ [if (bs.getD k bl0).b = true then (1 : Int) else 0]; rw [if_pos hb]
theorem litsL_no {bs : List Bl} {k : Nat} (h : k < bs.length) (hb : (bs.getD k bl0).b = false) : litsL bs k ++ [0] = litsL bs (k + 1) := by
  unfold litsL; rw [take_snocG bl0 h, List.map_append]; show _ = _ ++ [if (bs.getD k bl0).b = true then (1 : Int) else 0]; rw [if_neg (by rw [hb]; decide)]
theorem sres_len {n : Int} {rs : List CRow} {cd : Int} {bs : List Bl} (h : SRes n rs cd bs) : bs.length ≤ n.toNat := by
  rcases h with ⟨-, h, -⟩ | ⟨-, rfl, -⟩
  · have h1 := h.1.1
    have h2 : (fullL bs).length = bs.length := by simp [fullL]
    omega
  · simp
set_option maxHeartbeats 4000000 in
set_option maxRecDepth 100000 in
theorem SolveLit_ret (n : Nt) (lit : Int) (w : World) (hr : RdsNt w n) (hn : NtOk n) (hlt : 0 ≤ lit ∧ lit < 2 * n.cnt) (hg : (n.gs.length : Int) ≤ 14) (hf8 : n.fst ≤ 8) :
  Calls Try.prog 33 #[.agg #[.int .i64 n.ins, n.sv, n.av, n.ov], .int .i64 lit, .int .i64 600] w (Ret w (fun v' post => ∃ (cd : Int) (u : Value) (rs : List CRow) (xs : List Int) (bs : List Bl), v' = .tuple #[.int .i64 cd, u] ∧ post = [rowE 3 1 u (litsL bs bs.length).length ((litsL bs bs.length).map (Value.int .i64))] ∧ u.oneCell' = true ∧ NcOk n lit rs xs ∧ SRes n.cnt rs cd bs)) := by
 have hi0 := hn.i0
 have hi1 := hn.i1
 have hs1 := hn.s1
 have ha1 := hn.a1
 have ho1 := hn.o1
 have hcnt : n.cnt = 1 + n.ins + n.ss.length + n.gs.length := rfl
 have hfst : n.fst = 1 + n.ins + n.ss.length := rfl
 refine calls_hc (N := 46) (args := [.agg #[.int .i64 n.ins, n.sv, n.av, n.ov], .int .i64 lit, .int .i64 600]) Try.func33 rfl rfl ?_
 refine hc_less _ (sx 0 rfl (sx 1 rfl (sx 2 rfl (sub_nil _)))) (.refl _) ?_
 refine hc_seq ?_
 refine hc_region ?_
 refine hl_box rfl rfl rfl (rq_box rfl rfl) ?_
 intro b1
 refine hl_v rfl rfl rfl (rv_ev rfl) ?_
 refine hl_v rfl rfl rfl (rv_ev rfl) ?_
 refine hl_less (sx 0 rfl (sx 1 rfl (sx 2 rfl (sx 3 rfl (sx 6 rfl (sx 7 rfl (sub_nil _))))))) (.refl _) ?_
 refine hl_nil ?_
 refine hq_then ?_
 refine hc_seq ?_
 refine hc_region ?_
 refine hl_v rfl rfl rfl (rv_loadN (cs := [.int .i64 n.ins, n.sv, n.av, n.ov]) rfl (by kernel_rfl) (by kernel_rfl) rfl rfl (box_part 0 rfl 0 rfl)) ?_
 refine hl_v rfl rfl rfl (rv_ev rfl) ?_
 refine hl_q rfl rfl rfl (rq_call (by kernel_rfl) rfl (fun w hm => NetCnf_ret n lit w (hr.below hm.bel) hn hlt)) ?_
 intro v2 p3 hR4
 obtain ⟨cv, rs, xs, rfl, rfl, hcv, hnc⟩ := hR4
 have hsc := sctx_nc hn hnc hlt.1 hlt.2 hg
 refine hl_v rfl rfl rfl (rv_ev rfl) ?_
 refine hl_v rfl rfl rfl (rv_ev rfl) ?_
 refine hl_v rfl rfl rfl (rv_ev rfl) ?_
 refine hl_box rfl rfl rfl (rq_alloc (z := .agg #[.int .i64 0, .slice none 0 0]) rfl (by kernel_rfl)) ?_
 intro b5
 refine hl_storeBoxN (i := 0) (off := 0) (us := [.int .i64 n.cnt, cv])  (l' := [boxE b5 #[.int .i64 n.cnt, cv] 42, clE cv rs, boxE b1 #[.int .i64 n.ins, n.sv, n.av, n.ov] 28]) rfl rfl rfl (by kernel_rfl) rfl rfl rfl (all_cons rfl (all_cons hcv all_nil)) rfl rfl rfl ?_
 refine hl_v rfl rfl rfl (rv_ev rfl) ?_
 refine hl_less (sx 0 rfl (sx 1 rfl (sx 2 rfl (sx 3 rfl (sx 6 rfl (sx 7 rfl (sx 8 rfl (sx 9 rfl (sub_nil _))))))))) (.refl _) ?_
 refine hl_nil ?_
 refine hq_then ?_
 refine hc_seq ?_
 refine hc_seq ?_
 refine hc_region ?_
 refine hl_v rfl rfl rfl (rv_ev rfl) ?_
 refine hl_v rfl rfl rfl (rv_ev rfl) ?_
 refine hl_less (sx 0 rfl (sx 1 rfl (sx 2 rfl (sx 3 rfl (sx 6 rfl (sx 7 rfl (sx 8 rfl (sx 9 rfl (sx 24 rfl (sub_nil _)))))))))) (.refl _) ?_
 refine hl_nil ?_
 refine hq_then ?_
 refine hc_false rfl ?_
 refine hc_skip ?_
 refine hq_then ?_
 refine hc_seq ?_
 refine hc_region ?_
 refine hl_v rfl rfl rfl (rv_loadN (cs := [.int .i64 n.cnt, cv]) rfl (by kernel_rfl) (by kernel_rfl) rfl rfl (box_part 0 rfl 0 rfl)) ?_
 refine hl_v rfl rfl rfl (rv_ev rfl) ?_
 refine hl_q rfl rfl rfl (rq_call (by kernel_rfl) rfl (fun w hm => Solve_ret n.cnt cv rs n.fst.toNat w hsc (by omega) hcv (cl_rds 1 rfl w hm))) ?_
 intro v6 p7 hR8
 obtain ⟨cd, u, q, bs, rfl, rfl, hsr⟩ := hR8
 have hbl := sres_len hsr
 refine hl_v rfl rfl rfl (rv_ev rfl) ?_
 refine hl_v rfl rfl rfl (rv_ev rfl) ?_
 refine hl_v rfl rfl rfl (rv_ev rfl) ?_
 refine hl_v rfl rfl rfl (rv_ev rfl) ?_
 refine hl_v rfl rfl rfl (rv_ev rfl) ?_
 refine hl_v rfl rfl rfl (rv_ev rfl) ?_
 refine hl_v rfl rfl rfl (rv_ev rfl) ?_
 refine hl_less (sx 0 rfl (sx 1 rfl (sx 2 rfl (sx 3 rfl (sx 6 rfl (sx 7 rfl (sx 8 rfl (sx 9 rfl (sx 10 rfl (sx 11 rfl (sx 24 rfl (sub_nil _)))))))))))) (.refl _) ?_
 refine hl_nil ?_
 refine hq_then ?_
 refine hc_seq ?_
 refine hc_region ?_
 refine hl_nilRow 3 1 ?_
 refine hl_v rfl rfl rfl (rv_ev rfl) ?_
 refine hl_less (sx 0 rfl (sx 1 rfl (sx 2 rfl (sx 3 rfl (sx 6 rfl (sx 7 rfl (sx 8 rfl (sx 9 rfl (sx 10 rfl (sx 11 rfl (sx 13 rfl (sx 24 rfl (sub_nil _))))))))))))) (.refl _) ?_
 refine hl_nil ?_
 refine hq_then ?_
 refine hc_seq ?_
 refine hc_seq ?_
 refine hc_region ?_
 refine hl_v rfl rfl rfl (rv_ev rfl) ?_
 refine hl_v rfl rfl rfl (rv_len rfl Try.underlying45 rfl (rd_row 1 rfl)) ?_
 refine hl_v rfl rfl rfl (rv_ev rfl) ?_
 refine hl_less (sx 0 rfl (sx 1 rfl (sx 2 rfl (sx 3 rfl (sx 6 rfl (sx 7 rfl (sx 8 rfl (sx 9 rfl (sx 10 rfl (sx 11 rfl (sx 13 rfl (sx 24 rfl (sx 32 rfl (sx 33 rfl (sx 34 rfl (sub_nil _)))))))))))))))) (.refl _) ?_
 refine hl_nil ?_
 refine hq_then ?_
 refine hc_block ?_
 refine hc_loop3 (α := Nat) (β := Value) (γ := List Int) (fun j u2 zs => [rowE 3 1 u2 zs.length (zs.map (Value.int .i64)), rowE 4 1 u bs.length (bs.flatMap blC), boxE b5 #[.int .i64 n.cnt, cv] 42, clE cv rs, boxE b1 #[.int .i64 n.ins, n.sv, n.av, n.ov] 28]) (fun j u2 zs => [(0, .agg #[.int .i64 n.ins, n.sv, n.av, n.ov]), (1, .int .i64 lit), (2, .int .i64 600), (3, .pointer (some ⟨b1, 0, none⟩)), (6, .int .i64 0), (7, .slice none 0 0), (8, .pointer (some ⟨b5, 0, none⟩)), (9, .bool true), (10, .int .i64 cd), (11, u), (13, u2), (24, .bool false), (32, u), (33, .int .i64 (bs.length : Int)), (34, .int .i64 (j : Int))]) (fun j u2 zs => j ≤ bs.length ∧ zs = litsL bs j) (fun j u2 zs => bs.length - j) 0 _ [] ⟨by omega, rfl⟩ (sx 0 rfl (sx 1 rfl (sx 2 rfl (sx 3 rfl (sx 6 rfl (sx 7 rfl (sx 8 rfl (sx 9 rfl (sx 10 rfl (sx 11 rfl (sx 13 rfl (sx 24 rfl (sx 32 rfl (sx 33 rfl (sx 34 rfl (sub_nil _)))))))))))))))) ((.cons_cons _ (.cons_cons _ (.cons_cons _ (.cons_cons _ (.cons_cons _ .slnil)))))) ?_
 intro j u2 zs hi10
 obtain ⟨hj, hz⟩ := hi10
 have hzl : zs.length = j := by rw [hz]; exact litsL_len hj
 refine hc_seq ?_
 refine hc_region ?_
 refine hl_lss rfl rfl rfl rfl rfl rfl (fun h11 => ?_) (fun h11 => ?_)
 ·
  refine hl_less (sx 0 rfl (sx 1 rfl (sx 2 rfl (sx 3 rfl (sx 6 rfl (sx 7 rfl (sx 8 rfl (sx 9 rfl (sx 10 rfl (sx 11 rfl (sx 13 rfl (sx 24 rfl (sx 32 rfl (sx 33 rfl (sx 34 rfl (sx 35 rfl (sub_nil _))))))))))))))))) (.refl _) ?_
  refine hl_nil ?_
  refine hq_then ?_
  refine hc_seq ?_
  refine hc_true rfl ?_
  refine hc_skip ?_
  refine hq_then ?_
  refine hc_seq ?_
  refine hc_block ?_
  refine hc_seq ?_
  refine hc_region ?_
  refine hl_v rfl rfl rfl (rv_index (s := 1) rfl Try.underlying45 (by kernel_rfl) rfl rfl (rd_row 1 rfl) (by omega) (by first | omega | (simp only [List.length_set]; omega))) ?_
  refine hl_v rfl rfl rfl (rv_loadEl (u := .bool ((bs.getD j bl0).b)) rfl (by kernel_rfl) rfl (rd_row 1 rfl) (flat_one blC (fun r => .bool r.b) (fun _ => rfl) bs bl0 (show j < _ by first | omega | (simp only [List.length_set]; omega)))) ?_
  refine hl_bool (fun h12 => ?_) (fun h12 => ?_)
  ·
   refine hl_v rfl rfl rfl (rv_ev rfl) ?_
   refine hl_less (sx 0 rfl (sx 1 rfl (sx 2 rfl (sx 3 rfl (sx 6 rfl (sx 7 rfl (sx 8 rfl (sx 9 rfl (sx 10 rfl (sx 11 rfl (sx 13 rfl (sx 15 rfl (sx 24 rfl (sx 32 rfl (sx 33 rfl (sx 34 rfl (sx 35 rfl (sub_nil _)))))))))))))))))) (.refl _) ?_
   refine hl_nil ?_
   refine hq_then ?_
   refine hc_seq ?_
   refine hc_region ?_
   refine hl_v rfl rfl rfl (rv_ev rfl) ?_
   refine hl_less (sx 0 rfl (sx 1 rfl (sx 2 rfl (sx 3 rfl (sx 6 rfl (sx 7 rfl (sx 8 rfl (sx 9 rfl (sx 10 rfl (sx 11 rfl (sx 13 rfl (sx 15 rfl (sx 16 rfl (sx 24 rfl (sx 32 rfl (sx 33 rfl (sx 34 rfl (sx 35 rfl (sub_nil _))))))))))))))))))) (.refl _) ?_
   refine hl_nil ?_
   refine hq_then ?_
   refine hc_seq ?_
   refine hc_seq ?_
   refine hc_region ?_
   refine hl_v rfl rfl rfl (rv_ev rfl) ?_
   refine hl_less (sx 0 rfl (sx 1 rfl (sx 2 rfl (sx 3 rfl (sx 6 rfl (sx 7 rfl (sx 8 rfl (sx 9 rfl (sx 10 rfl (sx 11 rfl (sx 13 rfl (sx 15 rfl (sx 16 rfl (sx 24 rfl (sx 32 rfl (sx 33 rfl (sx 34 rfl (sx 35 rfl (sx 38 rfl (sub_nil _)))))))))))))))))))) (.refl _) ?_
   refine hl_nil ?_
   refine hq_then ?_
   refine hc_true rfl ?_
   refine hc_region ?_
   refine hl_v rfl rfl rfl (rv_ev rfl) ?_
   refine hl_less (sx 0 rfl (sx 1 rfl (sx 2 rfl (sx 3 rfl (sx 6 rfl (sx 7 rfl (sx 8 rfl (sx 9 rfl (sx 10 rfl (sx 11 rfl (sx 13 rfl (sx 15 rfl (sx 16 rfl (sx 24 rfl (sx 32 rfl (sx 33 rfl (sx 34 rfl (sx 35 rfl (sx 38 rfl (sub_nil _)))))))))))))))))))) (.refl _) ?_
   refine hl_nil ?_
   refine hq_then ?_
   refine hc_region ?_
   refine hl_v rfl rfl rfl (rv_ev rfl) ?_
   refine hl_v rfl rfl rfl (rv_ev rfl) ?_
   refine hl_row rfl rfl rfl (rq_buildSlice (z := .int .i64 0) (s := 1) (cs := ([1].map (Value.int .i64))) rfl Try.underlying26 (by kernel_rfl) (by decide) rfl (by kernel_rfl) rfl) ?_
   intro g13
   refine hl_append (i := 1) (z := .int .i64 0) (bytes := 8) (n' := (zs ++ ([1])).length) (xs' := ((zs ++ ([1])).map (Value.int .i64))) (L := fun v14 => [rowE 3 1 (.slice (some ⟨g13, 0, none⟩) 1 1) 1 ([1].map (Value.int .i64)), rowE 3 1 v14 ((zs ++ ([1])).length) ((zs ++ ([1])).map (Value.int .i64)), rowE 4 1 u bs.length (bs.flatMap blC), boxE b5 #[.int .i64 n.cnt, cv] 42, clE cv rs, boxE b1 #[.int .i64 n.ins, n.sv, n.av, n.ov] 28]) rfl rfl rfl rfl Try.underlying26 (by kernel_rfl) (by kernel_rfl) rfl rfl rfl (rd_row 0 rfl) (ints_one _) (by first | omega | (simp; omega)) (len_app zs ([1])) (ints_app zs ([1])) (fun _ => rfl) ?_
   intro v14
   refine hl_v rfl rfl rfl (rv_ev rfl) ?_
   refine hl_less (sx 0 rfl (sx 1 rfl (sx 2 rfl (sx 3 rfl (sx 6 rfl (sx 7 rfl (sx 8 rfl (sx 9 rfl (sx 10 rfl (sx 11 rfl (sx 13 rfl (sx 15 rfl (sx 16 rfl (sx 24 rfl (sx 32 rfl (sx 33 rfl (sx 34 rfl (sx 35 rfl (sx 38 rfl (sub_nil _)))))))))))))))))))) (.refl _) ?_
   refine hl_nil ?_
   refine hq_block_normal ?_
   refine hq_then ?_
   refine hc_region ?_
   refine hl_v rfl rfl rfl (rv_add rfl rfl rfl (by constructor <;> omega)) ?_
   refine hl_v rfl rfl rfl (rv_ev rfl) ?_
   refine hl_less (sx 0 rfl (sx 1 rfl (sx 2 rfl (sx 3 rfl (sx 6 rfl (sx 7 rfl (sx 8 rfl (sx 9 rfl (sx 10 rfl (sx 11 rfl (sx 13 rfl (sx 15 rfl (sx 16 rfl (sx 24 rfl (sx 32 rfl (sx 33 rfl (sx 34 rfl (sx 35 rfl (sx 38 rfl (sub_nil _)))))))))))))))))))) (.refl _) ?_
   refine hl_nil ?_
   exact hq_round3 (j + 1) v14 (zs ++ ([1])) ⟨by omega, by rw [hz]; exact litsL_yes (by omega) (by assumption)⟩ (by omega) (sx 0 rfl (sx 1 rfl (sx 2 rfl (sx 3 rfl (sx 6 rfl (sx 7 rfl (sx 8 rfl (sx 9 rfl (sx 10 rfl (sx 11 rfl (sx 13 rfl (sx 24 rfl (sx 32 rfl (sx 33 rfl (sx 34 rfl (sub_nil _)))))))))))))))) ((.cons _ (.cons_cons _ (.cons_cons _ (.cons_cons _ (.cons_cons _ (.cons_cons _ .slnil)))))))
  ·
   refine hl_v rfl rfl rfl (rv_ev rfl) ?_
   refine hl_less (sx 0 rfl (sx 1 rfl (sx 2 rfl (sx 3 rfl (sx 6 rfl (sx 7 rfl (sx 8 rfl (sx 9 rfl (sx 10 rfl (sx 11 rfl (sx 13 rfl (sx 15 rfl (sx 24 rfl (sx 32 rfl (sx 33 rfl (sx 34 rfl (sx 35 rfl (sub_nil _)))))))))))))))))) (.refl _) ?_
   refine hl_nil ?_
   refine hq_then ?_
   refine hc_seq ?_
   refine hc_region ?_
   refine hl_v rfl rfl rfl (rv_ev rfl) ?_
   refine hl_less (sx 0 rfl (sx 1 rfl (sx 2 rfl (sx 3 rfl (sx 6 rfl (sx 7 rfl (sx 8 rfl (sx 9 rfl (sx 10 rfl (sx 11 rfl (sx 13 rfl (sx 15 rfl (sx 16 rfl (sx 24 rfl (sx 32 rfl (sx 33 rfl (sx 34 rfl (sx 35 rfl (sub_nil _))))))))))))))))))) (.refl _) ?_
   refine hl_nil ?_
   refine hq_then ?_
   refine hc_seq ?_
   refine hc_seq ?_
   refine hc_region ?_
   refine hl_v rfl rfl rfl (rv_ev rfl) ?_
   refine hl_less (sx 0 rfl (sx 1 rfl (sx 2 rfl (sx 3 rfl (sx 6 rfl (sx 7 rfl (sx 8 rfl (sx 9 rfl (sx 10 rfl (sx 11 rfl (sx 13 rfl (sx 15 rfl (sx 16 rfl (sx 24 rfl (sx 32 rfl (sx 33 rfl (sx 34 rfl (sx 35 rfl (sx 38 rfl (sub_nil _)))))))))))))))))))) (.refl _) ?_
   refine hl_nil ?_
   refine hq_then ?_
   refine hc_false rfl ?_
   refine hc_skip ?_
   refine hq_then ?_
   refine hc_region ?_
   refine hl_v rfl rfl rfl (rv_ev rfl) ?_
   refine hl_v rfl rfl rfl (rv_ev rfl) ?_
   refine hl_row rfl rfl rfl (rq_buildSlice (z := .int .i64 0) (s := 1) (cs := ([0].map (Value.int .i64))) rfl Try.underlying26 (by kernel_rfl) (by decide) rfl (by kernel_rfl) rfl) ?_
   intro g15
   refine hl_append (i := 1) (z := .int .i64 0) (bytes := 8) (n' := (zs ++ ([0])).length) (xs' := ((zs ++ ([0])).map (Value.int .i64))) (L := fun v16 => [rowE 3 1 (.slice (some ⟨g15, 0, none⟩) 1 1) 1 ([0].map (Value.int .i64)), rowE 3 1 v16 ((zs ++ ([0])).length) ((zs ++ ([0])).map (Value.int .i64)), rowE 4 1 u bs.length (bs.flatMap blC), boxE b5 #[.int .i64 n.cnt, cv] 42, clE cv rs, boxE b1 #[.int .i64 n.ins, n.sv, n.av, n.ov] 28]) rfl rfl rfl rfl Try.underlying26 (by kernel_rfl) (by kernel_rfl) rfl rfl rfl (rd_row 0 rfl) (ints_one _) (by first | omega | (simp; omega)) (len_app zs ([0])) (ints_app zs ([0])) (fun _ => rfl) ?_
   intro v16
   refine hl_v rfl rfl rfl (rv_ev rfl) ?_
   refine hl_less (sx 0 rfl (sx 1 rfl (sx 2 rfl (sx 3 rfl (sx 6 rfl (sx 7 rfl (sx 8 rfl (sx 9 rfl (sx 10 rfl (sx 11 rfl (sx 13 rfl (sx 15 rfl (sx 16 rfl (sx 24 rfl (sx 32 rfl (sx 33 rfl (sx 34 rfl (sx 35 rfl (sx 38 rfl (sub_nil _)))))))))))))))))))) (.refl _) ?_
   refine hl_nil ?_
   refine hq_block_normal ?_
   refine hq_then ?_
   refine hc_region ?_
   refine hl_v rfl rfl rfl (rv_add rfl rfl rfl (by constructor <;> omega)) ?_
   refine hl_v rfl rfl rfl (rv_ev rfl) ?_
   refine hl_less (sx 0 rfl (sx 1 rfl (sx 2 rfl (sx 3 rfl (sx 6 rfl (sx 7 rfl (sx 8 rfl (sx 9 rfl (sx 10 rfl (sx 11 rfl (sx 13 rfl (sx 15 rfl (sx 16 rfl (sx 24 rfl (sx 32 rfl (sx 33 rfl (sx 34 rfl (sx 35 rfl (sx 38 rfl (sub_nil _)))))))))))))))))))) (.refl _) ?_
   refine hl_nil ?_
   exact hq_round3 (j + 1) v16 (zs ++ ([0])) ⟨by omega, by rw [hz]; exact litsL_no (by omega) (by assumption)⟩ (by omega) (sx 0 rfl (sx 1 rfl (sx 2 rfl (sx 3 rfl (sx 6 rfl (sx 7 rfl (sx 8 rfl (sx 9 rfl (sx 10 rfl (sx 11 rfl (sx 13 rfl (sx 24 rfl (sx 32 rfl (sx 33 rfl (sx 34 rfl (sub_nil _)))))))))))))))) ((.cons _ (.cons_cons _ (.cons_cons _ (.cons_cons _ (.cons_cons _ (.cons_cons _ .slnil)))))))
 ·
  refine hl_less (sx 0 rfl (sx 1 rfl (sx 2 rfl (sx 3 rfl (sx 6 rfl (sx 7 rfl (sx 8 rfl (sx 9 rfl (sx 10 rfl (sx 11 rfl (sx 13 rfl (sx 24 rfl (sx 32 rfl (sx 33 rfl (sx 34 rfl (sx 35 rfl (sub_nil _))))))))))))))))) (.refl _) ?_
  refine hl_nil ?_
  refine hq_then ?_
  refine hc_seq ?_
  refine hc_false rfl ?_
  refine hc_exit ?_
  refine hq_then_exit ?_
  refine hq_then_exit ?_
  refine hq_block_exit ?_
  refine hq_then ?_
  refine hc_seq ?_
  refine hc_region ?_
  refine hl_v rfl rfl rfl (rv_ev rfl) ?_
  refine hl_v rfl rfl rfl (rv_ev rfl) ?_
  refine hl_v rfl rfl rfl (rv_ev rfl) ?_
  refine hl_v rfl rfl rfl (rv_ev rfl) ?_
  refine hl_less (sx 0 rfl (sx 1 rfl (sx 2 rfl (sx 3 rfl (sx 6 rfl (sx 7 rfl (sx 8 rfl (sx 9 rfl (sx 10 rfl (sx 11 rfl (sx 13 rfl (sx 24 rfl (sx 32 rfl (sx 33 rfl (sx 34 rfl (sx 35 rfl (sub_nil _))))))))))))))))) (.refl _) ?_
  refine hl_nil ?_
  refine hq_then ?_
  refine hc_ret ?_
  have hzz : zs = litsL bs bs.length := by rw [hz, show j = bs.length by omega]
  subst hzz
  refine hq_oneS (i := 0) rfl (fun hoR => ?_)
  exact hq_retM (rs := [.tmp 6, .tmp 7]) (vs := [.int .i64 cd, u2]) (post := [rowE 3 1 u2 (litsL bs bs.length).length ((litsL bs bs.length).map (Value.int .i64))]) rfl ⟨rfl, rfl, trivial⟩ rfl ((.cons_cons _ (.cons _ (.cons _ (.cons _ (.cons _ .slnil)))))) ⟨_, _, rs, xs, bs, rfl, rfl, hoR, hnc, hsr⟩
open Go.RowKit
def stB (n : Nt) (bits : Int) (k : Nat) : List Int := (List.range k).map fun i => bits / 2 ^ (n.ins.toNat + i) % 2
theorem stB_len (n : Nt) (bits : Int) (k : Nat) : (stB n bits k).length = k := by simp [stB]
theorem stB_step (n : Nt) (bits : Int) (k : Nat) : stB n bits k ++ [bits / 2 ^ (n.ins.toNat + k) % 2] = stB n bits (k + 1) := by unfold stB; rw [List.range_succ, List.map_append]; rfl
theorem stB_at (n : Nt) (bits : Int) {k i : Nat} (h : i < k) : (stB n bits k).getD i 0 = bits / 2 ^ (n.ins.toNat + i) % 2 := by simp [stB, h]
theorem shr_rngB {x : Int} (h : 0 ≤ x ∧ x ≤ 4294967295) (k : Nat) : 0 ≤ x / 2 ^ k ∧ x / 2 ^ k ≤ 4294967295 := by
  have hp : (0 : Int) < 2 ^ k := Int.pow_pos (by decide)
  exact ⟨Int.ediv_nonneg h.1 (by omega), Int.le_trans (Int.ediv_le_self _ h.1) h.2⟩
def rvL (n : Nt) (bits : Int) (q : Nat) : List Int := ((rtsL n n.ss.length).take q).map (bitL (valsL n (stB n bits n.ss.length) bits))
theorem rvL_step (n : Nt) (bits : Int) {q : Nat} (h : q < (rtsL n n.ss.length).length) : rvL n bits q ++ [bitL (valsL n (stB n bits n.ss.length) bits) ((rtsL n n.ss.length).getD q 0)] = rvL n bits (q + 1) := by
  unfold rvL; rw [take_snocG 0 h, List.map_append]; rfl
set_option maxHeartbeats 4000000 in
set_option maxRecDepth 100000 in
theorem RootValues_ret (n : Nt) (bits : Int) (w : World) (hr : RdsNt w n) (hn : NtOk n) (hbt : 0 ≤ bits ∧ bits ≤ 4294967295) :
  Calls Try.prog 34 #[.agg #[.int .i64 n.ins, n.sv, n.av, n.ov], .int .i64 bits] w (Ret w (fun v' post => post = [rowE 3 1 v' ((rvL n bits (rtsL n n.ss.length).length)).length (((rvL n bits (rtsL n n.ss.length).length)).map (Value.int .i64))])) := by
 have hi0 := hn.i0
 have hi1 := hn.i1
 have hs1 := hn.s1
 have ha1 := hn.a1
 have ho1 := hn.o1
 have hcnt : n.cnt = 1 + n.ins + n.ss.length + n.gs.length := rfl
 have hfst : n.fst = 1 + n.ins + n.ss.length := rfl
 refine calls_hc (N := 56) (args := [.agg #[.int .i64 n.ins, n.sv, n.av, n.ov], .int .i64 bits]) Try.func34 rfl rfl ?_
 refine hc_less _ (sx 0 rfl (sx 1 rfl (sub_nil _))) (.refl _) ?_
 refine hc_seq ?_
 refine hc_region ?_
 refine hl_box rfl rfl rfl (rq_box rfl rfl) ?_
 intro b1
 refine hl_v rfl rfl rfl (rv_ev rfl) ?_
 refine hl_less (sx 0 rfl (sx 1 rfl (sx 2 rfl (sx 4 rfl (sub_nil _))))) (.refl _) ?_
 refine hl_nil ?_
 refine hq_then ?_
 refine hc_seq ?_
 refine hc_region ?_
 refine hl_row rfl rfl rfl (rq_slice0 (s := 1) rfl Try.underlying26 (by kernel_rfl)) ?_
 intro g2
 refine hl_v rfl rfl rfl (rv_ev rfl) ?_
 refine hl_less (sx 0 rfl (sx 1 rfl (sx 2 rfl (sx 4 rfl (sx 5 rfl (sub_nil _)))))) (.refl _) ?_
 refine hl_nil ?_
 refine hq_then ?_
 refine hc_seq ?_
 refine hc_seq ?_
 refine hc_region ?_
 refine hl_v rfl rfl rfl (rv_loadN (cs := [.int .i64 n.ins, n.sv, n.av, n.ov]) rfl (by kernel_rfl) (by kernel_rfl) rfl rfl (box_part 1 rfl 0 rfl)) ?_
 refine hl_callV rfl rfl rfl (rq_call (by kernel_rfl) rfl (fun w hm => ret_ans (specNetOk_yes n w (hr.below hm.bel) hn))) ?_
 refine hl_v rfl rfl rfl (rv_ev rfl) ?_
 refine hl_less (sx 0 rfl (sx 1 rfl (sx 2 rfl (sx 4 rfl (sx 5 rfl (sx 14 rfl (sub_nil _))))))) (.refl _) ?_
 refine hl_nil ?_
 refine hq_then ?_
 refine hc_false rfl ?_
 refine hc_skip ?_
 refine hq_then ?_
 refine hc_seq ?_
 refine hc_region ?_
 refine hl_row rfl rfl rfl (rq_slice0 (s := 1) rfl Try.underlying26 (by kernel_rfl)) ?_
 intro g3
 refine hl_v rfl rfl rfl (rv_ev rfl) ?_
 refine hl_less (sx 0 rfl (sx 1 rfl (sx 2 rfl (sx 4 rfl (sx 5 rfl (sx 6 rfl (sx 14 rfl (sub_nil _)))))))) (.refl _) ?_
 refine hl_nil ?_
 refine hq_then ?_
 refine hc_seq ?_
 refine hc_seq ?_
 refine hc_region ?_
 refine hl_v rfl rfl rfl (rv_ev rfl) ?_
 refine hl_less (sx 0 rfl (sx 1 rfl (sx 2 rfl (sx 4 rfl (sx 5 rfl (sx 6 rfl (sx 7 rfl (sx 14 rfl (sub_nil _))))))))) (.refl _) ?_
 refine hl_nil ?_
 refine hq_then ?_
 refine hc_block ?_
 refine hc_loop3 (α := Nat) (β := Value) (γ := List Int) (fun k u zs => [rowE 3 1 u zs.length (zs.map (Value.int .i64)), rowE 3 1 (.slice (some ⟨g2, 0, none⟩) 0 0) 0 ([]), boxE b1 #[.int .i64 n.ins, n.sv, n.av, n.ov] 28]) (fun k u zs => [(0, .agg #[.int .i64 n.ins, n.sv, n.av, n.ov]), (1, .int .i64 bits), (2, .pointer (some ⟨b1, 0, none⟩)), (4, .slice none 0 0), (5, .slice (some ⟨g2, 0, none⟩) 0 0), (6, u), (7, .int .i64 (k : Int)), (14, .bool false)]) (fun k u zs => k ≤ n.ss.length ∧ zs = stB n bits k) (fun k u zs => n.ss.length - k) 0 _ [] ⟨by omega, rfl⟩ (sx 0 rfl (sx 1 rfl (sx 2 rfl (sx 4 rfl (sx 5 rfl (sx 6 rfl (sx 7 rfl (sx 14 rfl (sub_nil _))))))))) ((.cons_cons _ (.cons_cons _ (.cons_cons _ .slnil)))) ?_
 intro k u zs hi4
 obtain ⟨hk, hz⟩ := hi4
 have hzl : zs.length = k := by rw [hz]; exact stB_len _ _ _
 refine hc_seq ?_
 refine hc_seq ?_
 refine hc_region ?_
 refine hl_v rfl rfl rfl (rv_ev rfl) ?_
 refine hl_v rfl rfl rfl (rv_field (k0 := 1) rfl (by kernel_rfl) rfl) ?_
 refine hl_v rfl rfl rfl (rv_load rfl (by kernel_rfl) rfl (box_cell 2 rfl rfl)) ?_
 refine hl_v rfl rfl rfl (rv_len rfl Try.underlying24 rfl (rd_old hr.sq)) ?_
 refine hl_lss rfl rfl rfl rfl rfl rfl (fun h5 => ?_) (fun h5 => ?_)
 ·
  refine hl_less (sx 0 rfl (sx 1 rfl (sx 2 rfl (sx 4 rfl (sx 5 rfl (sx 6 rfl (sx 7 rfl (sx 14 rfl (sx 21 rfl (sub_nil _)))))))))) (.refl _) ?_
  refine hl_nil ?_
  refine hq_then ?_
  refine hc_true rfl ?_
  refine hc_skip ?_
  refine hq_then ?_
  refine hc_seq ?_
  refine hc_block ?_
  refine hc_region ?_
  refine hl_v rfl rfl rfl (rv_ev rfl) ?_
  refine hl_v rfl rfl rfl (rv_ev rfl) ?_
  refine hl_v rfl rfl rfl (rv_field (k0 := 0) rfl (by kernel_rfl) rfl) ?_
  refine hl_v rfl rfl rfl (rv_load rfl (by kernel_rfl) rfl (box_cell 2 rfl rfl)) ?_
  refine hl_v rfl rfl rfl (rv_ev rfl) ?_
  refine hl_v rfl rfl rfl (rv_add rfl rfl rfl (by constructor <;> omega)) ?_
  refine hl_v rfl rfl rfl (rv_shr rfl rfl rfl (by omega)) ?_
  refine hl_v rfl rfl rfl (rv_bits rfl (by decide) rfl rfl (r := bits / 2 ^ (n.ins.toNat + k) % 2) (by rw [show (n.ins + (k : Int)).toNat = n.ins.toNat + k by omega]; exact Bit.and_one _ (shr_rngB hbt _).1 (by have := (shr_rngB hbt (n.ins.toNat + k)).2; omega))) ?_
  refine hl_row rfl rfl rfl (rq_buildSlice (z := .int .i64 0) (s := 1) (cs := ([bits / 2 ^ (n.ins.toNat + k) % 2].map (Value.int .i64))) rfl Try.underlying26 (by kernel_rfl) (by decide) rfl (by kernel_rfl) rfl) ?_
  intro g6
  refine hl_append (i := 1) (z := .int .i64 0) (bytes := 8) (n' := (zs ++ ([bits / 2 ^ (n.ins.toNat + k) % 2])).length) (xs' := ((zs ++ ([bits / 2 ^ (n.ins.toNat + k) % 2])).map (Value.int .i64))) (L := fun v7 => [rowE 3 1 (.slice (some ⟨g6, 0, none⟩) 1 1) 1 ([bits / 2 ^ (n.ins.toNat + k) % 2].map (Value.int .i64)), rowE 3 1 v7 ((zs ++ ([bits / 2 ^ (n.ins.toNat + k) % 2])).length) ((zs ++ ([bits / 2 ^ (n.ins.toNat + k) % 2])).map (Value.int .i64)), rowE 3 1 (.slice (some ⟨g2, 0, none⟩) 0 0) 0 ([]), boxE b1 #[.int .i64 n.ins, n.sv, n.av, n.ov] 28]) rfl rfl rfl rfl Try.underlying26 (by kernel_rfl) (by kernel_rfl) rfl rfl rfl (rd_row 0 rfl) (ints_one _) (by first | omega | (simp; omega)) (len_app zs ([bits / 2 ^ (n.ins.toNat + k) % 2])) (ints_app zs ([bits / 2 ^ (n.ins.toNat + k) % 2])) (fun _ => rfl) ?_
  intro v7
  refine hl_v rfl rfl rfl (rv_ev rfl) ?_
  refine hl_less (sx 0 rfl (sx 1 rfl (sx 2 rfl (sx 4 rfl (sx 5 rfl (sx 6 rfl (sx 7 rfl (sx 14 rfl (sx 21 rfl (sub_nil _)))))))))) (.refl _) ?_
  refine hl_nil ?_
  refine hq_block_normal ?_
  refine hq_then ?_
  refine hc_region ?_
  refine hl_v rfl rfl rfl (rv_ev rfl) ?_
  refine hl_v rfl rfl rfl (rv_add rfl rfl rfl (by constructor <;> omega)) ?_
  refine hl_v rfl rfl rfl (rv_ev rfl) ?_
  refine hl_less (sx 0 rfl (sx 1 rfl (sx 2 rfl (sx 4 rfl (sx 5 rfl (sx 6 rfl (sx 7 rfl (sx 14 rfl (sx 21 rfl (sub_nil _)))))))))) (.refl _) ?_
  refine hl_nil ?_
  exact hq_round3 (k + 1) v7 (zs ++ ([bits / 2 ^ (n.ins.toNat + k) % 2])) ⟨by omega, by rw [hz]; exact stB_step _ _ _⟩ (by omega) (sx 0 rfl (sx 1 rfl (sx 2 rfl (sx 4 rfl (sx 5 rfl (sx 6 rfl (sx 7 rfl (sx 14 rfl (sub_nil _))))))))) ((.cons _ (.cons_cons _ (.cons_cons _ (.cons_cons _ .slnil)))))
 ·
  refine hl_less (sx 0 rfl (sx 1 rfl (sx 2 rfl (sx 4 rfl (sx 5 rfl (sx 6 rfl (sx 7 rfl (sx 14 rfl (sx 21 rfl (sub_nil _)))))))))) (.refl _) ?_
  refine hl_nil ?_
  refine hq_then ?_
  refine hc_false rfl ?_
  refine hc_exit ?_
  refine hq_then_exit ?_
  refine hq_then_exit ?_
  refine hq_block_exit ?_
  refine hq_then ?_
  refine hc_seq ?_
  refine hc_region ?_
  refine hl_v rfl rfl rfl (rv_loadN (cs := [.int .i64 n.ins, n.sv, n.av, n.ov]) rfl (by kernel_rfl) (by kernel_rfl) rfl rfl (box_part 2 rfl 0 rfl)) ?_
  refine hl_v rfl rfl rfl (rv_ev rfl) ?_
  have hzS : zs = stB n bits n.ss.length := by rw [hz, show k = n.ss.length by omega]
  have hsoB : StOk n (stB n bits n.ss.length) := ⟨stB_len _ _ _, fun k hk => by rw [stB_at n bits hk]; have h9 := Int.emod_nonneg (bits / 2 ^ (n.ins.toNat + k)) (show (2 : Int) ≠ 0 by decide); have h8 := Int.emod_lt_of_pos (bits / 2 ^ (n.ins.toNat + k)) (show (0 : Int) < 2 by decide); (first | omega | (split <;> omega) | exact ⟨h9, by omega, fun _ => by omega⟩)⟩
  have hva := vals_and hn (stB_len n bits n.ss.length) bits
  have hvl := hva.len
  have hrtl := rts_len hn n.ss.length (Nat.le_refl _)
  refine hl_v rfl rfl rfl (rv_ev rfl) ?_
  refine hl_q rfl rfl rfl (rq_call (by kernel_rfl) rfl (fun w hm => specNodeValues_ret n (stB n bits n.ss.length) _ bits w (hr.below hm.bel) hn (by have h9 := rd_row 0 rfl w hm; rw [← hzS]; exact h9) hsoB hbt)) ?_
  intro v8 p9 hR10
  subst hR10
  refine hl_v rfl rfl rfl (rv_ev rfl) ?_
  refine hl_less (sx 0 rfl (sx 1 rfl (sx 2 rfl (sx 4 rfl (sx 5 rfl (sx 6 rfl (sx 7 rfl (sx 8 rfl (sx 14 rfl (sx 21 rfl (sub_nil _))))))))))) (.refl _) ?_
  refine hl_nil ?_
  refine hq_then ?_
  refine hc_seq ?_
  refine hc_region ?_
  refine hl_v rfl rfl rfl (rv_loadN (cs := [.int .i64 n.ins, n.sv, n.av, n.ov]) rfl (by kernel_rfl) (by kernel_rfl) rfl rfl (box_part 3 rfl 0 rfl)) ?_
  refine hl_q rfl rfl rfl (rq_call (by kernel_rfl) rfl (fun w hm => l08Roots_ret n w (hr.below hm.bel) hn)) ?_
  intro v11 p12 hR13
  subst hR13
  refine hl_v rfl rfl rfl (rv_ev rfl) ?_
  refine hl_less (sx 0 rfl (sx 1 rfl (sx 2 rfl (sx 4 rfl (sx 5 rfl (sx 6 rfl (sx 7 rfl (sx 8 rfl (sx 9 rfl (sx 14 rfl (sx 21 rfl (sub_nil _)))))))))))) (.refl _) ?_
  refine hl_nil ?_
  refine hq_then ?_
  refine hc_seq ?_
  refine hc_seq ?_
  refine hc_region ?_
  refine hl_v rfl rfl rfl (rv_ev rfl) ?_
  refine hl_less (sx 0 rfl (sx 1 rfl (sx 2 rfl (sx 4 rfl (sx 5 rfl (sx 6 rfl (sx 7 rfl (sx 8 rfl (sx 9 rfl (sx 10 rfl (sx 14 rfl (sx 21 rfl (sub_nil _))))))))))))) (.refl _) ?_
  refine hl_nil ?_
  refine hq_then ?_
  refine hc_block ?_
  refine hc_loop3 (α := Nat) (β := Value) (γ := List Int) (fun q u3 ys => [rowE 3 1 v11 ((rtsL n n.ss.length).length) ((rtsL n n.ss.length).map (Value.int .i64)), rowE 3 1 v8 ((valsL n (stB n bits n.ss.length) bits).length) ((valsL n (stB n bits n.ss.length) bits).map (Value.int .i64)), rowE 3 1 u zs.length (zs.map (Value.int .i64)), rowE 3 1 u3 ys.length (ys.map (Value.int .i64)), boxE b1 #[.int .i64 n.ins, n.sv, n.av, n.ov] 28]) (fun q u3 ys => [(0, .agg #[.int .i64 n.ins, n.sv, n.av, n.ov]), (1, .int .i64 bits), (2, .pointer (some ⟨b1, 0, none⟩)), (4, .slice none 0 0), (5, u3), (6, u), (7, .int .i64 (k : Int)), (8, v8), (9, v11), (10, .int .i64 (q : Int)), (14, .bool false), (21, .bool false)]) (fun q u3 ys => q ≤ (rtsL n n.ss.length).length ∧ ys = rvL n bits q ∧ ys.length = q) (fun q u3 ys => (rtsL n n.ss.length).length - q) 0 _ [] ⟨by omega, rfl, rfl⟩ (sx 0 rfl (sx 1 rfl (sx 2 rfl (sx 4 rfl (sx 5 rfl (sx 6 rfl (sx 7 rfl (sx 8 rfl (sx 9 rfl (sx 10 rfl (sx 14 rfl (sx 21 rfl (sub_nil _))))))))))))) ((.cons_cons _ (.cons_cons _ (.cons_cons _ (.cons_cons _ (.cons_cons _ .slnil)))))) ?_
  intro q u3 ys hi14
  obtain ⟨hq, hy, hyl⟩ := hi14
  refine hc_seq ?_
  refine hc_seq ?_
  refine hc_region ?_
  refine hl_v rfl rfl rfl (rv_ev rfl) ?_
  refine hl_v rfl rfl rfl (rv_ev rfl) ?_
  refine hl_v rfl rfl rfl (rv_len rfl Try.underlying26 rfl (rd_row 0 rfl)) ?_
  refine hl_lss rfl rfl rfl rfl rfl rfl (fun h15 => ?_) (fun h15 => ?_)
  ·
   refine hl_less (sx 0 rfl (sx 1 rfl (sx 2 rfl (sx 4 rfl (sx 5 rfl (sx 6 rfl (sx 7 rfl (sx 8 rfl (sx 9 rfl (sx 10 rfl (sx 14 rfl (sx 21 rfl (sx 43 rfl (sub_nil _)))))))))))))) (.refl _) ?_
   refine hl_nil ?_
   refine hq_then ?_
   refine hc_true rfl ?_
   refine hc_skip ?_
   refine hq_then ?_
   refine hc_seq ?_
   refine hc_block ?_
   refine hc_region ?_
   have hrk := rts_ok hn (i := q) (by omega)
   unfold LtOk at hrk
   refine hl_v rfl rfl rfl (rv_ev rfl) ?_
   refine hl_v rfl rfl rfl (rv_ev rfl) ?_
   refine hl_v rfl rfl rfl (rv_ev rfl) ?_
   refine hl_v rfl rfl rfl (rv_ev rfl) ?_
   refine hl_v rfl rfl rfl (rv_index (s := 1) rfl Try.underlying26 (by kernel_rfl) rfl rfl (rd_row 0 rfl) (by omega) (by first | omega | (simp only [List.length_set]; omega))) ?_
   refine hl_v rfl rfl rfl (rv_loadEl (u := .int .i64 ((rtsL n n.ss.length).getD q 0)) rfl (by kernel_rfl) rfl (rd_row 0 rfl) (ints_at1 (show _ < (rtsL n n.ss.length).length by first | omega | (simp only [List.length_set]; omega)))) ?_
   refine hl_callV rfl rfl rfl (rq_call (by kernel_rfl) rfl (fun w hm => ret_ans (l09Bit_ans (valsL n (stB n bits n.ss.length) bits) ((rtsL n n.ss.length).getD q 0) _ w ((rd_row 1 rfl) w hm) ⟨hrk.1, by omega⟩ (hva.b01 _ (by omega)) (by omega)))) ?_
   refine hl_row rfl rfl rfl (rq_buildSlice (z := .int .i64 0) (s := 1) (cs := ([bitL (valsL n (stB n bits n.ss.length) bits) ((rtsL n n.ss.length).getD q 0)].map (Value.int .i64))) rfl Try.underlying26 (by kernel_rfl) (by decide) rfl (by kernel_rfl) rfl) ?_
   intro g16
   refine hl_append (i := 4) (z := .int .i64 0) (bytes := 8) (n' := (ys ++ ([bitL (valsL n (stB n bits n.ss.length) bits) ((rtsL n n.ss.length).getD q 0)])).length) (xs' := ((ys ++ ([bitL (valsL n (stB n bits n.ss.length) bits) ((rtsL n n.ss.length).getD q 0)])).map (Value.int .i64))) (L := fun v17 => [rowE 3 1 (.slice (some ⟨g16, 0, none⟩) 1 1) 1 ([bitL (valsL n (stB n bits n.ss.length) bits) ((rtsL n n.ss.length).getD q 0)].map (Value.int .i64)), rowE 3 1 v11 ((rtsL n n.ss.length).length) ((rtsL n n.ss.length).map (Value.int .i64)), rowE 3 1 v8 ((valsL n (stB n bits n.ss.length) bits).length) ((valsL n (stB n bits n.ss.length) bits).map (Value.int .i64)), rowE 3 1 u zs.length (zs.map (Value.int .i64)), rowE 3 1 v17 ((ys ++ ([bitL (valsL n (stB n bits n.ss.length) bits) ((rtsL n n.ss.length).getD q 0)])).length) ((ys ++ ([bitL (valsL n (stB n bits n.ss.length) bits) ((rtsL n n.ss.length).getD q 0)])).map (Value.int .i64)), boxE b1 #[.int .i64 n.ins, n.sv, n.av, n.ov] 28]) rfl rfl rfl rfl Try.underlying26 (by kernel_rfl) (by kernel_rfl) rfl rfl rfl (rd_row 0 rfl) (ints_one _) (by first | omega | (simp; omega)) (len_app ys ([bitL (valsL n (stB n bits n.ss.length) bits) ((rtsL n n.ss.length).getD q 0)])) (ints_app ys ([bitL (valsL n (stB n bits n.ss.length) bits) ((rtsL n n.ss.length).getD q 0)])) (fun _ => rfl) ?_
   intro v17
   refine hl_v rfl rfl rfl (rv_ev rfl) ?_
   refine hl_less (sx 0 rfl (sx 1 rfl (sx 2 rfl (sx 4 rfl (sx 5 rfl (sx 6 rfl (sx 7 rfl (sx 8 rfl (sx 9 rfl (sx 10 rfl (sx 14 rfl (sx 21 rfl (sx 43 rfl (sub_nil _)))))))))))))) (.refl _) ?_
   refine hl_nil ?_
   refine hq_block_normal ?_
   refine hq_then ?_
   refine hc_region ?_
   refine hl_v rfl rfl rfl (rv_ev rfl) ?_
   refine hl_v rfl rfl rfl (rv_add rfl rfl rfl (by constructor <;> omega)) ?_
   refine hl_v rfl rfl rfl (rv_ev rfl) ?_
   refine hl_less (sx 0 rfl (sx 1 rfl (sx 2 rfl (sx 4 rfl (sx 5 rfl (sx 6 rfl (sx 7 rfl (sx 8 rfl (sx 9 rfl (sx 10 rfl (sx 14 rfl (sx 21 rfl (sx 43 rfl (sub_nil _)))))))))))))) (.refl _) ?_
   refine hl_nil ?_
   exact hq_round3 (q + 1) v17 (ys ++ ([bitL (valsL n (stB n bits n.ss.length) bits) ((rtsL n n.ss.length).getD q 0)])) ⟨by omega, by rw [hy]; exact rvL_step _ _ (by omega), by rw [List.length_append, List.length_singleton]; omega⟩ (by omega) (sx 0 rfl (sx 1 rfl (sx 2 rfl (sx 4 rfl (sx 5 rfl (sx 6 rfl (sx 7 rfl (sx 8 rfl (sx 9 rfl (sx 10 rfl (sx 14 rfl (sx 21 rfl (sub_nil _))))))))))))) ((.cons _ (.cons_cons _ (.cons_cons _ (.cons_cons _ (.cons_cons _ (.cons_cons _ .slnil)))))))
  ·
   refine hl_less (sx 0 rfl (sx 1 rfl (sx 2 rfl (sx 4 rfl (sx 5 rfl (sx 6 rfl (sx 7 rfl (sx 8 rfl (sx 9 rfl (sx 10 rfl (sx 14 rfl (sx 21 rfl (sx 43 rfl (sub_nil _)))))))))))))) (.refl _) ?_
   refine hl_nil ?_
   refine hq_then ?_
   refine hc_false rfl ?_
   refine hc_exit ?_
   refine hq_then_exit ?_
   refine hq_then_exit ?_
   refine hq_block_exit ?_
   refine hq_then ?_
   refine hc_seq ?_
   refine hc_region ?_
   refine hl_v rfl rfl rfl (rv_ev rfl) ?_
   refine hl_v rfl rfl rfl (rv_ev rfl) ?_
   refine hl_less (sx 0 rfl (sx 1 rfl (sx 2 rfl (sx 4 rfl (sx 5 rfl (sx 6 rfl (sx 7 rfl (sx 8 rfl (sx 9 rfl (sx 10 rfl (sx 14 rfl (sx 21 rfl (sx 43 rfl (sub_nil _)))))))))))))) (.refl _) ?_
   refine hl_nil ?_
   refine hq_then ?_
   refine hc_ret ?_
   have hyy : ys = rvL n bits (rtsL n n.ss.length).length := by rw [hy, show q = (rtsL n n.ss.length).length by omega]
   exact hq_retR (post := [rowE 3 1 u3 ys.length (ys.map (Value.int .i64))]) rfl rfl ((.cons _ (.cons _ (.cons _ (.cons_cons _ (.cons _ .slnil)))))) (by first | (rw [hyy]; done) | (rw [hyy]; rfl))
abbrev outN (n : Nt) (ov : Value) (lit : Int) : Nt := Nt.mk n.ins n.sv n.av ov n.ss n.gs [lit]
theorem outN_ok {n : Nt} (hn : NtOk n) {lit : Int} (h : 0 ≤ lit ∧ lit < 2 * n.cnt) (ov : Value) : NtOk (outN n ov lit) :=
  ⟨hn.i0, hn.i1, hn.s1, hn.a1, by simp, hn.sq, hn.xs, hn.an, fun x hx => by rw [List.mem_singleton] at hx; subst hx; exact h⟩
theorem root_one (n : Nt) (ov : Value) (lit bits : Int) : getI (rvL (outN n ov lit) bits (rtsL (outN n ov lit) (outN n ov lit).ss.length).length) 0 = bitL (valsL n (stB n bits n.ss.length) bits) lit := by
  have e : rvL (outN n ov lit) bits (rtsL (outN n ov lit) (outN n ov lit).ss.length).length = bitL (valsL n (stB n bits n.ss.length) bits) lit :: ((n.ss.take n.ss.length).flatMap Sq.xs).map (bitL (valsL n (stB n bits n.ss.length) bits)) := by
    unfold rvL; rw [List.take_length]; rfl
  rw [e]
  unfold getI
  rw [if_pos (by simp)]; rfl
def bvB (vs : List Int) : Nat → Int
  | 0 => 0
  | k + 1 => bvB vs k + vs.getD (1 + k) 0 % 2 * 2 ^ k
theorem bv_rng (vs : List Int) : ∀ k, 0 ≤ bvB vs k ∧ bvB vs k < 2 ^ k
  | 0 => ⟨Int.le_refl _, by show (0 : Int) < 2 ^ 0; decide⟩
  | k + 1 => by
    have ih := bv_rng vs k
    have hp : (0 : Int) < 2 ^ k := Int.pow_pos (by decide)
    have hm : vs.getD (1 + k) 0 % 2 = 0 ∨ vs.getD (1 + k) 0 % 2 = 1 := by omega
    unfold bvB
    rw [Int.pow_succ]
    rcases hm with e | e <;> rw [e] <;> omega
theorem bv_bit (vs : List Int) : ∀ k i, i < k → bvB vs k / 2 ^ i % 2 = vs.getD (1 + i) 0 % 2
  | 0, i, h => absurd h (by omega)
  | k + 1, i, h => by
    have hp : (2 : Int) ^ i ≠ 0 := by have : (0 : Int) < 2 ^ i := Int.pow_pos (by decide); omega
    unfold bvB
    by_cases c : i = k
    · subst c
      rw [Int.add_mul_ediv_right _ _ hp, Int.ediv_eq_zero_of_lt (bv_rng vs i).1 (bv_rng vs i).2]
      omega
    · obtain ⟨m, rfl⟩ : ∃ m, k = i + 1 + m := ⟨k - (i + 1), by omega⟩
      have e : vs.getD (1 + (i + 1 + m)) 0 % 2 * 2 ^ (i + 1 + m) = (vs.getD (1 + (i + 1 + m)) 0 % 2 * 2 ^ m * 2) * 2 ^ i := by
        rw [Int.pow_add, Int.pow_succ]; simp only [Int.mul_comm, Int.mul_left_comm, Int.mul_assoc]
      rw [e, Int.add_mul_ediv_right _ _ hp, Int.add_mul_emod_self_right]
      exact bv_bit vs (i + 1 + m) i (by omega)
theorem leaf_at {n : Nt} {vs : List Int} (hi : 0 ≤ n.ins) (h01 : B01 vs) (hl : 1 + n.ins.toNat + n.ss.length ≤ vs.length) (h0 : vs.getD 0 0 = 0) {k : Nat} (hk : k < 1 + n.ins.toNat + n.ss.length) :
    (valsL n (stB n (bvB vs (n.ins.toNat + n.ss.length)) n.ss.length) (bvB vs (n.ins.toNat + n.ss.length))).getD k 0 = vs.getD k 0 := by
  generalize hb : bvB vs (n.ins.toNat + n.ss.length) = b
  have hsl := stB_len n b n.ss.length
  rw [val_pre n _ b n.gs.length 0 (by omega) (Nat.le_refl _) k (by rw [val_len _ _ _ 0 (by omega), hsl]; omega)]
  show (leafL n (stB n b n.ss.length) b).getD k 0 = _
  have hv := h01 k (by omega)
  unfold leafL
  by_cases c0 : k = 0
  · subst c0; rw [h0]; rfl
  · by_cases c1 : k < 1 + n.ins.toNat
    · rw [getD_left (by simp; omega), getD_right (by simp; omega)]
      simp only [List.length_singleton]
      have e1 : ((List.range n.ins.toNat).map (fun k => b / 2 ^ k % 2)).getD (k - 1) 0 = b / 2 ^ (k - 1) % 2 := by simp [show k - 1 < n.ins.toNat by omega]
      rw [e1, ← hb, bv_bit vs _ (k - 1) (by omega), show 1 + (k - 1) = k by omega]
      omega
    · rw [getD_right (by simp; omega)]
      have e2 : ([(0 : Int)] ++ (List.range n.ins.toNat).map (fun k => b / 2 ^ k % 2)).length = 1 + n.ins.toNat := by simp; omega
      rw [e2]
      have e3 : ((stB n b n.ss.length).map (· % 2)).getD (k - (1 + n.ins.toNat)) 0 = (stB n b n.ss.length).getD (k - (1 + n.ins.toNat)) 0 % 2 := by
        rw [List.getD_eq_getElem?_getD, List.getElem?_map, List.getD_eq_getElem?_getD]
        cases (stB n b n.ss.length)[k - (1 + n.ins.toNat)]? <;> rfl
      rw [e3, stB_at n b (by omega), ← hb, bv_bit vs _ (n.ins.toNat + (k - (1 + n.ins.toNat))) (by omega), show 1 + (n.ins.toNat + (k - (1 + n.ins.toNat))) = k by omega]
      omega
theorem lits_na (bs : List Bl) : naL (litsL bs bs.length) (litsL bs bs.length).length = bs := by
  unfold naL litsL
  rw [List.take_length, List.take_length, List.map_map]
  refine (List.map_congr_left (fun b _ => ?_)).trans (List.map_id _)
  cases b with
  | mk b => cases b <;> rfl
theorem lits01 (bs : List Bl) (k : Nat) : B01 (litsL bs k) := fun i hi => by
  have hm := getD_memX (d := (0 : Int)) hi
  obtain ⟨b, -, e⟩ := List.mem_map.1 hm
  rw [← e]; split <;> omega
theorem cl_of {n : Nt} {l : Int} {rs : List CRow} {xs : List Int} (h : NcOk n l rs xs) {vs : List Int} (hc : cnfB (naL vs vs.length) rs = true) {c : List Int} (hm : c ∈ ncL n xs xs.length ++ [[lvI l]]) : clB (naL vs vs.length) c = true := by
  rw [cnfB_map, h.rs] at hc
  exact List.all_eq_true.1 hc c hm
theorem gate_eq {n : Nt} (hn : NtOk n) {l : Int} {rs : List CRow} {xs vs : List Int} (h : NcOk n l rs xs) (hb : B01 vs) (hl : (vs.length : Int) = n.cnt) (hc : cnfB (naL vs vs.length) rs = true) {k : Int} (hk : k ∈ xs) (hf : n.fst ≤ k) : vs.getD k.toNat 0 = bitL vs (ndA n k) * bitL vs (ndB n k) := by
  obtain ⟨r0, r1⟩ := h.cone.rng k hk
  have hand : isAndB n k = true := isAnd_iff.2 ⟨hf, r1⟩
  obtain ⟨o1, o2, o3, o4, o5, o6⟩ := nd_ok hn hf r1
  have ha := litB_lv hb o3 (by omega)
  have hbb := litB_lv hb o5 (by omega)
  have hkk := litB_nd hb (k := k) (by omega) (by omega)
  have b1 := bit01 hb o3 (show ndA n k < 2 * vs.length by omega)
  have b2 := bit01 hb o5 (show ndB n k < 2 * vs.length by omega)
  have b3 := hb k.toNat (by omega)
  have c1 := cl_of h hc (nc_cone hk hand (c := [-(k + 1), lvI (ndA n k)]) (by simp [clK]))
  have c2 := cl_of h hc (nc_cone hk hand (c := [-(k + 1), lvI (ndB n k)]) (by simp [clK]))
  have c3 := cl_of h hc (nc_cone hk hand (c := [k + 1, -lvI (ndA n k), -lvI (ndB n k)]) (by simp [clK]))
  unfold clB at c1 c2 c3
  simp only [List.any_cons, List.any_nil, Bool.or_false] at c1 c2 c3
  rw [hkk.2, ha.1] at c1
  rw [hkk.2, hbb.1] at c2
  rw [hkk.1, ha.2, hbb.2] at c3
  rcases b1 with e1 | e1 <;> rcases b2 with e2 | e2 <;> rcases b3 with e3 | e3 <;> rw [e1] at c1 c3 <;> rw [e2] at c2 c3 <;> rw [e3] at c1 c2 c3 <;> rw [e1, e2, e3] <;> first | rfl | (exfalso; revert c1 c2 c3; decide)
theorem sat_lit {n : Nt} (hn : NtOk n) {l : Int} {rs : List CRow} {xs vs : List Int} (h : NcOk n l rs xs) (h0 : 0 ≤ l) (h1 : l < 2 * n.cnt) (hb : B01 vs) (hl : (vs.length : Int) = n.cnt) (hc : cnfB (naL vs vs.length) rs = true) : vs.getD 0 0 = 0 ∧ bitL vs l = 1 := by
  constructor
  · have c1 := cl_of h hc (c := [-1]) (List.mem_append.2 (.inl (List.mem_append.2 (.inl (List.mem_singleton.2 rfl)))))
    have hk := (litB_nd hb (k := 0) (by omega) (by omega)).2
    rw [show (-(0 + 1) : Int) = -1 by decide] at hk
    unfold clB at c1
    simp only [List.any_cons, List.any_nil, Bool.or_false] at c1
    rw [hk] at c1
    have := hb 0 (by omega)
    have hne : ¬ vs.getD 0 0 = 1 := by simpa using c1
    omega
  · have c1 := cl_of h hc (c := [lvI l]) (List.mem_append.2 (.inr (List.mem_singleton.2 rfl)))
    have hk := (litB_lv hb h0 (by omega)).1
    unfold clB at c1
    simp only [List.any_cons, List.any_nil, Bool.or_false] at c1
    rw [hk] at c1
    simpa using c1
theorem cone_eq {n : Nt} (hn : NtOk n) {l : Int} {rs : List CRow} {xs vs v : List Int} (h : NcOk n l rs xs) (hb : B01 vs) (hl : (vs.length : Int) = n.cnt) (hc : cnfB (naL vs vs.length) rs = true) (hv : AndV n v) (hlf : ∀ k : Int, 0 ≤ k → k < n.fst → v.getD k.toNat 0 = vs.getD k.toNat 0) :
    ∀ (N : Nat) (k : Int), k.toNat < N → k ∈ xs → v.getD k.toNat 0 = vs.getD k.toNat 0
  | 0, k, hk, _ => absurd hk (by omega)
  | N + 1, k, hk, hx => by
    obtain ⟨r0, r1⟩ := h.cone.rng k hx
    by_cases hf : k < n.fst
    · exact hlf k r0 hf
    · obtain ⟨o1, o2, o3, o4, o5, o6⟩ := nd_ok hn (k := k) (by omega) r1
      obtain ⟨m1, m2⟩ := h.cone.clo k hx (by omega)
      have ia := cone_eq hn h hb hl hc hv hlf N (ndA n k / 2) (by omega) m1
      have ib := cone_eq hn h hb hl hc hv hlf N (ndB n k / 2) (by omega) m2
      have g := gate_eq hn h hb hl hc hx (by omega)
      have hat := hv.at_ (k - n.fst).toNat o1
      rw [show (n.fst + ((k - n.fst).toNat : Nat)).toNat = k.toNat by omega] at hat
      have ea : bitL v (ndA n k) = bitL vs (ndA n k) := by unfold bitL; rw [ia]
      have eb : bitL v (ndB n k) = bitL vs (ndB n k) := by unfold bitL; rw [ib]
      have hat2 : v.getD k.toNat 0 = bitL v (ndA n k) * bitL v (ndB n k) := hat
      rw [hat2, g, ea, eb]
/-- satisfied: the values are those of the bits -/
theorem solve_sat {n : Nt} (hn : NtOk n) {l : Int} {rs : List CRow} {xs : List Int} {bs : List Bl} (h : NcOk n l rs xs) (h0 : 0 ≤ l) (h1 : l < 2 * n.cnt) (hs : SRes n.cnt rs 1 bs) :
    ((litsL bs bs.length).length : Int) = n.cnt ∧ B01 (litsL bs bs.length) ∧ bitL (litsL bs bs.length) l = 1 ∧ bitL (valsL n (stB n (bvB (litsL bs bs.length) (n.ins.toNat + n.ss.length)) n.ss.length) (bvB (litsL bs bs.length) (n.ins.toNat + n.ss.length))) l = 1 := by
  rcases hs with ⟨-, hf, hsat⟩ | ⟨hc, -⟩
  · have hbl : (bs.length : Int) = n.cnt := by have := hf.1.1; simpa [fullL] using this
    have hl : ((litsL bs bs.length).length : Int) = n.cnt := by rw [litsL_len (Nat.le_refl _)]; exact hbl
    have hb := lits01 bs bs.length
    have hc : cnfB (naL (litsL bs bs.length) (litsL bs bs.length).length) rs = true := by rw [lits_na]; exact (full_sat hbl (h.cl hn h0 h1)).1 hsat
    obtain ⟨z0, z1⟩ := sat_lit hn h h0 h1 hb hl hc
    refine ⟨hl, hb, z1, ?_⟩
    have hcnt : n.cnt = 1 + n.ins + n.ss.length + n.gs.length := rfl
    have hfst : n.fst = 1 + n.ins + n.ss.length := rfl
    have hi := hn.i0
    have hv := vals_and hn (stB_len n (bvB (litsL bs bs.length) (n.ins.toNat + n.ss.length)) n.ss.length) (bvB (litsL bs bs.length) (n.ins.toNat + n.ss.length))
    have he := cone_eq hn h hb hl hc hv (fun k k0 k1 => leaf_at hi hb (by omega) z0 (by omega)) ((l / 2).toNat + 1) (l / 2) (by omega) h.cone.top
    rw [← z1]; unfold bitL; rw [he]
  · exact absurd hc (by decide)
/-- not satisfied: no values give 1 -/
theorem solve_unsat {n : Nt} (hn : NtOk n) {l : Int} {rs : List CRow} {xs : List Int} {bs : List Bl} (h : NcOk n l rs xs) (h0 : 0 ≤ l) (h1 : l < 2 * n.cnt) {cd : Int} (hs : SRes n.cnt rs cd bs) (hcd : cd ≠ 1) (bits : Int) : cd = 2 ∧ bitL (valsL n (stB n bits n.ss.length) bits) l = 0 := by
  rcases hs with ⟨hc, -⟩ | ⟨hc, -, hno⟩
  · exact absurd hc hcd
  · refine ⟨hc, ?_⟩
    have hi := hn.i0
    have hv := vals_and hn (stB_len n bits n.ss.length) bits
    have hz : (valsL n (stB n bits n.ss.length) bits).getD 0 0 = 0 := val0 _ _
    generalize valsL n (stB n bits n.ss.length) bits = v at hv hz ⊢
    have hvl := hv.len
    rcases bit01 hv.b01 h0 (by omega) with e | e
    · exact e
    · exfalso
      have h9 := nc_true hn hv hz h h0 h1
      rw [e, decide_eq_true rfl] at h9
      have hnl : ((naL v v.length).length : Int) = n.cnt := by rw [naL_len (Nat.le_refl _)]; exact hvl
      exact hno _ (full_ok hnl) ((full_sat hnl (h.cl hn h0 h1)).2 h9)
set_option maxHeartbeats 4000000 in
theorem built_netS (x0 : Int) (x1 : Value) (x2 : Value) (x3 : Value) (h1 : x1.oneCell' = true) (h2 : x2.oneCell' = true) (h3 : x3.oneCell' = true) : Try.prog.built 28 [(0, .int .i64 x0), (1, x1), (2, x2), (3, x3)] = some #[.int .i64 x0, x1, x2, x3] := by
  (cases x1 <;> first | (exact absurd h1 Bool.false_ne_true) | (cases x2 <;> first | (exact absurd h2 Bool.false_ne_true) | (cases x3 <;> first | (exact absurd h3 Bool.false_ne_true) | kernel_rfl)))
theorem rv_buildM {P : Program} {N : Nat} {w0 : World} {l : List HP} {env : List (Nat × Value)} {o : Oper} {t : TypeId} {ps : Array (Nat × Operand)} {vs : List (Nat × Value)} {cs : Array Value} (ho : o.op = .build t ps)
    (hp : ps.toList.mapM (fun p => (ev env p.2).map fun v => (p.1, v)) = some vs) (hb : ∀ w, Mem w0 l w → P.built t vs = some cs) : RunV P N w0 l env o (.agg cs) := fun a w st => rv_build ho hp (hb w st.mem) a w st
theorem rvL_le {n : Nt} (hn : NtOk n) (bits : Int) (q : Nat) : (rvL n bits q).length ≤ 100 := by
  have h1 := rts_len hn n.ss.length (Nat.le_refl _)
  have h2 := hn.s1
  unfold rvL; rw [List.length_map, List.length_take]; omega
theorem pow7 {k : Nat} (h : k ≤ 7) : (2 : Int) ^ k ≤ 128 := by
  have h1 := pow_mono h
  have h2 : (2 : Int) ^ 7 = 128 := by decide
  omega
theorem shl_bit {b : Int} {k : Nat} (hb : b = 0 ∨ b = 1) (hk : k ≤ 7) : IntKind.i64.wrap (b * 2 ^ ((k : Int)).toNat) = b * 2 ^ k := by
  have hp := pow7 hk
  have hp0 : (0 : Int) < 2 ^ k := Int.pow_pos (by decide)
  rw [Int.toNat_natCast]
  exact IntWalk.i64_in _ (by rcases hb with e | e <;> rw [e] <;> omega)
set_option maxHeartbeats 4000000 in
set_option maxRecDepth 100000 in
theorem lawsGet_ans (xs : List Int) (x : Int) (v : Value) (w : World) (hv : RdsW w v 1 xs.length (xs.map (Value.int .i64))) (hlen : xs.length ≤ 1000000000) :
  Calls Try.prog 26 #[v, .int .i64 x] w (Ans w (.int .i64 (getI xs x))) := by
 refine calls_hc (N := 17) (args := [v, .int .i64 x]) Try.func26 rfl rfl ?_
 refine hc_less _ (sx 0 rfl (sx 1 rfl (sub_nil _))) (.refl _) ?_
 refine hc_seq ?_
 refine hc_region ?_
 refine hl_v rfl rfl rfl (rv_ev rfl) ?_
 refine hl_less (sx 0 rfl (sx 1 rfl (sx 4 rfl (sub_nil _)))) (.refl _) ?_
 refine hl_nil ?_
 refine hq_then ?_
 refine hc_seq ?_
 refine hc_seq ?_
 refine hc_region ?_
 refine hl_v rfl rfl rfl (rv_ev rfl) ?_
 refine hl_lss rfl rfl rfl rfl rfl rfl (fun h1 => ?_) (fun h1 => ?_)
 ·
  refine hl_v rfl rfl rfl (rv_ev rfl) ?_
  refine hl_skip rfl rfl rfl ?_
  refine hl_skip rfl rfl rfl ?_
  refine hl_skip rfl rfl rfl ?_
  refine hl_skip rfl rfl rfl ?_
  refine hl_v rfl rfl rfl (rv_ev rfl) ?_
  refine hl_less (sx 0 rfl (sx 1 rfl (sx 4 rfl (sx 12 rfl (sub_nil _))))) (.refl _) ?_
  refine hl_nil ?_
  refine hq_then ?_
  refine hc_true rfl ?_
  refine hc_seq ?_
  refine hc_region ?_
  refine hl_v rfl rfl rfl (rv_ev rfl) ?_
  refine hl_less (sx 0 rfl (sx 1 rfl (sx 4 rfl (sx 12 rfl (sub_nil _))))) (.refl _) ?_
  refine hl_nil ?_
  refine hq_then ?_
  refine hc_ret ?_
  refine hq_then_ret ?_
  exact hq_ans rfl rfl (by unfold getI; rw [if_neg (by omega)])
 ·
  refine hl_v rfl rfl rfl (rv_ev rfl) ?_
  refine hl_v rfl rfl rfl (rv_ev rfl) ?_
  refine hl_v rfl rfl rfl (rv_ev rfl) ?_
  refine hl_v rfl rfl rfl (rv_len rfl Try.underlying26 rfl (rd_old hv)) ?_
  refine hl_geq rfl rfl rfl rfl rfl rfl (fun h2 => ?_) (fun h2 => ?_)
  ·
   refine hl_v rfl rfl rfl (rv_ev rfl) ?_
   refine hl_less (sx 0 rfl (sx 1 rfl (sx 4 rfl (sx 12 rfl (sub_nil _))))) (.refl _) ?_
   refine hl_nil ?_
   refine hq_then ?_
   refine hc_true rfl ?_
   refine hc_seq ?_
   refine hc_region ?_
   refine hl_v rfl rfl rfl (rv_ev rfl) ?_
   refine hl_less (sx 0 rfl (sx 1 rfl (sx 4 rfl (sx 12 rfl (sub_nil _))))) (.refl _) ?_
   refine hl_nil ?_
   refine hq_then ?_
   refine hc_ret ?_
   refine hq_then_ret ?_
   exact hq_ans rfl rfl (by unfold getI; rw [if_neg (by omega)])
  ·
   refine hl_v rfl rfl rfl (rv_ev rfl) ?_
   refine hl_less (sx 0 rfl (sx 1 rfl (sx 4 rfl (sx 12 rfl (sub_nil _))))) (.refl _) ?_
   refine hl_nil ?_
   refine hq_then ?_
   refine hc_false rfl ?_
   refine hc_skip ?_
   refine hq_then ?_
   refine hc_seq ?_
   refine hc_region ?_
   refine hl_v rfl rfl rfl (rv_ev rfl) ?_
   refine hl_v rfl rfl rfl (rv_ev rfl) ?_
   refine hl_v rfl rfl rfl (rv_index (s := 1) rfl Try.underlying26 (by kernel_rfl) rfl rfl (rd_old hv) (by omega) (by first | omega | (simp only [List.length_set]; omega))) ?_
   refine hl_v rfl rfl rfl (rv_loadEl (u := .int .i64 (xs.getD ((x).toNat) 0)) rfl (by kernel_rfl) rfl (rd_old hv) (ints_at1 (show _ < xs.length by first | omega | (simp only [List.length_set]; omega)))) ?_
   refine hl_v rfl rfl rfl (rv_ev rfl) ?_
   refine hl_less (sx 0 rfl (sx 1 rfl (sx 4 rfl (sx 12 rfl (sub_nil _))))) (.refl _) ?_
   refine hl_nil ?_
   refine hq_then ?_
   refine hc_ret ?_
   exact hq_ans rfl rfl (by unfold getI; rw [if_pos (by omega)])
set_option maxHeartbeats 4000000 in
set_option maxRecDepth 100000 in
theorem walk_FnSolveLit (a0 : Option Addr) (len0 cap0 : Nat) (z0 : List Int) (w : World) (hbr : BRow .u8 w a0 len0 cap0 z0) :
  Calls Try.prog 6 #[.slice a0 len0 cap0] w (Ans w (.bool true)) := by
 have hcd0 := cod_le hbr 0
 have hcd1x := cod_le hbr 1
 refine calls_hc (N := 97) (args := [.slice a0 len0 cap0]) Try.func6 rfl rfl ?_
 refine hc_less _ (sx 0 rfl (sub_nil _)) (.refl _) ?_
 refine hc_seq ?_
 refine hc_region ?_
 refine hl_v rfl rfl rfl (rv_ev rfl) ?_
 refine hl_less (sx 0 rfl (sx 2 rfl (sub_nil _))) (.refl _) ?_
 refine hl_nil ?_
 refine hq_then ?_
 refine hc_seq ?_
 refine hc_seq ?_
 refine hc_region ?_
 refine hl_v rfl rfl rfl (rv_ev rfl) ?_
 refine hl_callV rfl rfl rfl (rq_call (by kernel_rfl) rfl (fun w hm => ret_ans (ans_of (big_any a0 len0 cap0 w (hbr.len_le))))) ?_
 refine hl_bool (fun h1 => ?_) (fun h1 => ?_)
 ·
  have h1p := of_decide_eq_true h1
  refine hl_less (sx 0 rfl (sx 2 rfl (sx 13 rfl (sub_nil _)))) (.refl _) ?_
  refine hl_nil ?_
  refine hq_then ?_
  refine hc_true rfl ?_
  refine hc_seq ?_
  refine hc_region ?_
  refine hl_v rfl rfl rfl (rv_ev rfl) ?_
  refine hl_less (sx 0 rfl (sx 2 rfl (sx 13 rfl (sub_nil _)))) (.refl _) ?_
  refine hl_nil ?_
  refine hq_then ?_
  refine hc_ret ?_
  refine hq_then_ret ?_
  exact hq_ans rfl rfl rfl
 ·
  have h1p := of_decide_eq_false h1
  refine hl_less (sx 0 rfl (sx 2 rfl (sx 13 rfl (sub_nil _)))) (.refl _) ?_
  refine hl_nil ?_
  refine hq_then ?_
  refine hc_false rfl ?_
  refine hc_skip ?_
  refine hq_then ?_
  refine hc_seq ?_
  refine hc_region ?_
  refine hl_v rfl rfl rfl (rv_ev rfl) ?_
  refine hl_q rfl rfl rfl (rq_call (by kernel_rfl) rfl (fun w hm => DrawNode_ret _ _ _ z0 w (hbr.below hm.bel) (by omega))) ?_
  intro v2 p3 hR4
  obtain ⟨n, node, rfl, rfl, ⟨o1n, o2n, o3n⟩, hn, ⟨hnq1, hnq2, hnq3⟩, hnd0, hnd1⟩ := hR4
  have hi0 := hn.i0
  have hi1 := hn.i1
  have hs1 := hn.s1
  have ha1 := hn.a1
  have ho1 := hn.o1
  have hcnt : n.cnt = 1 + n.ins + n.ss.length + n.gs.length := rfl
  have hfst : n.fst = 1 + n.ins + n.ss.length := rfl
  refine hl_v rfl rfl rfl (rv_ev rfl) ?_
  refine hl_v rfl rfl rfl (rv_ev rfl) ?_
  refine hl_v rfl rfl rfl (rv_ev rfl) ?_
  refine hl_box rfl rfl rfl (rq_alloc (z := .agg #[.int .i64 0, .slice none 0 0, .slice none 0 0, .slice none 0 0]) rfl (by kernel_rfl)) ?_
  intro b5
  refine hl_storeBoxN (i := 0) (off := 0) (us := [.int .i64 n.ins, n.sv, n.av, n.ov])  (l' := [boxE b5 #[.int .i64 n.ins, n.sv, n.av, n.ov] 28, ntE n]) rfl rfl rfl (by kernel_rfl) rfl rfl rfl (all_cons rfl (all_cons o1n (all_cons o2n (all_cons o3n all_nil)))) rfl rfl rfl ?_
  refine hl_v rfl rfl rfl (rv_ev rfl) ?_
  refine hl_less (sx 0 rfl (sx 2 rfl (sx 3 rfl (sx 4 rfl (sx 13 rfl (sub_nil _)))))) (.refl _) ?_
  refine hl_nil ?_
  refine hq_then ?_
  refine hc_seq ?_
  refine hc_region ?_
  refine hl_v rfl rfl rfl (rv_ev rfl) ?_
  refine hl_v rfl rfl rfl (rv_mul rfl rfl rfl (by constructor <;> omega)) ?_
  refine hl_v rfl rfl rfl (rv_ev rfl) ?_
  refine hl_callV rfl rfl rfl (rq_call (by kernel_rfl) rfl (fun w hm => ret_ans (at_ans hbr 0 (by omega) w hm))) ?_
  refine hl_v rfl rfl rfl (rv_rem rfl rfl rfl (by constructor <;> omega)) ?_
  refine hl_v rfl rfl rfl (rv_add rfl rfl rfl (by constructor <;> omega)) ?_
  refine hl_v rfl rfl rfl (rv_ev rfl) ?_
  obtain ⟨lit, hlit⟩ : ∃ x, (2 * node) + ((cod z0 len0 0 : Int) % 2) = x := ⟨_, rfl⟩
  rw [hlit]
  have hlt : 0 ≤ lit ∧ lit < 2 * n.cnt := by omega
  have hl2 : lit / 2 = node := by omega
  refine hl_less (sx 0 rfl (sx 2 rfl (sx 3 rfl (sx 4 rfl (sx 5 rfl (sx 13 rfl (sub_nil _))))))) (.refl _) ?_
  refine hl_nil ?_
  refine hq_then ?_
  refine hc_seq ?_
  refine hc_region ?_
  refine hl_v rfl rfl rfl (rv_loadN (cs := [.int .i64 n.ins, n.sv, n.av, n.ov]) rfl (by kernel_rfl) (by kernel_rfl) rfl rfl (box_part 0 rfl 0 rfl)) ?_
  refine hl_v rfl rfl rfl (rv_ev rfl) ?_
  refine hl_q rfl rfl rfl (rq_call (by kernel_rfl) rfl (fun w hm => SolveLit_ret n lit w (nt_rds 1 rfl w hm) hn hlt hnq3 (by show 1 + n.ins + (n.ss.length : Int) ≤ 8; omega))) ?_
  intro v6 p7 hR8
  obtain ⟨cd, u, rs, xs, bs, rfl, rfl, hou, hnc, hsr⟩ := hR8
  have hbl := sres_len hsr
  have hvl9 : (litsL bs bs.length).length = bs.length := litsL_len (Nat.le_refl _)
  refine hl_v rfl rfl rfl (rv_ev rfl) ?_
  refine hl_v rfl rfl rfl (rv_ev rfl) ?_
  refine hl_v rfl rfl rfl (rv_ev rfl) ?_
  refine hl_v rfl rfl rfl (rv_ev rfl) ?_
  refine hl_v rfl rfl rfl (rv_ev rfl) ?_
  refine hl_less (sx 0 rfl (sx 2 rfl (sx 3 rfl (sx 4 rfl (sx 5 rfl (sx 6 rfl (sx 7 rfl (sx 13 rfl (sub_nil _))))))))) (.refl _) ?_
  refine hl_nil ?_
  refine hq_then ?_
  refine hc_seq ?_
  refine hc_seq ?_
  refine hc_region ?_
  refine hl_v rfl rfl rfl (rv_ev rfl) ?_
  refine hl_eql rfl rfl rfl rfl rfl rfl (fun h9 => ?_) (fun h9 => ?_)
  ·
   refine hl_less (sx 0 rfl (sx 2 rfl (sx 3 rfl (sx 4 rfl (sx 5 rfl (sx 6 rfl (sx 7 rfl (sx 13 rfl (sx 32 rfl (sub_nil _)))))))))) (.refl _) ?_
   refine hl_nil ?_
   refine hq_then ?_
   refine hc_true rfl ?_
   refine hc_seq ?_
   refine hc_seq ?_
   refine hc_region ?_
   have hcd1 : cd = 1 := by omega
   rw [hcd1] at hsr
   obtain ⟨hs1, hs2, hs3, hs4⟩ := solve_sat hn hnc hlt.1 hlt.2 hsr
   refine hl_v rfl rfl rfl (rv_ev rfl) ?_
   refine hl_v rfl rfl rfl (rv_len rfl Try.underlying26 rfl (rd_row 0 rfl)) ?_
   refine hl_v rfl rfl rfl (rv_loadN (cs := [.int .i64 n.ins, n.sv, n.av, n.ov]) rfl (by kernel_rfl) (by kernel_rfl) rfl rfl (box_part 1 rfl 0 rfl)) ?_
   refine hl_callV rfl rfl rfl (rq_call (by kernel_rfl) rfl (fun w hm => ret_ans (specNodeCount_yes n w (nt_rds 2 rfl w hm) hn))) ?_
   refine hl_neq rfl rfl rfl rfl rfl rfl (fun h10 => absurd h10 (by omega)) (fun h10 => ?_)
   refine hl_less (sx 0 rfl (sx 2 rfl (sx 3 rfl (sx 4 rfl (sx 5 rfl (sx 6 rfl (sx 7 rfl (sx 13 rfl (sx 32 rfl (sx 37 rfl (sub_nil _))))))))))) (.refl _) ?_
   refine hl_nil ?_
   refine hq_then ?_
   refine hc_false rfl ?_
   refine hc_skip ?_
   refine hq_then ?_
   refine hc_seq ?_
   refine hc_region ?_
   refine hl_v rfl rfl rfl (rv_ev rfl) ?_
   refine hl_less (sx 0 rfl (sx 2 rfl (sx 3 rfl (sx 4 rfl (sx 5 rfl (sx 6 rfl (sx 7 rfl (sx 8 rfl (sx 13 rfl (sx 32 rfl (sx 37 rfl (sub_nil _)))))))))))) (.refl _) ?_
   refine hl_nil ?_
   refine hq_then ?_
   refine hc_seq ?_
   refine hc_seq ?_
   refine hc_region ?_
   refine hl_v rfl rfl rfl (rv_ev rfl) ?_
   refine hl_less (sx 0 rfl (sx 2 rfl (sx 3 rfl (sx 4 rfl (sx 5 rfl (sx 6 rfl (sx 7 rfl (sx 8 rfl (sx 9 rfl (sx 13 rfl (sx 32 rfl (sx 37 rfl (sub_nil _))))))))))))) (.refl _) ?_
   refine hl_nil ?_
   refine hq_then ?_
   refine hc_block ?_
   refine hc_loop2 (α := Nat) (β := Int) (fun k q => [rowE 3 1 u ((litsL bs bs.length).length) ((litsL bs bs.length).map (Value.int .i64)), boxE b5 #[.int .i64 n.ins, n.sv, n.av, n.ov] 28, ntE n]) (fun k q => [(0, .slice a0 len0 cap0), (2, .bool false), (3, .pointer (some ⟨b5, 0, none⟩)), (4, .int .i64 node), (5, .int .i64 lit), (6, .int .i64 cd), (7, u), (8, .int .i64 q), (9, .int .i64 (k : Int)), (13, .bool false), (32, .bool true), (37, .bool false)]) (fun k q => (k : Int) ≤ n.ins + n.ss.length ∧ q = bvB (litsL bs bs.length) k) (fun k q => (n.ins.toNat + n.ss.length) - k) 0 0 ⟨by omega, rfl⟩ (sx 0 rfl (sx 2 rfl (sx 3 rfl (sx 4 rfl (sx 5 rfl (sx 6 rfl (sx 7 rfl (sx 8 rfl (sx 9 rfl (sx 13 rfl (sx 32 rfl (sx 37 rfl (sub_nil _))))))))))))) ((.cons_cons _ (.cons_cons _ (.cons_cons _ .slnil)))) ?_
   intro k q hi11
   obtain ⟨hk, hq⟩ := hi11
   have hbr9 := bv_rng (litsL bs bs.length) k
   have hp9 := pow7 (k := k) (by omega)
   refine hc_seq ?_
   refine hc_seq ?_
   refine hc_region ?_
   refine hl_v rfl rfl rfl (rv_ev rfl) ?_
   refine hl_v rfl rfl rfl (rv_field (k0 := 0) rfl (by kernel_rfl) rfl) ?_
   refine hl_v rfl rfl rfl (rv_load rfl (by kernel_rfl) rfl (box_cell 1 rfl rfl)) ?_
   refine hl_v rfl rfl rfl (rv_field (k0 := 1) rfl (by kernel_rfl) rfl) ?_
   refine hl_v rfl rfl rfl (rv_load rfl (by kernel_rfl) rfl (box_cell 1 rfl rfl)) ?_
   refine hl_v rfl rfl rfl (rv_len rfl Try.underlying24 rfl (fun w hm => (nt_rds 2 rfl w hm).sq)) ?_
   refine hl_v rfl rfl rfl (rv_add rfl rfl rfl (by constructor <;> omega)) ?_
   refine hl_lss rfl rfl rfl rfl rfl rfl (fun h12 => ?_) (fun h12 => ?_)
   ·
    refine hl_less (sx 0 rfl (sx 2 rfl (sx 3 rfl (sx 4 rfl (sx 5 rfl (sx 6 rfl (sx 7 rfl (sx 8 rfl (sx 9 rfl (sx 13 rfl (sx 32 rfl (sx 37 rfl (sx 45 rfl (sub_nil _)))))))))))))) (.refl _) ?_
    refine hl_nil ?_
    refine hq_then ?_
    refine hc_true rfl ?_
    refine hc_skip ?_
    refine hq_then ?_
    refine hc_seq ?_
    refine hc_block ?_
    refine hc_region ?_
    refine hl_v rfl rfl rfl (rv_ev rfl) ?_
    refine hl_v rfl rfl rfl (rv_ev rfl) ?_
    refine hl_v rfl rfl rfl (rv_ev rfl) ?_
    refine hl_v rfl rfl rfl (rv_add rfl rfl rfl (by constructor <;> omega)) ?_
    obtain ⟨e, hme⟩ : ∃ e : Nat, 1 + (k : Int) = (e : Int) := ⟨1 + k, by omega⟩
    rw [hme]
    have he2 : e = 1 + k := by omega
    have hve := hs2 e (by omega)
    have hvm : (litsL bs bs.length).getD e 0 % 2 = 0 ∨ (litsL bs bs.length).getD e 0 % 2 = 1 := by omega
    have hp0 : (0 : Int) < 2 ^ k := Int.pow_pos (by decide)
    refine hl_v rfl rfl rfl (rv_index (s := 1) rfl Try.underlying26 (by kernel_rfl) rfl rfl (rd_row 0 rfl) (by omega) (by first | omega | (simp only [List.length_set]; omega))) ?_
    refine hl_v rfl rfl rfl (rv_loadEl (u := .int .i64 ((litsL bs bs.length).getD e 0)) rfl (by kernel_rfl) rfl (rd_row 0 rfl) (ints_at1 (show _ < (litsL bs bs.length).length by first | omega | (simp only [List.length_set]; omega)))) ?_
    refine hl_v rfl rfl rfl (rv_bits rfl (by decide) rfl rfl (r := ((litsL bs bs.length).getD e 0) % 2) (Bit.and_one _ (by omega) (by omega))) ?_
    refine hl_v rfl rfl rfl (rv_ev rfl) ?_
    refine hl_v rfl rfl rfl (rv_shlG (k := .i64) (kk := .i64) (r := (litsL bs bs.length).getD e 0 % 2 * 2 ^ k) rfl rfl rfl rfl (by omega) (shl_bit hvm (by omega))) ?_
    refine hl_v rfl rfl rfl (rv_add rfl rfl rfl (by rw [hq]; constructor <;> (rcases hvm with e9 | e9 <;> rw [e9] <;> omega))) ?_
    refine hl_v rfl rfl rfl (rv_ev rfl) ?_
    refine hl_less (sx 0 rfl (sx 2 rfl (sx 3 rfl (sx 4 rfl (sx 5 rfl (sx 6 rfl (sx 7 rfl (sx 8 rfl (sx 9 rfl (sx 13 rfl (sx 32 rfl (sx 37 rfl (sx 45 rfl (sub_nil _)))))))))))))) (.refl _) ?_
    refine hl_nil ?_
    refine hq_block_normal ?_
    refine hq_then ?_
    refine hc_region ?_
    refine hl_v rfl rfl rfl (rv_ev rfl) ?_
    refine hl_v rfl rfl rfl (rv_add rfl rfl rfl (by constructor <;> omega)) ?_
    refine hl_v rfl rfl rfl (rv_ev rfl) ?_
    refine hl_less (sx 0 rfl (sx 2 rfl (sx 3 rfl (sx 4 rfl (sx 5 rfl (sx 6 rfl (sx 7 rfl (sx 8 rfl (sx 9 rfl (sx 13 rfl (sx 32 rfl (sx 37 rfl (sx 45 rfl (sub_nil _)))))))))))))) (.refl _) ?_
    refine hl_nil ?_
    exact hq_round2 (k + 1) _ ⟨by omega, by rw [hq, he2]; rfl⟩ (by omega) (sx 0 rfl (sx 2 rfl (sx 3 rfl (sx 4 rfl (sx 5 rfl (sx 6 rfl (sx 7 rfl (sx 8 rfl (sx 9 rfl (sx 13 rfl (sx 32 rfl (sx 37 rfl (sub_nil _))))))))))))) ((.cons_cons _ (.cons_cons _ (.cons_cons _ .slnil))))
   ·
    refine hl_less (sx 0 rfl (sx 2 rfl (sx 3 rfl (sx 4 rfl (sx 5 rfl (sx 6 rfl (sx 7 rfl (sx 8 rfl (sx 9 rfl (sx 13 rfl (sx 32 rfl (sx 37 rfl (sx 45 rfl (sub_nil _)))))))))))))) (.refl _) ?_
    refine hl_nil ?_
    refine hq_then ?_
    refine hc_false rfl ?_
    refine hc_exit ?_
    refine hq_then_exit ?_
    refine hq_then_exit ?_
    refine hq_block_exit ?_
    refine hq_then ?_
    refine hc_seq ?_
    refine hc_region ?_
    have hkK : k = (n.ins.toNat + n.ss.length) := by omega
    have hqB : q = (bvB (litsL bs bs.length) (n.ins.toNat + n.ss.length)) := by rw [hq, hkK]
    subst hqB
    have hbr8 := bv_rng (litsL bs bs.length) (n.ins.toNat + n.ss.length)
    have hp8 := pow7 (k := (n.ins.toNat + n.ss.length)) (by omega)
    refine hl_v rfl rfl rfl (rv_field (k0 := 0) rfl (by kernel_rfl) rfl) ?_
    refine hl_v rfl rfl rfl (rv_load rfl (by kernel_rfl) rfl (box_cell 1 rfl rfl)) ?_
    refine hl_v rfl rfl rfl (rv_field (k0 := 1) rfl (by kernel_rfl) rfl) ?_
    refine hl_v rfl rfl rfl (rv_load rfl (by kernel_rfl) rfl (box_cell 1 rfl rfl)) ?_
    refine hl_v rfl rfl rfl (rv_field (k0 := 2) rfl (by kernel_rfl) rfl) ?_
    refine hl_v rfl rfl rfl (rv_load rfl (by kernel_rfl) rfl (box_cell 1 rfl rfl)) ?_
    refine hl_v rfl rfl rfl (rv_ev rfl) ?_
    refine hl_row rfl rfl rfl (rq_buildSlice (z := .int .i64 0) (s := 1) (cs := ([lit].map (Value.int .i64))) rfl Try.underlying26 (by kernel_rfl) (by decide) rfl (by kernel_rfl) rfl) ?_
    intro g13
    refine hl_v rfl rfl rfl (rv_buildM (cs := #[.int .i64 n.ins, n.sv, n.av, .slice (some ⟨g13, 0, none⟩) 1 1]) rfl rfl (fun w hm => built_netS n.ins n.sv n.av (.slice (some ⟨g13, 0, none⟩) 1 1) (o1n) (o2n) rfl)) ?_
    refine hl_box rfl rfl rfl (rq_alloc (z := .agg #[.int .i64 0, .slice none 0 0, .slice none 0 0, .slice none 0 0]) rfl (by kernel_rfl)) ?_
    intro b14
    refine hl_storeBoxN (i := 0) (off := 0) (us := [.int .i64 n.ins, n.sv, n.av, .slice (some ⟨g13, 0, none⟩) 1 1])  (l' := [boxE b14 #[.int .i64 n.ins, n.sv, n.av, .slice (some ⟨g13, 0, none⟩) 1 1] 28, rowE 3 1 (.slice (some ⟨g13, 0, none⟩) 1 1) 1 ([lit].map (Value.int .i64)), rowE 3 1 u ((litsL bs bs.length).length) ((litsL bs bs.length).map (Value.int .i64)), boxE b5 #[.int .i64 n.ins, n.sv, n.av, n.ov] 28, ntE n]) rfl rfl rfl (by kernel_rfl) rfl rfl rfl (all_cons rfl (all_cons o1n (all_cons o2n (all_cons rfl all_nil)))) rfl rfl rfl ?_
    refine hl_less (sx 0 rfl (sx 2 rfl (sx 3 rfl (sx 4 rfl (sx 5 rfl (sx 6 rfl (sx 7 rfl (sx 8 rfl (sx 9 rfl (sx 10 rfl (sx 13 rfl (sx 32 rfl (sx 37 rfl (sx 45 rfl (sub_nil _))))))))))))))) (.refl _) ?_
    refine hl_nil ?_
    refine hq_then ?_
    refine hc_seq ?_
    refine hc_region ?_
    refine hl_v rfl rfl rfl (rv_loadN (cs := [.int .i64 n.ins, n.sv, n.av, .slice (some ⟨g13, 0, none⟩) 1 1]) rfl (by kernel_rfl) (by kernel_rfl) rfl rfl (box_part 0 rfl 0 rfl)) ?_
    refine hl_v rfl rfl rfl (rv_ev rfl) ?_
    refine hl_q rfl rfl rfl (rq_call (by kernel_rfl) rfl (fun w hm => RootValues_ret (outN n (.slice (some ⟨g13, 0, none⟩) 1 1) lit) (bvB (litsL bs bs.length) (n.ins.toNat + n.ss.length)) w ⟨(nt_rds (n := n) 4 rfl w hm).sq, (nt_rds (n := n) 4 rfl w hm).xs, (nt_rds (n := n) 4 rfl w hm).an, rd_row 1 rfl w hm⟩ (outN_ok hn hlt _) (by omega))) ?_
    intro v15 p16 hR17
    subst hR17
    refine hl_callV rfl rfl rfl (rq_call (by kernel_rfl) rfl (fun w hm => ret_ans (by have h9 := lawsGet_ans (rvL (outN n (.slice (some ⟨g13, 0, none⟩) 1 1) lit) (bvB (litsL bs bs.length) (n.ins.toNat + n.ss.length)) (rtsL (outN n (.slice (some ⟨g13, 0, none⟩) 1 1) lit) (outN n (.slice (some ⟨g13, 0, none⟩) 1 1) lit).ss.length).length) 0 _ w ((rd_row 0 rfl) w hm) (by have := rvL_le (outN_ok hn hlt (.slice (some ⟨g13, 0, none⟩) 1 1)) (bvB (litsL bs bs.length) (n.ins.toNat + n.ss.length)) (rtsL (outN n (.slice (some ⟨g13, 0, none⟩) 1 1) lit) (outN n (.slice (some ⟨g13, 0, none⟩) 1 1) lit).ss.length).length; omega); rw [root_one, hs4] at h9; exact h9))) ?_
    refine hl_eql rfl rfl rfl rfl rfl rfl (fun h18 => ?_) (fun h18 => absurd h18 (by omega))
    refine hl_v rfl rfl rfl (rv_ev rfl) ?_
    refine hl_v rfl rfl rfl (rv_ev rfl) ?_
    refine hl_v rfl rfl rfl (rv_ev rfl) ?_
    refine hl_callV rfl rfl rfl (rq_call (by kernel_rfl) rfl (fun w hm => ret_ans (by have h9 := impLitValue_ans (litsL bs bs.length) lit _ w ((rd_row 3 rfl) w hm) (by omega) (hs2 _ (by omega)) (by omega); rw [hs3] at h9; exact h9))) ?_
    refine hl_eql rfl rfl rfl rfl rfl rfl (fun h19 => ?_) (fun h19 => absurd h19 (by omega))
    refine hl_v rfl rfl rfl (rv_ev rfl) ?_
    refine hl_v rfl rfl rfl (rv_ev rfl) ?_
    refine hl_less (sx 0 rfl (sx 2 rfl (sx 3 rfl (sx 4 rfl (sx 5 rfl (sx 6 rfl (sx 7 rfl (sx 8 rfl (sx 9 rfl (sx 10 rfl (sx 13 rfl (sx 32 rfl (sx 37 rfl (sx 45 rfl (sub_nil _))))))))))))))) (.refl _) ?_
    refine hl_nil ?_
    refine hq_then ?_
    refine hc_ret ?_
    refine hq_then_ret ?_
    exact hq_ans rfl rfl rfl
  ·
   refine hl_less (sx 0 rfl (sx 2 rfl (sx 3 rfl (sx 4 rfl (sx 5 rfl (sx 6 rfl (sx 7 rfl (sx 13 rfl (sx 32 rfl (sub_nil _)))))))))) (.refl _) ?_
   refine hl_nil ?_
   refine hq_then ?_
   refine hc_false rfl ?_
   refine hc_skip ?_
   refine hq_then ?_
   refine hc_seq ?_
   refine hc_region ?_
   refine hl_v rfl rfl rfl (rv_field (k0 := 0) rfl (by kernel_rfl) rfl) ?_
   refine hl_v rfl rfl rfl (rv_load rfl (by kernel_rfl) rfl (box_cell 1 rfl rfl)) ?_
   refine hl_v rfl rfl rfl (rv_field (k0 := 1) rfl (by kernel_rfl) rfl) ?_
   refine hl_v rfl rfl rfl (rv_load rfl (by kernel_rfl) rfl (box_cell 1 rfl rfl)) ?_
   refine hl_v rfl rfl rfl (rv_field (k0 := 2) rfl (by kernel_rfl) rfl) ?_
   refine hl_v rfl rfl rfl (rv_load rfl (by kernel_rfl) rfl (box_cell 1 rfl rfl)) ?_
   refine hl_v rfl rfl rfl (rv_ev rfl) ?_
   refine hl_row rfl rfl rfl (rq_buildSlice (z := .int .i64 0) (s := 1) (cs := ([lit].map (Value.int .i64))) rfl Try.underlying26 (by kernel_rfl) (by decide) rfl (by kernel_rfl) rfl) ?_
   intro g20
   refine hl_v rfl rfl rfl (rv_buildM (cs := #[.int .i64 n.ins, n.sv, n.av, .slice (some ⟨g20, 0, none⟩) 1 1]) rfl rfl (fun w hm => built_netS n.ins n.sv n.av (.slice (some ⟨g20, 0, none⟩) 1 1) (o1n) (o2n) rfl)) ?_
   refine hl_box rfl rfl rfl (rq_alloc (z := .agg #[.int .i64 0, .slice none 0 0, .slice none 0 0, .slice none 0 0]) rfl (by kernel_rfl)) ?_
   intro b21
   refine hl_storeBoxN (i := 0) (off := 0) (us := [.int .i64 n.ins, n.sv, n.av, .slice (some ⟨g20, 0, none⟩) 1 1])  (l' := [boxE b21 #[.int .i64 n.ins, n.sv, n.av, .slice (some ⟨g20, 0, none⟩) 1 1] 28, rowE 3 1 (.slice (some ⟨g20, 0, none⟩) 1 1) 1 ([lit].map (Value.int .i64)), rowE 3 1 u ((litsL bs bs.length).length) ((litsL bs bs.length).map (Value.int .i64)), boxE b5 #[.int .i64 n.ins, n.sv, n.av, n.ov] 28, ntE n]) rfl rfl rfl (by kernel_rfl) rfl rfl rfl (all_cons rfl (all_cons o1n (all_cons o2n (all_cons rfl all_nil)))) rfl rfl rfl ?_
   refine hl_less (sx 0 rfl (sx 2 rfl (sx 3 rfl (sx 4 rfl (sx 5 rfl (sx 6 rfl (sx 7 rfl (sx 11 rfl (sx 13 rfl (sx 32 rfl (sub_nil _))))))))))) (.refl _) ?_
   refine hl_nil ?_
   refine hq_then ?_
   refine hc_seq ?_
   obtain ⟨hcd2, hb0⟩ := solve_unsat hn hnc hlt.1 hlt.2 hsr (by omega) (cod z0 len0 1 : Int)
   have hb22 : (cd == 2) = true := beq_iff_eq.2 (by omega)
   have hb26 : (0 == 0) = true := beq_iff_eq.2 (by omega)
   refine hc_draw (by kernel_rfl) 10 [0, 1, 2, 3, 4, 5, 6, 7, 8, 9] (List.take 10 _) (List.drop 10 _) [[], [0], [1], [2], [2], [2, 4], [2, 3, 5], [2, 6], [2, 6, 7], [2, 8]] [87, 88, 89, 90, 91, 92, 93, 94, 95, 96] (fun i_ vs_ v_ p_ => match i_ with | 0 => v_ = .int .i64 cd ∧ p_ = [] | 1 => v_ = .bool true ∧ p_ = [] | 2 => v_ = .bool true ∧ p_ = [] | 3 => v_ = .agg #[.int .i64 n.ins, n.sv, n.av, .slice (some ⟨g20, 0, none⟩) 1 1] ∧ p_ = [] | 4 => v_ = .slice a0 len0 cap0 ∧ p_ = [] | 5 => v_ = .int .i64 (cod z0 len0 1 : Int) ∧ p_ = [] | 6 => (fun v' post => post = [rowE 3 1 v' ((rvL (outN n (.slice (some ⟨g20, 0, none⟩) 1 1) lit) (cod z0 len0 1 : Int) (rtsL (outN n (.slice (some ⟨g20, 0, none⟩) 1 1) lit) (outN n (.slice (some ⟨g20, 0, none⟩) 1 1) lit).ss.length).length)).length (((rvL (outN n (.slice (some ⟨g20, 0, none⟩) 1 1) lit) (cod z0 len0 1 : Int) (rtsL (outN n (.slice (some ⟨g20, 0, none⟩) 1 1) lit) (outN n (.slice (some ⟨g20, 0, none⟩) 1 1) lit).ss.length).length)).map (Value.int .i64))]) v_ p_ | 7 => v_ = .int .i64 0 ∧ p_ = [] | 8 => v_ = .bool true ∧ p_ = [] | 9 => v_ = .bool true ∧ p_ = [] | _ => True) (List.take_append_drop 10 _).symm (by kernel_rfl) (by kernel_rfl) rfl rfl ?_ ?_
   ·
    refine ⟨?_, ?_, ?_, ?_, ?_, ?_, ?_, ?_, ?_, ?_, trivial⟩
    ·
     intro vf pf hR
     refine Or.inl ⟨rfl, ?_⟩
     refine rq_less (sx 6 rfl (sub_nil _)) (List.sublist_append_right _ _) ?_
     exact rq_v (rv_ev rfl)
    ·
     intro vf pf hR
     have e0 : (vf 0) = .int .i64 cd ∧ (pf 0) = [] := hR 0 (by decide)
     refine Or.inl ⟨rfl, ?_⟩
     refine rq_less (sx 87 (congrArg some e0.1) (sub_nil _)) (List.sublist_append_right _ _) ?_
     exact rq_mono (rq_v (rv_cmp rfl rfl rfl rfl)) (fun _ _ h => ⟨h.1.trans (congrArg Value.bool hb22), h.2⟩)
    ·
     intro vf pf hR
     have e1 : (vf 1) = .bool true ∧ (pf 1) = [] := hR 1 (by decide)
     refine Or.inl ⟨rfl, ?_⟩
     refine rq_less (sx 88 (congrArg some e1.1) (sub_nil _)) (List.sublist_append_right _ _) ?_
     exact rq_v (rv_ev rfl)
    ·
     intro vf pf hR
     have e2 : (vf 2) = .bool true ∧ (pf 2) = [] := hR 2 (by decide)
     refine Or.inl ⟨want_of (congrArg some e2.1) rfl, ?_⟩
     refine rq_less (sx 11 rfl (sub_nil _)) (List.sublist_append_right _ _) ?_
     exact rq_v (rv_loadN (cs := [.int .i64 n.ins, n.sv, n.av, .slice (some ⟨g20, 0, none⟩) 1 1]) rfl (by kernel_rfl) (by kernel_rfl) rfl rfl (box_part 0 rfl 0 rfl))
    ·
     intro vf pf hR
     have e2 : (vf 2) = .bool true ∧ (pf 2) = [] := hR 2 (by decide)
     refine Or.inl ⟨want_of (congrArg some e2.1) rfl, ?_⟩
     refine rq_less (sx 0 rfl (sub_nil _)) (List.sublist_append_right _ _) ?_
     exact rq_v (rv_ev rfl)
    ·
     intro vf pf hR
     have e2 : (vf 2) = .bool true ∧ (pf 2) = [] := hR 2 (by decide)
     have e4 : (vf 4) = .slice a0 len0 cap0 ∧ (pf 4) = [] := hR 4 (by decide)
     refine Or.inl ⟨want_of (congrArg some e2.1) rfl, ?_⟩
     refine rq_less (sx 91 (congrArg some e4.1) (sub_nil _)) (List.sublist_append_right _ _) ?_
     exact (rq_call (by kernel_rfl) rfl (fun w hm => ret_ans (at_ans hbr 1 (by omega) w hm)))
    ·
     intro vf pf hR
     have e2 : (vf 2) = .bool true ∧ (pf 2) = [] := hR 2 (by decide)
     have e3 : (vf 3) = .agg #[.int .i64 n.ins, n.sv, n.av, .slice (some ⟨g20, 0, none⟩) 1 1] ∧ (pf 3) = [] := hR 3 (by decide)
     have e5 : (vf 5) = .int .i64 (cod z0 len0 1 : Int) ∧ (pf 5) = [] := hR 5 (by decide)
     refine Or.inl ⟨want_of (congrArg some e2.1) rfl, ?_⟩
     refine rq_less (sx 90 (congrArg some e3.1) (sx 92 (congrArg some e5.1) (sub_nil _))) (List.sublist_append_right _ _) ?_
     exact rq_call (by kernel_rfl) rfl (fun w hm => RootValues_ret (outN n (.slice (some ⟨g20, 0, none⟩) 1 1) lit) (cod z0 len0 1 : Int) w ⟨(nt_rds (n := n) 4 rfl w hm).sq, (nt_rds (n := n) 4 rfl w hm).xs, (nt_rds (n := n) 4 rfl w hm).an, rd_row 1 rfl w hm⟩ (outN_ok hn hlt _) (by omega))
    ·
     intro vf pf hR
     have e2 : (vf 2) = .bool true ∧ (pf 2) = [] := hR 2 (by decide)
     have e6 : (fun v' post => post = [rowE 3 1 v' ((rvL (outN n (.slice (some ⟨g20, 0, none⟩) 1 1) lit) (cod z0 len0 1 : Int) (rtsL (outN n (.slice (some ⟨g20, 0, none⟩) 1 1) lit) (outN n (.slice (some ⟨g20, 0, none⟩) 1 1) lit).ss.length).length)).length (((rvL (outN n (.slice (some ⟨g20, 0, none⟩) 1 1) lit) (cod z0 len0 1 : Int) (rtsL (outN n (.slice (some ⟨g20, 0, none⟩) 1 1) lit) (outN n (.slice (some ⟨g20, 0, none⟩) 1 1) lit).ss.length).length)).map (Value.int .i64))]) (vf 6) (pf 6) := hR 6 (by decide)
     obtain ⟨v23, v6⟩ : ∃ x, vf 6 = x := ⟨_, rfl⟩
     obtain ⟨p24, p6⟩ : ∃ x, pf 6 = x := ⟨_, rfl⟩
     have hR25 := e6
     rw [v6, p6] at hR25
     subst hR25
     refine Or.inl ⟨want_of (congrArg some e2.1) rfl, ?_⟩
     refine rq_less (l' := [rowE 3 1 v23 ((rvL (outN n (.slice (some ⟨g20, 0, none⟩) 1 1) lit) (cod z0 len0 1 : Int) (rtsL (outN n (.slice (some ⟨g20, 0, none⟩) 1 1) lit) (outN n (.slice (some ⟨g20, 0, none⟩) 1 1) lit).ss.length).length).length) ((rvL (outN n (.slice (some ⟨g20, 0, none⟩) 1 1) lit) (cod z0 len0 1 : Int) (rtsL (outN n (.slice (some ⟨g20, 0, none⟩) 1 1) lit) (outN n (.slice (some ⟨g20, 0, none⟩) 1 1) lit).ss.length).length).map (Value.int .i64)), boxE b21 #[.int .i64 n.ins, n.sv, n.av, .slice (some ⟨g20, 0, none⟩) 1 1] 28, rowE 3 1 (.slice (some ⟨g20, 0, none⟩) 1 1) 1 ([lit].map (Value.int .i64)), rowE 3 1 u ((litsL bs bs.length).length) ((litsL bs bs.length).map (Value.int .i64)), boxE b5 #[.int .i64 n.ins, n.sv, n.av, n.ov] 28, ntE n]) (sx 93 (congrArg some v6) (sub_nil _)) (by first | (simp only [p6, v6, e2.2, List.flatMap_cons, List.flatMap_nil, List.append_nil, List.nil_append, List.cons_append]; exact List.Sublist.refl _) | simp [p6, v6, e2.2]) ?_
     exact (rq_call (by kernel_rfl) rfl (fun w hm => ret_ans (by have h9 := lawsGet_ans (rvL (outN n (.slice (some ⟨g20, 0, none⟩) 1 1) lit) (cod z0 len0 1 : Int) (rtsL (outN n (.slice (some ⟨g20, 0, none⟩) 1 1) lit) (outN n (.slice (some ⟨g20, 0, none⟩) 1 1) lit).ss.length).length) 0 _ w ((rd_row 0 rfl) w hm) (by have := rvL_le (outN_ok hn hlt (.slice (some ⟨g20, 0, none⟩) 1 1)) (cod z0 len0 1 : Int) (rtsL (outN n (.slice (some ⟨g20, 0, none⟩) 1 1) lit) (outN n (.slice (some ⟨g20, 0, none⟩) 1 1) lit).ss.length).length; omega); rw [root_one, hb0] at h9; exact h9)))
    ·
     intro vf pf hR
     have e2 : (vf 2) = .bool true ∧ (pf 2) = [] := hR 2 (by decide)
     have e6 : (fun v' post => post = [rowE 3 1 v' ((rvL (outN n (.slice (some ⟨g20, 0, none⟩) 1 1) lit) (cod z0 len0 1 : Int) (rtsL (outN n (.slice (some ⟨g20, 0, none⟩) 1 1) lit) (outN n (.slice (some ⟨g20, 0, none⟩) 1 1) lit).ss.length).length)).length (((rvL (outN n (.slice (some ⟨g20, 0, none⟩) 1 1) lit) (cod z0 len0 1 : Int) (rtsL (outN n (.slice (some ⟨g20, 0, none⟩) 1 1) lit) (outN n (.slice (some ⟨g20, 0, none⟩) 1 1) lit).ss.length).length)).map (Value.int .i64))]) (vf 6) (pf 6) := hR 6 (by decide)
     obtain ⟨v23, v6⟩ : ∃ x, vf 6 = x := ⟨_, rfl⟩
     obtain ⟨p24, p6⟩ : ∃ x, pf 6 = x := ⟨_, rfl⟩
     have hR25 := e6
     rw [v6, p6] at hR25
     subst hR25
     have e7 : (vf 7) = .int .i64 0 ∧ (pf 7) = [] := hR 7 (by decide)
     refine Or.inl ⟨want_of (congrArg some e2.1) rfl, ?_⟩
     refine rq_less (l' := [rowE 3 1 v23 ((rvL (outN n (.slice (some ⟨g20, 0, none⟩) 1 1) lit) (cod z0 len0 1 : Int) (rtsL (outN n (.slice (some ⟨g20, 0, none⟩) 1 1) lit) (outN n (.slice (some ⟨g20, 0, none⟩) 1 1) lit).ss.length).length).length) ((rvL (outN n (.slice (some ⟨g20, 0, none⟩) 1 1) lit) (cod z0 len0 1 : Int) (rtsL (outN n (.slice (some ⟨g20, 0, none⟩) 1 1) lit) (outN n (.slice (some ⟨g20, 0, none⟩) 1 1) lit).ss.length).length).map (Value.int .i64)), boxE b21 #[.int .i64 n.ins, n.sv, n.av, .slice (some ⟨g20, 0, none⟩) 1 1] 28, rowE 3 1 (.slice (some ⟨g20, 0, none⟩) 1 1) 1 ([lit].map (Value.int .i64)), rowE 3 1 u ((litsL bs bs.length).length) ((litsL bs bs.length).map (Value.int .i64)), boxE b5 #[.int .i64 n.ins, n.sv, n.av, n.ov] 28, ntE n]) (sx 94 (congrArg some e7.1) (sub_nil _)) (by first | (simp only [p6, v6, e2.2, e7.2, List.flatMap_cons, List.flatMap_nil, List.append_nil, List.nil_append, List.cons_append]; exact List.Sublist.refl _) | simp [p6, v6, e2.2, e7.2]) ?_
     exact rq_mono (rq_v (rv_cmp rfl rfl rfl rfl)) (fun _ _ h => ⟨h.1.trans (congrArg Value.bool hb26), h.2⟩)
    ·
     intro vf pf hR
     have e2 : (vf 2) = .bool true ∧ (pf 2) = [] := hR 2 (by decide)
     have e8 : (vf 8) = .bool true ∧ (pf 8) = [] := hR 8 (by decide)
     refine Or.inl ⟨rfl, ?_⟩
     refine rq_less (sx 89 (congrArg some e2.1) (sx 95 (congrArg some e8.1) (sub_nil _))) (List.sublist_append_right _ _) ?_
     exact rq_v (rv_ev rfl)
   ·
    intro vf pf hR
    have e6 : (fun v' post => post = [rowE 3 1 v' ((rvL (outN n (.slice (some ⟨g20, 0, none⟩) 1 1) lit) (cod z0 len0 1 : Int) (rtsL (outN n (.slice (some ⟨g20, 0, none⟩) 1 1) lit) (outN n (.slice (some ⟨g20, 0, none⟩) 1 1) lit).ss.length).length)).length (((rvL (outN n (.slice (some ⟨g20, 0, none⟩) 1 1) lit) (cod z0 len0 1 : Int) (rtsL (outN n (.slice (some ⟨g20, 0, none⟩) 1 1) lit) (outN n (.slice (some ⟨g20, 0, none⟩) 1 1) lit).ss.length).length)).map (Value.int .i64))]) (vf 6) (pf 6) := hR 6 (by decide)
    obtain ⟨v23, v6⟩ : ∃ x, vf 6 = x := ⟨_, rfl⟩
    obtain ⟨p24, p6⟩ : ∃ x, pf 6 = x := ⟨_, rfl⟩
    have hR25 := e6
    rw [v6, p6] at hR25
    subst hR25
    have e9 : (vf 9) = .bool true ∧ (pf 9) = [] := hR 9 (by decide)
    have q0 : (vf 0) = .int .i64 cd ∧ (pf 0) = [] := hR 0 (by decide)
    have q1 : (vf 1) = .bool true ∧ (pf 1) = [] := hR 1 (by decide)
    have q2 : (vf 2) = .bool true ∧ (pf 2) = [] := hR 2 (by decide)
    have q3 : (vf 3) = .agg #[.int .i64 n.ins, n.sv, n.av, .slice (some ⟨g20, 0, none⟩) 1 1] ∧ (pf 3) = [] := hR 3 (by decide)
    have q4 : (vf 4) = .slice a0 len0 cap0 ∧ (pf 4) = [] := hR 4 (by decide)
    have q5 : (vf 5) = .int .i64 (cod z0 len0 1 : Int) ∧ (pf 5) = [] := hR 5 (by decide)
    have q7 : (vf 7) = .int .i64 0 ∧ (pf 7) = [] := hR 7 (by decide)
    have q8 : (vf 8) = .bool true ∧ (pf 8) = [] := hR 8 (by decide)
    have q9 : (vf 9) = .bool true ∧ (pf 9) = [] := hR 9 (by decide)
    refine hl_less (l' := [rowE 3 1 v23 ((rvL (outN n (.slice (some ⟨g20, 0, none⟩) 1 1) lit) (cod z0 len0 1 : Int) (rtsL (outN n (.slice (some ⟨g20, 0, none⟩) 1 1) lit) (outN n (.slice (some ⟨g20, 0, none⟩) 1 1) lit).ss.length).length).length) ((rvL (outN n (.slice (some ⟨g20, 0, none⟩) 1 1) lit) (cod z0 len0 1 : Int) (rtsL (outN n (.slice (some ⟨g20, 0, none⟩) 1 1) lit) (outN n (.slice (some ⟨g20, 0, none⟩) 1 1) lit).ss.length).length).map (Value.int .i64)), boxE b21 #[.int .i64 n.ins, n.sv, n.av, .slice (some ⟨g20, 0, none⟩) 1 1] 28, rowE 3 1 (.slice (some ⟨g20, 0, none⟩) 1 1) 1 ([lit].map (Value.int .i64)), rowE 3 1 u ((litsL bs bs.length).length) ((litsL bs bs.length).map (Value.int .i64)), boxE b5 #[.int .i64 n.ins, n.sv, n.av, n.ov] 28, ntE n]) (sx 0 rfl (sx 2 rfl (sx 3 rfl (sx 4 rfl (sx 5 rfl (sx 6 rfl (sx 7 rfl (sx 11 rfl (sx 13 rfl (sx 32 rfl (sx 96 (congrArg some e9.1) (sub_nil _)))))))))))) (by first | (simp only [p6, v6, q0.2, q1.2, q2.2, q3.2, q4.2, q5.2, q7.2, q8.2, q9.2, List.flatMap_cons, List.flatMap_nil, List.append_nil, List.nil_append, List.cons_append]; exact List.Sublist.refl _) | simp [p6, v6, q0.2, q1.2, q2.2, q3.2, q4.2, q5.2, q7.2, q8.2, q9.2]) ?_
    simp only [List.drop_succ_cons, List.drop_zero]
    refine hl_v rfl rfl rfl (rv_ev rfl) ?_
    refine hl_less (sx 0 rfl (sx 2 rfl (sx 3 rfl (sx 4 rfl (sx 5 rfl (sx 6 rfl (sx 7 rfl (sx 11 rfl (sx 13 rfl (sx 32 rfl (sub_nil _))))))))))) (.refl _) ?_
    refine hl_nil ?_
    refine hq_then ?_
    refine hc_ret ?_
    exact hq_ans rfl rfl rfl
end Go.Proofs.Ytakbbebpimlnpaa
