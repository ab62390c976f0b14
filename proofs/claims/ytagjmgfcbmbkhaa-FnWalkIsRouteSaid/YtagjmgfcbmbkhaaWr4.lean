/- Texts of the law FnWalkIsRoute, part 4: what it uses. -/
import Derived.Test.YtagjmgfcbmbkhaaWr3
set_option linter.unusedVariables false
set_option linter.unusedSimpArgs false
namespace Go.Proofs.Ytagjmgfcbmbkhaa
open Go.RowKit Go.ChangeShapes
open Go.RowKit
open Go.Maps
set_option maxHeartbeats 4000000 in
set_option maxRecDepth 100000 in
theorem walk_FnWalkIsRoute (a0 : Option Addr) (len0 cap0 : Nat) (z0 : List Int) (w : World) (hbr : BRow .u8 w a0 len0 cap0 z0) :
  Calls Try.prog 3 #[.slice a0 len0 cap0] w (Ans w (.bool true)) := by
 have hcd0 := cod_le hbr 0
 refine calls_hc (N := 126) (args := [.slice a0 len0 cap0]) Try.func3 rfl rfl ?_
 refine hc_less _ (sx 0 rfl (sub_nil _)) (.refl _) ?_
 refine hc_seq ?_
 refine hc_region ?_
 refine hl_v rfl rfl rfl (rv_ev rfl) ?_
 refine hl_less (sx 0 rfl (sx 2 rfl (sub_nil _))) (.refl _) ?_
 refine hl_nil ?_
 refine hq_then ?_
 refine hc_seq ?_
 refine hc_seq ?_
 refine hc_region ?_
 refine hl_v rfl rfl rfl (rv_ev rfl) ?_
 refine hl_callV rfl rfl rfl (rq_call (by kernel_rfl) rfl (fun w hm => ret_ans (ans_of (big_any a0 len0 cap0 w (hbr.len_le))))) ?_
 refine hl_bool (fun h1 => ?_) (fun h1 => ?_)
 ·
  have h1p := of_decide_eq_true h1
  refine hl_less (sx 0 rfl (sx 2 rfl (sx 12 rfl (sub_nil _)))) (.refl _) ?_
  refine hl_nil ?_
  refine hq_then ?_
  refine hc_true rfl ?_
  refine hc_seq ?_
  refine hc_region ?_
  refine hl_v rfl rfl rfl (rv_ev rfl) ?_
  refine hl_less (sx 0 rfl (sx 2 rfl (sx 12 rfl (sub_nil _)))) (.refl _) ?_
  refine hl_nil ?_
  refine hq_then ?_
  refine hc_ret ?_
  refine hq_then_ret ?_
  exact hq_ans rfl rfl rfl
 ·
  have h1p := of_decide_eq_false h1
  refine hl_less (sx 0 rfl (sx 2 rfl (sx 12 rfl (sub_nil _)))) (.refl _) ?_
  refine hl_nil ?_
  refine hq_then ?_
  refine hc_false rfl ?_
  refine hc_skip ?_
  refine hq_then ?_
  refine hc_seq ?_
  refine hc_region ?_
  refine hl_v rfl rfl rfl (rv_ev rfl) ?_
  refine hl_q rfl rfl rfl (rq_call (by kernel_rfl) rfl (fun w hm => DrawWalk_ret _ _ _ z0 w (hbr.below hm.bel) (by omega))) ?_
  intro v2 p3 hR4
  obtain ⟨d, s0, r, sv, ks, hdr, ⟨t, ⟨ht0, ht1⟩, hst⟩, rfl, rfl, ⟨o1r, o2r, o3r⟩, htr⟩ := hR4
  have hd := hdr.ok
  obtain ⟨dr1, dr2, dr3, dr4, dr5, dr6, -⟩ := id hdr
  have har : 0 ≤ (d.W - 1) * (d.H - 1) ∧ 0 ≤ (5 - d.W) * d.H := ⟨Int.mul_nonneg (by omega) (by omega), Int.mul_nonneg (by omega) (by omega)⟩
  have e1 : (d.W - 1) * (d.H - 1) = d.W * d.H - d.W - d.H + 1 := by rw [Int.sub_mul, Int.mul_sub]; omega
  have e2 : (5 - d.W) * d.H = 5 * d.H - d.W * d.H := by rw [Int.sub_mul]
  rw [e1, e2] at har
  obtain ⟨ra1, ra2⟩ := all_rng hd
  obtain ⟨q1, q2⟩ := per_rng hd
  obtain ⟨hs1, hs2, hs3, hs4, hs5⟩ := out0 hd ht0 ht1
  rw [← hst] at hs1 hs2 hs3 hs4 hs5
  have ht1 := htr.len
  have ht2 := htr.l0
  have ht3 := htr.l1
  have hns := htr.nsok (by omega)
  have hk7 : ks.length ≤ 7 := by rw [htr.sinks]; have := List.length_filter_le (fun x => decide (x % perI d < 5)) (r.ns.drop 1); rw [List.length_drop] at this; omega
  have hrt : RtOk d s0 r.ns r.fs ks := ⟨htr, by rw [hst]; exact node_out hd ht0 (by assumption), by omega⟩
  have hwa := wcnt_all hrt hd
  refine hl_v rfl rfl rfl (rv_ev rfl) ?_
  refine hl_v rfl rfl rfl (rv_ev rfl) ?_
  refine hl_v rfl rfl rfl (rv_ev rfl) ?_
  refine hl_v rfl rfl rfl (rv_ev rfl) ?_
  refine hl_v rfl rfl rfl (rv_ev rfl) ?_
  refine hl_box rfl rfl rfl (rq_alloc (z := .agg #[.int .i64 0, .int .i64 0, .int .i64 0, .int .i64 0]) rfl (by kernel_rfl)) ?_
  intro b5
  refine hl_box rfl rfl rfl (rq_alloc (z := .agg #[.slice none 0 0, .slice none 0 0]) rfl (by kernel_rfl)) ?_
  intro b6
  refine hl_storeBoxN (i := 1) (off := 0) (us := [.int .i64 d.W, .int .i64 d.H, .int .i64 d.T, .int .i64 d.R]) (l' := [boxE b6 #[.slice none 0 0, .slice none 0 0] 28, boxE b5 #[.int .i64 d.W, .int .i64 d.H, .int .i64 d.T, .int .i64 d.R] 25, rtE r, rowE 3 1 sv ks.length (ks.map (Value.int .i64))]) rfl rfl rfl (by kernel_rfl) rfl rfl rfl (all_cons rfl (all_cons rfl (all_cons rfl (all_cons rfl all_nil)))) rfl rfl rfl ?_
  refine hl_v rfl rfl rfl (rv_ev rfl) ?_
  refine hl_v rfl rfl rfl (rv_ev rfl) ?_
  refine hl_storeBoxN (i := 0) (off := 0) (us := [r.nv, r.fv]) (l' := [boxE b6 #[r.nv, r.fv] 28, boxE b5 #[.int .i64 d.W, .int .i64 d.H, .int .i64 d.T, .int .i64 d.R] 25, rtE r, rowE 3 1 sv ks.length (ks.map (Value.int .i64))]) rfl rfl rfl (by kernel_rfl) rfl rfl rfl (all_cons o1r (all_cons o2r all_nil)) rfl rfl rfl ?_
  refine hl_less (sx 0 rfl (sx 2 rfl (sx 3 rfl (sx 4 rfl (sx 5 rfl (sx 6 rfl (sx 12 rfl (sub_nil _)))))))) (.refl _) ?_
  refine hl_nil ?_
  refine hq_then ?_
  refine hc_seq ?_
  refine hc_seq ?_
  refine hc_region ?_
  refine hl_v rfl rfl rfl (rv_loadN (cs := [.int .i64 d.W, .int .i64 d.H, .int .i64 d.T, .int .i64 d.R]) rfl (by kernel_rfl) (by kernel_rfl) rfl rfl (box_part 1 rfl 0 rfl)) ?_
  refine hl_v rfl rfl rfl (rv_ev rfl) ?_
  refine hl_v rfl rfl rfl (rv_ev rfl) ?_
  refine hl_v rfl rfl rfl (rv_loadN (cs := [r.nv, r.fv]) rfl (by kernel_rfl) (by kernel_rfl) rfl rfl (box_part 0 rfl 0 rfl)) ?_
  refine hl_callV rfl rfl rfl (rq_call (by kernel_rfl) rfl (fun w hm => ret_ans (RouteOk_ans d s0 r ks ks _ w hd hrt (rt_rds 2 rfl w hm).1 (rt_rds 2 rfl w hm).2 ((rd_row 3 rfl) w hm) (by first | omega | (simp only [List.length_append, List.length_drop, List.length_cons, List.length_nil]; omega)) (rng_of (kSmall hrt hd))))) ?_
  refine hl_bool (fun h7 => ?_) (fun h7 => absurd (((okR_ks hrt)).symm.trans h7) (by decide))
  refine hl_v rfl rfl rfl (rv_ev rfl) ?_
  refine hl_less (sx 0 rfl (sx 2 rfl (sx 3 rfl (sx 4 rfl (sx 5 rfl (sx 6 rfl (sx 12 rfl (sx 25 rfl (sub_nil _))))))))) (.refl _) ?_
  refine hl_nil ?_
  refine hq_then ?_
  refine hc_false rfl ?_
  refine hc_skip ?_
  refine hq_then ?_
  refine hc_seq ?_
  refine hc_draw (by kernel_rfl) 10 [0, 1, 2, 3, 4, 5, 6, 7, 8, 9] (List.take 10 _) (List.drop 10 _) [[], [], [1], [], [3], [], [5], [4, 6], [2, 7], [0, 8]] [26, 27, 28, 29, 30, 31, 32, 33, 34, 35] (fun i_ vs_ v_ p_ => match i_ with | 0 => v_ = .agg #[.int .i64 d.W, .int .i64 d.H, .int .i64 d.T, .int .i64 d.R] ∧ p_ = [] | 1 => v_ = .slice a0 len0 cap0 ∧ p_ = [] | 2 => v_ = .int .i64 (cod z0 len0 0 : Int) ∧ p_ = [] | 3 => v_ = .pointer (some ⟨b5, 0 + 0, none⟩) ∧ p_ = [] | 4 => v_ = .int .i64 d.W ∧ p_ = [] | 5 => v_ = .pointer (some ⟨b5, 0 + 1, none⟩) ∧ p_ = [] | 6 => v_ = .int .i64 d.H ∧ p_ = [] | 7 => v_ = .int .i64 (d.W * d.H) ∧ p_ = [] | 8 => v_ = .int .i64 ((cod z0 len0 0 : Int) % (d.W * d.H)) ∧ p_ = [] | 9 => v_ = .int .i64 (inPinI d ((cod z0 len0 0 : Int) % (d.W * d.H)) 0) ∧ p_ = [] | _ => True) (List.take_append_drop 10 _).symm (by kernel_rfl) (by kernel_rfl) rfl rfl ?_ ?_
  ·
   refine ⟨?_, ?_, ?_, ?_, ?_, ?_, ?_, ?_, ?_, ?_, trivial⟩
   ·
    intro vf pf hR
    refine Or.inl ⟨rfl, ?_⟩
    refine rq_less (sx 3 rfl (sub_nil _)) (List.sublist_append_right _ _) ?_
    exact rq_v (rv_loadN (cs := [.int .i64 d.W, .int .i64 d.H, .int .i64 d.T, .int .i64 d.R]) rfl (by kernel_rfl) (by kernel_rfl) rfl rfl (box_part 1 rfl 0 rfl))
   ·
    intro vf pf hR
    refine Or.inl ⟨rfl, ?_⟩
    refine rq_less (sx 0 rfl (sub_nil _)) (List.sublist_append_right _ _) ?_
    exact rq_v (rv_ev rfl)
   ·
    intro vf pf hR
    have e1 : (vf 1) = .slice a0 len0 cap0 ∧ (pf 1) = [] := hR 1 (by decide)
    refine Or.inl ⟨rfl, ?_⟩
    refine rq_less (sx 27 (congrArg some e1.1) (sub_nil _)) (List.sublist_append_right _ _) ?_
    exact (rq_call (by kernel_rfl) rfl (fun w hm => ret_ans (at_ans hbr 0 (by omega) w hm)))
   ·
    intro vf pf hR
    refine Or.inl ⟨rfl, ?_⟩
    refine rq_less (sx 3 rfl (sub_nil _)) (List.sublist_append_right _ _) ?_
    exact rq_v (rv_field (k0 := 0) rfl (by kernel_rfl) rfl)
   ·
    intro vf pf hR
    have e3 : (vf 3) = .pointer (some ⟨b5, 0 + 0, none⟩) ∧ (pf 3) = [] := hR 3 (by decide)
    refine Or.inl ⟨rfl, ?_⟩
    refine rq_less (sx 29 (congrArg some e3.1) (sub_nil _)) (List.sublist_append_right _ _) ?_
    exact rq_v (rv_load rfl (by kernel_rfl) rfl (box_cell 1 rfl rfl))
   ·
    intro vf pf hR
    refine Or.inl ⟨rfl, ?_⟩
    refine rq_less (sx 3 rfl (sub_nil _)) (List.sublist_append_right _ _) ?_
    exact rq_v (rv_field (k0 := 1) rfl (by kernel_rfl) rfl)
   ·
    intro vf pf hR
    have e5 : (vf 5) = .pointer (some ⟨b5, 0 + 1, none⟩) ∧ (pf 5) = [] := hR 5 (by decide)
    refine Or.inl ⟨rfl, ?_⟩
    refine rq_less (sx 31 (congrArg some e5.1) (sub_nil _)) (List.sublist_append_right _ _) ?_
    exact rq_v (rv_load rfl (by kernel_rfl) rfl (box_cell 1 rfl rfl))
   ·
    intro vf pf hR
    have e4 : (vf 4) = .int .i64 d.W ∧ (pf 4) = [] := hR 4 (by decide)
    have e6 : (vf 6) = .int .i64 d.H ∧ (pf 6) = [] := hR 6 (by decide)
    refine Or.inl ⟨rfl, ?_⟩
    refine rq_less (sx 30 (congrArg some e4.1) (sx 32 (congrArg some e6.1) (sub_nil _))) (List.sublist_append_right _ _) ?_
    exact rq_v (rv_mul rfl rfl rfl (by constructor <;> omega))
   ·
    intro vf pf hR
    have e2 : (vf 2) = .int .i64 (cod z0 len0 0 : Int) ∧ (pf 2) = [] := hR 2 (by decide)
    have e7 : (vf 7) = .int .i64 (d.W * d.H) ∧ (pf 7) = [] := hR 7 (by decide)
    refine Or.inl ⟨rfl, ?_⟩
    refine rq_less (sx 28 (congrArg some e2.1) (sx 33 (congrArg some e7.1) (sub_nil _))) (List.sublist_append_right _ _) ?_
    exact rq_v (rv_rem rfl rfl rfl (by constructor <;> omega))
   ·
    intro vf pf hR
    have e0 : (vf 0) = .agg #[.int .i64 d.W, .int .i64 d.H, .int .i64 d.T, .int .i64 d.R] ∧ (pf 0) = [] := hR 0 (by decide)
    have e8 : (vf 8) = .int .i64 ((cod z0 len0 0 : Int) % (d.W * d.H)) ∧ (pf 8) = [] := hR 8 (by decide)
    refine Or.inl ⟨rfl, ?_⟩
    refine rq_less (sx 26 (congrArg some e0.1) (sx 34 (congrArg some e8.1) (sub_nil _))) (List.sublist_append_right _ _) ?_
    exact (rq_call (by kernel_rfl) rfl (fun w hm => ret_ans (inPin_ans d _ _ w (by omega) (by omega))))
  ·
   intro vf pf hR
   have e9 : (vf 9) = .int .i64 (inPinI d ((cod z0 len0 0 : Int) % (d.W * d.H)) 0) ∧ (pf 9) = [] := hR 9 (by decide)
   refine hl_less (l' := [boxE b6 #[r.nv, r.fv] 28, boxE b5 #[.int .i64 d.W, .int .i64 d.H, .int .i64 d.T, .int .i64 d.R] 25, rtE r, rowE 3 1 sv ks.length (ks.map (Value.int .i64))]) (sx 0 rfl (sx 2 rfl (sx 3 rfl (sx 4 rfl (sx 5 rfl (sx 6 rfl (sx 12 rfl (sx 25 rfl (sx 35 (congrArg some e9.1) (sub_nil _)))))))))) (List.sublist_append_right _ _) ?_
   simp only [List.drop_succ_cons, List.drop_zero]
   refine hl_v rfl rfl rfl (rv_ev rfl) ?_
   refine hl_less (sx 0 rfl (sx 2 rfl (sx 3 rfl (sx 4 rfl (sx 5 rfl (sx 6 rfl (sx 7 rfl (sx 12 rfl (sx 25 rfl (sub_nil _)))))))))) (.refl _) ?_
   refine hl_nil ?_
   refine hq_then ?_
   refine hc_seq ?_
   refine hc_seq ?_
   rcases Bool.eq_false_or_eq_true (hasB r.ns (inPinI d ((cod z0 len0 0 : Int) % (d.W * d.H)) 0)) with hb8 | hb8
   ·
    refine hc_draw3 (l := [boxE b6 #[r.nv, r.fv] 28, boxE b5 #[.int .i64 d.W, .int .i64 d.H, .int .i64 d.T, .int .i64 d.R] 25, rtE r, rowE 3 1 sv ks.length (ks.map (Value.int .i64))]) (by kernel_rfl) 15 [0, 1, 2, 3, 4, 5, 6, 7, 8, 9, 10, 11, 12, 13, 14] (List.take 15 _) (List.drop 15 _) [[], [0], [], [1, 2], [3], [4], [5], [5], [5], [5], [5], [5], [5], [5], [5]] [some 36, some 37, some 38, some 39, some 40, some 41, some 42, some 43, some 44, some 45, some 46, some 47, some 48, some 49, some 50] (fun i_ vs_ v_ p_ => match i_ with | 0 => v_ = .pointer (some ⟨b6, 0 + 0, none⟩) ∧ p_ = [] | 1 => v_ = r.nv ∧ p_ = [] | 2 => v_ = .int .i64 (inPinI d ((cod z0 len0 0 : Int) % (d.W * d.H)) 0) ∧ p_ = [] | 3 => v_ = .bool true ∧ p_ = [] | 4 => v_ = .bool false ∧ p_ = [] | 5 => v_ = .bool false ∧ p_ = [] | 6 => v_ = undef ∧ p_ = [] | 7 => v_ = undef ∧ p_ = [] | 8 => v_ = undef ∧ p_ = [] | 9 => v_ = undef ∧ p_ = [] | 10 => v_ = undef ∧ p_ = [] | 11 => v_ = undef ∧ p_ = [] | 12 => v_ = undef ∧ p_ = [] | 13 => v_ = undef ∧ p_ = [] | 14 => v_ = undef ∧ p_ = [] | _ => True) [[], [0], [], [1, 2], [3], [4], [5], [5], [5], [5], [5], [5], [5], [5], [5]] [none, none, none, none, none, none, none, none, none, none, none, none, none, none, none] [] [0, 1, 2, 3, 4, 5, 6, 7, 8, 9, 10, 11, 12, 13, 14] 17 (List.take_append_drop 15 _).symm (by kernel_rfl) (by kernel_rfl) (by kernel_rfl) rfl rfl ?_ ?_
    ·
     refine ⟨?_, ?_, ?_, ?_, ?_, ?_, ?_, ?_, ?_, ?_, ?_, ?_, ?_, ?_, ?_, trivial⟩
     ·
      intro vf pf hmu hR
      refine Or.inl ⟨rfl, ?_⟩
      show RunQ _ _ _ (([] : List Nat).flatMap pf ++ _) (envOf3 _ vf [] ++ _) _ _
      refine rq_less (sx 6 rfl (sub_nil _)) (List.sublist_append_right _ _) ?_
      exact rq_v (rv_field (k0 := 0) rfl (by kernel_rfl) rfl)
     ·
      intro vf pf hmu hR
      have e0 : (vf 0) = .pointer (some ⟨b6, 0 + 0, none⟩) ∧ (pf 0) = [] := hR 0 (by decide)
      refine Or.inl ⟨rfl, ?_⟩
      show RunQ _ _ _ (([0] : List Nat).flatMap pf ++ _) (envOf3 _ vf [0] ++ _) _ _
      refine rq_less (sx 36 (congrArg some e0.1) (sub_nil _)) (List.sublist_append_right _ _) ?_
      exact rq_v (rv_load rfl (by kernel_rfl) rfl (box_cell 0 rfl rfl))
     ·
      intro vf pf hmu hR
      refine Or.inl ⟨rfl, ?_⟩
      show RunQ _ _ _ (([] : List Nat).flatMap pf ++ _) (envOf3 _ vf [] ++ _) _ _
      refine rq_less (sx 7 rfl (sub_nil _)) (List.sublist_append_right _ _) ?_
      exact rq_v (rv_ev rfl)
     ·
      intro vf pf hmu hR
      have e1 : (vf 1) = r.nv ∧ (pf 1) = [] := hR 1 (by decide)
      have e2 : (vf 2) = .int .i64 (inPinI d ((cod z0 len0 0 : Int) % (d.W * d.H)) 0) ∧ (pf 2) = [] := hR 2 (by decide)
      refine Or.inl ⟨rfl, ?_⟩
      show RunQ _ _ _ (([1, 2] : List Nat).flatMap pf ++ _) (envOf3 _ vf [1, 2] ++ _) _ _
      refine rq_less (sx 37 (congrArg some e1.1) (sx 38 (congrArg some e2.1) (sub_nil _))) (List.sublist_append_right _ _) ?_
      exact rq_mono (rq_call (by kernel_rfl) rfl (fun w hm => ret_ans (lawsHas_ans r.ns (inPinI d ((cod z0 len0 0 : Int) % (d.W * d.H)) 0) _ w ((fun w hm => (rt_rds 2 rfl w hm).1) w hm) (by omega)))) (fun _ _ h => ⟨h.1.trans (congrArg Value.bool hb8), h.2⟩)
     ·
      intro vf pf hmu hR
      have e3 : (vf 3) = .bool true ∧ (pf 3) = [] := hR 3 (by decide)
      refine Or.inl ⟨rfl, ?_⟩
      show RunQ _ _ _ (([3] : List Nat).flatMap pf ++ _) (envOf3 _ vf [3] ++ _) _ _
      refine rq_less (sx 39 (congrArg some e3.1) (sub_nil _)) (List.sublist_append_right _ _) ?_
      exact rq_v (rv_ev rfl)
     ·
      intro vf pf hmu hR
      have e4 : (vf 4) = .bool false ∧ (pf 4) = [] := hR 4 (by decide)
      refine Or.inl ⟨rfl, ?_⟩
      show RunQ _ _ _ (([4] : List Nat).flatMap pf ++ _) (envOf3 _ vf [4] ++ _) _ _
      refine rq_less (sx 40 (congrArg some e4.1) (sub_nil _)) (List.sublist_append_right _ _) ?_
      exact rq_v (rv_ev rfl)
     ·
      intro vf pf hmu hR
      have e5 : (vf 5) = .bool false ∧ (pf 5) = [] := hR 5 (by decide)
      exact Or.inr ⟨want_of (congrArg some e5.1) rfl, rfl, rfl⟩
     ·
      intro vf pf hmu hR
      have e5 : (vf 5) = .bool false ∧ (pf 5) = [] := hR 5 (by decide)
      exact Or.inr ⟨want_of (congrArg some e5.1) rfl, rfl, rfl⟩
     ·
      intro vf pf hmu hR
      have e5 : (vf 5) = .bool false ∧ (pf 5) = [] := hR 5 (by decide)
      exact Or.inr ⟨want_of (congrArg some e5.1) rfl, rfl, rfl⟩
     ·
      intro vf pf hmu hR
      have e5 : (vf 5) = .bool false ∧ (pf 5) = [] := hR 5 (by decide)
      exact Or.inr ⟨want_of (congrArg some e5.1) rfl, rfl, rfl⟩
     ·
      intro vf pf hmu hR
      have e5 : (vf 5) = .bool false ∧ (pf 5) = [] := hR 5 (by decide)
      exact Or.inr ⟨want_of (congrArg some e5.1) rfl, rfl, rfl⟩
     ·
      intro vf pf hmu hR
      have e5 : (vf 5) = .bool false ∧ (pf 5) = [] := hR 5 (by decide)
      exact Or.inr ⟨want_of (congrArg some e5.1) rfl, rfl, rfl⟩
     ·
      intro vf pf hmu hR
      have e5 : (vf 5) = .bool false ∧ (pf 5) = [] := hR 5 (by decide)
      exact Or.inr ⟨want_of (congrArg some e5.1) rfl, rfl, rfl⟩
     ·
      intro vf pf hmu hR
      have e5 : (vf 5) = .bool false ∧ (pf 5) = [] := hR 5 (by decide)
      exact Or.inr ⟨want_of (congrArg some e5.1) rfl, rfl, rfl⟩
     ·
      intro vf pf hmu hR
      have e5 : (vf 5) = .bool false ∧ (pf 5) = [] := hR 5 (by decide)
      exact Or.inr ⟨want_of (congrArg some e5.1) rfl, rfl, rfl⟩
    ·
     intro vf pf hmu hR
     have e5 : (vf 5) = .bool false ∧ (pf 5) = [] := hR 5 (by decide)
     have e6 : (vf 6) = undef ∧ (pf 6) = [] := hR 6 (by decide)
     have e7 : (vf 7) = undef ∧ (pf 7) = [] := hR 7 (by decide)
     have e13 : (vf 13) = undef ∧ (pf 13) = [] := hR 13 (by decide)
     have e14 : (vf 14) = undef ∧ (pf 14) = [] := hR 14 (by decide)
     refine hl_less (l' := [boxE b6 #[r.nv, r.fv] 28, boxE b5 #[.int .i64 d.W, .int .i64 d.H, .int .i64 d.T, .int .i64 d.R] 25, rtE r, rowE 3 1 sv ks.length (ks.map (Value.int .i64))]) (sx 0 rfl (sx 2 rfl (sx 3 rfl (sx 4 rfl (sx 5 rfl (sx 6 rfl (sx 7 rfl (sx 12 rfl (sx 25 rfl (sx 41 (congrArg some e5.1) (sx 42 (congrArg some e6.1) (sx 43 (congrArg some e7.1) (sx 49 (congrArg some e13.1) (sx 50 (congrArg some e14.1) (sub_nil _))))))))))))))) (List.sublist_append_right _ _) ?_
     simp only [List.drop_succ_cons, List.drop_zero]
     refine hl_skip rfl rfl rfl ?_
     refine hl_v rfl rfl rfl (rv_ev rfl) ?_
     refine hl_less (sx 0 rfl (sx 2 rfl (sx 3 rfl (sx 4 rfl (sx 5 rfl (sx 6 rfl (sx 7 rfl (sx 12 rfl (sx 25 rfl (sx 52 rfl (sub_nil _))))))))))) (.refl _) ?_
     refine hl_nil ?_
     refine hq_then ?_
     refine hc_false rfl ?_
     refine hc_skip ?_
     refine hq_then ?_
     refine hc_seq ?_
     refine hc_seq ?_
     rcases Bool.eq_false_or_eq_true (decide (0 < (ks.length : Int))) with hb9 | hb9
     ·
      have hb9p : 0 < (ks.length : Int) := of_decide_eq_true hb9
      have hb10 : (okR d r.ns (ks.drop (1 : Int).toNat)) = false := (okR_less hrt (by omega))
      refine hc_draw (by kernel_rfl) 11 [0, 1, 2, 3, 4, 5, 6, 7, 8, 9, 10] (List.take 11 _) (List.drop 11 _) [[], [0], [1], [2], [3], [3], [3], [3, 6], [3], [3, 4, 5, 7, 8], [3, 9]] [53, 54, 55, 56, 57, 58, 59, 60, 61, 62, 63] (fun i_ vs_ v_ p_ => match i_ with | 0 => v_ = sv ∧ p_ = [] | 1 => v_ = .int .i64 (ks.length : Int) ∧ p_ = [] | 2 => v_ = .bool true ∧ p_ = [] | 3 => v_ = .bool true ∧ p_ = [] | 4 => v_ = .agg #[.int .i64 d.W, .int .i64 d.H, .int .i64 d.T, .int .i64 d.R] ∧ p_ = [] | 5 => v_ = .int .i64 s0 ∧ p_ = [] | 6 => v_ = sv ∧ p_ = [] | 7 => v_ = slV sv (1 : Int).toNat ks.length 1 ∧ p_ = [] | 8 => v_ = .agg #[r.nv, r.fv] ∧ p_ = [] | 9 => v_ = .bool false ∧ p_ = [] | 10 => v_ = .bool false ∧ p_ = [] | _ => True) (List.take_append_drop 11 _).symm (by kernel_rfl) (by kernel_rfl) rfl rfl ?_ ?_
      ·
       refine ⟨?_, ?_, ?_, ?_, ?_, ?_, ?_, ?_, ?_, ?_, ?_, trivial⟩
       ·
        intro vf pf hR
        refine Or.inl ⟨rfl, ?_⟩
        refine rq_less (sx 5 rfl (sub_nil _)) (List.sublist_append_right _ _) ?_
        exact rq_v (rv_ev rfl)
       ·
        intro vf pf hR
        have e0 : (vf 0) = sv ∧ (pf 0) = [] := hR 0 (by decide)
        refine Or.inl ⟨rfl, ?_⟩
        refine rq_less (sx 53 (congrArg some e0.1) (sub_nil _)) (List.sublist_append_right _ _) ?_
        exact rq_v (rv_len rfl Try.underlying26 rfl (rd_row 3 rfl))
       ·
        intro vf pf hR
        have e1 : (vf 1) = .int .i64 (ks.length : Int) ∧ (pf 1) = [] := hR 1 (by decide)
        refine Or.inl ⟨rfl, ?_⟩
        refine rq_less (sx 54 (congrArg some e1.1) (sub_nil _)) (List.sublist_append_right _ _) ?_
        exact rq_mono (rq_v (rv_cmp rfl rfl rfl rfl)) (fun _ _ h => ⟨h.1.trans (congrArg Value.bool hb9), h.2⟩)
       ·
        intro vf pf hR
        have e2 : (vf 2) = .bool true ∧ (pf 2) = [] := hR 2 (by decide)
        refine Or.inl ⟨rfl, ?_⟩
        refine rq_less (sx 55 (congrArg some e2.1) (sub_nil _)) (List.sublist_append_right _ _) ?_
        exact rq_v (rv_ev rfl)
       ·
        intro vf pf hR
        have e3 : (vf 3) = .bool true ∧ (pf 3) = [] := hR 3 (by decide)
        refine Or.inl ⟨want_of (congrArg some e3.1) rfl, ?_⟩
        refine rq_less (sx 3 rfl (sub_nil _)) (List.sublist_append_right _ _) ?_
        exact rq_v (rv_loadN (cs := [.int .i64 d.W, .int .i64 d.H, .int .i64 d.T, .int .i64 d.R]) rfl (by kernel_rfl) (by kernel_rfl) rfl rfl (box_part 1 rfl 0 rfl))
       ·
        intro vf pf hR
        have e3 : (vf 3) = .bool true ∧ (pf 3) = [] := hR 3 (by decide)
        refine Or.inl ⟨want_of (congrArg some e3.1) rfl, ?_⟩
        refine rq_less (sx 4 rfl (sub_nil _)) (List.sublist_append_right _ _) ?_
        exact rq_v (rv_ev rfl)
       ·
        intro vf pf hR
        have e3 : (vf 3) = .bool true ∧ (pf 3) = [] := hR 3 (by decide)
        refine Or.inl ⟨want_of (congrArg some e3.1) rfl, ?_⟩
        refine rq_less (sx 5 rfl (sub_nil _)) (List.sublist_append_right _ _) ?_
        exact rq_v (rv_ev rfl)
       ·
        intro vf pf hR
        have e3 : (vf 3) = .bool true ∧ (pf 3) = [] := hR 3 (by decide)
        have e6 : (vf 6) = sv ∧ (pf 6) = [] := hR 6 (by decide)
        refine Or.inl ⟨want_of (congrArg some e3.1) rfl, ?_⟩
        refine rq_less (sx 59 (congrArg some e6.1) (sub_nil _)) (List.sublist_append_right _ _) ?_
        exact rq_v (rv_slL rfl Try.underlying26 (by kernel_rfl) rfl rfl (rd_row 3 rfl) (by omega) (by omega))
       ·
        intro vf pf hR
        have e3 : (vf 3) = .bool true ∧ (pf 3) = [] := hR 3 (by decide)
        refine Or.inl ⟨want_of (congrArg some e3.1) rfl, ?_⟩
        refine rq_less (sx 6 rfl (sub_nil _)) (List.sublist_append_right _ _) ?_
        exact rq_v (rv_loadN (cs := [r.nv, r.fv]) rfl (by kernel_rfl) (by kernel_rfl) rfl rfl (box_part 0 rfl 0 rfl))
       ·
        intro vf pf hR
        have e3 : (vf 3) = .bool true ∧ (pf 3) = [] := hR 3 (by decide)
        have e4 : (vf 4) = .agg #[.int .i64 d.W, .int .i64 d.H, .int .i64 d.T, .int .i64 d.R] ∧ (pf 4) = [] := hR 4 (by decide)
        have e5 : (vf 5) = .int .i64 s0 ∧ (pf 5) = [] := hR 5 (by decide)
        have e7 : (vf 7) = slV sv (1 : Int).toNat ks.length 1 ∧ (pf 7) = [] := hR 7 (by decide)
        have e8 : (vf 8) = .agg #[r.nv, r.fv] ∧ (pf 8) = [] := hR 8 (by decide)
        refine Or.inl ⟨want_of (congrArg some e3.1) rfl, ?_⟩
        refine rq_less (sx 57 (congrArg some e4.1) (sx 58 (congrArg some e5.1) (sx 60 (congrArg some e7.1) (sx 61 (congrArg some e8.1) (sub_nil _))))) (List.sublist_append_right _ _) ?_
        exact rq_mono (rq_call (by kernel_rfl) rfl (fun w hm => ret_ans (RouteOk_ans d s0 r ks (ks.drop (1 : Int).toNat) _ w hd hrt (rt_rds 2 rfl w hm).1 (rt_rds 2 rfl w hm).2 ((rd_slL (rd_row 3 rfl) (by omega)) w hm) (by first | omega | (simp only [List.length_append, List.length_drop, List.length_cons, List.length_nil]; omega)) (rng_of (fun x hx => kSmall hrt hd x (List.mem_of_mem_drop hx)))))) (fun _ _ h => ⟨h.1.trans (congrArg Value.bool hb10), h.2⟩)
       ·
        intro vf pf hR
        have e3 : (vf 3) = .bool true ∧ (pf 3) = [] := hR 3 (by decide)
        have e9 : (vf 9) = .bool false ∧ (pf 9) = [] := hR 9 (by decide)
        refine Or.inl ⟨rfl, ?_⟩
        refine rq_less (sx 56 (congrArg some e3.1) (sx 62 (congrArg some e9.1) (sub_nil _))) (List.sublist_append_right _ _) ?_
        exact rq_v (rv_ev rfl)
      ·
       intro vf pf hR
       have e10 : (vf 10) = .bool false ∧ (pf 10) = [] := hR 10 (by decide)
       refine hl_less (l' := [boxE b6 #[r.nv, r.fv] 28, boxE b5 #[.int .i64 d.W, .int .i64 d.H, .int .i64 d.T, .int .i64 d.R] 25, rtE r, rowE 3 1 sv ks.length (ks.map (Value.int .i64))]) (sx 0 rfl (sx 2 rfl (sx 3 rfl (sx 4 rfl (sx 5 rfl (sx 6 rfl (sx 7 rfl (sx 12 rfl (sx 25 rfl (sx 52 rfl (sx 63 (congrArg some e10.1) (sub_nil _)))))))))))) (List.sublist_append_right _ _) ?_
       simp only [List.drop_succ_cons, List.drop_zero]
       refine hl_less (sx 0 rfl (sx 2 rfl (sx 3 rfl (sx 4 rfl (sx 5 rfl (sx 6 rfl (sx 7 rfl (sx 12 rfl (sx 25 rfl (sx 52 rfl (sx 63 rfl (sub_nil _)))))))))))) (.refl _) ?_
       refine hl_nil ?_
       refine hq_then ?_
       refine hc_false rfl ?_
       refine hc_skip ?_
       refine hq_then ?_
       refine hc_seq ?_
       refine hc_region ?_
       refine hl_v rfl rfl rfl (rv_ev rfl) ?_
       refine hl_less (sx 0 rfl (sx 2 rfl (sx 3 rfl (sx 4 rfl (sx 5 rfl (sx 6 rfl (sx 7 rfl (sx 8 rfl (sx 12 rfl (sx 25 rfl (sx 52 rfl (sx 63 rfl (sub_nil _))))))))))))) (.refl _) ?_
       refine hl_nil ?_
       refine hq_then ?_
       refine hc_seq ?_
       refine hc_seq ?_
       refine hc_region ?_
       refine hl_v rfl rfl rfl (rv_ev rfl) ?_
       refine hl_less (sx 0 rfl (sx 2 rfl (sx 3 rfl (sx 4 rfl (sx 5 rfl (sx 6 rfl (sx 7 rfl (sx 8 rfl (sx 9 rfl (sx 12 rfl (sx 25 rfl (sx 52 rfl (sx 63 rfl (sub_nil _)))))))))))))) (.refl _) ?_
       refine hl_nil ?_
       refine hq_then ?_
       refine hc_block ?_
       refine hc_loop2 (α := Nat) (β := Int) (fun k c => [boxE b6 #[r.nv, r.fv] 28, boxE b5 #[.int .i64 d.W, .int .i64 d.H, .int .i64 d.T, .int .i64 d.R] 25, rtE r, rowE 3 1 sv ks.length (ks.map (Value.int .i64))]) (fun k c => [(0, .slice a0 len0 cap0), (2, .bool false), (3, .pointer (some ⟨b5, 0, none⟩)), (4, .int .i64 s0), (5, sv), (6, .pointer (some ⟨b6, 0, none⟩)), (7, .int .i64 (inPinI d ((cod z0 len0 0 : Int) % (d.W * d.H)) 0)), (8, .int .i64 c), (9, .int .i64 (k : Int)), (12, .bool false), (25, .bool false), (52, .bool false), (63, .bool false)]) (fun k c => k ≤ r.ns.length ∧ c = wcnt d r.ns k) (fun k c => r.ns.length - k) 0 0 ⟨by omega, rfl⟩ (sx 0 rfl (sx 2 rfl (sx 3 rfl (sx 4 rfl (sx 5 rfl (sx 6 rfl (sx 7 rfl (sx 8 rfl (sx 9 rfl (sx 12 rfl (sx 25 rfl (sx 52 rfl (sx 63 rfl (sub_nil _)))))))))))))) ((.cons_cons _ (.cons_cons _ (.cons_cons _ (.cons_cons _ .slnil))))) ?_
       intro k c hi11
       obtain ⟨hk, hc⟩ := hi11
       have hcr := wcnt_rng d r.ns k
       refine hc_seq ?_
       refine hc_seq ?_
       refine hc_region ?_
       refine hl_v rfl rfl rfl (rv_ev rfl) ?_
       refine hl_v rfl rfl rfl (rv_field (k0 := 0) rfl (by kernel_rfl) rfl) ?_
       refine hl_v rfl rfl rfl (rv_load rfl (by kernel_rfl) rfl (box_cell 0 rfl rfl)) ?_
       refine hl_v rfl rfl rfl (rv_len rfl Try.underlying26 rfl (fun w hm => (rt_rds 2 rfl w hm).1)) ?_
       refine hl_lss rfl rfl rfl rfl rfl rfl (fun h12 => ?_) (fun h12 => ?_)
       ·
        refine hl_less (sx 0 rfl (sx 2 rfl (sx 3 rfl (sx 4 rfl (sx 5 rfl (sx 6 rfl (sx 7 rfl (sx 8 rfl (sx 9 rfl (sx 12 rfl (sx 25 rfl (sx 52 rfl (sx 63 rfl (sx 68 rfl (sub_nil _))))))))))))))) (.refl _) ?_
        refine hl_nil ?_
        refine hq_then ?_
        refine hc_true rfl ?_
        refine hc_skip ?_
        refine hq_then ?_
        refine hc_seq ?_
        refine hc_block ?_
        refine hc_seq ?_
        refine hc_region ?_
        refine hl_v rfl rfl rfl (rv_loadN (cs := [r.nv, r.fv]) rfl (by kernel_rfl) (by kernel_rfl) rfl rfl (box_part 0 rfl 0 rfl)) ?_
        refine hl_v rfl rfl rfl (rv_ev rfl) ?_
        refine hl_q rfl rfl rfl (rq_call (by kernel_rfl) rfl (fun w hm => PathTo_ret d s0 r ks k w hrt (rt_rds 2 rfl w hm).1 (rt_rds 2 rfl w hm).2 (by omega))) ?_
        intro v13 p14 hR15
        obtain ⟨ys, rfl, hp⟩ := hR15
        have hp0 := hp.l0
        have hp1 := hp.l1
        have hp2 := hp.two
        have hg0 : getI ys 0 = s0 := by unfold getI; rw [if_pos (by omega)]; exact hp.first.trans htr.root
        have hg1 : getI ys ((ys.length : Int) - 1) = r.ns.getD k 0 := by unfold getI; rw [if_pos (by omega), show ((ys.length : Int) - 1).toNat = ys.length - 1 by omega]; exact hp.last
        refine hl_v rfl rfl rfl (rv_ev rfl) ?_
        refine hl_less (sx 0 rfl (sx 2 rfl (sx 3 rfl (sx 4 rfl (sx 5 rfl (sx 6 rfl (sx 7 rfl (sx 8 rfl (sx 9 rfl (sx 10 rfl (sx 12 rfl (sx 25 rfl (sx 52 rfl (sx 63 rfl (sx 68 rfl (sub_nil _)))))))))))))))) (.refl _) ?_
        refine hl_nil ?_
        refine hq_then ?_
        refine hc_seq ?_
        refine hc_seq ?_
        have hb16 : ((getI ys 0) != s0) = false := Bool.eq_false_iff.2 (fun h => bne_iff_ne.1 h (by omega))
        have hb17 : ((getI ys ((ys.length : Int) - 1)) != (r.ns.getD k 0)) = false := Bool.eq_false_iff.2 (fun h => bne_iff_ne.1 h (by omega))
        rcases Bool.eq_false_or_eq_true (decide (0 < (k : Int))) with hb18 | hb18
        ·
         have hb18p : 0 < (k : Int) := of_decide_eq_true hb18
         have hb19 : (decide ((ys.length : Int) < 2)) = false := decide_eq_false (by omega)
         refine hc_draw (by kernel_rfl) 26 [0, 1, 2, 3, 4, 5, 6, 7, 8, 9, 10, 11, 12, 13, 14, 15, 16, 17, 18, 19, 20, 21, 22, 23, 24, 25] (List.take 26 _) (List.drop 26 _) [[], [0], [], [1, 2], [3], [4], [4], [4, 6], [4, 7], [4, 5, 8], [4], [4, 10], [4], [4, 11, 12], [4, 13], [4, 9, 14], [4, 15], [16], [17], [17, 18], [17, 19], [20], [20, 21], [20, 22], [17, 20, 23], [17, 24]] [74, 75, 76, 77, 78, 79, 80, 81, 82, 83, 84, 85, 86, 87, 88, 89, 90, 91, 92, 93, 94, 95, 96, 97, 98, 99] (fun i_ vs_ v_ p_ => match i_ with | 0 => v_ = v13 ∧ p_ = [] | 1 => v_ = .int .i64 (getI ys 0) ∧ p_ = [] | 2 => v_ = .int .i64 s0 ∧ p_ = [] | 3 => v_ = .bool false ∧ p_ = [] | 4 => v_ = .bool false ∧ p_ = [] | 5 => v_ = v13 ∧ p_ = [] | 6 => v_ = v13 ∧ p_ = [] | 7 => v_ = .int .i64 (ys.length : Int) ∧ p_ = [] | 8 => v_ = .int .i64 ((ys.length : Int) - 1) ∧ p_ = [] | 9 => v_ = .int .i64 (getI ys ((ys.length : Int) - 1)) ∧ p_ = [] | 10 => v_ = .pointer (some ⟨b6, 0 + 0, none⟩) ∧ p_ = [] | 11 => v_ = r.nv ∧ p_ = [] | 12 => v_ = .int .i64 (k : Int) ∧ p_ = [] | 13 => v_ = elP r.nv (((k : Int)).toNat * 1) ∧ p_ = [] | 14 => v_ = .int .i64 (r.ns.getD k 0) ∧ p_ = [] | 15 => v_ = .bool false ∧ p_ = [] | 16 => v_ = .bool false ∧ p_ = [] | 17 => v_ = .bool false ∧ p_ = [] | 18 => v_ = .int .i64 (k : Int) ∧ p_ = [] | 19 => v_ = .bool true ∧ p_ = [] | 20 => v_ = .bool true ∧ p_ = [] | 21 => v_ = v13 ∧ p_ = [] | 22 => v_ = .int .i64 (ys.length : Int) ∧ p_ = [] | 23 => v_ = .bool false ∧ p_ = [] | 24 => v_ = .bool false ∧ p_ = [] | 25 => v_ = .bool false ∧ p_ = [] | _ => True) (List.take_append_drop 26 _).symm (by kernel_rfl) (by kernel_rfl) rfl rfl ?_ ?_
         ·
          refine ⟨?_, ?_, ?_, ?_, ?_, ?_, ?_, ?_, ?_, ?_, ?_, ?_, ?_, ?_, ?_, ?_, ?_, ?_, ?_, ?_, ?_, ?_, ?_, ?_, ?_, ?_, trivial⟩
          ·
           intro vf pf hR
           refine Or.inl ⟨rfl, ?_⟩
           refine rq_less (sx 10 rfl (sub_nil _)) (List.sublist_append_right _ _) ?_
           exact rq_v (rv_ev rfl)
          ·
           intro vf pf hR
           have e0 : (vf 0) = v13 ∧ (pf 0) = [] := hR 0 (by decide)
           refine Or.inl ⟨rfl, ?_⟩
           refine rq_less (sx 74 (congrArg some e0.1) (sub_nil _)) (List.sublist_append_right _ _) ?_
           exact (rq_call (by kernel_rfl) rfl (fun w hm => ret_ans (lawsGet_ans ys 0 _ w ((rd_row 0 rfl) w hm) (by omega))))
          ·
           intro vf pf hR
           refine Or.inl ⟨rfl, ?_⟩
           refine rq_less (sx 4 rfl (sub_nil _)) (List.sublist_append_right _ _) ?_
           exact rq_v (rv_ev rfl)
          ·
           intro vf pf hR
           have e1 : (vf 1) = .int .i64 (getI ys 0) ∧ (pf 1) = [] := hR 1 (by decide)
           have e2 : (vf 2) = .int .i64 s0 ∧ (pf 2) = [] := hR 2 (by decide)
           refine Or.inl ⟨rfl, ?_⟩
           refine rq_less (sx 75 (congrArg some e1.1) (sx 76 (congrArg some e2.1) (sub_nil _))) (List.sublist_append_right _ _) ?_
           exact rq_mono (rq_v (rv_cmp rfl rfl rfl rfl)) (fun _ _ h => ⟨h.1.trans (congrArg Value.bool hb16), h.2⟩)
          ·
           intro vf pf hR
           have e3 : (vf 3) = .bool false ∧ (pf 3) = [] := hR 3 (by decide)
           refine Or.inl ⟨rfl, ?_⟩
           refine rq_less (sx 77 (congrArg some e3.1) (sub_nil _)) (List.sublist_append_right _ _) ?_
           exact rq_v (rv_ev rfl)
          ·
           intro vf pf hR
           have e4 : (vf 4) = .bool false ∧ (pf 4) = [] := hR 4 (by decide)
           refine Or.inl ⟨want_of (congrArg some e4.1) rfl, ?_⟩
           refine rq_less (sx 10 rfl (sub_nil _)) (List.sublist_append_right _ _) ?_
           exact rq_v (rv_ev rfl)
          ·
           intro vf pf hR
           have e4 : (vf 4) = .bool false ∧ (pf 4) = [] := hR 4 (by decide)
           refine Or.inl ⟨want_of (congrArg some e4.1) rfl, ?_⟩
           refine rq_less (sx 10 rfl (sub_nil _)) (List.sublist_append_right _ _) ?_
           exact rq_v (rv_ev rfl)
          ·
           intro vf pf hR
           have e4 : (vf 4) = .bool false ∧ (pf 4) = [] := hR 4 (by decide)
           have e6 : (vf 6) = v13 ∧ (pf 6) = [] := hR 6 (by decide)
           refine Or.inl ⟨want_of (congrArg some e4.1) rfl, ?_⟩
           refine rq_less (sx 80 (congrArg some e6.1) (sub_nil _)) (List.sublist_append_right _ _) ?_
           exact rq_v (rv_len rfl Try.underlying26 rfl (rd_row 0 rfl))
          ·
           intro vf pf hR
           have e4 : (vf 4) = .bool false ∧ (pf 4) = [] := hR 4 (by decide)
           have e7 : (vf 7) = .int .i64 (ys.length : Int) ∧ (pf 7) = [] := hR 7 (by decide)
           refine Or.inl ⟨want_of (congrArg some e4.1) rfl, ?_⟩
           refine rq_less (sx 81 (congrArg some e7.1) (sub_nil _)) (List.sublist_append_right _ _) ?_
           exact rq_v (rv_sub rfl rfl rfl (by constructor <;> omega))
          ·
           intro vf pf hR
           have e4 : (vf 4) = .bool false ∧ (pf 4) = [] := hR 4 (by decide)
           have e5 : (vf 5) = v13 ∧ (pf 5) = [] := hR 5 (by decide)
           have e8 : (vf 8) = .int .i64 ((ys.length : Int) - 1) ∧ (pf 8) = [] := hR 8 (by decide)
           refine Or.inl ⟨want_of (congrArg some e4.1) rfl, ?_⟩
           refine rq_less (sx 79 (congrArg some e5.1) (sx 82 (congrArg some e8.1) (sub_nil _))) (List.sublist_append_right _ _) ?_
           exact (rq_call (by kernel_rfl) rfl (fun w hm => ret_ans (lawsGet_ans ys ((ys.length : Int) - 1) _ w ((rd_row 0 rfl) w hm) (by omega))))
          ·
           intro vf pf hR
           have e4 : (vf 4) = .bool false ∧ (pf 4) = [] := hR 4 (by decide)
           refine Or.inl ⟨want_of (congrArg some e4.1) rfl, ?_⟩
           refine rq_less (sx 6 rfl (sub_nil _)) (List.sublist_append_right _ _) ?_
           exact rq_v (rv_field (k0 := 0) rfl (by kernel_rfl) rfl)
          ·
           intro vf pf hR
           have e4 : (vf 4) = .bool false ∧ (pf 4) = [] := hR 4 (by decide)
           have e10 : (vf 10) = .pointer (some ⟨b6, 0 + 0, none⟩) ∧ (pf 10) = [] := hR 10 (by decide)
           refine Or.inl ⟨want_of (congrArg some e4.1) rfl, ?_⟩
           refine rq_less (sx 84 (congrArg some e10.1) (sub_nil _)) (List.sublist_append_right _ _) ?_
           exact rq_v (rv_load rfl (by kernel_rfl) rfl (box_cell 1 rfl rfl))
          ·
           intro vf pf hR
           have e4 : (vf 4) = .bool false ∧ (pf 4) = [] := hR 4 (by decide)
           refine Or.inl ⟨want_of (congrArg some e4.1) rfl, ?_⟩
           refine rq_less (sx 9 rfl (sub_nil _)) (List.sublist_append_right _ _) ?_
           exact rq_v (rv_ev rfl)
          ·
           intro vf pf hR
           have e4 : (vf 4) = .bool false ∧ (pf 4) = [] := hR 4 (by decide)
           have e11 : (vf 11) = r.nv ∧ (pf 11) = [] := hR 11 (by decide)
           have e12 : (vf 12) = .int .i64 (k : Int) ∧ (pf 12) = [] := hR 12 (by decide)
           refine Or.inl ⟨want_of (congrArg some e4.1) rfl, ?_⟩
           refine rq_less (sx 85 (congrArg some e11.1) (sx 86 (congrArg some e12.1) (sub_nil _))) (List.sublist_append_right _ _) ?_
           exact rq_v (rv_index (s := 1) rfl Try.underlying26 (by kernel_rfl) rfl rfl (fun w hm => (rt_rds 3 rfl w hm).1) (by omega) (by first | omega | (simp only [List.length_set]; omega)))
          ·
           intro vf pf hR
           have e4 : (vf 4) = .bool false ∧ (pf 4) = [] := hR 4 (by decide)
           have e13 : (vf 13) = elP r.nv (((k : Int)).toNat * 1) ∧ (pf 13) = [] := hR 13 (by decide)
           refine Or.inl ⟨want_of (congrArg some e4.1) rfl, ?_⟩
           refine rq_less (sx 87 (congrArg some e13.1) (sub_nil _)) (List.sublist_append_right _ _) ?_
           exact rq_v (rv_loadEl (u := .int .i64 (r.ns.getD k 0)) rfl (by kernel_rfl) rfl (fun w hm => (rt_rds 3 rfl w hm).1) (ints_at1 (show _ < r.ns.length by first | omega | (simp only [List.length_set]; omega))))
          ·
           intro vf pf hR
           have e4 : (vf 4) = .bool false ∧ (pf 4) = [] := hR 4 (by decide)
           have e9 : (vf 9) = .int .i64 (getI ys ((ys.length : Int) - 1)) ∧ (pf 9) = [] := hR 9 (by decide)
           have e14 : (vf 14) = .int .i64 (r.ns.getD k 0) ∧ (pf 14) = [] := hR 14 (by decide)
           refine Or.inl ⟨want_of (congrArg some e4.1) rfl, ?_⟩
           refine rq_less (sx 83 (congrArg some e9.1) (sx 88 (congrArg some e14.1) (sub_nil _))) (List.sublist_append_right _ _) ?_
           exact rq_mono (rq_v (rv_cmp rfl rfl rfl rfl)) (fun _ _ h => ⟨h.1.trans (congrArg Value.bool hb17), h.2⟩)
          ·
           intro vf pf hR
           have e4 : (vf 4) = .bool false ∧ (pf 4) = [] := hR 4 (by decide)
           have e15 : (vf 15) = .bool false ∧ (pf 15) = [] := hR 15 (by decide)
           refine Or.inl ⟨rfl, ?_⟩
           refine rq_less (sx 78 (congrArg some e4.1) (sx 89 (congrArg some e15.1) (sub_nil _))) (List.sublist_append_right _ _) ?_
           exact rq_v (rv_ev rfl)
          ·
           intro vf pf hR
           have e16 : (vf 16) = .bool false ∧ (pf 16) = [] := hR 16 (by decide)
           refine Or.inl ⟨rfl, ?_⟩
           refine rq_less (sx 90 (congrArg some e16.1) (sub_nil _)) (List.sublist_append_right _ _) ?_
           exact rq_v (rv_ev rfl)
          ·
           intro vf pf hR
           have e17 : (vf 17) = .bool false ∧ (pf 17) = [] := hR 17 (by decide)
           refine Or.inl ⟨want_of (congrArg some e17.1) rfl, ?_⟩
           refine rq_less (sx 9 rfl (sub_nil _)) (List.sublist_append_right _ _) ?_
           exact rq_v (rv_ev rfl)
          ·
           intro vf pf hR
           have e17 : (vf 17) = .bool false ∧ (pf 17) = [] := hR 17 (by decide)
           have e18 : (vf 18) = .int .i64 (k : Int) ∧ (pf 18) = [] := hR 18 (by decide)
           refine Or.inl ⟨want_of (congrArg some e17.1) rfl, ?_⟩
           refine rq_less (sx 92 (congrArg some e18.1) (sub_nil _)) (List.sublist_append_right _ _) ?_
           exact rq_mono (rq_v (rv_cmp rfl rfl rfl rfl)) (fun _ _ h => ⟨h.1.trans (congrArg Value.bool hb18), h.2⟩)
          ·
           intro vf pf hR
           have e17 : (vf 17) = .bool false ∧ (pf 17) = [] := hR 17 (by decide)
           have e19 : (vf 19) = .bool true ∧ (pf 19) = [] := hR 19 (by decide)
           refine Or.inl ⟨want_of (congrArg some e17.1) rfl, ?_⟩
           refine rq_less (sx 93 (congrArg some e19.1) (sub_nil _)) (List.sublist_append_right _ _) ?_
           exact rq_v (rv_ev rfl)
          ·
           intro vf pf hR
           have e20 : (vf 20) = .bool true ∧ (pf 20) = [] := hR 20 (by decide)
           refine Or.inl ⟨want_of (congrArg some e20.1) rfl, ?_⟩
           refine rq_less (sx 10 rfl (sub_nil _)) (List.sublist_append_right _ _) ?_
           exact rq_v (rv_ev rfl)
          ·
           intro vf pf hR
           have e20 : (vf 20) = .bool true ∧ (pf 20) = [] := hR 20 (by decide)
           have e21 : (vf 21) = v13 ∧ (pf 21) = [] := hR 21 (by decide)
           refine Or.inl ⟨want_of (congrArg some e20.1) rfl, ?_⟩
           refine rq_less (sx 95 (congrArg some e21.1) (sub_nil _)) (List.sublist_append_right _ _) ?_
           exact rq_v (rv_len rfl Try.underlying26 rfl (rd_row 0 rfl))
          ·
           intro vf pf hR
           have e20 : (vf 20) = .bool true ∧ (pf 20) = [] := hR 20 (by decide)
           have e22 : (vf 22) = .int .i64 (ys.length : Int) ∧ (pf 22) = [] := hR 22 (by decide)
           refine Or.inl ⟨want_of (congrArg some e20.1) rfl, ?_⟩
           refine rq_less (sx 96 (congrArg some e22.1) (sub_nil _)) (List.sublist_append_right _ _) ?_
           exact rq_mono (rq_v (rv_cmp rfl rfl rfl rfl)) (fun _ _ h => ⟨h.1.trans (congrArg Value.bool hb19), h.2⟩)
          ·
           intro vf pf hR
           have e17 : (vf 17) = .bool false ∧ (pf 17) = [] := hR 17 (by decide)
           have e20 : (vf 20) = .bool true ∧ (pf 20) = [] := hR 20 (by decide)
           have e23 : (vf 23) = .bool false ∧ (pf 23) = [] := hR 23 (by decide)
           refine Or.inl ⟨want_of (congrArg some e17.1) rfl, ?_⟩
           refine rq_less (sx 94 (congrArg some e20.1) (sx 97 (congrArg some e23.1) (sub_nil _))) (List.sublist_append_right _ _) ?_
           exact rq_v (rv_ev rfl)
          ·
           intro vf pf hR
           have e17 : (vf 17) = .bool false ∧ (pf 17) = [] := hR 17 (by decide)
           have e24 : (vf 24) = .bool false ∧ (pf 24) = [] := hR 24 (by decide)
           refine Or.inl ⟨rfl, ?_⟩
           refine rq_less (sx 91 (congrArg some e17.1) (sx 98 (congrArg some e24.1) (sub_nil _))) (List.sublist_append_right _ _) ?_
           exact rq_v (rv_ev rfl)
         ·
          intro vf pf hR
          have e25 : (vf 25) = .bool false ∧ (pf 25) = [] := hR 25 (by decide)
          refine hl_less (l' := [rowE 3 1 v13 ys.length (ys.map (Value.int .i64)), boxE b6 #[r.nv, r.fv] 28, boxE b5 #[.int .i64 d.W, .int .i64 d.H, .int .i64 d.T, .int .i64 d.R] 25, rtE r, rowE 3 1 sv ks.length (ks.map (Value.int .i64))]) (sx 0 rfl (sx 2 rfl (sx 3 rfl (sx 4 rfl (sx 5 rfl (sx 6 rfl (sx 7 rfl (sx 8 rfl (sx 9 rfl (sx 10 rfl (sx 12 rfl (sx 25 rfl (sx 52 rfl (sx 63 rfl (sx 68 rfl (sx 99 (congrArg some e25.1) (sub_nil _))))))))))))))))) (List.sublist_append_right _ _) ?_
          simp only [List.drop_succ_cons, List.drop_zero]
          refine hl_less (sx 0 rfl (sx 2 rfl (sx 3 rfl (sx 4 rfl (sx 5 rfl (sx 6 rfl (sx 7 rfl (sx 8 rfl (sx 9 rfl (sx 10 rfl (sx 12 rfl (sx 25 rfl (sx 52 rfl (sx 63 rfl (sx 68 rfl (sx 99 rfl (sub_nil _))))))))))))))))) (.refl _) ?_
          refine hl_nil ?_
          refine hq_then ?_
          refine hc_false rfl ?_
          refine hc_skip ?_
          refine hq_then ?_
          rcases Bool.eq_false_or_eq_true (isWireI d (r.ns.getD k 0)) with hb20 | hb20
          ·
           refine hc_draw (by kernel_rfl) 10 [0, 1, 2, 3, 4, 5, 6, 7, 8, 9] (List.take 10 _) (List.drop 10 _) [[], [], [], [2], [], [3, 4], [5], [1, 6], [7], [0, 8]] [100, 101, 102, 103, 104, 105, 106, 107, 108, 109] (fun i_ vs_ v_ p_ => match i_ with | 0 => v_ = .int .i64 c ∧ p_ = [] | 1 => v_ = .agg #[.int .i64 d.W, .int .i64 d.H, .int .i64 d.T, .int .i64 d.R] ∧ p_ = [] | 2 => v_ = .pointer (some ⟨b6, 0 + 0, none⟩) ∧ p_ = [] | 3 => v_ = r.nv ∧ p_ = [] | 4 => v_ = .int .i64 (k : Int) ∧ p_ = [] | 5 => v_ = elP r.nv (((k : Int)).toNat * 1) ∧ p_ = [] | 6 => v_ = .int .i64 (r.ns.getD k 0) ∧ p_ = [] | 7 => v_ = .bool true ∧ p_ = [] | 8 => v_ = .int .i64 1 ∧ p_ = [] | 9 => v_ = .int .i64 (c + 1) ∧ p_ = [] | _ => True) (List.take_append_drop 10 _).symm (by kernel_rfl) (by kernel_rfl) rfl rfl ?_ ?_
           ·
            refine ⟨?_, ?_, ?_, ?_, ?_, ?_, ?_, ?_, ?_, ?_, trivial⟩
            ·
             intro vf pf hR
             refine Or.inl ⟨rfl, ?_⟩
             refine rq_less (sx 8 rfl (sub_nil _)) (List.sublist_append_right _ _) ?_
             exact rq_v (rv_ev rfl)
            ·
             intro vf pf hR
             refine Or.inl ⟨rfl, ?_⟩
             refine rq_less (sx 3 rfl (sub_nil _)) (List.sublist_append_right _ _) ?_
             exact rq_v (rv_loadN (cs := [.int .i64 d.W, .int .i64 d.H, .int .i64 d.T, .int .i64 d.R]) rfl (by kernel_rfl) (by kernel_rfl) rfl rfl (box_part 2 rfl 0 rfl))
            ·
             intro vf pf hR
             refine Or.inl ⟨rfl, ?_⟩
             refine rq_less (sx 6 rfl (sub_nil _)) (List.sublist_append_right _ _) ?_
             exact rq_v (rv_field (k0 := 0) rfl (by kernel_rfl) rfl)
            ·
             intro vf pf hR
             have e2 : (vf 2) = .pointer (some ⟨b6, 0 + 0, none⟩) ∧ (pf 2) = [] := hR 2 (by decide)
             refine Or.inl ⟨rfl, ?_⟩
             refine rq_less (sx 102 (congrArg some e2.1) (sub_nil _)) (List.sublist_append_right _ _) ?_
             exact rq_v (rv_load rfl (by kernel_rfl) rfl (box_cell 1 rfl rfl))
            ·
             intro vf pf hR
             refine Or.inl ⟨rfl, ?_⟩
             refine rq_less (sx 9 rfl (sub_nil _)) (List.sublist_append_right _ _) ?_
             exact rq_v (rv_ev rfl)
            ·
             intro vf pf hR
             have e3 : (vf 3) = r.nv ∧ (pf 3) = [] := hR 3 (by decide)
             have e4 : (vf 4) = .int .i64 (k : Int) ∧ (pf 4) = [] := hR 4 (by decide)
             refine Or.inl ⟨rfl, ?_⟩
             refine rq_less (sx 103 (congrArg some e3.1) (sx 104 (congrArg some e4.1) (sub_nil _))) (List.sublist_append_right _ _) ?_
             exact rq_v (rv_index (s := 1) rfl Try.underlying26 (by kernel_rfl) rfl rfl (fun w hm => (rt_rds 3 rfl w hm).1) (by omega) (by first | omega | (simp only [List.length_set]; omega)))
            ·
             intro vf pf hR
             have e5 : (vf 5) = elP r.nv (((k : Int)).toNat * 1) ∧ (pf 5) = [] := hR 5 (by decide)
             refine Or.inl ⟨rfl, ?_⟩
             refine rq_less (sx 105 (congrArg some e5.1) (sub_nil _)) (List.sublist_append_right _ _) ?_
             exact rq_v (rv_loadEl (u := .int .i64 (r.ns.getD k 0)) rfl (by kernel_rfl) rfl (fun w hm => (rt_rds 3 rfl w hm).1) (ints_at1 (show _ < r.ns.length by first | omega | (simp only [List.length_set]; omega))))
            ·
             intro vf pf hR
             have e1 : (vf 1) = .agg #[.int .i64 d.W, .int .i64 d.H, .int .i64 d.T, .int .i64 d.R] ∧ (pf 1) = [] := hR 1 (by decide)
             have e6 : (vf 6) = .int .i64 (r.ns.getD k 0) ∧ (pf 6) = [] := hR 6 (by decide)
             refine Or.inl ⟨rfl, ?_⟩
             refine rq_less (sx 101 (congrArg some e1.1) (sx 106 (congrArg some e6.1) (sub_nil _))) (List.sublist_append_right _ _) ?_
             exact rq_mono (rq_call (by kernel_rfl) rfl (fun w hm => ret_ans (isWire_ans d _ w))) (fun _ _ h => ⟨h.1.trans (congrArg Value.bool hb20), h.2⟩)
            ·
             intro vf pf hR
             have e7 : (vf 7) = .bool true ∧ (pf 7) = [] := hR 7 (by decide)
             refine Or.inl ⟨rfl, ?_⟩
             refine rq_less (sx 107 (congrArg some e7.1) (sub_nil _)) (List.sublist_append_right _ _) ?_
             exact (rq_call (by kernel_rfl) rfl (fun w hm => ret_ans (btoi_t w)))
            ·
             intro vf pf hR
             have e0 : (vf 0) = .int .i64 c ∧ (pf 0) = [] := hR 0 (by decide)
             have e8 : (vf 8) = .int .i64 1 ∧ (pf 8) = [] := hR 8 (by decide)
             refine Or.inl ⟨rfl, ?_⟩
             refine rq_less (sx 100 (congrArg some e0.1) (sx 108 (congrArg some e8.1) (sub_nil _))) (List.sublist_append_right _ _) ?_
             exact rq_v (rv_add rfl rfl rfl (by constructor <;> omega))
           ·
            intro vf pf hR
            have e9 : (vf 9) = .int .i64 (c + 1) ∧ (pf 9) = [] := hR 9 (by decide)
            refine hl_less (l' := [rowE 3 1 v13 ys.length (ys.map (Value.int .i64)), boxE b6 #[r.nv, r.fv] 28, boxE b5 #[.int .i64 d.W, .int .i64 d.H, .int .i64 d.T, .int .i64 d.R] 25, rtE r, rowE 3 1 sv ks.length (ks.map (Value.int .i64))]) (sx 0 rfl (sx 2 rfl (sx 3 rfl (sx 4 rfl (sx 5 rfl (sx 6 rfl (sx 7 rfl (sx 8 rfl (sx 9 rfl (sx 10 rfl (sx 12 rfl (sx 25 rfl (sx 52 rfl (sx 63 rfl (sx 68 rfl (sx 99 rfl (sx 109 (congrArg some e9.1) (sub_nil _)))))))))))))))))) (List.sublist_append_right _ _) ?_
            simp only [List.drop_succ_cons, List.drop_zero]
            refine hl_v rfl rfl rfl (rv_ev rfl) ?_
            refine hl_less (sx 0 rfl (sx 2 rfl (sx 3 rfl (sx 4 rfl (sx 5 rfl (sx 6 rfl (sx 7 rfl (sx 8 rfl (sx 9 rfl (sx 10 rfl (sx 12 rfl (sx 25 rfl (sx 52 rfl (sx 63 rfl (sx 68 rfl (sx 99 rfl (sub_nil _))))))))))))))))) (.refl _) ?_
            refine hl_nil ?_
            refine hq_block_normal ?_
            refine hq_then ?_
            refine hc_region ?_
            refine hl_v rfl rfl rfl (rv_ev rfl) ?_
            refine hl_v rfl rfl rfl (rv_add rfl rfl rfl (by constructor <;> omega)) ?_
            refine hl_v rfl rfl rfl (rv_ev rfl) ?_
            refine hl_less (sx 0 rfl (sx 2 rfl (sx 3 rfl (sx 4 rfl (sx 5 rfl (sx 6 rfl (sx 7 rfl (sx 8 rfl (sx 9 rfl (sx 10 rfl (sx 12 rfl (sx 25 rfl (sx 52 rfl (sx 63 rfl (sx 68 rfl (sx 99 rfl (sub_nil _))))))))))))))))) (.refl _) ?_
            refine hl_nil ?_
            exact hq_round2 (k + 1) (c + 1) ⟨by omega, by rw [wcnt_step (by omega), if_pos (by assumption), hc]⟩ (by omega) (sx 0 rfl (sx 2 rfl (sx 3 rfl (sx 4 rfl (sx 5 rfl (sx 6 rfl (sx 7 rfl (sx 8 rfl (sx 9 rfl (sx 12 rfl (sx 25 rfl (sx 52 rfl (sx 63 rfl (sub_nil _)))))))))))))) ((.cons _ (.cons_cons _ (.cons_cons _ (.cons_cons _ (.cons_cons _ .slnil))))))
          ·
           refine hc_draw (by kernel_rfl) 10 [0, 1, 2, 3, 4, 5, 6, 7, 8, 9] (List.take 10 _) (List.drop 10 _) [[], [], [], [2], [], [3, 4], [5], [1, 6], [7], [0, 8]] [100, 101, 102, 103, 104, 105, 106, 107, 108, 109] (fun i_ vs_ v_ p_ => match i_ with | 0 => v_ = .int .i64 c ∧ p_ = [] | 1 => v_ = .agg #[.int .i64 d.W, .int .i64 d.H, .int .i64 d.T, .int .i64 d.R] ∧ p_ = [] | 2 => v_ = .pointer (some ⟨b6, 0 + 0, none⟩) ∧ p_ = [] | 3 => v_ = r.nv ∧ p_ = [] | 4 => v_ = .int .i64 (k : Int) ∧ p_ = [] | 5 => v_ = elP r.nv (((k : Int)).toNat * 1) ∧ p_ = [] | 6 => v_ = .int .i64 (r.ns.getD k 0) ∧ p_ = [] | 7 => v_ = .bool false ∧ p_ = [] | 8 => v_ = .int .i64 0 ∧ p_ = [] | 9 => v_ = .int .i64 (c + 0) ∧ p_ = [] | _ => True) (List.take_append_drop 10 _).symm (by kernel_rfl) (by kernel_rfl) rfl rfl ?_ ?_
           ·
            refine ⟨?_, ?_, ?_, ?_, ?_, ?_, ?_, ?_, ?_, ?_, trivial⟩
            ·
             intro vf pf hR
             refine Or.inl ⟨rfl, ?_⟩
             refine rq_less (sx 8 rfl (sub_nil _)) (List.sublist_append_right _ _) ?_
             exact rq_v (rv_ev rfl)
            ·
             intro vf pf hR
             refine Or.inl ⟨rfl, ?_⟩
             refine rq_less (sx 3 rfl (sub_nil _)) (List.sublist_append_right _ _) ?_
             exact rq_v (rv_loadN (cs := [.int .i64 d.W, .int .i64 d.H, .int .i64 d.T, .int .i64 d.R]) rfl (by kernel_rfl) (by kernel_rfl) rfl rfl (box_part 2 rfl 0 rfl))
            ·
             intro vf pf hR
             refine Or.inl ⟨rfl, ?_⟩
             refine rq_less (sx 6 rfl (sub_nil _)) (List.sublist_append_right _ _) ?_
             exact rq_v (rv_field (k0 := 0) rfl (by kernel_rfl) rfl)
            ·
             intro vf pf hR
             have e2 : (vf 2) = .pointer (some ⟨b6, 0 + 0, none⟩) ∧ (pf 2) = [] := hR 2 (by decide)
             refine Or.inl ⟨rfl, ?_⟩
             refine rq_less (sx 102 (congrArg some e2.1) (sub_nil _)) (List.sublist_append_right _ _) ?_
             exact rq_v (rv_load rfl (by kernel_rfl) rfl (box_cell 1 rfl rfl))
            ·
             intro vf pf hR
             refine Or.inl ⟨rfl, ?_⟩
             refine rq_less (sx 9 rfl (sub_nil _)) (List.sublist_append_right _ _) ?_
             exact rq_v (rv_ev rfl)
            ·
             intro vf pf hR
             have e3 : (vf 3) = r.nv ∧ (pf 3) = [] := hR 3 (by decide)
             have e4 : (vf 4) = .int .i64 (k : Int) ∧ (pf 4) = [] := hR 4 (by decide)
             refine Or.inl ⟨rfl, ?_⟩
             refine rq_less (sx 103 (congrArg some e3.1) (sx 104 (congrArg some e4.1) (sub_nil _))) (List.sublist_append_right _ _) ?_
             exact rq_v (rv_index (s := 1) rfl Try.underlying26 (by kernel_rfl) rfl rfl (fun w hm => (rt_rds 3 rfl w hm).1) (by omega) (by first | omega | (simp only [List.length_set]; omega)))
            ·
             intro vf pf hR
             have e5 : (vf 5) = elP r.nv (((k : Int)).toNat * 1) ∧ (pf 5) = [] := hR 5 (by decide)
             refine Or.inl ⟨rfl, ?_⟩
             refine rq_less (sx 105 (congrArg some e5.1) (sub_nil _)) (List.sublist_append_right _ _) ?_
             exact rq_v (rv_loadEl (u := .int .i64 (r.ns.getD k 0)) rfl (by kernel_rfl) rfl (fun w hm => (rt_rds 3 rfl w hm).1) (ints_at1 (show _ < r.ns.length by first | omega | (simp only [List.length_set]; omega))))
            ·
             intro vf pf hR
             have e1 : (vf 1) = .agg #[.int .i64 d.W, .int .i64 d.H, .int .i64 d.T, .int .i64 d.R] ∧ (pf 1) = [] := hR 1 (by decide)
             have e6 : (vf 6) = .int .i64 (r.ns.getD k 0) ∧ (pf 6) = [] := hR 6 (by decide)
             refine Or.inl ⟨rfl, ?_⟩
             refine rq_less (sx 101 (congrArg some e1.1) (sx 106 (congrArg some e6.1) (sub_nil _))) (List.sublist_append_right _ _) ?_
             exact rq_mono (rq_call (by kernel_rfl) rfl (fun w hm => ret_ans (isWire_ans d _ w))) (fun _ _ h => ⟨h.1.trans (congrArg Value.bool hb20), h.2⟩)
            ·
             intro vf pf hR
             have e7 : (vf 7) = .bool false ∧ (pf 7) = [] := hR 7 (by decide)
             refine Or.inl ⟨rfl, ?_⟩
             refine rq_less (sx 107 (congrArg some e7.1) (sub_nil _)) (List.sublist_append_right _ _) ?_
             exact (rq_call (by kernel_rfl) rfl (fun w hm => ret_ans (btoi_f w)))
            ·
             intro vf pf hR
             have e0 : (vf 0) = .int .i64 c ∧ (pf 0) = [] := hR 0 (by decide)
             have e8 : (vf 8) = .int .i64 0 ∧ (pf 8) = [] := hR 8 (by decide)
             refine Or.inl ⟨rfl, ?_⟩
             refine rq_less (sx 100 (congrArg some e0.1) (sx 108 (congrArg some e8.1) (sub_nil _))) (List.sublist_append_right _ _) ?_
             exact rq_v (rv_add rfl rfl rfl (by constructor <;> omega))
           ·
            intro vf pf hR
            have e9 : (vf 9) = .int .i64 (c + 0) ∧ (pf 9) = [] := hR 9 (by decide)
            refine hl_less (l' := [rowE 3 1 v13 ys.length (ys.map (Value.int .i64)), boxE b6 #[r.nv, r.fv] 28, boxE b5 #[.int .i64 d.W, .int .i64 d.H, .int .i64 d.T, .int .i64 d.R] 25, rtE r, rowE 3 1 sv ks.length (ks.map (Value.int .i64))]) (sx 0 rfl (sx 2 rfl (sx 3 rfl (sx 4 rfl (sx 5 rfl (sx 6 rfl (sx 7 rfl (sx 8 rfl (sx 9 rfl (sx 10 rfl (sx 12 rfl (sx 25 rfl (sx 52 rfl (sx 63 rfl (sx 68 rfl (sx 99 rfl (sx 109 (congrArg some e9.1) (sub_nil _)))))))))))))))))) (List.sublist_append_right _ _) ?_
            simp only [List.drop_succ_cons, List.drop_zero]
            refine hl_v rfl rfl rfl (rv_ev rfl) ?_
            refine hl_less (sx 0 rfl (sx 2 rfl (sx 3 rfl (sx 4 rfl (sx 5 rfl (sx 6 rfl (sx 7 rfl (sx 8 rfl (sx 9 rfl (sx 10 rfl (sx 12 rfl (sx 25 rfl (sx 52 rfl (sx 63 rfl (sx 68 rfl (sx 99 rfl (sub_nil _))))))))))))))))) (.refl _) ?_
            refine hl_nil ?_
            refine hq_block_normal ?_
            refine hq_then ?_
            refine hc_region ?_
            refine hl_v rfl rfl rfl (rv_ev rfl) ?_
            refine hl_v rfl rfl rfl (rv_add rfl rfl rfl (by constructor <;> omega)) ?_
            refine hl_v rfl rfl rfl (rv_ev rfl) ?_
            refine hl_less (sx 0 rfl (sx 2 rfl (sx 3 rfl (sx 4 rfl (sx 5 rfl (sx 6 rfl (sx 7 rfl (sx 8 rfl (sx 9 rfl (sx 10 rfl (sx 12 rfl (sx 25 rfl (sx 52 rfl (sx 63 rfl (sx 68 rfl (sx 99 rfl (sub_nil _))))))))))))))))) (.refl _) ?_
            refine hl_nil ?_
            exact hq_round2 (k + 1) (c + 0) ⟨by omega, by rw [wcnt_step (by omega), if_neg (by rw [show isWireI d (r.ns.getD k 0) = false by assumption]; decide), hc]⟩ (by omega) (sx 0 rfl (sx 2 rfl (sx 3 rfl (sx 4 rfl (sx 5 rfl (sx 6 rfl (sx 7 rfl (sx 8 rfl (sx 9 rfl (sx 12 rfl (sx 25 rfl (sx 52 rfl (sx 63 rfl (sub_nil _)))))))))))))) ((.cons _ (.cons_cons _ (.cons_cons _ (.cons_cons _ (.cons_cons _ .slnil))))))
        ·
         have hb18p : ¬ (0 < (k : Int)) := of_decide_eq_false hb18
         refine hc_draw (by kernel_rfl) 26 [0, 1, 2, 3, 4, 5, 6, 7, 8, 9, 10, 11, 12, 13, 14, 15, 16, 17, 18, 19, 20, 21, 22, 23, 24, 25] (List.take 26 _) (List.drop 26 _) [[], [0], [], [1, 2], [3], [4], [4], [4, 6], [4, 7], [4, 5, 8], [4], [4, 10], [4], [4, 11, 12], [4, 13], [4, 9, 14], [4, 15], [16], [17], [17, 18], [17, 19], [20], [20], [20], [17, 20, 23], [17, 24]] [74, 75, 76, 77, 78, 79, 80, 81, 82, 83, 84, 85, 86, 87, 88, 89, 90, 91, 92, 93, 94, 95, 96, 97, 98, 99] (fun i_ vs_ v_ p_ => match i_ with | 0 => v_ = v13 ∧ p_ = [] | 1 => v_ = .int .i64 (getI ys 0) ∧ p_ = [] | 2 => v_ = .int .i64 s0 ∧ p_ = [] | 3 => v_ = .bool false ∧ p_ = [] | 4 => v_ = .bool false ∧ p_ = [] | 5 => v_ = v13 ∧ p_ = [] | 6 => v_ = v13 ∧ p_ = [] | 7 => v_ = .int .i64 (ys.length : Int) ∧ p_ = [] | 8 => v_ = .int .i64 ((ys.length : Int) - 1) ∧ p_ = [] | 9 => v_ = .int .i64 (getI ys ((ys.length : Int) - 1)) ∧ p_ = [] | 10 => v_ = .pointer (some ⟨b6, 0 + 0, none⟩) ∧ p_ = [] | 11 => v_ = r.nv ∧ p_ = [] | 12 => v_ = .int .i64 (k : Int) ∧ p_ = [] | 13 => v_ = elP r.nv (((k : Int)).toNat * 1) ∧ p_ = [] | 14 => v_ = .int .i64 (r.ns.getD k 0) ∧ p_ = [] | 15 => v_ = .bool false ∧ p_ = [] | 16 => v_ = .bool false ∧ p_ = [] | 17 => v_ = .bool false ∧ p_ = [] | 18 => v_ = .int .i64 (k : Int) ∧ p_ = [] | 19 => v_ = .bool false ∧ p_ = [] | 20 => v_ = .bool false ∧ p_ = [] | 21 => v_ = undef ∧ p_ = [] | 22 => v_ = undef ∧ p_ = [] | 23 => v_ = undef ∧ p_ = [] | 24 => v_ = .bool false ∧ p_ = [] | 25 => v_ = .bool false ∧ p_ = [] | _ => True) (List.take_append_drop 26 _).symm (by kernel_rfl) (by kernel_rfl) rfl rfl ?_ ?_
         ·
          refine ⟨?_, ?_, ?_, ?_, ?_, ?_, ?_, ?_, ?_, ?_, ?_, ?_, ?_, ?_, ?_, ?_, ?_, ?_, ?_, ?_, ?_, ?_, ?_, ?_, ?_, ?_, trivial⟩
          ·
           intro vf pf hR
           refine Or.inl ⟨rfl, ?_⟩
           refine rq_less (sx 10 rfl (sub_nil _)) (List.sublist_append_right _ _) ?_
           exact rq_v (rv_ev rfl)
          ·
           intro vf pf hR
           have e0 : (vf 0) = v13 ∧ (pf 0) = [] := hR 0 (by decide)
           refine Or.inl ⟨rfl, ?_⟩
           refine rq_less (sx 74 (congrArg some e0.1) (sub_nil _)) (List.sublist_append_right _ _) ?_
           exact (rq_call (by kernel_rfl) rfl (fun w hm => ret_ans (lawsGet_ans ys 0 _ w ((rd_row 0 rfl) w hm) (by omega))))
          ·
           intro vf pf hR
           refine Or.inl ⟨rfl, ?_⟩
           refine rq_less (sx 4 rfl (sub_nil _)) (List.sublist_append_right _ _) ?_
           exact rq_v (rv_ev rfl)
          ·
           intro vf pf hR
           have e1 : (vf 1) = .int .i64 (getI ys 0) ∧ (pf 1) = [] := hR 1 (by decide)
           have e2 : (vf 2) = .int .i64 s0 ∧ (pf 2) = [] := hR 2 (by decide)
           refine Or.inl ⟨rfl, ?_⟩
           refine rq_less (sx 75 (congrArg some e1.1) (sx 76 (congrArg some e2.1) (sub_nil _))) (List.sublist_append_right _ _) ?_
           exact rq_mono (rq_v (rv_cmp rfl rfl rfl rfl)) (fun _ _ h => ⟨h.1.trans (congrArg Value.bool hb16), h.2⟩)
          ·
           intro vf pf hR
           have e3 : (vf 3) = .bool false ∧ (pf 3) = [] := hR 3 (by decide)
           refine Or.inl ⟨rfl, ?_⟩
           refine rq_less (sx 77 (congrArg some e3.1) (sub_nil _)) (List.sublist_append_right _ _) ?_
           exact rq_v (rv_ev rfl)
          ·
           intro vf pf hR
           have e4 : (vf 4) = .bool false ∧ (pf 4) = [] := hR 4 (by decide)
           refine Or.inl ⟨want_of (congrArg some e4.1) rfl, ?_⟩
           refine rq_less (sx 10 rfl (sub_nil _)) (List.sublist_append_right _ _) ?_
           exact rq_v (rv_ev rfl)
          ·
           intro vf pf hR
           have e4 : (vf 4) = .bool false ∧ (pf 4) = [] := hR 4 (by decide)
           refine Or.inl ⟨want_of (congrArg some e4.1) rfl, ?_⟩
           refine rq_less (sx 10 rfl (sub_nil _)) (List.sublist_append_right _ _) ?_
           exact rq_v (rv_ev rfl)
          ·
           intro vf pf hR
           have e4 : (vf 4) = .bool false ∧ (pf 4) = [] := hR 4 (by decide)
           have e6 : (vf 6) = v13 ∧ (pf 6) = [] := hR 6 (by decide)
           refine Or.inl ⟨want_of (congrArg some e4.1) rfl, ?_⟩
           refine rq_less (sx 80 (congrArg some e6.1) (sub_nil _)) (List.sublist_append_right _ _) ?_
           exact rq_v (rv_len rfl Try.underlying26 rfl (rd_row 0 rfl))
          ·
           intro vf pf hR
           have e4 : (vf 4) = .bool false ∧ (pf 4) = [] := hR 4 (by decide)
           have e7 : (vf 7) = .int .i64 (ys.length : Int) ∧ (pf 7) = [] := hR 7 (by decide)
           refine Or.inl ⟨want_of (congrArg some e4.1) rfl, ?_⟩
           refine rq_less (sx 81 (congrArg some e7.1) (sub_nil _)) (List.sublist_append_right _ _) ?_
           exact rq_v (rv_sub rfl rfl rfl (by constructor <;> omega))
          ·
           intro vf pf hR
           have e4 : (vf 4) = .bool false ∧ (pf 4) = [] := hR 4 (by decide)
           have e5 : (vf 5) = v13 ∧ (pf 5) = [] := hR 5 (by decide)
           have e8 : (vf 8) = .int .i64 ((ys.length : Int) - 1) ∧ (pf 8) = [] := hR 8 (by decide)
           refine Or.inl ⟨want_of (congrArg some e4.1) rfl, ?_⟩
           refine rq_less (sx 79 (congrArg some e5.1) (sx 82 (congrArg some e8.1) (sub_nil _))) (List.sublist_append_right _ _) ?_
           exact (rq_call (by kernel_rfl) rfl (fun w hm => ret_ans (lawsGet_ans ys ((ys.length : Int) - 1) _ w ((rd_row 0 rfl) w hm) (by omega))))
          ·
           intro vf pf hR
           have e4 : (vf 4) = .bool false ∧ (pf 4) = [] := hR 4 (by decide)
           refine Or.inl ⟨want_of (congrArg some e4.1) rfl, ?_⟩
           refine rq_less (sx 6 rfl (sub_nil _)) (List.sublist_append_right _ _) ?_
           exact rq_v (rv_field (k0 := 0) rfl (by kernel_rfl) rfl)
          ·
           intro vf pf hR
           have e4 : (vf 4) = .bool false ∧ (pf 4) = [] := hR 4 (by decide)
           have e10 : (vf 10) = .pointer (some ⟨b6, 0 + 0, none⟩) ∧ (pf 10) = [] := hR 10 (by decide)
           refine Or.inl ⟨want_of (congrArg some e4.1) rfl, ?_⟩
           refine rq_less (sx 84 (congrArg some e10.1) (sub_nil _)) (List.sublist_append_right _ _) ?_
           exact rq_v (rv_load rfl (by kernel_rfl) rfl (box_cell 1 rfl rfl))
          ·
           intro vf pf hR
           have e4 : (vf 4) = .bool false ∧ (pf 4) = [] := hR 4 (by decide)
           refine Or.inl ⟨want_of (congrArg some e4.1) rfl, ?_⟩
           refine rq_less (sx 9 rfl (sub_nil _)) (List.sublist_append_right _ _) ?_
           exact rq_v (rv_ev rfl)
          ·
           intro vf pf hR
           have e4 : (vf 4) = .bool false ∧ (pf 4) = [] := hR 4 (by decide)
           have e11 : (vf 11) = r.nv ∧ (pf 11) = [] := hR 11 (by decide)
           have e12 : (vf 12) = .int .i64 (k : Int) ∧ (pf 12) = [] := hR 12 (by decide)
           refine Or.inl ⟨want_of (congrArg some e4.1) rfl, ?_⟩
           refine rq_less (sx 85 (congrArg some e11.1) (sx 86 (congrArg some e12.1) (sub_nil _))) (List.sublist_append_right _ _) ?_
           exact rq_v (rv_index (s := 1) rfl Try.underlying26 (by kernel_rfl) rfl rfl (fun w hm => (rt_rds 3 rfl w hm).1) (by omega) (by first | omega | (simp only [List.length_set]; omega)))
          ·
           intro vf pf hR
           have e4 : (vf 4) = .bool false ∧ (pf 4) = [] := hR 4 (by decide)
           have e13 : (vf 13) = elP r.nv (((k : Int)).toNat * 1) ∧ (pf 13) = [] := hR 13 (by decide)
           refine Or.inl ⟨want_of (congrArg some e4.1) rfl, ?_⟩
           refine rq_less (sx 87 (congrArg some e13.1) (sub_nil _)) (List.sublist_append_right _ _) ?_
           exact rq_v (rv_loadEl (u := .int .i64 (r.ns.getD k 0)) rfl (by kernel_rfl) rfl (fun w hm => (rt_rds 3 rfl w hm).1) (ints_at1 (show _ < r.ns.length by first | omega | (simp only [List.length_set]; omega))))
          ·
           intro vf pf hR
           have e4 : (vf 4) = .bool false ∧ (pf 4) = [] := hR 4 (by decide)
           have e9 : (vf 9) = .int .i64 (getI ys ((ys.length : Int) - 1)) ∧ (pf 9) = [] := hR 9 (by decide)
           have e14 : (vf 14) = .int .i64 (r.ns.getD k 0) ∧ (pf 14) = [] := hR 14 (by decide)
           refine Or.inl ⟨want_of (congrArg some e4.1) rfl, ?_⟩
           refine rq_less (sx 83 (congrArg some e9.1) (sx 88 (congrArg some e14.1) (sub_nil _))) (List.sublist_append_right _ _) ?_
           exact rq_mono (rq_v (rv_cmp rfl rfl rfl rfl)) (fun _ _ h => ⟨h.1.trans (congrArg Value.bool hb17), h.2⟩)
          ·
           intro vf pf hR
           have e4 : (vf 4) = .bool false ∧ (pf 4) = [] := hR 4 (by decide)
           have e15 : (vf 15) = .bool false ∧ (pf 15) = [] := hR 15 (by decide)
           refine Or.inl ⟨rfl, ?_⟩
           refine rq_less (sx 78 (congrArg some e4.1) (sx 89 (congrArg some e15.1) (sub_nil _))) (List.sublist_append_right _ _) ?_
           exact rq_v (rv_ev rfl)
          ·
           intro vf pf hR
           have e16 : (vf 16) = .bool false ∧ (pf 16) = [] := hR 16 (by decide)
           refine Or.inl ⟨rfl, ?_⟩
           refine rq_less (sx 90 (congrArg some e16.1) (sub_nil _)) (List.sublist_append_right _ _) ?_
           exact rq_v (rv_ev rfl)
          ·
           intro vf pf hR
           have e17 : (vf 17) = .bool false ∧ (pf 17) = [] := hR 17 (by decide)
           refine Or.inl ⟨want_of (congrArg some e17.1) rfl, ?_⟩
           refine rq_less (sx 9 rfl (sub_nil _)) (List.sublist_append_right _ _) ?_
           exact rq_v (rv_ev rfl)
          ·
           intro vf pf hR
           have e17 : (vf 17) = .bool false ∧ (pf 17) = [] := hR 17 (by decide)
           have e18 : (vf 18) = .int .i64 (k : Int) ∧ (pf 18) = [] := hR 18 (by decide)
           refine Or.inl ⟨want_of (congrArg some e17.1) rfl, ?_⟩
           refine rq_less (sx 92 (congrArg some e18.1) (sub_nil _)) (List.sublist_append_right _ _) ?_
           exact rq_mono (rq_v (rv_cmp rfl rfl rfl rfl)) (fun _ _ h => ⟨h.1.trans (congrArg Value.bool hb18), h.2⟩)
          ·
           intro vf pf hR
           have e17 : (vf 17) = .bool false ∧ (pf 17) = [] := hR 17 (by decide)
           have e19 : (vf 19) = .bool false ∧ (pf 19) = [] := hR 19 (by decide)
           refine Or.inl ⟨want_of (congrArg some e17.1) rfl, ?_⟩
           refine rq_less (sx 93 (congrArg some e19.1) (sub_nil _)) (List.sublist_append_right _ _) ?_
           exact rq_v (rv_ev rfl)
          ·
           intro vf pf hR
           have e20 : (vf 20) = .bool false ∧ (pf 20) = [] := hR 20 (by decide)
           exact Or.inr ⟨want_of (congrArg some e20.1) rfl, rfl, rfl⟩
          ·
           intro vf pf hR
           have e20 : (vf 20) = .bool false ∧ (pf 20) = [] := hR 20 (by decide)
           exact Or.inr ⟨want_of (congrArg some e20.1) rfl, rfl, rfl⟩
          ·
           intro vf pf hR
           have e20 : (vf 20) = .bool false ∧ (pf 20) = [] := hR 20 (by decide)
           exact Or.inr ⟨want_of (congrArg some e20.1) rfl, rfl, rfl⟩
          ·
           intro vf pf hR
           have e17 : (vf 17) = .bool false ∧ (pf 17) = [] := hR 17 (by decide)
           have e20 : (vf 20) = .bool false ∧ (pf 20) = [] := hR 20 (by decide)
           have e23 : (vf 23) = undef ∧ (pf 23) = [] := hR 23 (by decide)
           refine Or.inl ⟨want_of (congrArg some e17.1) rfl, ?_⟩
           refine rq_less (sx 94 (congrArg some e20.1) (sx 97 (congrArg some e23.1) (sub_nil _))) (List.sublist_append_right _ _) ?_
           exact rq_v (rv_ev rfl)
          ·
           intro vf pf hR
           have e17 : (vf 17) = .bool false ∧ (pf 17) = [] := hR 17 (by decide)
           have e24 : (vf 24) = .bool false ∧ (pf 24) = [] := hR 24 (by decide)
           refine Or.inl ⟨rfl, ?_⟩
           refine rq_less (sx 91 (congrArg some e17.1) (sx 98 (congrArg some e24.1) (sub_nil _))) (List.sublist_append_right _ _) ?_
           exact rq_v (rv_ev rfl)
         ·
          intro vf pf hR
          have e25 : (vf 25) = .bool false ∧ (pf 25) = [] := hR 25 (by decide)
          refine hl_less (l' := [rowE 3 1 v13 ys.length (ys.map (Value.int .i64)), boxE b6 #[r.nv, r.fv] 28, boxE b5 #[.int .i64 d.W, .int .i64 d.H, .int .i64 d.T, .int .i64 d.R] 25, rtE r, rowE 3 1 sv ks.length (ks.map (Value.int .i64))]) (sx 0 rfl (sx 2 rfl (sx 3 rfl (sx 4 rfl (sx 5 rfl (sx 6 rfl (sx 7 rfl (sx 8 rfl (sx 9 rfl (sx 10 rfl (sx 12 rfl (sx 25 rfl (sx 52 rfl (sx 63 rfl (sx 68 rfl (sx 99 (congrArg some e25.1) (sub_nil _))))))))))))))))) (List.sublist_append_right _ _) ?_
          simp only [List.drop_succ_cons, List.drop_zero]
          refine hl_less (sx 0 rfl (sx 2 rfl (sx 3 rfl (sx 4 rfl (sx 5 rfl (sx 6 rfl (sx 7 rfl (sx 8 rfl (sx 9 rfl (sx 10 rfl (sx 12 rfl (sx 25 rfl (sx 52 rfl (sx 63 rfl (sx 68 rfl (sx 99 rfl (sub_nil _))))))))))))))))) (.refl _) ?_
          refine hl_nil ?_
          refine hq_then ?_
          refine hc_false rfl ?_
          refine hc_skip ?_
          refine hq_then ?_
          rcases Bool.eq_false_or_eq_true (isWireI d (r.ns.getD k 0)) with hb21 | hb21
          ·
           refine hc_draw (by kernel_rfl) 10 [0, 1, 2, 3, 4, 5, 6, 7, 8, 9] (List.take 10 _) (List.drop 10 _) [[], [], [], [2], [], [3, 4], [5], [1, 6], [7], [0, 8]] [100, 101, 102, 103, 104, 105, 106, 107, 108, 109] (fun i_ vs_ v_ p_ => match i_ with | 0 => v_ = .int .i64 c ∧ p_ = [] | 1 => v_ = .agg #[.int .i64 d.W, .int .i64 d.H, .int .i64 d.T, .int .i64 d.R] ∧ p_ = [] | 2 => v_ = .pointer (some ⟨b6, 0 + 0, none⟩) ∧ p_ = [] | 3 => v_ = r.nv ∧ p_ = [] | 4 => v_ = .int .i64 (k : Int) ∧ p_ = [] | 5 => v_ = elP r.nv (((k : Int)).toNat * 1) ∧ p_ = [] | 6 => v_ = .int .i64 (r.ns.getD k 0) ∧ p_ = [] | 7 => v_ = .bool true ∧ p_ = [] | 8 => v_ = .int .i64 1 ∧ p_ = [] | 9 => v_ = .int .i64 (c + 1) ∧ p_ = [] | _ => True) (List.take_append_drop 10 _).symm (by kernel_rfl) (by kernel_rfl) rfl rfl ?_ ?_
           ·
            refine ⟨?_, ?_, ?_, ?_, ?_, ?_, ?_, ?_, ?_, ?_, trivial⟩
            ·
             intro vf pf hR
             refine Or.inl ⟨rfl, ?_⟩
             refine rq_less (sx 8 rfl (sub_nil _)) (List.sublist_append_right _ _) ?_
             exact rq_v (rv_ev rfl)
            ·
             intro vf pf hR
             refine Or.inl ⟨rfl, ?_⟩
             refine rq_less (sx 3 rfl (sub_nil _)) (List.sublist_append_right _ _) ?_
             exact rq_v (rv_loadN (cs := [.int .i64 d.W, .int .i64 d.H, .int .i64 d.T, .int .i64 d.R]) rfl (by kernel_rfl) (by kernel_rfl) rfl rfl (box_part 2 rfl 0 rfl))
            ·
             intro vf pf hR
             refine Or.inl ⟨rfl, ?_⟩
             refine rq_less (sx 6 rfl (sub_nil _)) (List.sublist_append_right _ _) ?_
             exact rq_v (rv_field (k0 := 0) rfl (by kernel_rfl) rfl)
            ·
             intro vf pf hR
             have e2 : (vf 2) = .pointer (some ⟨b6, 0 + 0, none⟩) ∧ (pf 2) = [] := hR 2 (by decide)
             refine Or.inl ⟨rfl, ?_⟩
             refine rq_less (sx 102 (congrArg some e2.1) (sub_nil _)) (List.sublist_append_right _ _) ?_
             exact rq_v (rv_load rfl (by kernel_rfl) rfl (box_cell 1 rfl rfl))
            ·
             intro vf pf hR
             refine Or.inl ⟨rfl, ?_⟩
             refine rq_less (sx 9 rfl (sub_nil _)) (List.sublist_append_right _ _) ?_
             exact rq_v (rv_ev rfl)
            ·
             intro vf pf hR
             have e3 : (vf 3) = r.nv ∧ (pf 3) = [] := hR 3 (by decide)
             have e4 : (vf 4) = .int .i64 (k : Int) ∧ (pf 4) = [] := hR 4 (by decide)
             refine Or.inl ⟨rfl, ?_⟩
             refine rq_less (sx 103 (congrArg some e3.1) (sx 104 (congrArg some e4.1) (sub_nil _))) (List.sublist_append_right _ _) ?_
             exact rq_v (rv_index (s := 1) rfl Try.underlying26 (by kernel_rfl) rfl rfl (fun w hm => (rt_rds 3 rfl w hm).1) (by omega) (by first | omega | (simp only [List.length_set]; omega)))
            ·
             intro vf pf hR
             have e5 : (vf 5) = elP r.nv (((k : Int)).toNat * 1) ∧ (pf 5) = [] := hR 5 (by decide)
             refine Or.inl ⟨rfl, ?_⟩
             refine rq_less (sx 105 (congrArg some e5.1) (sub_nil _)) (List.sublist_append_right _ _) ?_
             exact rq_v (rv_loadEl (u := .int .i64 (r.ns.getD k 0)) rfl (by kernel_rfl) rfl (fun w hm => (rt_rds 3 rfl w hm).1) (ints_at1 (show _ < r.ns.length by first | omega | (simp only [List.length_set]; omega))))
            ·
             intro vf pf hR
             have e1 : (vf 1) = .agg #[.int .i64 d.W, .int .i64 d.H, .int .i64 d.T, .int .i64 d.R] ∧ (pf 1) = [] := hR 1 (by decide)
             have e6 : (vf 6) = .int .i64 (r.ns.getD k 0) ∧ (pf 6) = [] := hR 6 (by decide)
             refine Or.inl ⟨rfl, ?_⟩
             refine rq_less (sx 101 (congrArg some e1.1) (sx 106 (congrArg some e6.1) (sub_nil _))) (List.sublist_append_right _ _) ?_
             exact rq_mono (rq_call (by kernel_rfl) rfl (fun w hm => ret_ans (isWire_ans d _ w))) (fun _ _ h => ⟨h.1.trans (congrArg Value.bool hb21), h.2⟩)
            ·
             intro vf pf hR
             have e7 : (vf 7) = .bool true ∧ (pf 7) = [] := hR 7 (by decide)
             refine Or.inl ⟨rfl, ?_⟩
             refine rq_less (sx 107 (congrArg some e7.1) (sub_nil _)) (List.sublist_append_right _ _) ?_
             exact (rq_call (by kernel_rfl) rfl (fun w hm => ret_ans (btoi_t w)))
            ·
             intro vf pf hR
             have e0 : (vf 0) = .int .i64 c ∧ (pf 0) = [] := hR 0 (by decide)
             have e8 : (vf 8) = .int .i64 1 ∧ (pf 8) = [] := hR 8 (by decide)
             refine Or.inl ⟨rfl, ?_⟩
             refine rq_less (sx 100 (congrArg some e0.1) (sx 108 (congrArg some e8.1) (sub_nil _))) (List.sublist_append_right _ _) ?_
             exact rq_v (rv_add rfl rfl rfl (by constructor <;> omega))
           ·
            intro vf pf hR
            have e9 : (vf 9) = .int .i64 (c + 1) ∧ (pf 9) = [] := hR 9 (by decide)
            refine hl_less (l' := [rowE 3 1 v13 ys.length (ys.map (Value.int .i64)), boxE b6 #[r.nv, r.fv] 28, boxE b5 #[.int .i64 d.W, .int .i64 d.H, .int .i64 d.T, .int .i64 d.R] 25, rtE r, rowE 3 1 sv ks.length (ks.map (Value.int .i64))]) (sx 0 rfl (sx 2 rfl (sx 3 rfl (sx 4 rfl (sx 5 rfl (sx 6 rfl (sx 7 rfl (sx 8 rfl (sx 9 rfl (sx 10 rfl (sx 12 rfl (sx 25 rfl (sx 52 rfl (sx 63 rfl (sx 68 rfl (sx 99 rfl (sx 109 (congrArg some e9.1) (sub_nil _)))))))))))))))))) (List.sublist_append_right _ _) ?_
            simp only [List.drop_succ_cons, List.drop_zero]
            refine hl_v rfl rfl rfl (rv_ev rfl) ?_
            refine hl_less (sx 0 rfl (sx 2 rfl (sx 3 rfl (sx 4 rfl (sx 5 rfl (sx 6 rfl (sx 7 rfl (sx 8 rfl (sx 9 rfl (sx 10 rfl (sx 12 rfl (sx 25 rfl (sx 52 rfl (sx 63 rfl (sx 68 rfl (sx 99 rfl (sub_nil _))))))))))))))))) (.refl _) ?_
            refine hl_nil ?_
            refine hq_block_normal ?_
            refine hq_then ?_
            refine hc_region ?_
            refine hl_v rfl rfl rfl (rv_ev rfl) ?_
            refine hl_v rfl rfl rfl (rv_add rfl rfl rfl (by constructor <;> omega)) ?_
            refine hl_v rfl rfl rfl (rv_ev rfl) ?_
            refine hl_less (sx 0 rfl (sx 2 rfl (sx 3 rfl (sx 4 rfl (sx 5 rfl (sx 6 rfl (sx 7 rfl (sx 8 rfl (sx 9 rfl (sx 10 rfl (sx 12 rfl (sx 25 rfl (sx 52 rfl (sx 63 rfl (sx 68 rfl (sx 99 rfl (sub_nil _))))))))))))))))) (.refl _) ?_
            refine hl_nil ?_
            exact hq_round2 (k + 1) (c + 1) ⟨by omega, by rw [wcnt_step (by omega), if_pos (by assumption), hc]⟩ (by omega) (sx 0 rfl (sx 2 rfl (sx 3 rfl (sx 4 rfl (sx 5 rfl (sx 6 rfl (sx 7 rfl (sx 8 rfl (sx 9 rfl (sx 12 rfl (sx 25 rfl (sx 52 rfl (sx 63 rfl (sub_nil _)))))))))))))) ((.cons _ (.cons_cons _ (.cons_cons _ (.cons_cons _ (.cons_cons _ .slnil))))))
          ·
           refine hc_draw (by kernel_rfl) 10 [0, 1, 2, 3, 4, 5, 6, 7, 8, 9] (List.take 10 _) (List.drop 10 _) [[], [], [], [2], [], [3, 4], [5], [1, 6], [7], [0, 8]] [100, 101, 102, 103, 104, 105, 106, 107, 108, 109] (fun i_ vs_ v_ p_ => match i_ with | 0 => v_ = .int .i64 c ∧ p_ = [] | 1 => v_ = .agg #[.int .i64 d.W, .int .i64 d.H, .int .i64 d.T, .int .i64 d.R] ∧ p_ = [] | 2 => v_ = .pointer (some ⟨b6, 0 + 0, none⟩) ∧ p_ = [] | 3 => v_ = r.nv ∧ p_ = [] | 4 => v_ = .int .i64 (k : Int) ∧ p_ = [] | 5 => v_ = elP r.nv (((k : Int)).toNat * 1) ∧ p_ = [] | 6 => v_ = .int .i64 (r.ns.getD k 0) ∧ p_ = [] | 7 => v_ = .bool false ∧ p_ = [] | 8 => v_ = .int .i64 0 ∧ p_ = [] | 9 => v_ = .int .i64 (c + 0) ∧ p_ = [] | _ => True) (List.take_append_drop 10 _).symm (by kernel_rfl) (by kernel_rfl) rfl rfl ?_ ?_
           ·
            refine ⟨?_, ?_, ?_, ?_, ?_, ?_, ?_, ?_, ?_, ?_, trivial⟩
            ·
             intro vf pf hR
             refine Or.inl ⟨rfl, ?_⟩
             refine rq_less (sx 8 rfl (sub_nil _)) (List.sublist_append_right _ _) ?_
             exact rq_v (rv_ev rfl)
            ·
             intro vf pf hR
             refine Or.inl ⟨rfl, ?_⟩
             refine rq_less (sx 3 rfl (sub_nil _)) (List.sublist_append_right _ _) ?_
             exact rq_v (rv_loadN (cs := [.int .i64 d.W, .int .i64 d.H, .int .i64 d.T, .int .i64 d.R]) rfl (by kernel_rfl) (by kernel_rfl) rfl rfl (box_part 2 rfl 0 rfl))
            ·
             intro vf pf hR
             refine Or.inl ⟨rfl, ?_⟩
             refine rq_less (sx 6 rfl (sub_nil _)) (List.sublist_append_right _ _) ?_
             exact rq_v (rv_field (k0 := 0) rfl (by kernel_rfl) rfl)
            ·
             intro vf pf hR
             have e2 : (vf 2) = .pointer (some ⟨b6, 0 + 0, none⟩) ∧ (pf 2) = [] := hR 2 (by decide)
             refine Or.inl ⟨rfl, ?_⟩
             refine rq_less (sx 102 (congrArg some e2.1) (sub_nil _)) (List.sublist_append_right _ _) ?_
             exact rq_v (rv_load rfl (by kernel_rfl) rfl (box_cell 1 rfl rfl))
            ·
             intro vf pf hR
             refine Or.inl ⟨rfl, ?_⟩
             refine rq_less (sx 9 rfl (sub_nil _)) (List.sublist_append_right _ _) ?_
             exact rq_v (rv_ev rfl)
            ·
             intro vf pf hR
             have e3 : (vf 3) = r.nv ∧ (pf 3) = [] := hR 3 (by decide)
             have e4 : (vf 4) = .int .i64 (k : Int) ∧ (pf 4) = [] := hR 4 (by decide)
             refine Or.inl ⟨rfl, ?_⟩
             refine rq_less (sx 103 (congrArg some e3.1) (sx 104 (congrArg some e4.1) (sub_nil _))) (List.sublist_append_right _ _) ?_
             exact rq_v (rv_index (s := 1) rfl Try.underlying26 (by kernel_rfl) rfl rfl (fun w hm => (rt_rds 3 rfl w hm).1) (by omega) (by first | omega | (simp only [List.length_set]; omega)))
            ·
             intro vf pf hR
             have e5 : (vf 5) = elP r.nv (((k : Int)).toNat * 1) ∧ (pf 5) = [] := hR 5 (by decide)
             refine Or.inl ⟨rfl, ?_⟩
             refine rq_less (sx 105 (congrArg some e5.1) (sub_nil _)) (List.sublist_append_right _ _) ?_
             exact rq_v (rv_loadEl (u := .int .i64 (r.ns.getD k 0)) rfl (by kernel_rfl) rfl (fun w hm => (rt_rds 3 rfl w hm).1) (ints_at1 (show _ < r.ns.length by first | omega | (simp only [List.length_set]; omega))))
            ·
             intro vf pf hR
             have e1 : (vf 1) = .agg #[.int .i64 d.W, .int .i64 d.H, .int .i64 d.T, .int .i64 d.R] ∧ (pf 1) = [] := hR 1 (by decide)
             have e6 : (vf 6) = .int .i64 (r.ns.getD k 0) ∧ (pf 6) = [] := hR 6 (by decide)
             refine Or.inl ⟨rfl, ?_⟩
             refine rq_less (sx 101 (congrArg some e1.1) (sx 106 (congrArg some e6.1) (sub_nil _))) (List.sublist_append_right _ _) ?_
             exact rq_mono (rq_call (by kernel_rfl) rfl (fun w hm => ret_ans (isWire_ans d _ w))) (fun _ _ h => ⟨h.1.trans (congrArg Value.bool hb21), h.2⟩)
            ·
             intro vf pf hR
             have e7 : (vf 7) = .bool false ∧ (pf 7) = [] := hR 7 (by decide)
             refine Or.inl ⟨rfl, ?_⟩
             refine rq_less (sx 107 (congrArg some e7.1) (sub_nil _)) (List.sublist_append_right _ _) ?_
             exact (rq_call (by kernel_rfl) rfl (fun w hm => ret_ans (btoi_f w)))
            ·
             intro vf pf hR
             have e0 : (vf 0) = .int .i64 c ∧ (pf 0) = [] := hR 0 (by decide)
             have e8 : (vf 8) = .int .i64 0 ∧ (pf 8) = [] := hR 8 (by decide)
             refine Or.inl ⟨rfl, ?_⟩
             refine rq_less (sx 100 (congrArg some e0.1) (sx 108 (congrArg some e8.1) (sub_nil _))) (List.sublist_append_right _ _) ?_
             exact rq_v (rv_add rfl rfl rfl (by constructor <;> omega))
           ·
            intro vf pf hR
            have e9 : (vf 9) = .int .i64 (c + 0) ∧ (pf 9) = [] := hR 9 (by decide)
            refine hl_less (l' := [rowE 3 1 v13 ys.length (ys.map (Value.int .i64)), boxE b6 #[r.nv, r.fv] 28, boxE b5 #[.int .i64 d.W, .int .i64 d.H, .int .i64 d.T, .int .i64 d.R] 25, rtE r, rowE 3 1 sv ks.length (ks.map (Value.int .i64))]) (sx 0 rfl (sx 2 rfl (sx 3 rfl (sx 4 rfl (sx 5 rfl (sx 6 rfl (sx 7 rfl (sx 8 rfl (sx 9 rfl (sx 10 rfl (sx 12 rfl (sx 25 rfl (sx 52 rfl (sx 63 rfl (sx 68 rfl (sx 99 rfl (sx 109 (congrArg some e9.1) (sub_nil _)))))))))))))))))) (List.sublist_append_right _ _) ?_
            simp only [List.drop_succ_cons, List.drop_zero]
            refine hl_v rfl rfl rfl (rv_ev rfl) ?_
            refine hl_less (sx 0 rfl (sx 2 rfl (sx 3 rfl (sx 4 rfl (sx 5 rfl (sx 6 rfl (sx 7 rfl (sx 8 rfl (sx 9 rfl (sx 10 rfl (sx 12 rfl (sx 25 rfl (sx 52 rfl (sx 63 rfl (sx 68 rfl (sx 99 rfl (sub_nil _))))))))))))))))) (.refl _) ?_
            refine hl_nil ?_
            refine hq_block_normal ?_
            refine hq_then ?_
            refine hc_region ?_
            refine hl_v rfl rfl rfl (rv_ev rfl) ?_
            refine hl_v rfl rfl rfl (rv_add rfl rfl rfl (by constructor <;> omega)) ?_
            refine hl_v rfl rfl rfl (rv_ev rfl) ?_
            refine hl_less (sx 0 rfl (sx 2 rfl (sx 3 rfl (sx 4 rfl (sx 5 rfl (sx 6 rfl (sx 7 rfl (sx 8 rfl (sx 9 rfl (sx 10 rfl (sx 12 rfl (sx 25 rfl (sx 52 rfl (sx 63 rfl (sx 68 rfl (sx 99 rfl (sub_nil _))))))))))))))))) (.refl _) ?_
            refine hl_nil ?_
            exact hq_round2 (k + 1) (c + 0) ⟨by omega, by rw [wcnt_step (by omega), if_neg (by rw [show isWireI d (r.ns.getD k 0) = false by assumption]; decide), hc]⟩ (by omega) (sx 0 rfl (sx 2 rfl (sx 3 rfl (sx 4 rfl (sx 5 rfl (sx 6 rfl (sx 7 rfl (sx 8 rfl (sx 9 rfl (sx 12 rfl (sx 25 rfl (sx 52 rfl (sx 63 rfl (sub_nil _)))))))))))))) ((.cons _ (.cons_cons _ (.cons_cons _ (.cons_cons _ (.cons_cons _ .slnil))))))
       ·
        refine hl_less (sx 0 rfl (sx 2 rfl (sx 3 rfl (sx 4 rfl (sx 5 rfl (sx 6 rfl (sx 7 rfl (sx 8 rfl (sx 9 rfl (sx 12 rfl (sx 25 rfl (sx 52 rfl (sx 63 rfl (sx 68 rfl (sub_nil _))))))))))))))) (.refl _) ?_
        refine hl_nil ?_
        refine hq_then ?_
        refine hc_false rfl ?_
        refine hc_exit ?_
        refine hq_then_exit ?_
        refine hq_then_exit ?_
        refine hq_block_exit ?_
        refine hq_then ?_
        refine hc_seq ?_
        refine hc_region ?_
        have hcw : c = wcnt d r.ns r.ns.length := by rw [hc, show k = r.ns.length by omega]
        refine hl_v rfl rfl rfl (rv_loadN (cs := [.int .i64 d.W, .int .i64 d.H, .int .i64 d.T, .int .i64 d.R]) rfl (by kernel_rfl) (by kernel_rfl) rfl rfl (box_part 1 rfl 0 rfl)) ?_
        refine hl_v rfl rfl rfl (rv_loadN (cs := [r.nv, r.fv]) rfl (by kernel_rfl) (by kernel_rfl) rfl rfl (box_part 0 rfl 0 rfl)) ?_
        refine hl_callV rfl rfl rfl (rq_call (by kernel_rfl) rfl (fun w hm => ret_ans (WireCount_ans d r w (rt_rds 2 rfl w hm).1 (rt_rds 2 rfl w hm).2 (by omega)))) ?_
        refine hl_v rfl rfl rfl (rv_ev rfl) ?_
        refine hl_eql rfl rfl rfl rfl rfl rfl (fun h22 => ?_) (fun h22 => absurd h22 (by omega))
        refine hl_v rfl rfl rfl (rv_ev rfl) ?_
        refine hl_v rfl rfl rfl (rv_ev rfl) ?_
        refine hl_v rfl rfl rfl (rv_ev rfl) ?_
        refine hl_v rfl rfl rfl (rv_len rfl Try.underlying26 rfl (rd_row 3 rfl)) ?_
        refine hl_v rfl rfl rfl (rv_add rfl rfl rfl (by constructor <;> omega)) ?_
        refine hl_v rfl rfl rfl (rv_add rfl rfl rfl (by constructor <;> omega)) ?_
        refine hl_v rfl rfl rfl (rv_field (k0 := 0) rfl (by kernel_rfl) rfl) ?_
        refine hl_v rfl rfl rfl (rv_load rfl (by kernel_rfl) rfl (box_cell 0 rfl rfl)) ?_
        refine hl_v rfl rfl rfl (rv_len rfl Try.underlying26 rfl (fun w hm => (rt_rds 2 rfl w hm).1)) ?_
        refine hl_eql rfl rfl rfl rfl rfl rfl (fun h23 => ?_) (fun h23 => absurd h23 (by omega))
        refine hl_v rfl rfl rfl (rv_ev rfl) ?_
        refine hl_v rfl rfl rfl (rv_ev rfl) ?_
        refine hl_less (sx 0 rfl (sx 2 rfl (sx 3 rfl (sx 4 rfl (sx 5 rfl (sx 6 rfl (sx 7 rfl (sx 8 rfl (sx 9 rfl (sx 12 rfl (sx 25 rfl (sx 52 rfl (sx 63 rfl (sx 68 rfl (sub_nil _))))))))))))))) (.refl _) ?_
        refine hl_nil ?_
        refine hq_then ?_
        refine hc_ret ?_
        exact hq_ans rfl rfl rfl
     ·
      have hb9p : ¬ (0 < (ks.length : Int)) := of_decide_eq_false hb9
      refine hc_draw (by kernel_rfl) 11 [0, 1, 2, 3, 4, 5, 6, 7, 8, 9, 10] (List.take 11 _) (List.drop 11 _) [[], [0], [1], [2], [3], [3], [3], [3], [3], [3], [3, 9]] [53, 54, 55, 56, 57, 58, 59, 60, 61, 62, 63] (fun i_ vs_ v_ p_ => match i_ with | 0 => v_ = sv ∧ p_ = [] | 1 => v_ = .int .i64 (ks.length : Int) ∧ p_ = [] | 2 => v_ = .bool false ∧ p_ = [] | 3 => v_ = .bool false ∧ p_ = [] | 4 => v_ = undef ∧ p_ = [] | 5 => v_ = undef ∧ p_ = [] | 6 => v_ = undef ∧ p_ = [] | 7 => v_ = undef ∧ p_ = [] | 8 => v_ = undef ∧ p_ = [] | 9 => v_ = undef ∧ p_ = [] | 10 => v_ = .bool false ∧ p_ = [] | _ => True) (List.take_append_drop 11 _).symm (by kernel_rfl) (by kernel_rfl) rfl rfl ?_ ?_
      ·
       refine ⟨?_, ?_, ?_, ?_, ?_, ?_, ?_, ?_, ?_, ?_, ?_, trivial⟩
       ·
        intro vf pf hR
        refine Or.inl ⟨rfl, ?_⟩
        refine rq_less (sx 5 rfl (sub_nil _)) (List.sublist_append_right _ _) ?_
        exact rq_v (rv_ev rfl)
       ·
        intro vf pf hR
        have e0 : (vf 0) = sv ∧ (pf 0) = [] := hR 0 (by decide)
        refine Or.inl ⟨rfl, ?_⟩
        refine rq_less (sx 53 (congrArg some e0.1) (sub_nil _)) (List.sublist_append_right _ _) ?_
        exact rq_v (rv_len rfl Try.underlying26 rfl (rd_row 3 rfl))
       ·
        intro vf pf hR
        have e1 : (vf 1) = .int .i64 (ks.length : Int) ∧ (pf 1) = [] := hR 1 (by decide)
        refine Or.inl ⟨rfl, ?_⟩
        refine rq_less (sx 54 (congrArg some e1.1) (sub_nil _)) (List.sublist_append_right _ _) ?_
        exact rq_mono (rq_v (rv_cmp rfl rfl rfl rfl)) (fun _ _ h => ⟨h.1.trans (congrArg Value.bool hb9), h.2⟩)
       ·
        intro vf pf hR
        have e2 : (vf 2) = .bool false ∧ (pf 2) = [] := hR 2 (by decide)
        refine Or.inl ⟨rfl, ?_⟩
        refine rq_less (sx 55 (congrArg some e2.1) (sub_nil _)) (List.sublist_append_right _ _) ?_
        exact rq_v (rv_ev rfl)
       ·
        intro vf pf hR
        have e3 : (vf 3) = .bool false ∧ (pf 3) = [] := hR 3 (by decide)
        exact Or.inr ⟨want_of (congrArg some e3.1) rfl, rfl, rfl⟩
       ·
        intro vf pf hR
        have e3 : (vf 3) = .bool false ∧ (pf 3) = [] := hR 3 (by decide)
        exact Or.inr ⟨want_of (congrArg some e3.1) rfl, rfl, rfl⟩
       ·
        intro vf pf hR
        have e3 : (vf 3) = .bool false ∧ (pf 3) = [] := hR 3 (by decide)
        exact Or.inr ⟨want_of (congrArg some e3.1) rfl, rfl, rfl⟩
       ·
        intro vf pf hR
        have e3 : (vf 3) = .bool false ∧ (pf 3) = [] := hR 3 (by decide)
        exact Or.inr ⟨want_of (congrArg some e3.1) rfl, rfl, rfl⟩
       ·
        intro vf pf hR
        have e3 : (vf 3) = .bool false ∧ (pf 3) = [] := hR 3 (by decide)
        exact Or.inr ⟨want_of (congrArg some e3.1) rfl, rfl, rfl⟩
       ·
        intro vf pf hR
        have e3 : (vf 3) = .bool false ∧ (pf 3) = [] := hR 3 (by decide)
        exact Or.inr ⟨want_of (congrArg some e3.1) rfl, rfl, rfl⟩
       ·
        intro vf pf hR
        have e3 : (vf 3) = .bool false ∧ (pf 3) = [] := hR 3 (by decide)
        have e9 : (vf 9) = undef ∧ (pf 9) = [] := hR 9 (by decide)
        refine Or.inl ⟨rfl, ?_⟩
        refine rq_less (sx 56 (congrArg some e3.1) (sx 62 (congrArg some e9.1) (sub_nil _))) (List.sublist_append_right _ _) ?_
        exact rq_v (rv_ev rfl)
      ·
       intro vf pf hR
       have e10 : (vf 10) = .bool false ∧ (pf 10) = [] := hR 10 (by decide)
       refine hl_less (l' := [boxE b6 #[r.nv, r.fv] 28, boxE b5 #[.int .i64 d.W, .int .i64 d.H, .int .i64 d.T, .int .i64 d.R] 25, rtE r, rowE 3 1 sv ks.length (ks.map (Value.int .i64))]) (sx 0 rfl (sx 2 rfl (sx 3 rfl (sx 4 rfl (sx 5 rfl (sx 6 rfl (sx 7 rfl (sx 12 rfl (sx 25 rfl (sx 52 rfl (sx 63 (congrArg some e10.1) (sub_nil _)))))))))))) (List.sublist_append_right _ _) ?_
       simp only [List.drop_succ_cons, List.drop_zero]
       refine hl_less (sx 0 rfl (sx 2 rfl (sx 3 rfl (sx 4 rfl (sx 5 rfl (sx 6 rfl (sx 7 rfl (sx 12 rfl (sx 25 rfl (sx 52 rfl (sx 63 rfl (sub_nil _)))))))))))) (.refl _) ?_
       refine hl_nil ?_
       refine hq_then ?_
       refine hc_false rfl ?_
       refine hc_skip ?_
       refine hq_then ?_
       refine hc_seq ?_
       refine hc_region ?_
       refine hl_v rfl rfl rfl (rv_ev rfl) ?_
       refine hl_less (sx 0 rfl (sx 2 rfl (sx 3 rfl (sx 4 rfl (sx 5 rfl (sx 6 rfl (sx 7 rfl (sx 8 rfl (sx 12 rfl (sx 25 rfl (sx 52 rfl (sx 63 rfl (sub_nil _))))))))))))) (.refl _) ?_
       refine hl_nil ?_
       refine hq_then ?_
       refine hc_seq ?_
       refine hc_seq ?_
       refine hc_region ?_
       refine hl_v rfl rfl rfl (rv_ev rfl) ?_
       refine hl_less (sx 0 rfl (sx 2 rfl (sx 3 rfl (sx 4 rfl (sx 5 rfl (sx 6 rfl (sx 7 rfl (sx 8 rfl (sx 9 rfl (sx 12 rfl (sx 25 rfl (sx 52 rfl (sx 63 rfl (sub_nil _)))))))))))))) (.refl _) ?_
       refine hl_nil ?_
       refine hq_then ?_
       refine hc_block ?_
       refine hc_loop2 (α := Nat) (β := Int) (fun k c => [boxE b6 #[r.nv, r.fv] 28, boxE b5 #[.int .i64 d.W, .int .i64 d.H, .int .i64 d.T, .int .i64 d.R] 25, rtE r, rowE 3 1 sv ks.length (ks.map (Value.int .i64))]) (fun k c => [(0, .slice a0 len0 cap0), (2, .bool false), (3, .pointer (some ⟨b5, 0, none⟩)), (4, .int .i64 s0), (5, sv), (6, .pointer (some ⟨b6, 0, none⟩)), (7, .int .i64 (inPinI d ((cod z0 len0 0 : Int) % (d.W * d.H)) 0)), (8, .int .i64 c), (9, .int .i64 (k : Int)), (12, .bool false), (25, .bool false), (52, .bool false), (63, .bool false)]) (fun k c => k ≤ r.ns.length ∧ c = wcnt d r.ns k) (fun k c => r.ns.length - k) 0 0 ⟨by omega, rfl⟩ (sx 0 rfl (sx 2 rfl (sx 3 rfl (sx 4 rfl (sx 5 rfl (sx 6 rfl (sx 7 rfl (sx 8 rfl (sx 9 rfl (sx 12 rfl (sx 25 rfl (sx 52 rfl (sx 63 rfl (sub_nil _)))))))))))))) ((.cons_cons _ (.cons_cons _ (.cons_cons _ (.cons_cons _ .slnil))))) ?_
       intro k c hi24
       obtain ⟨hk, hc⟩ := hi24
       have hcr := wcnt_rng d r.ns k
       refine hc_seq ?_
       refine hc_seq ?_
       refine hc_region ?_
       refine hl_v rfl rfl rfl (rv_ev rfl) ?_
       refine hl_v rfl rfl rfl (rv_field (k0 := 0) rfl (by kernel_rfl) rfl) ?_
       refine hl_v rfl rfl rfl (rv_load rfl (by kernel_rfl) rfl (box_cell 0 rfl rfl)) ?_
       refine hl_v rfl rfl rfl (rv_len rfl Try.underlying26 rfl (fun w hm => (rt_rds 2 rfl w hm).1)) ?_
       refine hl_lss rfl rfl rfl rfl rfl rfl (fun h25 => ?_) (fun h25 => ?_)
       ·
        refine hl_less (sx 0 rfl (sx 2 rfl (sx 3 rfl (sx 4 rfl (sx 5 rfl (sx 6 rfl (sx 7 rfl (sx 8 rfl (sx 9 rfl (sx 12 rfl (sx 25 rfl (sx 52 rfl (sx 63 rfl (sx 68 rfl (sub_nil _))))))))))))))) (.refl _) ?_
        refine hl_nil ?_
        refine hq_then ?_
        refine hc_true rfl ?_
        refine hc_skip ?_
        refine hq_then ?_
        refine hc_seq ?_
        refine hc_block ?_
        refine hc_seq ?_
        refine hc_region ?_
        refine hl_v rfl rfl rfl (rv_loadN (cs := [r.nv, r.fv]) rfl (by kernel_rfl) (by kernel_rfl) rfl rfl (box_part 0 rfl 0 rfl)) ?_
        refine hl_v rfl rfl rfl (rv_ev rfl) ?_
        refine hl_q rfl rfl rfl (rq_call (by kernel_rfl) rfl (fun w hm => PathTo_ret d s0 r ks k w hrt (rt_rds 2 rfl w hm).1 (rt_rds 2 rfl w hm).2 (by omega))) ?_
        intro v26 p27 hR28
        obtain ⟨ys, rfl, hp⟩ := hR28
        have hp0 := hp.l0
        have hp1 := hp.l1
        have hp2 := hp.two
        have hg0 : getI ys 0 = s0 := by unfold getI; rw [if_pos (by omega)]; exact hp.first.trans htr.root
        have hg1 : getI ys ((ys.length : Int) - 1) = r.ns.getD k 0 := by unfold getI; rw [if_pos (by omega), show ((ys.length : Int) - 1).toNat = ys.length - 1 by omega]; exact hp.last
        refine hl_v rfl rfl rfl (rv_ev rfl) ?_
        refine hl_less (sx 0 rfl (sx 2 rfl (sx 3 rfl (sx 4 rfl (sx 5 rfl (sx 6 rfl (sx 7 rfl (sx 8 rfl (sx 9 rfl (sx 10 rfl (sx 12 rfl (sx 25 rfl (sx 52 rfl (sx 63 rfl (sx 68 rfl (sub_nil _)))))))))))))))) (.refl _) ?_
        refine hl_nil ?_
        refine hq_then ?_
        refine hc_seq ?_
        refine hc_seq ?_
        have hb29 : ((getI ys 0) != s0) = false := Bool.eq_false_iff.2 (fun h => bne_iff_ne.1 h (by omega))
        have hb30 : ((getI ys ((ys.length : Int) - 1)) != (r.ns.getD k 0)) = false := Bool.eq_false_iff.2 (fun h => bne_iff_ne.1 h (by omega))
        rcases Bool.eq_false_or_eq_true (decide (0 < (k : Int))) with hb31 | hb31
        ·
         have hb31p : 0 < (k : Int) := of_decide_eq_true hb31
         have hb32 : (decide ((ys.length : Int) < 2)) = false := decide_eq_false (by omega)
         refine hc_draw (by kernel_rfl) 26 [0, 1, 2, 3, 4, 5, 6, 7, 8, 9, 10, 11, 12, 13, 14, 15, 16, 17, 18, 19, 20, 21, 22, 23, 24, 25] (List.take 26 _) (List.drop 26 _) [[], [0], [], [1, 2], [3], [4], [4], [4, 6], [4, 7], [4, 5, 8], [4], [4, 10], [4], [4, 11, 12], [4, 13], [4, 9, 14], [4, 15], [16], [17], [17, 18], [17, 19], [20], [20, 21], [20, 22], [17, 20, 23], [17, 24]] [74, 75, 76, 77, 78, 79, 80, 81, 82, 83, 84, 85, 86, 87, 88, 89, 90, 91, 92, 93, 94, 95, 96, 97, 98, 99] (fun i_ vs_ v_ p_ => match i_ with | 0 => v_ = v26 ∧ p_ = [] | 1 => v_ = .int .i64 (getI ys 0) ∧ p_ = [] | 2 => v_ = .int .i64 s0 ∧ p_ = [] | 3 => v_ = .bool false ∧ p_ = [] | 4 => v_ = .bool false ∧ p_ = [] | 5 => v_ = v26 ∧ p_ = [] | 6 => v_ = v26 ∧ p_ = [] | 7 => v_ = .int .i64 (ys.length : Int) ∧ p_ = [] | 8 => v_ = .int .i64 ((ys.length : Int) - 1) ∧ p_ = [] | 9 => v_ = .int .i64 (getI ys ((ys.length : Int) - 1)) ∧ p_ = [] | 10 => v_ = .pointer (some ⟨b6, 0 + 0, none⟩) ∧ p_ = [] | 11 => v_ = r.nv ∧ p_ = [] | 12 => v_ = .int .i64 (k : Int) ∧ p_ = [] | 13 => v_ = elP r.nv (((k : Int)).toNat * 1) ∧ p_ = [] | 14 => v_ = .int .i64 (r.ns.getD k 0) ∧ p_ = [] | 15 => v_ = .bool false ∧ p_ = [] | 16 => v_ = .bool false ∧ p_ = [] | 17 => v_ = .bool false ∧ p_ = [] | 18 => v_ = .int .i64 (k : Int) ∧ p_ = [] | 19 => v_ = .bool true ∧ p_ = [] | 20 => v_ = .bool true ∧ p_ = [] | 21 => v_ = v26 ∧ p_ = [] | 22 => v_ = .int .i64 (ys.length : Int) ∧ p_ = [] | 23 => v_ = .bool false ∧ p_ = [] | 24 => v_ = .bool false ∧ p_ = [] | 25 => v_ = .bool false ∧ p_ = [] | _ => True) (List.take_append_drop 26 _).symm (by kernel_rfl) (by kernel_rfl) rfl rfl ?_ ?_
         ·
          refine ⟨?_, ?_, ?_, ?_, ?_, ?_, ?_, ?_, ?_, ?_, ?_, ?_, ?_, ?_, ?_, ?_, ?_, ?_, ?_, ?_, ?_, ?_, ?_, ?_, ?_, ?_, trivial⟩
          ·
           intro vf pf hR
           refine Or.inl ⟨rfl, ?_⟩
           refine rq_less (sx 10 rfl (sub_nil _)) (List.sublist_append_right _ _) ?_
           exact rq_v (rv_ev rfl)
          ·
           intro vf pf hR
           have e0 : (vf 0) = v26 ∧ (pf 0) = [] := hR 0 (by decide)
           refine Or.inl ⟨rfl, ?_⟩
           refine rq_less (sx 74 (congrArg some e0.1) (sub_nil _)) (List.sublist_append_right _ _) ?_
           exact (rq_call (by kernel_rfl) rfl (fun w hm => ret_ans (lawsGet_ans ys 0 _ w ((rd_row 0 rfl) w hm) (by omega))))
          ·
           intro vf pf hR
           refine Or.inl ⟨rfl, ?_⟩
           refine rq_less (sx 4 rfl (sub_nil _)) (List.sublist_append_right _ _) ?_
           exact rq_v (rv_ev rfl)
          ·
           intro vf pf hR
           have e1 : (vf 1) = .int .i64 (getI ys 0) ∧ (pf 1) = [] := hR 1 (by decide)
           have e2 : (vf 2) = .int .i64 s0 ∧ (pf 2) = [] := hR 2 (by decide)
           refine Or.inl ⟨rfl, ?_⟩
           refine rq_less (sx 75 (congrArg some e1.1) (sx 76 (congrArg some e2.1) (sub_nil _))) (List.sublist_append_right _ _) ?_
           exact rq_mono (rq_v (rv_cmp rfl rfl rfl rfl)) (fun _ _ h => ⟨h.1.trans (congrArg Value.bool hb29), h.2⟩)
          ·
           intro vf pf hR
           have e3 : (vf 3) = .bool false ∧ (pf 3) = [] := hR 3 (by decide)
           refine Or.inl ⟨rfl, ?_⟩
           refine rq_less (sx 77 (congrArg some e3.1) (sub_nil _)) (List.sublist_append_right _ _) ?_
           exact rq_v (rv_ev rfl)
          ·
           intro vf pf hR
           have e4 : (vf 4) = .bool false ∧ (pf 4) = [] := hR 4 (by decide)
           refine Or.inl ⟨want_of (congrArg some e4.1) rfl, ?_⟩
           refine rq_less (sx 10 rfl (sub_nil _)) (List.sublist_append_right _ _) ?_
           exact rq_v (rv_ev rfl)
          ·
           intro vf pf hR
           have e4 : (vf 4) = .bool false ∧ (pf 4) = [] := hR 4 (by decide)
           refine Or.inl ⟨want_of (congrArg some e4.1) rfl, ?_⟩
           refine rq_less (sx 10 rfl (sub_nil _)) (List.sublist_append_right _ _) ?_
           exact rq_v (rv_ev rfl)
          ·
           intro vf pf hR
           have e4 : (vf 4) = .bool false ∧ (pf 4) = [] := hR 4 (by decide)
           have e6 : (vf 6) = v26 ∧ (pf 6) = [] := hR 6 (by decide)
           refine Or.inl ⟨want_of (congrArg some e4.1) rfl, ?_⟩
           refine rq_less (sx 80 (congrArg some e6.1) (sub_nil _)) (List.sublist_append_right _ _) ?_
           exact rq_v (rv_len rfl Try.underlying26 rfl (rd_row 0 rfl))
          ·
           intro vf pf hR
           have e4 : (vf 4) = .bool false ∧ (pf 4) = [] := hR 4 (by decide)
           have e7 : (vf 7) = .int .i64 (ys.length : Int) ∧ (pf 7) = [] := hR 7 (by decide)
           refine Or.inl ⟨want_of (congrArg some e4.1) rfl, ?_⟩
           refine rq_less (sx 81 (congrArg some e7.1) (sub_nil _)) (List.sublist_append_right _ _) ?_
           exact rq_v (rv_sub rfl rfl rfl (by constructor <;> omega))
          ·
           intro vf pf hR
           have e4 : (vf 4) = .bool false ∧ (pf 4) = [] := hR 4 (by decide)
           have e5 : (vf 5) = v26 ∧ (pf 5) = [] := hR 5 (by decide)
           have e8 : (vf 8) = .int .i64 ((ys.length : Int) - 1) ∧ (pf 8) = [] := hR 8 (by decide)
           refine Or.inl ⟨want_of (congrArg some e4.1) rfl, ?_⟩
           refine rq_less (sx 79 (congrArg some e5.1) (sx 82 (congrArg some e8.1) (sub_nil _))) (List.sublist_append_right _ _) ?_
           exact (rq_call (by kernel_rfl) rfl (fun w hm => ret_ans (lawsGet_ans ys ((ys.length : Int) - 1) _ w ((rd_row 0 rfl) w hm) (by omega))))
          ·
           intro vf pf hR
           have e4 : (vf 4) = .bool false ∧ (pf 4) = [] := hR 4 (by decide)
           refine Or.inl ⟨want_of (congrArg some e4.1) rfl, ?_⟩
           refine rq_less (sx 6 rfl (sub_nil _)) (List.sublist_append_right _ _) ?_
           exact rq_v (rv_field (k0 := 0) rfl (by kernel_rfl) rfl)
          ·
           intro vf pf hR
           have e4 : (vf 4) = .bool false ∧ (pf 4) = [] := hR 4 (by decide)
           have e10 : (vf 10) = .pointer (some ⟨b6, 0 + 0, none⟩) ∧ (pf 10) = [] := hR 10 (by decide)
           refine Or.inl ⟨want_of (congrArg some e4.1) rfl, ?_⟩
           refine rq_less (sx 84 (congrArg some e10.1) (sub_nil _)) (List.sublist_append_right _ _) ?_
           exact rq_v (rv_load rfl (by kernel_rfl) rfl (box_cell 1 rfl rfl))
          ·
           intro vf pf hR
           have e4 : (vf 4) = .bool false ∧ (pf 4) = [] := hR 4 (by decide)
           refine Or.inl ⟨want_of (congrArg some e4.1) rfl, ?_⟩
           refine rq_less (sx 9 rfl (sub_nil _)) (List.sublist_append_right _ _) ?_
           exact rq_v (rv_ev rfl)
          ·
           intro vf pf hR
           have e4 : (vf 4) = .bool false ∧ (pf 4) = [] := hR 4 (by decide)
           have e11 : (vf 11) = r.nv ∧ (pf 11) = [] := hR 11 (by decide)
           have e12 : (vf 12) = .int .i64 (k : Int) ∧ (pf 12) = [] := hR 12 (by decide)
           refine Or.inl ⟨want_of (congrArg some e4.1) rfl, ?_⟩
           refine rq_less (sx 85 (congrArg some e11.1) (sx 86 (congrArg some e12.1) (sub_nil _))) (List.sublist_append_right _ _) ?_
           exact rq_v (rv_index (s := 1) rfl Try.underlying26 (by kernel_rfl) rfl rfl (fun w hm => (rt_rds 3 rfl w hm).1) (by omega) (by first | omega | (simp only [List.length_set]; omega)))
          ·
           intro vf pf hR
           have e4 : (vf 4) = .bool false ∧ (pf 4) = [] := hR 4 (by decide)
           have e13 : (vf 13) = elP r.nv (((k : Int)).toNat * 1) ∧ (pf 13) = [] := hR 13 (by decide)
           refine Or.inl ⟨want_of (congrArg some e4.1) rfl, ?_⟩
           refine rq_less (sx 87 (congrArg some e13.1) (sub_nil _)) (List.sublist_append_right _ _) ?_
           exact rq_v (rv_loadEl (u := .int .i64 (r.ns.getD k 0)) rfl (by kernel_rfl) rfl (fun w hm => (rt_rds 3 rfl w hm).1) (ints_at1 (show _ < r.ns.length by first | omega | (simp only [List.length_set]; omega))))
          ·
           intro vf pf hR
           have e4 : (vf 4) = .bool false ∧ (pf 4) = [] := hR 4 (by decide)
           have e9 : (vf 9) = .int .i64 (getI ys ((ys.length : Int) - 1)) ∧ (pf 9) = [] := hR 9 (by decide)
           have e14 : (vf 14) = .int .i64 (r.ns.getD k 0) ∧ (pf 14) = [] := hR 14 (by decide)
           refine Or.inl ⟨want_of (congrArg some e4.1) rfl, ?_⟩
           refine rq_less (sx 83 (congrArg some e9.1) (sx 88 (congrArg some e14.1) (sub_nil _))) (List.sublist_append_right _ _) ?_
           exact rq_mono (rq_v (rv_cmp rfl rfl rfl rfl)) (fun _ _ h => ⟨h.1.trans (congrArg Value.bool hb30), h.2⟩)
          ·
           intro vf pf hR
           have e4 : (vf 4) = .bool false ∧ (pf 4) = [] := hR 4 (by decide)
           have e15 : (vf 15) = .bool false ∧ (pf 15) = [] := hR 15 (by decide)
           refine Or.inl ⟨rfl, ?_⟩
           refine rq_less (sx 78 (congrArg some e4.1) (sx 89 (congrArg some e15.1) (sub_nil _))) (List.sublist_append_right _ _) ?_
           exact rq_v (rv_ev rfl)
          ·
           intro vf pf hR
           have e16 : (vf 16) = .bool false ∧ (pf 16) = [] := hR 16 (by decide)
           refine Or.inl ⟨rfl, ?_⟩
           refine rq_less (sx 90 (congrArg some e16.1) (sub_nil _)) (List.sublist_append_right _ _) ?_
           exact rq_v (rv_ev rfl)
          ·
           intro vf pf hR
           have e17 : (vf 17) = .bool false ∧ (pf 17) = [] := hR 17 (by decide)
           refine Or.inl ⟨want_of (congrArg some e17.1) rfl, ?_⟩
           refine rq_less (sx 9 rfl (sub_nil _)) (List.sublist_append_right _ _) ?_
           exact rq_v (rv_ev rfl)
          ·
           intro vf pf hR
           have e17 : (vf 17) = .bool false ∧ (pf 17) = [] := hR 17 (by decide)
           have e18 : (vf 18) = .int .i64 (k : Int) ∧ (pf 18) = [] := hR 18 (by decide)
           refine Or.inl ⟨want_of (congrArg some e17.1) rfl, ?_⟩
           refine rq_less (sx 92 (congrArg some e18.1) (sub_nil _)) (List.sublist_append_right _ _) ?_
           exact rq_mono (rq_v (rv_cmp rfl rfl rfl rfl)) (fun _ _ h => ⟨h.1.trans (congrArg Value.bool hb31), h.2⟩)
          ·
           intro vf pf hR
           have e17 : (vf 17) = .bool false ∧ (pf 17) = [] := hR 17 (by decide)
           have e19 : (vf 19) = .bool true ∧ (pf 19) = [] := hR 19 (by decide)
           refine Or.inl ⟨want_of (congrArg some e17.1) rfl, ?_⟩
           refine rq_less (sx 93 (congrArg some e19.1) (sub_nil _)) (List.sublist_append_right _ _) ?_
           exact rq_v (rv_ev rfl)
          ·
           intro vf pf hR
           have e20 : (vf 20) = .bool true ∧ (pf 20) = [] := hR 20 (by decide)
           refine Or.inl ⟨want_of (congrArg some e20.1) rfl, ?_⟩
           refine rq_less (sx 10 rfl (sub_nil _)) (List.sublist_append_right _ _) ?_
           exact rq_v (rv_ev rfl)
          ·
           intro vf pf hR
           have e20 : (vf 20) = .bool true ∧ (pf 20) = [] := hR 20 (by decide)
           have e21 : (vf 21) = v26 ∧ (pf 21) = [] := hR 21 (by decide)
           refine Or.inl ⟨want_of (congrArg some e20.1) rfl, ?_⟩
           refine rq_less (sx 95 (congrArg some e21.1) (sub_nil _)) (List.sublist_append_right _ _) ?_
           exact rq_v (rv_len rfl Try.underlying26 rfl (rd_row 0 rfl))
          ·
           intro vf pf hR
           have e20 : (vf 20) = .bool true ∧ (pf 20) = [] := hR 20 (by decide)
           have e22 : (vf 22) = .int .i64 (ys.length : Int) ∧ (pf 22) = [] := hR 22 (by decide)
           refine Or.inl ⟨want_of (congrArg some e20.1) rfl, ?_⟩
           refine rq_less (sx 96 (congrArg some e22.1) (sub_nil _)) (List.sublist_append_right _ _) ?_
           exact rq_mono (rq_v (rv_cmp rfl rfl rfl rfl)) (fun _ _ h => ⟨h.1.trans (congrArg Value.bool hb32), h.2⟩)
          ·
           intro vf pf hR
           have e17 : (vf 17) = .bool false ∧ (pf 17) = [] := hR 17 (by decide)
           have e20 : (vf 20) = .bool true ∧ (pf 20) = [] := hR 20 (by decide)
           have e23 : (vf 23) = .bool false ∧ (pf 23) = [] := hR 23 (by decide)
           refine Or.inl ⟨want_of (congrArg some e17.1) rfl, ?_⟩
           refine rq_less (sx 94 (congrArg some e20.1) (sx 97 (congrArg some e23.1) (sub_nil _))) (List.sublist_append_right _ _) ?_
           exact rq_v (rv_ev rfl)
          ·
           intro vf pf hR
           have e17 : (vf 17) = .bool false ∧ (pf 17) = [] := hR 17 (by decide)
           have e24 : (vf 24) = .bool false ∧ (pf 24) = [] := hR 24 (by decide)
           refine Or.inl ⟨rfl, ?_⟩
           refine rq_less (sx 91 (congrArg some e17.1) (sx 98 (congrArg some e24.1) (sub_nil _))) (List.sublist_append_right _ _) ?_
           exact rq_v (rv_ev rfl)
         ·
          intro vf pf hR
          have e25 : (vf 25) = .bool false ∧ (pf 25) = [] := hR 25 (by decide)
          refine hl_less (l' := [rowE 3 1 v26 ys.length (ys.map (Value.int .i64)), boxE b6 #[r.nv, r.fv] 28, boxE b5 #[.int .i64 d.W, .int .i64 d.H, .int .i64 d.T, .int .i64 d.R] 25, rtE r, rowE 3 1 sv ks.length (ks.map (Value.int .i64))]) (sx 0 rfl (sx 2 rfl (sx 3 rfl (sx 4 rfl (sx 5 rfl (sx 6 rfl (sx 7 rfl (sx 8 rfl (sx 9 rfl (sx 10 rfl (sx 12 rfl (sx 25 rfl (sx 52 rfl (sx 63 rfl (sx 68 rfl (sx 99 (congrArg some e25.1) (sub_nil _))))))))))))))))) (List.sublist_append_right _ _) ?_
          simp only [List.drop_succ_cons, List.drop_zero]
          refine hl_less (sx 0 rfl (sx 2 rfl (sx 3 rfl (sx 4 rfl (sx 5 rfl (sx 6 rfl (sx 7 rfl (sx 8 rfl (sx 9 rfl (sx 10 rfl (sx 12 rfl (sx 25 rfl (sx 52 rfl (sx 63 rfl (sx 68 rfl (sx 99 rfl (sub_nil _))))))))))))))))) (.refl _) ?_
          refine hl_nil ?_
          refine hq_then ?_
          refine hc_false rfl ?_
          refine hc_skip ?_
          refine hq_then ?_
          rcases Bool.eq_false_or_eq_true (isWireI d (r.ns.getD k 0)) with hb33 | hb33
          ·
           refine hc_draw (by kernel_rfl) 10 [0, 1, 2, 3, 4, 5, 6, 7, 8, 9] (List.take 10 _) (List.drop 10 _) [[], [], [], [2], [], [3, 4], [5], [1, 6], [7], [0, 8]] [100, 101, 102, 103, 104, 105, 106, 107, 108, 109] (fun i_ vs_ v_ p_ => match i_ with | 0 => v_ = .int .i64 c ∧ p_ = [] | 1 => v_ = .agg #[.int .i64 d.W, .int .i64 d.H, .int .i64 d.T, .int .i64 d.R] ∧ p_ = [] | 2 => v_ = .pointer (some ⟨b6, 0 + 0, none⟩) ∧ p_ = [] | 3 => v_ = r.nv ∧ p_ = [] | 4 => v_ = .int .i64 (k : Int) ∧ p_ = [] | 5 => v_ = elP r.nv (((k : Int)).toNat * 1) ∧ p_ = [] | 6 => v_ = .int .i64 (r.ns.getD k 0) ∧ p_ = [] | 7 => v_ = .bool true ∧ p_ = [] | 8 => v_ = .int .i64 1 ∧ p_ = [] | 9 => v_ = .int .i64 (c + 1) ∧ p_ = [] | _ => True) (List.take_append_drop 10 _).symm (by kernel_rfl) (by kernel_rfl) rfl rfl ?_ ?_
           ·
            refine ⟨?_, ?_, ?_, ?_, ?_, ?_, ?_, ?_, ?_, ?_, trivial⟩
            ·
             intro vf pf hR
             refine Or.inl ⟨rfl, ?_⟩
             refine rq_less (sx 8 rfl (sub_nil _)) (List.sublist_append_right _ _) ?_
             exact rq_v (rv_ev rfl)
            ·
             intro vf pf hR
             refine Or.inl ⟨rfl, ?_⟩
             refine rq_less (sx 3 rfl (sub_nil _)) (List.sublist_append_right _ _) ?_
             exact rq_v (rv_loadN (cs := [.int .i64 d.W, .int .i64 d.H, .int .i64 d.T, .int .i64 d.R]) rfl (by kernel_rfl) (by kernel_rfl) rfl rfl (box_part 2 rfl 0 rfl))
            ·
             intro vf pf hR
             refine Or.inl ⟨rfl, ?_⟩
             refine rq_less (sx 6 rfl (sub_nil _)) (List.sublist_append_right _ _) ?_
             exact rq_v (rv_field (k0 := 0) rfl (by kernel_rfl) rfl)
            ·
             intro vf pf hR
             have e2 : (vf 2) = .pointer (some ⟨b6, 0 + 0, none⟩) ∧ (pf 2) = [] := hR 2 (by decide)
             refine Or.inl ⟨rfl, ?_⟩
             refine rq_less (sx 102 (congrArg some e2.1) (sub_nil _)) (List.sublist_append_right _ _) ?_
             exact rq_v (rv_load rfl (by kernel_rfl) rfl (box_cell 1 rfl rfl))
            ·
             intro vf pf hR
             refine Or.inl ⟨rfl, ?_⟩
             refine rq_less (sx 9 rfl (sub_nil _)) (List.sublist_append_right _ _) ?_
             exact rq_v (rv_ev rfl)
            ·
             intro vf pf hR
             have e3 : (vf 3) = r.nv ∧ (pf 3) = [] := hR 3 (by decide)
             have e4 : (vf 4) = .int .i64 (k : Int) ∧ (pf 4) = [] := hR 4 (by decide)
             refine Or.inl ⟨rfl, ?_⟩
             refine rq_less (sx 103 (congrArg some e3.1) (sx 104 (congrArg some e4.1) (sub_nil _))) (List.sublist_append_right _ _) ?_
             exact rq_v (rv_index (s := 1) rfl Try.underlying26 (by kernel_rfl) rfl rfl (fun w hm => (rt_rds 3 rfl w hm).1) (by omega) (by first | omega | (simp only [List.length_set]; omega)))
            ·
             intro vf pf hR
             have e5 : (vf 5) = elP r.nv (((k : Int)).toNat * 1) ∧ (pf 5) = [] := hR 5 (by decide)
             refine Or.inl ⟨rfl, ?_⟩
             refine rq_less (sx 105 (congrArg some e5.1) (sub_nil _)) (List.sublist_append_right _ _) ?_
             exact rq_v (rv_loadEl (u := .int .i64 (r.ns.getD k 0)) rfl (by kernel_rfl) rfl (fun w hm => (rt_rds 3 rfl w hm).1) (ints_at1 (show _ < r.ns.length by first | omega | (simp only [List.length_set]; omega))))
            ·
             intro vf pf hR
             have e1 : (vf 1) = .agg #[.int .i64 d.W, .int .i64 d.H, .int .i64 d.T, .int .i64 d.R] ∧ (pf 1) = [] := hR 1 (by decide)
             have e6 : (vf 6) = .int .i64 (r.ns.getD k 0) ∧ (pf 6) = [] := hR 6 (by decide)
             refine Or.inl ⟨rfl, ?_⟩
             refine rq_less (sx 101 (congrArg some e1.1) (sx 106 (congrArg some e6.1) (sub_nil _))) (List.sublist_append_right _ _) ?_
             exact rq_mono (rq_call (by kernel_rfl) rfl (fun w hm => ret_ans (isWire_ans d _ w))) (fun _ _ h => ⟨h.1.trans (congrArg Value.bool hb33), h.2⟩)
            ·
             intro vf pf hR
             have e7 : (vf 7) = .bool true ∧ (pf 7) = [] := hR 7 (by decide)
             refine Or.inl ⟨rfl, ?_⟩
             refine rq_less (sx 107 (congrArg some e7.1) (sub_nil _)) (List.sublist_append_right _ _) ?_
             exact (rq_call (by kernel_rfl) rfl (fun w hm => ret_ans (btoi_t w)))
            ·
             intro vf pf hR
             have e0 : (vf 0) = .int .i64 c ∧ (pf 0) = [] := hR 0 (by decide)
             have e8 : (vf 8) = .int .i64 1 ∧ (pf 8) = [] := hR 8 (by decide)
             refine Or.inl ⟨rfl, ?_⟩
             refine rq_less (sx 100 (congrArg some e0.1) (sx 108 (congrArg some e8.1) (sub_nil _))) (List.sublist_append_right _ _) ?_
             exact rq_v (rv_add rfl rfl rfl (by constructor <;> omega))
           ·
            intro vf pf hR
            have e9 : (vf 9) = .int .i64 (c + 1) ∧ (pf 9) = [] := hR 9 (by decide)
            refine hl_less (l' := [rowE 3 1 v26 ys.length (ys.map (Value.int .i64)), boxE b6 #[r.nv, r.fv] 28, boxE b5 #[.int .i64 d.W, .int .i64 d.H, .int .i64 d.T, .int .i64 d.R] 25, rtE r, rowE 3 1 sv ks.length (ks.map (Value.int .i64))]) (sx 0 rfl (sx 2 rfl (sx 3 rfl (sx 4 rfl (sx 5 rfl (sx 6 rfl (sx 7 rfl (sx 8 rfl (sx 9 rfl (sx 10 rfl (sx 12 rfl (sx 25 rfl (sx 52 rfl (sx 63 rfl (sx 68 rfl (sx 99 rfl (sx 109 (congrArg some e9.1) (sub_nil _)))))))))))))))))) (List.sublist_append_right _ _) ?_
            simp only [List.drop_succ_cons, List.drop_zero]
            refine hl_v rfl rfl rfl (rv_ev rfl) ?_
            refine hl_less (sx 0 rfl (sx 2 rfl (sx 3 rfl (sx 4 rfl (sx 5 rfl (sx 6 rfl (sx 7 rfl (sx 8 rfl (sx 9 rfl (sx 10 rfl (sx 12 rfl (sx 25 rfl (sx 52 rfl (sx 63 rfl (sx 68 rfl (sx 99 rfl (sub_nil _))))))))))))))))) (.refl _) ?_
            refine hl_nil ?_
            refine hq_block_normal ?_
            refine hq_then ?_
            refine hc_region ?_
            refine hl_v rfl rfl rfl (rv_ev rfl) ?_
            refine hl_v rfl rfl rfl (rv_add rfl rfl rfl (by constructor <;> omega)) ?_
            refine hl_v rfl rfl rfl (rv_ev rfl) ?_
            refine hl_less (sx 0 rfl (sx 2 rfl (sx 3 rfl (sx 4 rfl (sx 5 rfl (sx 6 rfl (sx 7 rfl (sx 8 rfl (sx 9 rfl (sx 10 rfl (sx 12 rfl (sx 25 rfl (sx 52 rfl (sx 63 rfl (sx 68 rfl (sx 99 rfl (sub_nil _))))))))))))))))) (.refl _) ?_
            refine hl_nil ?_
            exact hq_round2 (k + 1) (c + 1) ⟨by omega, by rw [wcnt_step (by omega), if_pos (by assumption), hc]⟩ (by omega) (sx 0 rfl (sx 2 rfl (sx 3 rfl (sx 4 rfl (sx 5 rfl (sx 6 rfl (sx 7 rfl (sx 8 rfl (sx 9 rfl (sx 12 rfl (sx 25 rfl (sx 52 rfl (sx 63 rfl (sub_nil _)))))))))))))) ((.cons _ (.cons_cons _ (.cons_cons _ (.cons_cons _ (.cons_cons _ .slnil))))))
          ·
           refine hc_draw (by kernel_rfl) 10 [0, 1, 2, 3, 4, 5, 6, 7, 8, 9] (List.take 10 _) (List.drop 10 _) [[], [], [], [2], [], [3, 4], [5], [1, 6], [7], [0, 8]] [100, 101, 102, 103, 104, 105, 106, 107, 108, 109] (fun i_ vs_ v_ p_ => match i_ with | 0 => v_ = .int .i64 c ∧ p_ = [] | 1 => v_ = .agg #[.int .i64 d.W, .int .i64 d.H, .int .i64 d.T, .int .i64 d.R] ∧ p_ = [] | 2 => v_ = .pointer (some ⟨b6, 0 + 0, none⟩) ∧ p_ = [] | 3 => v_ = r.nv ∧ p_ = [] | 4 => v_ = .int .i64 (k : Int) ∧ p_ = [] | 5 => v_ = elP r.nv (((k : Int)).toNat * 1) ∧ p_ = [] | 6 => v_ = .int .i64 (r.ns.getD k 0) ∧ p_ = [] | 7 => v_ = .bool false ∧ p_ = [] | 8 => v_ = .int .i64 0 ∧ p_ = [] | 9 => v_ = .int .i64 (c + 0) ∧ p_ = [] | _ => True) (List.take_append_drop 10 _).symm (by kernel_rfl) (by kernel_rfl) rfl rfl ?_ ?_
           ·
            refine ⟨?_, ?_, ?_, ?_, ?_, ?_, ?_, ?_, ?_, ?_, trivial⟩
            ·
             intro vf pf hR
             refine Or.inl ⟨rfl, ?_⟩
             refine rq_less (sx 8 rfl (sub_nil _)) (List.sublist_append_right _ _) ?_
             exact rq_v (rv_ev rfl)
            ·
             intro vf pf hR
             refine Or.inl ⟨rfl, ?_⟩
             refine rq_less (sx 3 rfl (sub_nil _)) (List.sublist_append_right _ _) ?_
             exact rq_v (rv_loadN (cs := [.int .i64 d.W, .int .i64 d.H, .int .i64 d.T, .int .i64 d.R]) rfl (by kernel_rfl) (by kernel_rfl) rfl rfl (box_part 2 rfl 0 rfl))
            ·
             intro vf pf hR
             refine Or.inl ⟨rfl, ?_⟩
             refine rq_less (sx 6 rfl (sub_nil _)) (List.sublist_append_right _ _) ?_
             exact rq_v (rv_field (k0 := 0) rfl (by kernel_rfl) rfl)
            ·
             intro vf pf hR
             have e2 : (vf 2) = .pointer (some ⟨b6, 0 + 0, none⟩) ∧ (pf 2) = [] := hR 2 (by decide)
             refine Or.inl ⟨rfl, ?_⟩
             refine rq_less (sx 102 (congrArg some e2.1) (sub_nil _)) (List.sublist_append_right _ _) ?_
             exact rq_v (rv_load rfl (by kernel_rfl) rfl (box_cell 1 rfl rfl))
            ·
             intro vf pf hR
             refine Or.inl ⟨rfl, ?_⟩
             refine rq_less (sx 9 rfl (sub_nil _)) (List.sublist_append_right _ _) ?_
             exact rq_v (rv_ev rfl)
            ·
             intro vf pf hR
             have e3 : (vf 3) = r.nv ∧ (pf 3) = [] := hR 3 (by decide)
             have e4 : (vf 4) = .int .i64 (k : Int) ∧ (pf 4) = [] := hR 4 (by decide)
             refine Or.inl ⟨rfl, ?_⟩
             refine rq_less (sx 103 (congrArg some e3.1) (sx 104 (congrArg some e4.1) (sub_nil _))) (List.sublist_append_right _ _) ?_
             exact rq_v (rv_index (s := 1) rfl Try.underlying26 (by kernel_rfl) rfl rfl (fun w hm => (rt_rds 3 rfl w hm).1) (by omega) (by first | omega | (simp only [List.length_set]; omega)))
            ·
             intro vf pf hR
             have e5 : (vf 5) = elP r.nv (((k : Int)).toNat * 1) ∧ (pf 5) = [] := hR 5 (by decide)
             refine Or.inl ⟨rfl, ?_⟩
             refine rq_less (sx 105 (congrArg some e5.1) (sub_nil _)) (List.sublist_append_right _ _) ?_
             exact rq_v (rv_loadEl (u := .int .i64 (r.ns.getD k 0)) rfl (by kernel_rfl) rfl (fun w hm => (rt_rds 3 rfl w hm).1) (ints_at1 (show _ < r.ns.length by first | omega | (simp only [List.length_set]; omega))))
            ·
             intro vf pf hR
             have e1 : (vf 1) = .agg #[.int .i64 d.W, .int .i64 d.H, .int .i64 d.T, .int .i64 d.R] ∧ (pf 1) = [] := hR 1 (by decide)
             have e6 : (vf 6) = .int .i64 (r.ns.getD k 0) ∧ (pf 6) = [] := hR 6 (by decide)
             refine Or.inl ⟨rfl, ?_⟩
             refine rq_less (sx 101 (congrArg some e1.1) (sx 106 (congrArg some e6.1) (sub_nil _))) (List.sublist_append_right _ _) ?_
             exact rq_mono (rq_call (by kernel_rfl) rfl (fun w hm => ret_ans (isWire_ans d _ w))) (fun _ _ h => ⟨h.1.trans (congrArg Value.bool hb33), h.2⟩)
            ·
             intro vf pf hR
             have e7 : (vf 7) = .bool false ∧ (pf 7) = [] := hR 7 (by decide)
             refine Or.inl ⟨rfl, ?_⟩
             refine rq_less (sx 107 (congrArg some e7.1) (sub_nil _)) (List.sublist_append_right _ _) ?_
             exact (rq_call (by kernel_rfl) rfl (fun w hm => ret_ans (btoi_f w)))
            ·
             intro vf pf hR
             have e0 : (vf 0) = .int .i64 c ∧ (pf 0) = [] := hR 0 (by decide)
             have e8 : (vf 8) = .int .i64 0 ∧ (pf 8) = [] := hR 8 (by decide)
             refine Or.inl ⟨rfl, ?_⟩
             refine rq_less (sx 100 (congrArg some e0.1) (sx 108 (congrArg some e8.1) (sub_nil _))) (List.sublist_append_right _ _) ?_
             exact rq_v (rv_add rfl rfl rfl (by constructor <;> omega))
           ·
            intro vf pf hR
            have e9 : (vf 9) = .int .i64 (c + 0) ∧ (pf 9) = [] := hR 9 (by decide)
            refine hl_less (l' := [rowE 3 1 v26 ys.length (ys.map (Value.int .i64)), boxE b6 #[r.nv, r.fv] 28, boxE b5 #[.int .i64 d.W, .int .i64 d.H, .int .i64 d.T, .int .i64 d.R] 25, rtE r, rowE 3 1 sv ks.length (ks.map (Value.int .i64))]) (sx 0 rfl (sx 2 rfl (sx 3 rfl (sx 4 rfl (sx 5 rfl (sx 6 rfl (sx 7 rfl (sx 8 rfl (sx 9 rfl (sx 10 rfl (sx 12 rfl (sx 25 rfl (sx 52 rfl (sx 63 rfl (sx 68 rfl (sx 99 rfl (sx 109 (congrArg some e9.1) (sub_nil _)))))))))))))))))) (List.sublist_append_right _ _) ?_
            simp only [List.drop_succ_cons, List.drop_zero]
            refine hl_v rfl rfl rfl (rv_ev rfl) ?_
            refine hl_less (sx 0 rfl (sx 2 rfl (sx 3 rfl (sx 4 rfl (sx 5 rfl (sx 6 rfl (sx 7 rfl (sx 8 rfl (sx 9 rfl (sx 10 rfl (sx 12 rfl (sx 25 rfl (sx 52 rfl (sx 63 rfl (sx 68 rfl (sx 99 rfl (sub_nil _))))))))))))))))) (.refl _) ?_
            refine hl_nil ?_
            refine hq_block_normal ?_
            refine hq_then ?_
            refine hc_region ?_
            refine hl_v rfl rfl rfl (rv_ev rfl) ?_
            refine hl_v rfl rfl rfl (rv_add rfl rfl rfl (by constructor <;> omega)) ?_
            refine hl_v rfl rfl rfl (rv_ev rfl) ?_
            refine hl_less (sx 0 rfl (sx 2 rfl (sx 3 rfl (sx 4 rfl (sx 5 rfl (sx 6 rfl (sx 7 rfl (sx 8 rfl (sx 9 rfl (sx 10 rfl (sx 12 rfl (sx 25 rfl (sx 52 rfl (sx 63 rfl (sx 68 rfl (sx 99 rfl (sub_nil _))))))))))))))))) (.refl _) ?_
            refine hl_nil ?_
            exact hq_round2 (k + 1) (c + 0) ⟨by omega, by rw [wcnt_step (by omega), if_neg (by rw [show isWireI d (r.ns.getD k 0) = false by assumption]; decide), hc]⟩ (by omega) (sx 0 rfl (sx 2 rfl (sx 3 rfl (sx 4 rfl (sx 5 rfl (sx 6 rfl (sx 7 rfl (sx 8 rfl (sx 9 rfl (sx 12 rfl (sx 25 rfl (sx 52 rfl (sx 63 rfl (sub_nil _)))))))))))))) ((.cons _ (.cons_cons _ (.cons_cons _ (.cons_cons _ (.cons_cons _ .slnil))))))
        ·
         have hb31p : ¬ (0 < (k : Int)) := of_decide_eq_false hb31
         refine hc_draw (by kernel_rfl) 26 [0, 1, 2, 3, 4, 5, 6, 7, 8, 9, 10, 11, 12, 13, 14, 15, 16, 17, 18, 19, 20, 21, 22, 23, 24, 25] (List.take 26 _) (List.drop 26 _) [[], [0], [], [1, 2], [3], [4], [4], [4, 6], [4, 7], [4, 5, 8], [4], [4, 10], [4], [4, 11, 12], [4, 13], [4, 9, 14], [4, 15], [16], [17], [17, 18], [17, 19], [20], [20], [20], [17, 20, 23], [17, 24]] [74, 75, 76, 77, 78, 79, 80, 81, 82, 83, 84, 85, 86, 87, 88, 89, 90, 91, 92, 93, 94, 95, 96, 97, 98, 99] (fun i_ vs_ v_ p_ => match i_ with | 0 => v_ = v26 ∧ p_ = [] | 1 => v_ = .int .i64 (getI ys 0) ∧ p_ = [] | 2 => v_ = .int .i64 s0 ∧ p_ = [] | 3 => v_ = .bool false ∧ p_ = [] | 4 => v_ = .bool false ∧ p_ = [] | 5 => v_ = v26 ∧ p_ = [] | 6 => v_ = v26 ∧ p_ = [] | 7 => v_ = .int .i64 (ys.length : Int) ∧ p_ = [] | 8 => v_ = .int .i64 ((ys.length : Int) - 1) ∧ p_ = [] | 9 => v_ = .int .i64 (getI ys ((ys.length : Int) - 1)) ∧ p_ = [] | 10 => v_ = .pointer (some ⟨b6, 0 + 0, none⟩) ∧ p_ = [] | 11 => v_ = r.nv ∧ p_ = [] | 12 => v_ = .int .i64 (k : Int) ∧ p_ = [] | 13 => v_ = elP r.nv (((k : Int)).toNat * 1) ∧ p_ = [] | 14 => v_ = .int .i64 (r.ns.getD k 0) ∧ p_ = [] | 15 => v_ = .bool false ∧ p_ = [] | 16 => v_ = .bool false ∧ p_ = [] | 17 => v_ = .bool false ∧ p_ = [] | 18 => v_ = .int .i64 (k : Int) ∧ p_ = [] | 19 => v_ = .bool false ∧ p_ = [] | 20 => v_ = .bool false ∧ p_ = [] | 21 => v_ = undef ∧ p_ = [] | 22 => v_ = undef ∧ p_ = [] | 23 => v_ = undef ∧ p_ = [] | 24 => v_ = .bool false ∧ p_ = [] | 25 => v_ = .bool false ∧ p_ = [] | _ => True) (List.take_append_drop 26 _).symm (by kernel_rfl) (by kernel_rfl) rfl rfl ?_ ?_
         ·
          refine ⟨?_, ?_, ?_, ?_, ?_, ?_, ?_, ?_, ?_, ?_, ?_, ?_, ?_, ?_, ?_, ?_, ?_, ?_, ?_, ?_, ?_, ?_, ?_, ?_, ?_, ?_, trivial⟩
          ·
           intro vf pf hR
           refine Or.inl ⟨rfl, ?_⟩
           refine rq_less (sx 10 rfl (sub_nil _)) (List.sublist_append_right _ _) ?_
           exact rq_v (rv_ev rfl)
          ·
           intro vf pf hR
           have e0 : (vf 0) = v26 ∧ (pf 0) = [] := hR 0 (by decide)
           refine Or.inl ⟨rfl, ?_⟩
           refine rq_less (sx 74 (congrArg some e0.1) (sub_nil _)) (List.sublist_append_right _ _) ?_
           exact (rq_call (by kernel_rfl) rfl (fun w hm => ret_ans (lawsGet_ans ys 0 _ w ((rd_row 0 rfl) w hm) (by omega))))
          ·
           intro vf pf hR
           refine Or.inl ⟨rfl, ?_⟩
           refine rq_less (sx 4 rfl (sub_nil _)) (List.sublist_append_right _ _) ?_
           exact rq_v (rv_ev rfl)
          ·
           intro vf pf hR
           have e1 : (vf 1) = .int .i64 (getI ys 0) ∧ (pf 1) = [] := hR 1 (by decide)
           have e2 : (vf 2) = .int .i64 s0 ∧ (pf 2) = [] := hR 2 (by decide)
           refine Or.inl ⟨rfl, ?_⟩
           refine rq_less (sx 75 (congrArg some e1.1) (sx 76 (congrArg some e2.1) (sub_nil _))) (List.sublist_append_right _ _) ?_
           exact rq_mono (rq_v (rv_cmp rfl rfl rfl rfl)) (fun _ _ h => ⟨h.1.trans (congrArg Value.bool hb29), h.2⟩)
          ·
           intro vf pf hR
           have e3 : (vf 3) = .bool false ∧ (pf 3) = [] := hR 3 (by decide)
           refine Or.inl ⟨rfl, ?_⟩
           refine rq_less (sx 77 (congrArg some e3.1) (sub_nil _)) (List.sublist_append_right _ _) ?_
           exact rq_v (rv_ev rfl)
          ·
           intro vf pf hR
           have e4 : (vf 4) = .bool false ∧ (pf 4) = [] := hR 4 (by decide)
           refine Or.inl ⟨want_of (congrArg some e4.1) rfl, ?_⟩
           refine rq_less (sx 10 rfl (sub_nil _)) (List.sublist_append_right _ _) ?_
           exact rq_v (rv_ev rfl)
          ·
           intro vf pf hR
           have e4 : (vf 4) = .bool false ∧ (pf 4) = [] := hR 4 (by decide)
           refine Or.inl ⟨want_of (congrArg some e4.1) rfl, ?_⟩
           refine rq_less (sx 10 rfl (sub_nil _)) (List.sublist_append_right _ _) ?_
           exact rq_v (rv_ev rfl)
          ·
           intro vf pf hR
           have e4 : (vf 4) = .bool false ∧ (pf 4) = [] := hR 4 (by decide)
           have e6 : (vf 6) = v26 ∧ (pf 6) = [] := hR 6 (by decide)
           refine Or.inl ⟨want_of (congrArg some e4.1) rfl, ?_⟩
           refine rq_less (sx 80 (congrArg some e6.1) (sub_nil _)) (List.sublist_append_right _ _) ?_
           exact rq_v (rv_len rfl Try.underlying26 rfl (rd_row 0 rfl))
          ·
           intro vf pf hR
           have e4 : (vf 4) = .bool false ∧ (pf 4) = [] := hR 4 (by decide)
           have e7 : (vf 7) = .int .i64 (ys.length : Int) ∧ (pf 7) = [] := hR 7 (by decide)
           refine Or.inl ⟨want_of (congrArg some e4.1) rfl, ?_⟩
           refine rq_less (sx 81 (congrArg some e7.1) (sub_nil _)) (List.sublist_append_right _ _) ?_
           exact rq_v (rv_sub rfl rfl rfl (by constructor <;> omega))
          ·
           intro vf pf hR
           have e4 : (vf 4) = .bool false ∧ (pf 4) = [] := hR 4 (by decide)
           have e5 : (vf 5) = v26 ∧ (pf 5) = [] := hR 5 (by decide)
           have e8 : (vf 8) = .int .i64 ((ys.length : Int) - 1) ∧ (pf 8) = [] := hR 8 (by decide)
           refine Or.inl ⟨want_of (congrArg some e4.1) rfl, ?_⟩
           refine rq_less (sx 79 (congrArg some e5.1) (sx 82 (congrArg some e8.1) (sub_nil _))) (List.sublist_append_right _ _) ?_
           exact (rq_call (by kernel_rfl) rfl (fun w hm => ret_ans (lawsGet_ans ys ((ys.length : Int) - 1) _ w ((rd_row 0 rfl) w hm) (by omega))))
          ·
           intro vf pf hR
           have e4 : (vf 4) = .bool false ∧ (pf 4) = [] := hR 4 (by decide)
           refine Or.inl ⟨want_of (congrArg some e4.1) rfl, ?_⟩
           refine rq_less (sx 6 rfl (sub_nil _)) (List.sublist_append_right _ _) ?_
           exact rq_v (rv_field (k0 := 0) rfl (by kernel_rfl) rfl)
          ·
           intro vf pf hR
           have e4 : (vf 4) = .bool false ∧ (pf 4) = [] := hR 4 (by decide)
           have e10 : (vf 10) = .pointer (some ⟨b6, 0 + 0, none⟩) ∧ (pf 10) = [] := hR 10 (by decide)
           refine Or.inl ⟨want_of (congrArg some e4.1) rfl, ?_⟩
           refine rq_less (sx 84 (congrArg some e10.1) (sub_nil _)) (List.sublist_append_right _ _) ?_
           exact rq_v (rv_load rfl (by kernel_rfl) rfl (box_cell 1 rfl rfl))
          ·
           intro vf pf hR
           have e4 : (vf 4) = .bool false ∧ (pf 4) = [] := hR 4 (by decide)
           refine Or.inl ⟨want_of (congrArg some e4.1) rfl, ?_⟩
           refine rq_less (sx 9 rfl (sub_nil _)) (List.sublist_append_right _ _) ?_
           exact rq_v (rv_ev rfl)
          ·
           intro vf pf hR
           have e4 : (vf 4) = .bool false ∧ (pf 4) = [] := hR 4 (by decide)
           have e11 : (vf 11) = r.nv ∧ (pf 11) = [] := hR 11 (by decide)
           have e12 : (vf 12) = .int .i64 (k : Int) ∧ (pf 12) = [] := hR 12 (by decide)
           refine Or.inl ⟨want_of (congrArg some e4.1) rfl, ?_⟩
           refine rq_less (sx 85 (congrArg some e11.1) (sx 86 (congrArg some e12.1) (sub_nil _))) (List.sublist_append_right _ _) ?_
           exact rq_v (rv_index (s := 1) rfl Try.underlying26 (by kernel_rfl) rfl rfl (fun w hm => (rt_rds 3 rfl w hm).1) (by omega) (by first | omega | (simp only [List.length_set]; omega)))
          ·
           intro vf pf hR
           have e4 : (vf 4) = .bool false ∧ (pf 4) = [] := hR 4 (by decide)
           have e13 : (vf 13) = elP r.nv (((k : Int)).toNat * 1) ∧ (pf 13) = [] := hR 13 (by decide)
           refine Or.inl ⟨want_of (congrArg some e4.1) rfl, ?_⟩
           refine rq_less (sx 87 (congrArg some e13.1) (sub_nil _)) (List.sublist_append_right _ _) ?_
           exact rq_v (rv_loadEl (u := .int .i64 (r.ns.getD k 0)) rfl (by kernel_rfl) rfl (fun w hm => (rt_rds 3 rfl w hm).1) (ints_at1 (show _ < r.ns.length by first | omega | (simp only [List.length_set]; omega))))
          ·
           intro vf pf hR
           have e4 : (vf 4) = .bool false ∧ (pf 4) = [] := hR 4 (by decide)
           have e9 : (vf 9) = .int .i64 (getI ys ((ys.length : Int) - 1)) ∧ (pf 9) = [] := hR 9 (by decide)
           have e14 : (vf 14) = .int .i64 (r.ns.getD k 0) ∧ (pf 14) = [] := hR 14 (by decide)
           refine Or.inl ⟨want_of (congrArg some e4.1) rfl, ?_⟩
           refine rq_less (sx 83 (congrArg some e9.1) (sx 88 (congrArg some e14.1) (sub_nil _))) (List.sublist_append_right _ _) ?_
           exact rq_mono (rq_v (rv_cmp rfl rfl rfl rfl)) (fun _ _ h => ⟨h.1.trans (congrArg Value.bool hb30), h.2⟩)
          ·
           intro vf pf hR
           have e4 : (vf 4) = .bool false ∧ (pf 4) = [] := hR 4 (by decide)
           have e15 : (vf 15) = .bool false ∧ (pf 15) = [] := hR 15 (by decide)
           refine Or.inl ⟨rfl, ?_⟩
           refine rq_less (sx 78 (congrArg some e4.1) (sx 89 (congrArg some e15.1) (sub_nil _))) (List.sublist_append_right _ _) ?_
           exact rq_v (rv_ev rfl)
          ·
           intro vf pf hR
           have e16 : (vf 16) = .bool false ∧ (pf 16) = [] := hR 16 (by decide)
           refine Or.inl ⟨rfl, ?_⟩
           refine rq_less (sx 90 (congrArg some e16.1) (sub_nil _)) (List.sublist_append_right _ _) ?_
           exact rq_v (rv_ev rfl)
          ·
           intro vf pf hR
           have e17 : (vf 17) = .bool false ∧ (pf 17) = [] := hR 17 (by decide)
           refine Or.inl ⟨want_of (congrArg some e17.1) rfl, ?_⟩
           refine rq_less (sx 9 rfl (sub_nil _)) (List.sublist_append_right _ _) ?_
           exact rq_v (rv_ev rfl)
          ·
           intro vf pf hR
           have e17 : (vf 17) = .bool false ∧ (pf 17) = [] := hR 17 (by decide)
           have e18 : (vf 18) = .int .i64 (k : Int) ∧ (pf 18) = [] := hR 18 (by decide)
           refine Or.inl ⟨want_of (congrArg some e17.1) rfl, ?_⟩
           refine rq_less (sx 92 (congrArg some e18.1) (sub_nil _)) (List.sublist_append_right _ _) ?_
           exact rq_mono (rq_v (rv_cmp rfl rfl rfl rfl)) (fun _ _ h => ⟨h.1.trans (congrArg Value.bool hb31), h.2⟩)
          ·
           intro vf pf hR
           have e17 : (vf 17) = .bool false ∧ (pf 17) = [] := hR 17 (by decide)
           have e19 : (vf 19) = .bool false ∧ (pf 19) = [] := hR 19 (by decide)
           refine Or.inl ⟨want_of (congrArg some e17.1) rfl, ?_⟩
           refine rq_less (sx 93 (congrArg some e19.1) (sub_nil _)) (List.sublist_append_right _ _) ?_
           exact rq_v (rv_ev rfl)
          ·
           intro vf pf hR
           have e20 : (vf 20) = .bool false ∧ (pf 20) = [] := hR 20 (by decide)
           exact Or.inr ⟨want_of (congrArg some e20.1) rfl, rfl, rfl⟩
          ·
           intro vf pf hR
           have e20 : (vf 20) = .bool false ∧ (pf 20) = [] := hR 20 (by decide)
           exact Or.inr ⟨want_of (congrArg some e20.1) rfl, rfl, rfl⟩
          ·
           intro vf pf hR
           have e20 : (vf 20) = .bool false ∧ (pf 20) = [] := hR 20 (by decide)
           exact Or.inr ⟨want_of (congrArg some e20.1) rfl, rfl, rfl⟩
          ·
           intro vf pf hR
           have e17 : (vf 17) = .bool false ∧ (pf 17) = [] := hR 17 (by decide)
           have e20 : (vf 20) = .bool false ∧ (pf 20) = [] := hR 20 (by decide)
           have e23 : (vf 23) = undef ∧ (pf 23) = [] := hR 23 (by decide)
           refine Or.inl ⟨want_of (congrArg some e17.1) rfl, ?_⟩
           refine rq_less (sx 94 (congrArg some e20.1) (sx 97 (congrArg some e23.1) (sub_nil _))) (List.sublist_append_right _ _) ?_
           exact rq_v (rv_ev rfl)
          ·
           intro vf pf hR
           have e17 : (vf 17) = .bool false ∧ (pf 17) = [] := hR 17 (by decide)
           have e24 : (vf 24) = .bool false ∧ (pf 24) = [] := hR 24 (by decide)
           refine Or.inl ⟨rfl, ?_⟩
           refine rq_less (sx 91 (congrArg some e17.1) (sx 98 (congrArg some e24.1) (sub_nil _))) (List.sublist_append_right _ _) ?_
           exact rq_v (rv_ev rfl)
         ·
          intro vf pf hR
          have e25 : (vf 25) = .bool false ∧ (pf 25) = [] := hR 25 (by decide)
          refine hl_less (l' := [rowE 3 1 v26 ys.length (ys.map (Value.int .i64)), boxE b6 #[r.nv, r.fv] 28, boxE b5 #[.int .i64 d.W, .int .i64 d.H, .int .i64 d.T, .int .i64 d.R] 25, rtE r, rowE 3 1 sv ks.length (ks.map (Value.int .i64))]) (sx 0 rfl (sx 2 rfl (sx 3 rfl (sx 4 rfl (sx 5 rfl (sx 6 rfl (sx 7 rfl (sx 8 rfl (sx 9 rfl (sx 10 rfl (sx 12 rfl (sx 25 rfl (sx 52 rfl (sx 63 rfl (sx 68 rfl (sx 99 (congrArg some e25.1) (sub_nil _))))))))))))))))) (List.sublist_append_right _ _) ?_
          simp only [List.drop_succ_cons, List.drop_zero]
          refine hl_less (sx 0 rfl (sx 2 rfl (sx 3 rfl (sx 4 rfl (sx 5 rfl (sx 6 rfl (sx 7 rfl (sx 8 rfl (sx 9 rfl (sx 10 rfl (sx 12 rfl (sx 25 rfl (sx 52 rfl (sx 63 rfl (sx 68 rfl (sx 99 rfl (sub_nil _))))))))))))))))) (.refl _) ?_
          refine hl_nil ?_
          refine hq_then ?_
          refine hc_false rfl ?_
          refine hc_skip ?_
          refine hq_then ?_
          rcases Bool.eq_false_or_eq_true (isWireI d (r.ns.getD k 0)) with hb34 | hb34
          ·
           refine hc_draw (by kernel_rfl) 10 [0, 1, 2, 3, 4, 5, 6, 7, 8, 9] (List.take 10 _) (List.drop 10 _) [[], [], [], [2], [], [3, 4], [5], [1, 6], [7], [0, 8]] [100, 101, 102, 103, 104, 105, 106, 107, 108, 109] (fun i_ vs_ v_ p_ => match i_ with | 0 => v_ = .int .i64 c ∧ p_ = [] | 1 => v_ = .agg #[.int .i64 d.W, .int .i64 d.H, .int .i64 d.T, .int .i64 d.R] ∧ p_ = [] | 2 => v_ = .pointer (some ⟨b6, 0 + 0, none⟩) ∧ p_ = [] | 3 => v_ = r.nv ∧ p_ = [] | 4 => v_ = .int .i64 (k : Int) ∧ p_ = [] | 5 => v_ = elP r.nv (((k : Int)).toNat * 1) ∧ p_ = [] | 6 => v_ = .int .i64 (r.ns.getD k 0) ∧ p_ = [] | 7 => v_ = .bool true ∧ p_ = [] | 8 => v_ = .int .i64 1 ∧ p_ = [] | 9 => v_ = .int .i64 (c + 1) ∧ p_ = [] | _ => True) (List.take_append_drop 10 _).symm (by kernel_rfl) (by kernel_rfl) rfl rfl ?_ ?_
           ·
            refine ⟨?_, ?_, ?_, ?_, ?_, ?_, ?_, ?_, ?_, ?_, trivial⟩
            ·
             intro vf pf hR
             refine Or.inl ⟨rfl, ?_⟩
             refine rq_less (sx 8 rfl (sub_nil _)) (List.sublist_append_right _ _) ?_
             exact rq_v (rv_ev rfl)
            ·
             intro vf pf hR
             refine Or.inl ⟨rfl, ?_⟩
             refine rq_less (sx 3 rfl (sub_nil _)) (List.sublist_append_right _ _) ?_
             exact rq_v (rv_loadN (cs := [.int .i64 d.W, .int .i64 d.H, .int .i64 d.T, .int .i64 d.R]) rfl (by kernel_rfl) (by kernel_rfl) rfl rfl (box_part 2 rfl 0 rfl))
            ·
             intro vf pf hR
             refine Or.inl ⟨rfl, ?_⟩
             refine rq_less (sx 6 rfl (sub_nil _)) (List.sublist_append_right _ _) ?_
             exact rq_v (rv_field (k0 := 0) rfl (by kernel_rfl) rfl)
            ·
             intro vf pf hR
             have e2 : (vf 2) = .pointer (some ⟨b6, 0 + 0, none⟩) ∧ (pf 2) = [] := hR 2 (by decide)
             refine Or.inl ⟨rfl, ?_⟩
             refine rq_less (sx 102 (congrArg some e2.1) (sub_nil _)) (List.sublist_append_right _ _) ?_
             exact rq_v (rv_load rfl (by kernel_rfl) rfl (box_cell 1 rfl rfl))
            ·
             intro vf pf hR
             refine Or.inl ⟨rfl, ?_⟩
             refine rq_less (sx 9 rfl (sub_nil _)) (List.sublist_append_right _ _) ?_
             exact rq_v (rv_ev rfl)
            ·
             intro vf pf hR
             have e3 : (vf 3) = r.nv ∧ (pf 3) = [] := hR 3 (by decide)
             have e4 : (vf 4) = .int .i64 (k : Int) ∧ (pf 4) = [] := hR 4 (by decide)
             refine Or.inl ⟨rfl, ?_⟩
             refine rq_less (sx 103 (congrArg some e3.1) (sx 104 (congrArg some e4.1) (sub_nil _))) (List.sublist_append_right _ _) ?_
             exact rq_v (rv_index (s := 1) rfl Try.underlying26 (by kernel_rfl) rfl rfl (fun w hm => (rt_rds 3 rfl w hm).1) (by omega) (by first | omega | (simp only [List.length_set]; omega)))
            ·
             intro vf pf hR
             have e5 : (vf 5) = elP r.nv (((k : Int)).toNat * 1) ∧ (pf 5) = [] := hR 5 (by decide)
             refine Or.inl ⟨rfl, ?_⟩
             refine rq_less (sx 105 (congrArg some e5.1) (sub_nil _)) (List.sublist_append_right _ _) ?_
             exact rq_v (rv_loadEl (u := .int .i64 (r.ns.getD k 0)) rfl (by kernel_rfl) rfl (fun w hm => (rt_rds 3 rfl w hm).1) (ints_at1 (show _ < r.ns.length by first | omega | (simp only [List.length_set]; omega))))
            ·
             intro vf pf hR
             have e1 : (vf 1) = .agg #[.int .i64 d.W, .int .i64 d.H, .int .i64 d.T, .int .i64 d.R] ∧ (pf 1) = [] := hR 1 (by decide)
             have e6 : (vf 6) = .int .i64 (r.ns.getD k 0) ∧ (pf 6) = [] := hR 6 (by decide)
             refine Or.inl ⟨rfl, ?_⟩
             refine rq_less (sx 101 (congrArg some e1.1) (sx 106 (congrArg some e6.1) (sub_nil _))) (List.sublist_append_right _ _) ?_
             exact rq_mono (rq_call (by kernel_rfl) rfl (fun w hm => ret_ans (isWire_ans d _ w))) (fun _ _ h => ⟨h.1.trans (congrArg Value.bool hb34), h.2⟩)
            ·
             intro vf pf hR
             have e7 : (vf 7) = .bool true ∧ (pf 7) = [] := hR 7 (by decide)
             refine Or.inl ⟨rfl, ?_⟩
             refine rq_less (sx 107 (congrArg some e7.1) (sub_nil _)) (List.sublist_append_right _ _) ?_
             exact (rq_call (by kernel_rfl) rfl (fun w hm => ret_ans (btoi_t w)))
            ·
             intro vf pf hR
             have e0 : (vf 0) = .int .i64 c ∧ (pf 0) = [] := hR 0 (by decide)
             have e8 : (vf 8) = .int .i64 1 ∧ (pf 8) = [] := hR 8 (by decide)
             refine Or.inl ⟨rfl, ?_⟩
             refine rq_less (sx 100 (congrArg some e0.1) (sx 108 (congrArg some e8.1) (sub_nil _))) (List.sublist_append_right _ _) ?_
             exact rq_v (rv_add rfl rfl rfl (by constructor <;> omega))
           ·
            intro vf pf hR
            have e9 : (vf 9) = .int .i64 (c + 1) ∧ (pf 9) = [] := hR 9 (by decide)
            refine hl_less (l' := [rowE 3 1 v26 ys.length (ys.map (Value.int .i64)), boxE b6 #[r.nv, r.fv] 28, boxE b5 #[.int .i64 d.W, .int .i64 d.H, .int .i64 d.T, .int .i64 d.R] 25, rtE r, rowE 3 1 sv ks.length (ks.map (Value.int .i64))]) (sx 0 rfl (sx 2 rfl (sx 3 rfl (sx 4 rfl (sx 5 rfl (sx 6 rfl (sx 7 rfl (sx 8 rfl (sx 9 rfl (sx 10 rfl (sx 12 rfl (sx 25 rfl (sx 52 rfl (sx 63 rfl (sx 68 rfl (sx 99 rfl (sx 109 (congrArg some e9.1) (sub_nil _)))))))))))))))))) (List.sublist_append_right _ _) ?_
            simp only [List.drop_succ_cons, List.drop_zero]
            refine hl_v rfl rfl rfl (rv_ev rfl) ?_
            refine hl_less (sx 0 rfl (sx 2 rfl (sx 3 rfl (sx 4 rfl (sx 5 rfl (sx 6 rfl (sx 7 rfl (sx 8 rfl (sx 9 rfl (sx 10 rfl (sx 12 rfl (sx 25 rfl (sx 52 rfl (sx 63 rfl (sx 68 rfl (sx 99 rfl (sub_nil _))))))))))))))))) (.refl _) ?_
            refine hl_nil ?_
            refine hq_block_normal ?_
            refine hq_then ?_
            refine hc_region ?_
            refine hl_v rfl rfl rfl (rv_ev rfl) ?_
            refine hl_v rfl rfl rfl (rv_add rfl rfl rfl (by constructor <;> omega)) ?_
            refine hl_v rfl rfl rfl (rv_ev rfl) ?_
            refine hl_less (sx 0 rfl (sx 2 rfl (sx 3 rfl (sx 4 rfl (sx 5 rfl (sx 6 rfl (sx 7 rfl (sx 8 rfl (sx 9 rfl (sx 10 rfl (sx 12 rfl (sx 25 rfl (sx 52 rfl (sx 63 rfl (sx 68 rfl (sx 99 rfl (sub_nil _))))))))))))))))) (.refl _) ?_
            refine hl_nil ?_
            exact hq_round2 (k + 1) (c + 1) ⟨by omega, by rw [wcnt_step (by omega), if_pos (by assumption), hc]⟩ (by omega) (sx 0 rfl (sx 2 rfl (sx 3 rfl (sx 4 rfl (sx 5 rfl (sx 6 rfl (sx 7 rfl (sx 8 rfl (sx 9 rfl (sx 12 rfl (sx 25 rfl (sx 52 rfl (sx 63 rfl (sub_nil _)))))))))))))) ((.cons _ (.cons_cons _ (.cons_cons _ (.cons_cons _ (.cons_cons _ .slnil))))))
          ·
           refine hc_draw (by kernel_rfl) 10 [0, 1, 2, 3, 4, 5, 6, 7, 8, 9] (List.take 10 _) (List.drop 10 _) [[], [], [], [2], [], [3, 4], [5], [1, 6], [7], [0, 8]] [100, 101, 102, 103, 104, 105, 106, 107, 108, 109] (fun i_ vs_ v_ p_ => match i_ with | 0 => v_ = .int .i64 c ∧ p_ = [] | 1 => v_ = .agg #[.int .i64 d.W, .int .i64 d.H, .int .i64 d.T, .int .i64 d.R] ∧ p_ = [] | 2 => v_ = .pointer (some ⟨b6, 0 + 0, none⟩) ∧ p_ = [] | 3 => v_ = r.nv ∧ p_ = [] | 4 => v_ = .int .i64 (k : Int) ∧ p_ = [] | 5 => v_ = elP r.nv (((k : Int)).toNat * 1) ∧ p_ = [] | 6 => v_ = .int .i64 (r.ns.getD k 0) ∧ p_ = [] | 7 => v_ = .bool false ∧ p_ = [] | 8 => v_ = .int .i64 0 ∧ p_ = [] | 9 => v_ = .int .i64 (c + 0) ∧ p_ = [] | _ => True) (List.take_append_drop 10 _).symm (by kernel_rfl) (by kernel_rfl) rfl rfl ?_ ?_
           ·
            refine ⟨?_, ?_, ?_, ?_, ?_, ?_, ?_, ?_, ?_, ?_, trivial⟩
            ·
             intro vf pf hR
             refine Or.inl ⟨rfl, ?_⟩
             refine rq_less (sx 8 rfl (sub_nil _)) (List.sublist_append_right _ _) ?_
             exact rq_v (rv_ev rfl)
            ·
             intro vf pf hR
             refine Or.inl ⟨rfl, ?_⟩
             refine rq_less (sx 3 rfl (sub_nil _)) (List.sublist_append_right _ _) ?_
             exact rq_v (rv_loadN (cs := [.int .i64 d.W, .int .i64 d.H, .int .i64 d.T, .int .i64 d.R]) rfl (by kernel_rfl) (by kernel_rfl) rfl rfl (box_part 2 rfl 0 rfl))
            ·
             intro vf pf hR
             refine Or.inl ⟨rfl, ?_⟩
             refine rq_less (sx 6 rfl (sub_nil _)) (List.sublist_append_right _ _) ?_
             exact rq_v (rv_field (k0 := 0) rfl (by kernel_rfl) rfl)
            ·
             intro vf pf hR
             have e2 : (vf 2) = .pointer (some ⟨b6, 0 + 0, none⟩) ∧ (pf 2) = [] := hR 2 (by decide)
             refine Or.inl ⟨rfl, ?_⟩
             refine rq_less (sx 102 (congrArg some e2.1) (sub_nil _)) (List.sublist_append_right _ _) ?_
             exact rq_v (rv_load rfl (by kernel_rfl) rfl (box_cell 1 rfl rfl))
            ·
             intro vf pf hR
             refine Or.inl ⟨rfl, ?_⟩
             refine rq_less (sx 9 rfl (sub_nil _)) (List.sublist_append_right _ _) ?_
             exact rq_v (rv_ev rfl)
            ·
             intro vf pf hR
             have e3 : (vf 3) = r.nv ∧ (pf 3) = [] := hR 3 (by decide)
             have e4 : (vf 4) = .int .i64 (k : Int) ∧ (pf 4) = [] := hR 4 (by decide)
             refine Or.inl ⟨rfl, ?_⟩
             refine rq_less (sx 103 (congrArg some e3.1) (sx 104 (congrArg some e4.1) (sub_nil _))) (List.sublist_append_right _ _) ?_
             exact rq_v (rv_index (s := 1) rfl Try.underlying26 (by kernel_rfl) rfl rfl (fun w hm => (rt_rds 3 rfl w hm).1) (by omega) (by first | omega | (simp only [List.length_set]; omega)))
            ·
             intro vf pf hR
             have e5 : (vf 5) = elP r.nv (((k : Int)).toNat * 1) ∧ (pf 5) = [] := hR 5 (by decide)
             refine Or.inl ⟨rfl, ?_⟩
             refine rq_less (sx 105 (congrArg some e5.1) (sub_nil _)) (List.sublist_append_right _ _) ?_
             exact rq_v (rv_loadEl (u := .int .i64 (r.ns.getD k 0)) rfl (by kernel_rfl) rfl (fun w hm => (rt_rds 3 rfl w hm).1) (ints_at1 (show _ < r.ns.length by first | omega | (simp only [List.length_set]; omega))))
            ·
             intro vf pf hR
             have e1 : (vf 1) = .agg #[.int .i64 d.W, .int .i64 d.H, .int .i64 d.T, .int .i64 d.R] ∧ (pf 1) = [] := hR 1 (by decide)
             have e6 : (vf 6) = .int .i64 (r.ns.getD k 0) ∧ (pf 6) = [] := hR 6 (by decide)
             refine Or.inl ⟨rfl, ?_⟩
             refine rq_less (sx 101 (congrArg some e1.1) (sx 106 (congrArg some e6.1) (sub_nil _))) (List.sublist_append_right _ _) ?_
             exact rq_mono (rq_call (by kernel_rfl) rfl (fun w hm => ret_ans (isWire_ans d _ w))) (fun _ _ h => ⟨h.1.trans (congrArg Value.bool hb34), h.2⟩)
            ·
             intro vf pf hR
             have e7 : (vf 7) = .bool false ∧ (pf 7) = [] := hR 7 (by decide)
             refine Or.inl ⟨rfl, ?_⟩
             refine rq_less (sx 107 (congrArg some e7.1) (sub_nil _)) (List.sublist_append_right _ _) ?_
             exact (rq_call (by kernel_rfl) rfl (fun w hm => ret_ans (btoi_f w)))
            ·
             intro vf pf hR
             have e0 : (vf 0) = .int .i64 c ∧ (pf 0) = [] := hR 0 (by decide)
             have e8 : (vf 8) = .int .i64 0 ∧ (pf 8) = [] := hR 8 (by decide)
             refine Or.inl ⟨rfl, ?_⟩
             refine rq_less (sx 100 (congrArg some e0.1) (sx 108 (congrArg some e8.1) (sub_nil _))) (List.sublist_append_right _ _) ?_
             exact rq_v (rv_add rfl rfl rfl (by constructor <;> omega))
           ·
            intro vf pf hR
            have e9 : (vf 9) = .int .i64 (c + 0) ∧ (pf 9) = [] := hR 9 (by decide)
            refine hl_less (l' := [rowE 3 1 v26 ys.length (ys.map (Value.int .i64)), boxE b6 #[r.nv, r.fv] 28, boxE b5 #[.int .i64 d.W, .int .i64 d.H, .int .i64 d.T, .int .i64 d.R] 25, rtE r, rowE 3 1 sv ks.length (ks.map (Value.int .i64))]) (sx 0 rfl (sx 2 rfl (sx 3 rfl (sx 4 rfl (sx 5 rfl (sx 6 rfl (sx 7 rfl (sx 8 rfl (sx 9 rfl (sx 10 rfl (sx 12 rfl (sx 25 rfl (sx 52 rfl (sx 63 rfl (sx 68 rfl (sx 99 rfl (sx 109 (congrArg some e9.1) (sub_nil _)))))))))))))))))) (List.sublist_append_right _ _) ?_
            simp only [List.drop_succ_cons, List.drop_zero]
            refine hl_v rfl rfl rfl (rv_ev rfl) ?_
            refine hl_less (sx 0 rfl (sx 2 rfl (sx 3 rfl (sx 4 rfl (sx 5 rfl (sx 6 rfl (sx 7 rfl (sx 8 rfl (sx 9 rfl (sx 10 rfl (sx 12 rfl (sx 25 rfl (sx 52 rfl (sx 63 rfl (sx 68 rfl (sx 99 rfl (sub_nil _))))))))))))))))) (.refl _) ?_
            refine hl_nil ?_
            refine hq_block_normal ?_
            refine hq_then ?_
            refine hc_region ?_
            refine hl_v rfl rfl rfl (rv_ev rfl) ?_
            refine hl_v rfl rfl rfl (rv_add rfl rfl rfl (by constructor <;> omega)) ?_
            refine hl_v rfl rfl rfl (rv_ev rfl) ?_
            refine hl_less (sx 0 rfl (sx 2 rfl (sx 3 rfl (sx 4 rfl (sx 5 rfl (sx 6 rfl (sx 7 rfl (sx 8 rfl (sx 9 rfl (sx 10 rfl (sx 12 rfl (sx 25 rfl (sx 52 rfl (sx 63 rfl (sx 68 rfl (sx 99 rfl (sub_nil _))))))))))))))))) (.refl _) ?_
            refine hl_nil ?_
            exact hq_round2 (k + 1) (c + 0) ⟨by omega, by rw [wcnt_step (by omega), if_neg (by rw [show isWireI d (r.ns.getD k 0) = false by assumption]; decide), hc]⟩ (by omega) (sx 0 rfl (sx 2 rfl (sx 3 rfl (sx 4 rfl (sx 5 rfl (sx 6 rfl (sx 7 rfl (sx 8 rfl (sx 9 rfl (sx 12 rfl (sx 25 rfl (sx 52 rfl (sx 63 rfl (sub_nil _)))))))))))))) ((.cons _ (.cons_cons _ (.cons_cons _ (.cons_cons _ (.cons_cons _ .slnil))))))
       ·
        refine hl_less (sx 0 rfl (sx 2 rfl (sx 3 rfl (sx 4 rfl (sx 5 rfl (sx 6 rfl (sx 7 rfl (sx 8 rfl (sx 9 rfl (sx 12 rfl (sx 25 rfl (sx 52 rfl (sx 63 rfl (sx 68 rfl (sub_nil _))))))))))))))) (.refl _) ?_
        refine hl_nil ?_
        refine hq_then ?_
        refine hc_false rfl ?_
        refine hc_exit ?_
        refine hq_then_exit ?_
        refine hq_then_exit ?_
        refine hq_block_exit ?_
        refine hq_then ?_
        refine hc_seq ?_
        refine hc_region ?_
        have hcw : c = wcnt d r.ns r.ns.length := by rw [hc, show k = r.ns.length by omega]
        refine hl_v rfl rfl rfl (rv_loadN (cs := [.int .i64 d.W, .int .i64 d.H, .int .i64 d.T, .int .i64 d.R]) rfl (by kernel_rfl) (by kernel_rfl) rfl rfl (box_part 1 rfl 0 rfl)) ?_
        refine hl_v rfl rfl rfl (rv_loadN (cs := [r.nv, r.fv]) rfl (by kernel_rfl) (by kernel_rfl) rfl rfl (box_part 0 rfl 0 rfl)) ?_
        refine hl_callV rfl rfl rfl (rq_call (by kernel_rfl) rfl (fun w hm => ret_ans (WireCount_ans d r w (rt_rds 2 rfl w hm).1 (rt_rds 2 rfl w hm).2 (by omega)))) ?_
        refine hl_v rfl rfl rfl (rv_ev rfl) ?_
        refine hl_eql rfl rfl rfl rfl rfl rfl (fun h35 => ?_) (fun h35 => absurd h35 (by omega))
        refine hl_v rfl rfl rfl (rv_ev rfl) ?_
        refine hl_v rfl rfl rfl (rv_ev rfl) ?_
        refine hl_v rfl rfl rfl (rv_ev rfl) ?_
        refine hl_v rfl rfl rfl (rv_len rfl Try.underlying26 rfl (rd_row 3 rfl)) ?_
        refine hl_v rfl rfl rfl (rv_add rfl rfl rfl (by constructor <;> omega)) ?_
        refine hl_v rfl rfl rfl (rv_add rfl rfl rfl (by constructor <;> omega)) ?_
        refine hl_v rfl rfl rfl (rv_field (k0 := 0) rfl (by kernel_rfl) rfl) ?_
        refine hl_v rfl rfl rfl (rv_load rfl (by kernel_rfl) rfl (box_cell 0 rfl rfl)) ?_
        refine hl_v rfl rfl rfl (rv_len rfl Try.underlying26 rfl (fun w hm => (rt_rds 2 rfl w hm).1)) ?_
        refine hl_eql rfl rfl rfl rfl rfl rfl (fun h36 => ?_) (fun h36 => absurd h36 (by omega))
        refine hl_v rfl rfl rfl (rv_ev rfl) ?_
        refine hl_v rfl rfl rfl (rv_ev rfl) ?_
        refine hl_less (sx 0 rfl (sx 2 rfl (sx 3 rfl (sx 4 rfl (sx 5 rfl (sx 6 rfl (sx 7 rfl (sx 8 rfl (sx 9 rfl (sx 12 rfl (sx 25 rfl (sx 52 rfl (sx 63 rfl (sx 68 rfl (sub_nil _))))))))))))))) (.refl _) ?_
        refine hl_nil ?_
        refine hq_then ?_
        refine hc_ret ?_
        exact hq_ans rfl rfl rfl
   ·
    have hot := hb8
    refine hc_draw3 (l := [boxE b6 #[r.nv, r.fv] 28, boxE b5 #[.int .i64 d.W, .int .i64 d.H, .int .i64 d.T, .int .i64 d.R] 25, rtE r, rowE 3 1 sv ks.length (ks.map (Value.int .i64))]) (by kernel_rfl) 15 [0, 1, 2, 3, 4, 5, 6, 7, 8, 9, 10, 11, 12, 13, 14] (List.take 15 _) (List.drop 15 _) [[], [0], [], [1, 2], [3], [4], [5], [5], [5], [5], [5, 8, 9], [5], [5, 11], [5, 10, 12], [5]] [some 36, some 37, some 38, some 39, some 40, some 41, some 42, some 43, some 44, some 45, some 46, some 47, some 48, some 49, some 50] (fun i_ vs_ v_ p_ => match i_ with | 0 => v_ = .pointer (some ⟨b6, 0 + 0, none⟩) ∧ p_ = [] | 1 => v_ = r.nv ∧ p_ = [] | 2 => v_ = .int .i64 (inPinI d ((cod z0 len0 0 : Int) % (d.W * d.H)) 0) ∧ p_ = [] | 3 => v_ = .bool false ∧ p_ = [] | 4 => v_ = .bool true ∧ p_ = [] | 5 => v_ = .bool true ∧ p_ = [] | 6 => v_ = .agg #[.int .i64 d.W, .int .i64 d.H, .int .i64 d.T, .int .i64 d.R] ∧ p_ = [] | 7 => v_ = .int .i64 s0 ∧ p_ = [] | 8 => IsRow_o 3 1 0 ([]) v_ p_ | 9 => v_ = sv ∧ p_ = [] | 10 => (∃ pm_, p_ = [pm_] ∧ (fun u_ p_ => p_ = rowE 3 1 u_ ks.length (ks.map (Value.int .i64))) v_ pm_) | 11 => v_ = .int .i64 (inPinI d ((cod z0 len0 0 : Int) % (d.W * d.H)) 0) ∧ p_ = [] | 12 => IsRow_o 3 1 1 ([inPinI d ((cod z0 len0 0 : Int) % (d.W * d.H)) 0].map (Value.int .i64)) v_ p_ | 13 => (∃ pm_, p_ = [pm_] ∧ (fun u_ p_ => p_ = rowE 3 1 u_ ((ks ++ ([inPinI d ((cod z0 len0 0 : Int) % (d.W * d.H)) 0])).length) ((ks ++ ([inPinI d ((cod z0 len0 0 : Int) % (d.W * d.H)) 0])).map (Value.int .i64))) v_ pm_) | 14 => v_ = .agg #[r.nv, r.fv] ∧ p_ = [] | _ => True) [[], [0], [], [1, 2], [3], [4], [5], [5], [5], [5], [5, 9], [5], [5, 11], [5, 12], [5]] [none, none, none, none, none, none, none, none, none, none, some 8, none, none, some 10, none] [] [0, 1, 2, 3, 4, 5, 6, 7, 9, 11, 12, 13, 14] 17 (List.take_append_drop 15 _).symm (by kernel_rfl) (by kernel_rfl) (by kernel_rfl) rfl rfl ?_ ?_
    ·
     refine ⟨?_, ?_, ?_, ?_, ?_, ?_, ?_, ?_, ?_, ?_, ?_, ?_, ?_, ?_, ?_, trivial⟩
     ·
      intro vf pf hmu hR
      refine Or.inl ⟨rfl, ?_⟩
      show RunQ _ _ _ (([] : List Nat).flatMap pf ++ _) (envOf3 _ vf [] ++ _) _ _
      refine rq_less (sx 6 rfl (sub_nil _)) (List.sublist_append_right _ _) ?_
      exact rq_v (rv_field (k0 := 0) rfl (by kernel_rfl) rfl)
     ·
      intro vf pf hmu hR
      have e0 : (vf 0) = .pointer (some ⟨b6, 0 + 0, none⟩) ∧ (pf 0) = [] := hR 0 (by decide)
      refine Or.inl ⟨rfl, ?_⟩
      show RunQ _ _ _ (([0] : List Nat).flatMap pf ++ _) (envOf3 _ vf [0] ++ _) _ _
      refine rq_less (sx 36 (congrArg some e0.1) (sub_nil _)) (List.sublist_append_right _ _) ?_
      exact rq_v (rv_load rfl (by kernel_rfl) rfl (box_cell 0 rfl rfl))
     ·
      intro vf pf hmu hR
      refine Or.inl ⟨rfl, ?_⟩
      show RunQ _ _ _ (([] : List Nat).flatMap pf ++ _) (envOf3 _ vf [] ++ _) _ _
      refine rq_less (sx 7 rfl (sub_nil _)) (List.sublist_append_right _ _) ?_
      exact rq_v (rv_ev rfl)
     ·
      intro vf pf hmu hR
      have e1 : (vf 1) = r.nv ∧ (pf 1) = [] := hR 1 (by decide)
      have e2 : (vf 2) = .int .i64 (inPinI d ((cod z0 len0 0 : Int) % (d.W * d.H)) 0) ∧ (pf 2) = [] := hR 2 (by decide)
      refine Or.inl ⟨rfl, ?_⟩
      show RunQ _ _ _ (([1, 2] : List Nat).flatMap pf ++ _) (envOf3 _ vf [1, 2] ++ _) _ _
      refine rq_less (sx 37 (congrArg some e1.1) (sx 38 (congrArg some e2.1) (sub_nil _))) (List.sublist_append_right _ _) ?_
      exact rq_mono (rq_call (by kernel_rfl) rfl (fun w hm => ret_ans (lawsHas_ans r.ns (inPinI d ((cod z0 len0 0 : Int) % (d.W * d.H)) 0) _ w ((fun w hm => (rt_rds 2 rfl w hm).1) w hm) (by omega)))) (fun _ _ h => ⟨h.1.trans (congrArg Value.bool hb8), h.2⟩)
     ·
      intro vf pf hmu hR
      have e3 : (vf 3) = .bool false ∧ (pf 3) = [] := hR 3 (by decide)
      refine Or.inl ⟨rfl, ?_⟩
      show RunQ _ _ _ (([3] : List Nat).flatMap pf ++ _) (envOf3 _ vf [3] ++ _) _ _
      refine rq_less (sx 39 (congrArg some e3.1) (sub_nil _)) (List.sublist_append_right _ _) ?_
      exact rq_v (rv_ev rfl)
     ·
      intro vf pf hmu hR
      have e4 : (vf 4) = .bool true ∧ (pf 4) = [] := hR 4 (by decide)
      refine Or.inl ⟨rfl, ?_⟩
      show RunQ _ _ _ (([4] : List Nat).flatMap pf ++ _) (envOf3 _ vf [4] ++ _) _ _
      refine rq_less (sx 40 (congrArg some e4.1) (sub_nil _)) (List.sublist_append_right _ _) ?_
      exact rq_v (rv_ev rfl)
     ·
      intro vf pf hmu hR
      have e5 : (vf 5) = .bool true ∧ (pf 5) = [] := hR 5 (by decide)
      refine Or.inl ⟨want_of (congrArg some e5.1) rfl, ?_⟩
      show RunQ _ _ _ (([5] : List Nat).flatMap pf ++ _) (envOf3 _ vf [5] ++ _) _ _
      refine rq_less (sx 3 rfl (sub_nil _)) (List.sublist_append_right _ _) ?_
      exact rq_v (rv_loadN (cs := [.int .i64 d.W, .int .i64 d.H, .int .i64 d.T, .int .i64 d.R]) rfl (by kernel_rfl) (by kernel_rfl) rfl rfl (box_part 1 rfl 0 rfl))
     ·
      intro vf pf hmu hR
      have e5 : (vf 5) = .bool true ∧ (pf 5) = [] := hR 5 (by decide)
      refine Or.inl ⟨want_of (congrArg some e5.1) rfl, ?_⟩
      show RunQ _ _ _ (([5] : List Nat).flatMap pf ++ _) (envOf3 _ vf [5] ++ _) _ _
      refine rq_less (sx 4 rfl (sub_nil _)) (List.sublist_append_right _ _) ?_
      exact rq_v (rv_ev rfl)
     ·
      intro vf pf hmu hR
      have e5 : (vf 5) = .bool true ∧ (pf 5) = [] := hR 5 (by decide)
      refine Or.inl ⟨want_of (congrArg some e5.1) rfl, ?_⟩
      show RunQ _ _ _ (([5] : List Nat).flatMap pf ++ _) (envOf3 _ vf [5] ++ _) _ _
      refine rq_less (sub_nil _) (List.sublist_append_right _ _) ?_
      exact rq_slice0 (s := 1) rfl Try.underlying26 (by kernel_rfl)
     ·
      intro vf pf hmu hR
      have e5 : (vf 5) = .bool true ∧ (pf 5) = [] := hR 5 (by decide)
      refine Or.inl ⟨want_of (congrArg some e5.1) rfl, ?_⟩
      show RunQ _ _ _ (([5] : List Nat).flatMap pf ++ _) (envOf3 _ vf [5] ++ _) _ _
      refine rq_less (sx 5 rfl (sub_nil _)) (List.sublist_append_right _ _) ?_
      exact rq_v (rv_ev rfl)
     ·
      intro vf pf hmu hR
      have e5 : (vf 5) = .bool true ∧ (pf 5) = [] := hR 5 (by decide)
      have e8 : IsRow_o 3 1 0 ([]) (vf 8) (pf 8) := hR 8 (by decide)
      obtain ⟨g37, v8, p8⟩ := e8
      have e9 : (vf 9) = sv ∧ (pf 9) = [] := hR 9 (by decide)
      refine Or.inl ⟨want_of (congrArg some e5.1) rfl, ?_⟩
      show RunM _ _ _ (pf 8) (([5, 9] : List Nat).flatMap pf ++ _) (envOf3 _ vf [5, 8, 9] ++ _) _ _
      rw [p8]; rw [v8]
      refine rm_less (X' := [boxE b6 #[r.nv, r.fv] 28, boxE b5 #[.int .i64 d.W, .int .i64 d.H, .int .i64 d.T, .int .i64 d.R] 25, rtE r, rowE 3 1 sv ks.length (ks.map (Value.int .i64))]) (sx 44 (congrArg some v8) (sx 45 (congrArg some e9.1) (sub_nil _))) (by first | (simp only [e5.2, e9.2, List.flatMap_cons, List.flatMap_nil, List.append_nil, List.nil_append, List.cons_append]; exact List.Sublist.refl _) | simp [e5.2, e9.2]) ?_
      exact rm_append (d := 0) (z := .int .i64 0) (bytes := 8) (n' := ks.length) (xs' := (ks.map (Value.int .i64))) rfl Try.underlying26 (by kernel_rfl) (by kernel_rfl) rfl rfl (rd_row 3 rfl) (ints_one _) (by first | omega | (simp; omega)) ((Nat.zero_add _)) ((List.nil_append _))
     ·
      intro vf pf hmu hR
      have e5 : (vf 5) = .bool true ∧ (pf 5) = [] := hR 5 (by decide)
      refine Or.inl ⟨want_of (congrArg some e5.1) rfl, ?_⟩
      show RunQ _ _ _ (([5] : List Nat).flatMap pf ++ _) (envOf3 _ vf [5] ++ _) _ _
      refine rq_less (sx 7 rfl (sub_nil _)) (List.sublist_append_right _ _) ?_
      exact rq_v (rv_ev rfl)
     ·
      intro vf pf hmu hR
      have e5 : (vf 5) = .bool true ∧ (pf 5) = [] := hR 5 (by decide)
      have e11 : (vf 11) = .int .i64 (inPinI d ((cod z0 len0 0 : Int) % (d.W * d.H)) 0) ∧ (pf 11) = [] := hR 11 (by decide)
      refine Or.inl ⟨want_of (congrArg some e5.1) rfl, ?_⟩
      show RunQ _ _ _ (([5, 11] : List Nat).flatMap pf ++ _) (envOf3 _ vf [5, 11] ++ _) _ _
      refine rq_less (sx 47 (congrArg some e11.1) (sub_nil _)) (List.sublist_append_right _ _) ?_
      exact rq_buildSlice (z := .int .i64 0) (s := 1) (cs := ([inPinI d ((cod z0 len0 0 : Int) % (d.W * d.H)) 0].map (Value.int .i64))) rfl Try.underlying26 (by kernel_rfl) (by decide) rfl (by kernel_rfl) rfl
     ·
      intro vf pf hmu hR
      have e5 : (vf 5) = .bool true ∧ (pf 5) = [] := hR 5 (by decide)
      have e10 : (∃ pm_, (pf 10) = [pm_] ∧ (fun u_ p_ => p_ = rowE 3 1 u_ ks.length (ks.map (Value.int .i64))) (vf 10) pm_) := hR 10 (by decide)
      obtain ⟨p39, p10, hR40⟩ := e10
      obtain ⟨v38, v10⟩ : ∃ x, vf 10 = x := ⟨_, rfl⟩
      rw [v10] at hR40
      subst hR40
      have e12 : IsRow_o 3 1 1 ([inPinI d ((cod z0 len0 0 : Int) % (d.W * d.H)) 0].map (Value.int .i64)) (vf 12) (pf 12) := hR 12 (by decide)
      obtain ⟨g41, v12, p12⟩ := e12
      refine Or.inl ⟨want_of (congrArg some e5.1) rfl, ?_⟩
      show RunM _ _ _ (pf 10) (([5, 12] : List Nat).flatMap pf ++ _) (envOf3 _ vf [5, 10, 12] ++ _) _ _
      rw [p10]
      refine rm_less (X' := [rowE 3 1 (.slice (some ⟨g41, 0, none⟩) 1 1) 1 ([inPinI d ((cod z0 len0 0 : Int) % (d.W * d.H)) 0].map (Value.int .i64)), boxE b6 #[r.nv, r.fv] 28, boxE b5 #[.int .i64 d.W, .int .i64 d.H, .int .i64 d.T, .int .i64 d.R] 25, rtE r, rowE 3 1 sv ks.length (ks.map (Value.int .i64))]) (sx 46 (congrArg some v10) (sx 48 (congrArg some v12) (sub_nil _))) (by first | (simp only [p12, v12, e5.2, List.flatMap_cons, List.flatMap_nil, List.append_nil, List.nil_append, List.cons_append]; exact List.Sublist.refl _) | simp [p12, v12, e5.2]) ?_
      exact rm_append (d := 0) (z := .int .i64 0) (bytes := 8) (n' := (ks ++ ([inPinI d ((cod z0 len0 0 : Int) % (d.W * d.H)) 0])).length) (xs' := ((ks ++ ([inPinI d ((cod z0 len0 0 : Int) % (d.W * d.H)) 0])).map (Value.int .i64))) rfl Try.underlying26 (by kernel_rfl) (by kernel_rfl) rfl rfl (rd_row 0 rfl) (ints_one _) (by first | omega | (simp; omega)) (len_app ks ([inPinI d ((cod z0 len0 0 : Int) % (d.W * d.H)) 0])) (ints_app ks ([inPinI d ((cod z0 len0 0 : Int) % (d.W * d.H)) 0]))
     ·
      intro vf pf hmu hR
      have e5 : (vf 5) = .bool true ∧ (pf 5) = [] := hR 5 (by decide)
      refine Or.inl ⟨want_of (congrArg some e5.1) rfl, ?_⟩
      show RunQ _ _ _ (([5] : List Nat).flatMap pf ++ _) (envOf3 _ vf [5] ++ _) _ _
      refine rq_less (sx 6 rfl (sub_nil _)) (List.sublist_append_right _ _) ?_
      exact rq_v (rv_loadN (cs := [r.nv, r.fv]) rfl (by kernel_rfl) (by kernel_rfl) rfl rfl (box_part 0 rfl 0 rfl))
    ·
     intro vf pf hmu hR
     have e5 : (vf 5) = .bool true ∧ (pf 5) = [] := hR 5 (by decide)
     have e6 : (vf 6) = .agg #[.int .i64 d.W, .int .i64 d.H, .int .i64 d.T, .int .i64 d.R] ∧ (pf 6) = [] := hR 6 (by decide)
     have e7 : (vf 7) = .int .i64 s0 ∧ (pf 7) = [] := hR 7 (by decide)
     have e8 : IsRow_o 3 1 0 ([]) (vf 8) (pf 8) := hR 8 (by decide)
     obtain ⟨g37, v8, p8⟩ := e8
     have e10 : (∃ pm_, (pf 10) = [pm_] ∧ (fun u_ p_ => p_ = rowE 3 1 u_ ks.length (ks.map (Value.int .i64))) (vf 10) pm_) := hR 10 (by decide)
     obtain ⟨p39, p10, hR40⟩ := e10
     obtain ⟨v38, v10⟩ : ∃ x, vf 10 = x := ⟨_, rfl⟩
     rw [v10] at hR40
     subst hR40
     have e12 : IsRow_o 3 1 1 ([inPinI d ((cod z0 len0 0 : Int) % (d.W * d.H)) 0].map (Value.int .i64)) (vf 12) (pf 12) := hR 12 (by decide)
     obtain ⟨g41, v12, p12⟩ := e12
     have e13 : (∃ pm_, (pf 13) = [pm_] ∧ (fun u_ p_ => p_ = rowE 3 1 u_ ((ks ++ ([inPinI d ((cod z0 len0 0 : Int) % (d.W * d.H)) 0])).length) ((ks ++ ([inPinI d ((cod z0 len0 0 : Int) % (d.W * d.H)) 0])).map (Value.int .i64))) (vf 13) pm_) := hR 13 (by decide)
     obtain ⟨p43, p13, hR44⟩ := e13
     obtain ⟨v42, v13⟩ : ∃ x, vf 13 = x := ⟨_, rfl⟩
     rw [v13] at hR44
     subst hR44
     have e14 : (vf 14) = .agg #[r.nv, r.fv] ∧ (pf 14) = [] := hR 14 (by decide)
     have q0 : (vf 0) = .pointer (some ⟨b6, 0 + 0, none⟩) ∧ (pf 0) = [] := hR 0 (by decide)
     have q1 : (vf 1) = r.nv ∧ (pf 1) = [] := hR 1 (by decide)
     have q2 : (vf 2) = .int .i64 (inPinI d ((cod z0 len0 0 : Int) % (d.W * d.H)) 0) ∧ (pf 2) = [] := hR 2 (by decide)
     have q3 : (vf 3) = .bool false ∧ (pf 3) = [] := hR 3 (by decide)
     have q4 : (vf 4) = .bool true ∧ (pf 4) = [] := hR 4 (by decide)
     have q5 : (vf 5) = .bool true ∧ (pf 5) = [] := hR 5 (by decide)
     have q6 : (vf 6) = .agg #[.int .i64 d.W, .int .i64 d.H, .int .i64 d.T, .int .i64 d.R] ∧ (pf 6) = [] := hR 6 (by decide)
     have q7 : (vf 7) = .int .i64 s0 ∧ (pf 7) = [] := hR 7 (by decide)
     have q9 : (vf 9) = sv ∧ (pf 9) = [] := hR 9 (by decide)
     have q11 : (vf 11) = .int .i64 (inPinI d ((cod z0 len0 0 : Int) % (d.W * d.H)) 0) ∧ (pf 11) = [] := hR 11 (by decide)
     have q14 : (vf 14) = .agg #[r.nv, r.fv] ∧ (pf 14) = [] := hR 14 (by decide)
     refine hl_less (l' := [rowE 3 1 (.slice (some ⟨g41, 0, none⟩) 1 1) 1 ([inPinI d ((cod z0 len0 0 : Int) % (d.W * d.H)) 0].map (Value.int .i64)), rowE 3 1 v42 ((ks ++ ([inPinI d ((cod z0 len0 0 : Int) % (d.W * d.H)) 0])).length) ((ks ++ ([inPinI d ((cod z0 len0 0 : Int) % (d.W * d.H)) 0])).map (Value.int .i64)), boxE b6 #[r.nv, r.fv] 28, boxE b5 #[.int .i64 d.W, .int .i64 d.H, .int .i64 d.T, .int .i64 d.R] 25, rtE r, rowE 3 1 sv ks.length (ks.map (Value.int .i64))]) (sx 0 rfl (sx 2 rfl (sx 3 rfl (sx 4 rfl (sx 5 rfl (sx 6 rfl (sx 7 rfl (sx 12 rfl (sx 25 rfl (sx 41 (congrArg some e5.1) (sx 42 (congrArg some e6.1) (sx 43 (congrArg some e7.1) (sx 49 (congrArg some v13) (sx 50 (congrArg some e14.1) (sub_nil _))))))))))))))) (by first | (simp only [p12, v12, p13, v13, q0.2, q1.2, q2.2, q3.2, q4.2, q5.2, q6.2, q7.2, q9.2, q11.2, q14.2, List.flatMap_cons, List.flatMap_nil, List.append_nil, List.nil_append, List.cons_append]; exact List.Sublist.refl _) | simp [p12, v12, p13, v13, q0.2, q1.2, q2.2, q3.2, q4.2, q5.2, q6.2, q7.2, q9.2, q11.2, q14.2]) ?_
     simp only [List.drop_succ_cons, List.drop_zero]
     refine hl_callV rfl rfl rfl (rq_call (by kernel_rfl) rfl (fun w hm => ret_ans (RouteOk_ans d s0 r ks (ks ++ ([inPinI d ((cod z0 len0 0 : Int) % (d.W * d.H)) 0])) _ w hd hrt (rt_rds 4 rfl w hm).1 (rt_rds 4 rfl w hm).2 ((rd_row 1 rfl) w hm) (by first | omega | (simp only [List.length_append, List.length_drop, List.length_cons, List.length_nil]; omega)) (rng_of (fun x hx => (List.mem_append.1 hx).elim (kSmall hrt hd x) (fun h => by rw [List.mem_singleton] at h; subst h; exact inPin_small hd _)))))) ?_
     refine hl_bool (fun h45 => absurd (((okR_more hot)).symm.trans h45) (by decide)) (fun h45 => ?_)
     refine hl_v rfl rfl rfl (rv_ev rfl) ?_
     refine hl_less (sx 0 rfl (sx 2 rfl (sx 3 rfl (sx 4 rfl (sx 5 rfl (sx 6 rfl (sx 7 rfl (sx 12 rfl (sx 25 rfl (sx 52 rfl (sub_nil _))))))))))) (.refl _) ?_
     refine hl_nil ?_
     refine hq_then ?_
     refine hc_false rfl ?_
     refine hc_skip ?_
     refine hq_then ?_
     refine hc_seq ?_
     refine hc_seq ?_
     rcases Bool.eq_false_or_eq_true (decide (0 < (ks.length : Int))) with hb46 | hb46
     ·
      have hb46p : 0 < (ks.length : Int) := of_decide_eq_true hb46
      have hb47 : (okR d r.ns (ks.drop (1 : Int).toNat)) = false := (okR_less hrt (by omega))
      refine hc_draw (by kernel_rfl) 11 [0, 1, 2, 3, 4, 5, 6, 7, 8, 9, 10] (List.take 11 _) (List.drop 11 _) [[], [0], [1], [2], [3], [3], [3], [3, 6], [3], [3, 4, 5, 7, 8], [3, 9]] [53, 54, 55, 56, 57, 58, 59, 60, 61, 62, 63] (fun i_ vs_ v_ p_ => match i_ with | 0 => v_ = sv ∧ p_ = [] | 1 => v_ = .int .i64 (ks.length : Int) ∧ p_ = [] | 2 => v_ = .bool true ∧ p_ = [] | 3 => v_ = .bool true ∧ p_ = [] | 4 => v_ = .agg #[.int .i64 d.W, .int .i64 d.H, .int .i64 d.T, .int .i64 d.R] ∧ p_ = [] | 5 => v_ = .int .i64 s0 ∧ p_ = [] | 6 => v_ = sv ∧ p_ = [] | 7 => v_ = slV sv (1 : Int).toNat ks.length 1 ∧ p_ = [] | 8 => v_ = .agg #[r.nv, r.fv] ∧ p_ = [] | 9 => v_ = .bool false ∧ p_ = [] | 10 => v_ = .bool false ∧ p_ = [] | _ => True) (List.take_append_drop 11 _).symm (by kernel_rfl) (by kernel_rfl) rfl rfl ?_ ?_
      ·
       refine ⟨?_, ?_, ?_, ?_, ?_, ?_, ?_, ?_, ?_, ?_, ?_, trivial⟩
       ·
        intro vf pf hR
        refine Or.inl ⟨rfl, ?_⟩
        refine rq_less (sx 5 rfl (sub_nil _)) (List.sublist_append_right _ _) ?_
        exact rq_v (rv_ev rfl)
       ·
        intro vf pf hR
        have e0 : (vf 0) = sv ∧ (pf 0) = [] := hR 0 (by decide)
        refine Or.inl ⟨rfl, ?_⟩
        refine rq_less (sx 53 (congrArg some e0.1) (sub_nil _)) (List.sublist_append_right _ _) ?_
        exact rq_v (rv_len rfl Try.underlying26 rfl (rd_row 5 rfl))
       ·
        intro vf pf hR
        have e1 : (vf 1) = .int .i64 (ks.length : Int) ∧ (pf 1) = [] := hR 1 (by decide)
        refine Or.inl ⟨rfl, ?_⟩
        refine rq_less (sx 54 (congrArg some e1.1) (sub_nil _)) (List.sublist_append_right _ _) ?_
        exact rq_mono (rq_v (rv_cmp rfl rfl rfl rfl)) (fun _ _ h => ⟨h.1.trans (congrArg Value.bool hb46), h.2⟩)
       ·
        intro vf pf hR
        have e2 : (vf 2) = .bool true ∧ (pf 2) = [] := hR 2 (by decide)
        refine Or.inl ⟨rfl, ?_⟩
        refine rq_less (sx 55 (congrArg some e2.1) (sub_nil _)) (List.sublist_append_right _ _) ?_
        exact rq_v (rv_ev rfl)
       ·
        intro vf pf hR
        have e3 : (vf 3) = .bool true ∧ (pf 3) = [] := hR 3 (by decide)
        refine Or.inl ⟨want_of (congrArg some e3.1) rfl, ?_⟩
        refine rq_less (sx 3 rfl (sub_nil _)) (List.sublist_append_right _ _) ?_
        exact rq_v (rv_loadN (cs := [.int .i64 d.W, .int .i64 d.H, .int .i64 d.T, .int .i64 d.R]) rfl (by kernel_rfl) (by kernel_rfl) rfl rfl (box_part 3 rfl 0 rfl))
       ·
        intro vf pf hR
        have e3 : (vf 3) = .bool true ∧ (pf 3) = [] := hR 3 (by decide)
        refine Or.inl ⟨want_of (congrArg some e3.1) rfl, ?_⟩
        refine rq_less (sx 4 rfl (sub_nil _)) (List.sublist_append_right _ _) ?_
        exact rq_v (rv_ev rfl)
       ·
        intro vf pf hR
        have e3 : (vf 3) = .bool true ∧ (pf 3) = [] := hR 3 (by decide)
        refine Or.inl ⟨want_of (congrArg some e3.1) rfl, ?_⟩
        refine rq_less (sx 5 rfl (sub_nil _)) (List.sublist_append_right _ _) ?_
        exact rq_v (rv_ev rfl)
       ·
        intro vf pf hR
        have e3 : (vf 3) = .bool true ∧ (pf 3) = [] := hR 3 (by decide)
        have e6 : (vf 6) = sv ∧ (pf 6) = [] := hR 6 (by decide)
        refine Or.inl ⟨want_of (congrArg some e3.1) rfl, ?_⟩
        refine rq_less (sx 59 (congrArg some e6.1) (sub_nil _)) (List.sublist_append_right _ _) ?_
        exact rq_v (rv_slL rfl Try.underlying26 (by kernel_rfl) rfl rfl (rd_row 5 rfl) (by omega) (by omega))
       ·
        intro vf pf hR
        have e3 : (vf 3) = .bool true ∧ (pf 3) = [] := hR 3 (by decide)
        refine Or.inl ⟨want_of (congrArg some e3.1) rfl, ?_⟩
        refine rq_less (sx 6 rfl (sub_nil _)) (List.sublist_append_right _ _) ?_
        exact rq_v (rv_loadN (cs := [r.nv, r.fv]) rfl (by kernel_rfl) (by kernel_rfl) rfl rfl (box_part 2 rfl 0 rfl))
       ·
        intro vf pf hR
        have e3 : (vf 3) = .bool true ∧ (pf 3) = [] := hR 3 (by decide)
        have e4 : (vf 4) = .agg #[.int .i64 d.W, .int .i64 d.H, .int .i64 d.T, .int .i64 d.R] ∧ (pf 4) = [] := hR 4 (by decide)
        have e5 : (vf 5) = .int .i64 s0 ∧ (pf 5) = [] := hR 5 (by decide)
        have e7 : (vf 7) = slV sv (1 : Int).toNat ks.length 1 ∧ (pf 7) = [] := hR 7 (by decide)
        have e8 : (vf 8) = .agg #[r.nv, r.fv] ∧ (pf 8) = [] := hR 8 (by decide)
        refine Or.inl ⟨want_of (congrArg some e3.1) rfl, ?_⟩
        refine rq_less (sx 57 (congrArg some e4.1) (sx 58 (congrArg some e5.1) (sx 60 (congrArg some e7.1) (sx 61 (congrArg some e8.1) (sub_nil _))))) (List.sublist_append_right _ _) ?_
        exact rq_mono (rq_call (by kernel_rfl) rfl (fun w hm => ret_ans (RouteOk_ans d s0 r ks (ks.drop (1 : Int).toNat) _ w hd hrt (rt_rds 4 rfl w hm).1 (rt_rds 4 rfl w hm).2 ((rd_slL (rd_row 5 rfl) (by omega)) w hm) (by first | omega | (simp only [List.length_append, List.length_drop, List.length_cons, List.length_nil]; omega)) (rng_of (fun x hx => kSmall hrt hd x (List.mem_of_mem_drop hx)))))) (fun _ _ h => ⟨h.1.trans (congrArg Value.bool hb47), h.2⟩)
       ·
        intro vf pf hR
        have e3 : (vf 3) = .bool true ∧ (pf 3) = [] := hR 3 (by decide)
        have e9 : (vf 9) = .bool false ∧ (pf 9) = [] := hR 9 (by decide)
        refine Or.inl ⟨rfl, ?_⟩
        refine rq_less (sx 56 (congrArg some e3.1) (sx 62 (congrArg some e9.1) (sub_nil _))) (List.sublist_append_right _ _) ?_
        exact rq_v (rv_ev rfl)
      ·
       intro vf pf hR
       have e10 : (vf 10) = .bool false ∧ (pf 10) = [] := hR 10 (by decide)
       refine hl_less (l' := [rowE 3 1 (.slice (some ⟨g41, 0, none⟩) 1 1) 1 ([inPinI d ((cod z0 len0 0 : Int) % (d.W * d.H)) 0].map (Value.int .i64)), rowE 3 1 v42 ((ks ++ ([inPinI d ((cod z0 len0 0 : Int) % (d.W * d.H)) 0])).length) ((ks ++ ([inPinI d ((cod z0 len0 0 : Int) % (d.W * d.H)) 0])).map (Value.int .i64)), boxE b6 #[r.nv, r.fv] 28, boxE b5 #[.int .i64 d.W, .int .i64 d.H, .int .i64 d.T, .int .i64 d.R] 25, rtE r, rowE 3 1 sv ks.length (ks.map (Value.int .i64))]) (sx 0 rfl (sx 2 rfl (sx 3 rfl (sx 4 rfl (sx 5 rfl (sx 6 rfl (sx 7 rfl (sx 12 rfl (sx 25 rfl (sx 52 rfl (sx 63 (congrArg some e10.1) (sub_nil _)))))))))))) (List.sublist_append_right _ _) ?_
       simp only [List.drop_succ_cons, List.drop_zero]
       refine hl_less (sx 0 rfl (sx 2 rfl (sx 3 rfl (sx 4 rfl (sx 5 rfl (sx 6 rfl (sx 7 rfl (sx 12 rfl (sx 25 rfl (sx 52 rfl (sx 63 rfl (sub_nil _)))))))))))) (.refl _) ?_
       refine hl_nil ?_
       refine hq_then ?_
       refine hc_false rfl ?_
       refine hc_skip ?_
       refine hq_then ?_
       refine hc_seq ?_
       refine hc_region ?_
       refine hl_v rfl rfl rfl (rv_ev rfl) ?_
       refine hl_less (sx 0 rfl (sx 2 rfl (sx 3 rfl (sx 4 rfl (sx 5 rfl (sx 6 rfl (sx 7 rfl (sx 8 rfl (sx 12 rfl (sx 25 rfl (sx 52 rfl (sx 63 rfl (sub_nil _))))))))))))) (.refl _) ?_
       refine hl_nil ?_
       refine hq_then ?_
       refine hc_seq ?_
       refine hc_seq ?_
       refine hc_region ?_
       refine hl_v rfl rfl rfl (rv_ev rfl) ?_
       refine hl_less (sx 0 rfl (sx 2 rfl (sx 3 rfl (sx 4 rfl (sx 5 rfl (sx 6 rfl (sx 7 rfl (sx 8 rfl (sx 9 rfl (sx 12 rfl (sx 25 rfl (sx 52 rfl (sx 63 rfl (sub_nil _)))))))))))))) (.refl _) ?_
       refine hl_nil ?_
       refine hq_then ?_
       refine hc_block ?_
       refine hc_loop2 (α := Nat) (β := Int) (fun k c => [boxE b6 #[r.nv, r.fv] 28, boxE b5 #[.int .i64 d.W, .int .i64 d.H, .int .i64 d.T, .int .i64 d.R] 25, rtE r, rowE 3 1 sv ks.length (ks.map (Value.int .i64))]) (fun k c => [(0, .slice a0 len0 cap0), (2, .bool false), (3, .pointer (some ⟨b5, 0, none⟩)), (4, .int .i64 s0), (5, sv), (6, .pointer (some ⟨b6, 0, none⟩)), (7, .int .i64 (inPinI d ((cod z0 len0 0 : Int) % (d.W * d.H)) 0)), (8, .int .i64 c), (9, .int .i64 (k : Int)), (12, .bool false), (25, .bool false), (52, .bool false), (63, .bool false)]) (fun k c => k ≤ r.ns.length ∧ c = wcnt d r.ns k) (fun k c => r.ns.length - k) 0 0 ⟨by omega, rfl⟩ (sx 0 rfl (sx 2 rfl (sx 3 rfl (sx 4 rfl (sx 5 rfl (sx 6 rfl (sx 7 rfl (sx 8 rfl (sx 9 rfl (sx 12 rfl (sx 25 rfl (sx 52 rfl (sx 63 rfl (sub_nil _)))))))))))))) ((.cons _ (.cons _ (.cons_cons _ (.cons_cons _ (.cons_cons _ (.cons_cons _ .slnil))))))) ?_
       intro k c hi48
       obtain ⟨hk, hc⟩ := hi48
       have hcr := wcnt_rng d r.ns k
       refine hc_seq ?_
       refine hc_seq ?_
       refine hc_region ?_
       refine hl_v rfl rfl rfl (rv_ev rfl) ?_
       refine hl_v rfl rfl rfl (rv_field (k0 := 0) rfl (by kernel_rfl) rfl) ?_
       refine hl_v rfl rfl rfl (rv_load rfl (by kernel_rfl) rfl (box_cell 0 rfl rfl)) ?_
       refine hl_v rfl rfl rfl (rv_len rfl Try.underlying26 rfl (fun w hm => (rt_rds 2 rfl w hm).1)) ?_
       refine hl_lss rfl rfl rfl rfl rfl rfl (fun h49 => ?_) (fun h49 => ?_)
       ·
        refine hl_less (sx 0 rfl (sx 2 rfl (sx 3 rfl (sx 4 rfl (sx 5 rfl (sx 6 rfl (sx 7 rfl (sx 8 rfl (sx 9 rfl (sx 12 rfl (sx 25 rfl (sx 52 rfl (sx 63 rfl (sx 68 rfl (sub_nil _))))))))))))))) (.refl _) ?_
        refine hl_nil ?_
        refine hq_then ?_
        refine hc_true rfl ?_
        refine hc_skip ?_
        refine hq_then ?_
        refine hc_seq ?_
        refine hc_block ?_
        refine hc_seq ?_
        refine hc_region ?_
        refine hl_v rfl rfl rfl (rv_loadN (cs := [r.nv, r.fv]) rfl (by kernel_rfl) (by kernel_rfl) rfl rfl (box_part 0 rfl 0 rfl)) ?_
        refine hl_v rfl rfl rfl (rv_ev rfl) ?_
        refine hl_q rfl rfl rfl (rq_call (by kernel_rfl) rfl (fun w hm => PathTo_ret d s0 r ks k w hrt (rt_rds 2 rfl w hm).1 (rt_rds 2 rfl w hm).2 (by omega))) ?_
        intro v50 p51 hR52
        obtain ⟨ys, rfl, hp⟩ := hR52
        have hp0 := hp.l0
        have hp1 := hp.l1
        have hp2 := hp.two
        have hg0 : getI ys 0 = s0 := by unfold getI; rw [if_pos (by omega)]; exact hp.first.trans htr.root
        have hg1 : getI ys ((ys.length : Int) - 1) = r.ns.getD k 0 := by unfold getI; rw [if_pos (by omega), show ((ys.length : Int) - 1).toNat = ys.length - 1 by omega]; exact hp.last
        refine hl_v rfl rfl rfl (rv_ev rfl) ?_
        refine hl_less (sx 0 rfl (sx 2 rfl (sx 3 rfl (sx 4 rfl (sx 5 rfl (sx 6 rfl (sx 7 rfl (sx 8 rfl (sx 9 rfl (sx 10 rfl (sx 12 rfl (sx 25 rfl (sx 52 rfl (sx 63 rfl (sx 68 rfl (sub_nil _)))))))))))))))) (.refl _) ?_
        refine hl_nil ?_
        refine hq_then ?_
        refine hc_seq ?_
        refine hc_seq ?_
        have hb53 : ((getI ys 0) != s0) = false := Bool.eq_false_iff.2 (fun h => bne_iff_ne.1 h (by omega))
        have hb54 : ((getI ys ((ys.length : Int) - 1)) != (r.ns.getD k 0)) = false := Bool.eq_false_iff.2 (fun h => bne_iff_ne.1 h (by omega))
        rcases Bool.eq_false_or_eq_true (decide (0 < (k : Int))) with hb55 | hb55
        ·
         have hb55p : 0 < (k : Int) := of_decide_eq_true hb55
         have hb56 : (decide ((ys.length : Int) < 2)) = false := decide_eq_false (by omega)
         refine hc_draw (by kernel_rfl) 26 [0, 1, 2, 3, 4, 5, 6, 7, 8, 9, 10, 11, 12, 13, 14, 15, 16, 17, 18, 19, 20, 21, 22, 23, 24, 25] (List.take 26 _) (List.drop 26 _) [[], [0], [], [1, 2], [3], [4], [4], [4, 6], [4, 7], [4, 5, 8], [4], [4, 10], [4], [4, 11, 12], [4, 13], [4, 9, 14], [4, 15], [16], [17], [17, 18], [17, 19], [20], [20, 21], [20, 22], [17, 20, 23], [17, 24]] [74, 75, 76, 77, 78, 79, 80, 81, 82, 83, 84, 85, 86, 87, 88, 89, 90, 91, 92, 93, 94, 95, 96, 97, 98, 99] (fun i_ vs_ v_ p_ => match i_ with | 0 => v_ = v50 ∧ p_ = [] | 1 => v_ = .int .i64 (getI ys 0) ∧ p_ = [] | 2 => v_ = .int .i64 s0 ∧ p_ = [] | 3 => v_ = .bool false ∧ p_ = [] | 4 => v_ = .bool false ∧ p_ = [] | 5 => v_ = v50 ∧ p_ = [] | 6 => v_ = v50 ∧ p_ = [] | 7 => v_ = .int .i64 (ys.length : Int) ∧ p_ = [] | 8 => v_ = .int .i64 ((ys.length : Int) - 1) ∧ p_ = [] | 9 => v_ = .int .i64 (getI ys ((ys.length : Int) - 1)) ∧ p_ = [] | 10 => v_ = .pointer (some ⟨b6, 0 + 0, none⟩) ∧ p_ = [] | 11 => v_ = r.nv ∧ p_ = [] | 12 => v_ = .int .i64 (k : Int) ∧ p_ = [] | 13 => v_ = elP r.nv (((k : Int)).toNat * 1) ∧ p_ = [] | 14 => v_ = .int .i64 (r.ns.getD k 0) ∧ p_ = [] | 15 => v_ = .bool false ∧ p_ = [] | 16 => v_ = .bool false ∧ p_ = [] | 17 => v_ = .bool false ∧ p_ = [] | 18 => v_ = .int .i64 (k : Int) ∧ p_ = [] | 19 => v_ = .bool true ∧ p_ = [] | 20 => v_ = .bool true ∧ p_ = [] | 21 => v_ = v50 ∧ p_ = [] | 22 => v_ = .int .i64 (ys.length : Int) ∧ p_ = [] | 23 => v_ = .bool false ∧ p_ = [] | 24 => v_ = .bool false ∧ p_ = [] | 25 => v_ = .bool false ∧ p_ = [] | _ => True) (List.take_append_drop 26 _).symm (by kernel_rfl) (by kernel_rfl) rfl rfl ?_ ?_
         ·
          refine ⟨?_, ?_, ?_, ?_, ?_, ?_, ?_, ?_, ?_, ?_, ?_, ?_, ?_, ?_, ?_, ?_, ?_, ?_, ?_, ?_, ?_, ?_, ?_, ?_, ?_, ?_, trivial⟩
          ·
           intro vf pf hR
           refine Or.inl ⟨rfl, ?_⟩
           refine rq_less (sx 10 rfl (sub_nil _)) (List.sublist_append_right _ _) ?_
           exact rq_v (rv_ev rfl)
          ·
           intro vf pf hR
           have e0 : (vf 0) = v50 ∧ (pf 0) = [] := hR 0 (by decide)
           refine Or.inl ⟨rfl, ?_⟩
           refine rq_less (sx 74 (congrArg some e0.1) (sub_nil _)) (List.sublist_append_right _ _) ?_
           exact (rq_call (by kernel_rfl) rfl (fun w hm => ret_ans (lawsGet_ans ys 0 _ w ((rd_row 0 rfl) w hm) (by omega))))
          ·
           intro vf pf hR
           refine Or.inl ⟨rfl, ?_⟩
           refine rq_less (sx 4 rfl (sub_nil _)) (List.sublist_append_right _ _) ?_
           exact rq_v (rv_ev rfl)
          ·
           intro vf pf hR
           have e1 : (vf 1) = .int .i64 (getI ys 0) ∧ (pf 1) = [] := hR 1 (by decide)
           have e2 : (vf 2) = .int .i64 s0 ∧ (pf 2) = [] := hR 2 (by decide)
           refine Or.inl ⟨rfl, ?_⟩
           refine rq_less (sx 75 (congrArg some e1.1) (sx 76 (congrArg some e2.1) (sub_nil _))) (List.sublist_append_right _ _) ?_
           exact rq_mono (rq_v (rv_cmp rfl rfl rfl rfl)) (fun _ _ h => ⟨h.1.trans (congrArg Value.bool hb53), h.2⟩)
          ·
           intro vf pf hR
           have e3 : (vf 3) = .bool false ∧ (pf 3) = [] := hR 3 (by decide)
           refine Or.inl ⟨rfl, ?_⟩
           refine rq_less (sx 77 (congrArg some e3.1) (sub_nil _)) (List.sublist_append_right _ _) ?_
           exact rq_v (rv_ev rfl)
          ·
           intro vf pf hR
           have e4 : (vf 4) = .bool false ∧ (pf 4) = [] := hR 4 (by decide)
           refine Or.inl ⟨want_of (congrArg some e4.1) rfl, ?_⟩
           refine rq_less (sx 10 rfl (sub_nil _)) (List.sublist_append_right _ _) ?_
           exact rq_v (rv_ev rfl)
          ·
           intro vf pf hR
           have e4 : (vf 4) = .bool false ∧ (pf 4) = [] := hR 4 (by decide)
           refine Or.inl ⟨want_of (congrArg some e4.1) rfl, ?_⟩
           refine rq_less (sx 10 rfl (sub_nil _)) (List.sublist_append_right _ _) ?_
           exact rq_v (rv_ev rfl)
          ·
           intro vf pf hR
           have e4 : (vf 4) = .bool false ∧ (pf 4) = [] := hR 4 (by decide)
           have e6 : (vf 6) = v50 ∧ (pf 6) = [] := hR 6 (by decide)
           refine Or.inl ⟨want_of (congrArg some e4.1) rfl, ?_⟩
           refine rq_less (sx 80 (congrArg some e6.1) (sub_nil _)) (List.sublist_append_right _ _) ?_
           exact rq_v (rv_len rfl Try.underlying26 rfl (rd_row 0 rfl))
          ·
           intro vf pf hR
           have e4 : (vf 4) = .bool false ∧ (pf 4) = [] := hR 4 (by decide)
           have e7 : (vf 7) = .int .i64 (ys.length : Int) ∧ (pf 7) = [] := hR 7 (by decide)
           refine Or.inl ⟨want_of (congrArg some e4.1) rfl, ?_⟩
           refine rq_less (sx 81 (congrArg some e7.1) (sub_nil _)) (List.sublist_append_right _ _) ?_
           exact rq_v (rv_sub rfl rfl rfl (by constructor <;> omega))
          ·
           intro vf pf hR
           have e4 : (vf 4) = .bool false ∧ (pf 4) = [] := hR 4 (by decide)
           have e5 : (vf 5) = v50 ∧ (pf 5) = [] := hR 5 (by decide)
           have e8 : (vf 8) = .int .i64 ((ys.length : Int) - 1) ∧ (pf 8) = [] := hR 8 (by decide)
           refine Or.inl ⟨want_of (congrArg some e4.1) rfl, ?_⟩
           refine rq_less (sx 79 (congrArg some e5.1) (sx 82 (congrArg some e8.1) (sub_nil _))) (List.sublist_append_right _ _) ?_
           exact (rq_call (by kernel_rfl) rfl (fun w hm => ret_ans (lawsGet_ans ys ((ys.length : Int) - 1) _ w ((rd_row 0 rfl) w hm) (by omega))))
          ·
           intro vf pf hR
           have e4 : (vf 4) = .bool false ∧ (pf 4) = [] := hR 4 (by decide)
           refine Or.inl ⟨want_of (congrArg some e4.1) rfl, ?_⟩
           refine rq_less (sx 6 rfl (sub_nil _)) (List.sublist_append_right _ _) ?_
           exact rq_v (rv_field (k0 := 0) rfl (by kernel_rfl) rfl)
          ·
           intro vf pf hR
           have e4 : (vf 4) = .bool false ∧ (pf 4) = [] := hR 4 (by decide)
           have e10 : (vf 10) = .pointer (some ⟨b6, 0 + 0, none⟩) ∧ (pf 10) = [] := hR 10 (by decide)
           refine Or.inl ⟨want_of (congrArg some e4.1) rfl, ?_⟩
           refine rq_less (sx 84 (congrArg some e10.1) (sub_nil _)) (List.sublist_append_right _ _) ?_
           exact rq_v (rv_load rfl (by kernel_rfl) rfl (box_cell 1 rfl rfl))
          ·
           intro vf pf hR
           have e4 : (vf 4) = .bool false ∧ (pf 4) = [] := hR 4 (by decide)
           refine Or.inl ⟨want_of (congrArg some e4.1) rfl, ?_⟩
           refine rq_less (sx 9 rfl (sub_nil _)) (List.sublist_append_right _ _) ?_
           exact rq_v (rv_ev rfl)
          ·
           intro vf pf hR
           have e4 : (vf 4) = .bool false ∧ (pf 4) = [] := hR 4 (by decide)
           have e11 : (vf 11) = r.nv ∧ (pf 11) = [] := hR 11 (by decide)
           have e12 : (vf 12) = .int .i64 (k : Int) ∧ (pf 12) = [] := hR 12 (by decide)
           refine Or.inl ⟨want_of (congrArg some e4.1) rfl, ?_⟩
           refine rq_less (sx 85 (congrArg some e11.1) (sx 86 (congrArg some e12.1) (sub_nil _))) (List.sublist_append_right _ _) ?_
           exact rq_v (rv_index (s := 1) rfl Try.underlying26 (by kernel_rfl) rfl rfl (fun w hm => (rt_rds 3 rfl w hm).1) (by omega) (by first | omega | (simp only [List.length_set]; omega)))
          ·
           intro vf pf hR
           have e4 : (vf 4) = .bool false ∧ (pf 4) = [] := hR 4 (by decide)
           have e13 : (vf 13) = elP r.nv (((k : Int)).toNat * 1) ∧ (pf 13) = [] := hR 13 (by decide)
           refine Or.inl ⟨want_of (congrArg some e4.1) rfl, ?_⟩
           refine rq_less (sx 87 (congrArg some e13.1) (sub_nil _)) (List.sublist_append_right _ _) ?_
           exact rq_v (rv_loadEl (u := .int .i64 (r.ns.getD k 0)) rfl (by kernel_rfl) rfl (fun w hm => (rt_rds 3 rfl w hm).1) (ints_at1 (show _ < r.ns.length by first | omega | (simp only [List.length_set]; omega))))
          ·
           intro vf pf hR
           have e4 : (vf 4) = .bool false ∧ (pf 4) = [] := hR 4 (by decide)
           have e9 : (vf 9) = .int .i64 (getI ys ((ys.length : Int) - 1)) ∧ (pf 9) = [] := hR 9 (by decide)
           have e14 : (vf 14) = .int .i64 (r.ns.getD k 0) ∧ (pf 14) = [] := hR 14 (by decide)
           refine Or.inl ⟨want_of (congrArg some e4.1) rfl, ?_⟩
           refine rq_less (sx 83 (congrArg some e9.1) (sx 88 (congrArg some e14.1) (sub_nil _))) (List.sublist_append_right _ _) ?_
           exact rq_mono (rq_v (rv_cmp rfl rfl rfl rfl)) (fun _ _ h => ⟨h.1.trans (congrArg Value.bool hb54), h.2⟩)
          ·
           intro vf pf hR
           have e4 : (vf 4) = .bool false ∧ (pf 4) = [] := hR 4 (by decide)
           have e15 : (vf 15) = .bool false ∧ (pf 15) = [] := hR 15 (by decide)
           refine Or.inl ⟨rfl, ?_⟩
           refine rq_less (sx 78 (congrArg some e4.1) (sx 89 (congrArg some e15.1) (sub_nil _))) (List.sublist_append_right _ _) ?_
           exact rq_v (rv_ev rfl)
          ·
           intro vf pf hR
           have e16 : (vf 16) = .bool false ∧ (pf 16) = [] := hR 16 (by decide)
           refine Or.inl ⟨rfl, ?_⟩
           refine rq_less (sx 90 (congrArg some e16.1) (sub_nil _)) (List.sublist_append_right _ _) ?_
           exact rq_v (rv_ev rfl)
          ·
           intro vf pf hR
           have e17 : (vf 17) = .bool false ∧ (pf 17) = [] := hR 17 (by decide)
           refine Or.inl ⟨want_of (congrArg some e17.1) rfl, ?_⟩
           refine rq_less (sx 9 rfl (sub_nil _)) (List.sublist_append_right _ _) ?_
           exact rq_v (rv_ev rfl)
          ·
           intro vf pf hR
           have e17 : (vf 17) = .bool false ∧ (pf 17) = [] := hR 17 (by decide)
           have e18 : (vf 18) = .int .i64 (k : Int) ∧ (pf 18) = [] := hR 18 (by decide)
           refine Or.inl ⟨want_of (congrArg some e17.1) rfl, ?_⟩
           refine rq_less (sx 92 (congrArg some e18.1) (sub_nil _)) (List.sublist_append_right _ _) ?_
           exact rq_mono (rq_v (rv_cmp rfl rfl rfl rfl)) (fun _ _ h => ⟨h.1.trans (congrArg Value.bool hb55), h.2⟩)
          ·
           intro vf pf hR
           have e17 : (vf 17) = .bool false ∧ (pf 17) = [] := hR 17 (by decide)
           have e19 : (vf 19) = .bool true ∧ (pf 19) = [] := hR 19 (by decide)
           refine Or.inl ⟨want_of (congrArg some e17.1) rfl, ?_⟩
           refine rq_less (sx 93 (congrArg some e19.1) (sub_nil _)) (List.sublist_append_right _ _) ?_
           exact rq_v (rv_ev rfl)
          ·
           intro vf pf hR
           have e20 : (vf 20) = .bool true ∧ (pf 20) = [] := hR 20 (by decide)
           refine Or.inl ⟨want_of (congrArg some e20.1) rfl, ?_⟩
           refine rq_less (sx 10 rfl (sub_nil _)) (List.sublist_append_right _ _) ?_
           exact rq_v (rv_ev rfl)
          ·
           intro vf pf hR
           have e20 : (vf 20) = .bool true ∧ (pf 20) = [] := hR 20 (by decide)
           have e21 : (vf 21) = v50 ∧ (pf 21) = [] := hR 21 (by decide)
           refine Or.inl ⟨want_of (congrArg some e20.1) rfl, ?_⟩
           refine rq_less (sx 95 (congrArg some e21.1) (sub_nil _)) (List.sublist_append_right _ _) ?_
           exact rq_v (rv_len rfl Try.underlying26 rfl (rd_row 0 rfl))
          ·
           intro vf pf hR
           have e20 : (vf 20) = .bool true ∧ (pf 20) = [] := hR 20 (by decide)
           have e22 : (vf 22) = .int .i64 (ys.length : Int) ∧ (pf 22) = [] := hR 22 (by decide)
           refine Or.inl ⟨want_of (congrArg some e20.1) rfl, ?_⟩
           refine rq_less (sx 96 (congrArg some e22.1) (sub_nil _)) (List.sublist_append_right _ _) ?_
           exact rq_mono (rq_v (rv_cmp rfl rfl rfl rfl)) (fun _ _ h => ⟨h.1.trans (congrArg Value.bool hb56), h.2⟩)
          ·
           intro vf pf hR
           have e17 : (vf 17) = .bool false ∧ (pf 17) = [] := hR 17 (by decide)
           have e20 : (vf 20) = .bool true ∧ (pf 20) = [] := hR 20 (by decide)
           have e23 : (vf 23) = .bool false ∧ (pf 23) = [] := hR 23 (by decide)
           refine Or.inl ⟨want_of (congrArg some e17.1) rfl, ?_⟩
           refine rq_less (sx 94 (congrArg some e20.1) (sx 97 (congrArg some e23.1) (sub_nil _))) (List.sublist_append_right _ _) ?_
           exact rq_v (rv_ev rfl)
          ·
           intro vf pf hR
           have e17 : (vf 17) = .bool false ∧ (pf 17) = [] := hR 17 (by decide)
           have e24 : (vf 24) = .bool false ∧ (pf 24) = [] := hR 24 (by decide)
           refine Or.inl ⟨rfl, ?_⟩
           refine rq_less (sx 91 (congrArg some e17.1) (sx 98 (congrArg some e24.1) (sub_nil _))) (List.sublist_append_right _ _) ?_
           exact rq_v (rv_ev rfl)
         ·
          intro vf pf hR
          have e25 : (vf 25) = .bool false ∧ (pf 25) = [] := hR 25 (by decide)
          refine hl_less (l' := [rowE 3 1 v50 ys.length (ys.map (Value.int .i64)), boxE b6 #[r.nv, r.fv] 28, boxE b5 #[.int .i64 d.W, .int .i64 d.H, .int .i64 d.T, .int .i64 d.R] 25, rtE r, rowE 3 1 sv ks.length (ks.map (Value.int .i64))]) (sx 0 rfl (sx 2 rfl (sx 3 rfl (sx 4 rfl (sx 5 rfl (sx 6 rfl (sx 7 rfl (sx 8 rfl (sx 9 rfl (sx 10 rfl (sx 12 rfl (sx 25 rfl (sx 52 rfl (sx 63 rfl (sx 68 rfl (sx 99 (congrArg some e25.1) (sub_nil _))))))))))))))))) (List.sublist_append_right _ _) ?_
          simp only [List.drop_succ_cons, List.drop_zero]
          refine hl_less (sx 0 rfl (sx 2 rfl (sx 3 rfl (sx 4 rfl (sx 5 rfl (sx 6 rfl (sx 7 rfl (sx 8 rfl (sx 9 rfl (sx 10 rfl (sx 12 rfl (sx 25 rfl (sx 52 rfl (sx 63 rfl (sx 68 rfl (sx 99 rfl (sub_nil _))))))))))))))))) (.refl _) ?_
          refine hl_nil ?_
          refine hq_then ?_
          refine hc_false rfl ?_
          refine hc_skip ?_
          refine hq_then ?_
          rcases Bool.eq_false_or_eq_true (isWireI d (r.ns.getD k 0)) with hb57 | hb57
          ·
           refine hc_draw (by kernel_rfl) 10 [0, 1, 2, 3, 4, 5, 6, 7, 8, 9] (List.take 10 _) (List.drop 10 _) [[], [], [], [2], [], [3, 4], [5], [1, 6], [7], [0, 8]] [100, 101, 102, 103, 104, 105, 106, 107, 108, 109] (fun i_ vs_ v_ p_ => match i_ with | 0 => v_ = .int .i64 c ∧ p_ = [] | 1 => v_ = .agg #[.int .i64 d.W, .int .i64 d.H, .int .i64 d.T, .int .i64 d.R] ∧ p_ = [] | 2 => v_ = .pointer (some ⟨b6, 0 + 0, none⟩) ∧ p_ = [] | 3 => v_ = r.nv ∧ p_ = [] | 4 => v_ = .int .i64 (k : Int) ∧ p_ = [] | 5 => v_ = elP r.nv (((k : Int)).toNat * 1) ∧ p_ = [] | 6 => v_ = .int .i64 (r.ns.getD k 0) ∧ p_ = [] | 7 => v_ = .bool true ∧ p_ = [] | 8 => v_ = .int .i64 1 ∧ p_ = [] | 9 => v_ = .int .i64 (c + 1) ∧ p_ = [] | _ => True) (List.take_append_drop 10 _).symm (by kernel_rfl) (by kernel_rfl) rfl rfl ?_ ?_
           ·
            refine ⟨?_, ?_, ?_, ?_, ?_, ?_, ?_, ?_, ?_, ?_, trivial⟩
            ·
             intro vf pf hR
             refine Or.inl ⟨rfl, ?_⟩
             refine rq_less (sx 8 rfl (sub_nil _)) (List.sublist_append_right _ _) ?_
             exact rq_v (rv_ev rfl)
            ·
             intro vf pf hR
             refine Or.inl ⟨rfl, ?_⟩
             refine rq_less (sx 3 rfl (sub_nil _)) (List.sublist_append_right _ _) ?_
             exact rq_v (rv_loadN (cs := [.int .i64 d.W, .int .i64 d.H, .int .i64 d.T, .int .i64 d.R]) rfl (by kernel_rfl) (by kernel_rfl) rfl rfl (box_part 2 rfl 0 rfl))
            ·
             intro vf pf hR
             refine Or.inl ⟨rfl, ?_⟩
             refine rq_less (sx 6 rfl (sub_nil _)) (List.sublist_append_right _ _) ?_
             exact rq_v (rv_field (k0 := 0) rfl (by kernel_rfl) rfl)
            ·
             intro vf pf hR
             have e2 : (vf 2) = .pointer (some ⟨b6, 0 + 0, none⟩) ∧ (pf 2) = [] := hR 2 (by decide)
             refine Or.inl ⟨rfl, ?_⟩
             refine rq_less (sx 102 (congrArg some e2.1) (sub_nil _)) (List.sublist_append_right _ _) ?_
             exact rq_v (rv_load rfl (by kernel_rfl) rfl (box_cell 1 rfl rfl))
            ·
             intro vf pf hR
             refine Or.inl ⟨rfl, ?_⟩
             refine rq_less (sx 9 rfl (sub_nil _)) (List.sublist_append_right _ _) ?_
             exact rq_v (rv_ev rfl)
            ·
             intro vf pf hR
             have e3 : (vf 3) = r.nv ∧ (pf 3) = [] := hR 3 (by decide)
             have e4 : (vf 4) = .int .i64 (k : Int) ∧ (pf 4) = [] := hR 4 (by decide)
             refine Or.inl ⟨rfl, ?_⟩
             refine rq_less (sx 103 (congrArg some e3.1) (sx 104 (congrArg some e4.1) (sub_nil _))) (List.sublist_append_right _ _) ?_
             exact rq_v (rv_index (s := 1) rfl Try.underlying26 (by kernel_rfl) rfl rfl (fun w hm => (rt_rds 3 rfl w hm).1) (by omega) (by first | omega | (simp only [List.length_set]; omega)))
            ·
             intro vf pf hR
             have e5 : (vf 5) = elP r.nv (((k : Int)).toNat * 1) ∧ (pf 5) = [] := hR 5 (by decide)
             refine Or.inl ⟨rfl, ?_⟩
             refine rq_less (sx 105 (congrArg some e5.1) (sub_nil _)) (List.sublist_append_right _ _) ?_
             exact rq_v (rv_loadEl (u := .int .i64 (r.ns.getD k 0)) rfl (by kernel_rfl) rfl (fun w hm => (rt_rds 3 rfl w hm).1) (ints_at1 (show _ < r.ns.length by first | omega | (simp only [List.length_set]; omega))))
            ·
             intro vf pf hR
             have e1 : (vf 1) = .agg #[.int .i64 d.W, .int .i64 d.H, .int .i64 d.T, .int .i64 d.R] ∧ (pf 1) = [] := hR 1 (by decide)
             have e6 : (vf 6) = .int .i64 (r.ns.getD k 0) ∧ (pf 6) = [] := hR 6 (by decide)
             refine Or.inl ⟨rfl, ?_⟩
             refine rq_less (sx 101 (congrArg some e1.1) (sx 106 (congrArg some e6.1) (sub_nil _))) (List.sublist_append_right _ _) ?_
             exact rq_mono (rq_call (by kernel_rfl) rfl (fun w hm => ret_ans (isWire_ans d _ w))) (fun _ _ h => ⟨h.1.trans (congrArg Value.bool hb57), h.2⟩)
            ·
             intro vf pf hR
             have e7 : (vf 7) = .bool true ∧ (pf 7) = [] := hR 7 (by decide)
             refine Or.inl ⟨rfl, ?_⟩
             refine rq_less (sx 107 (congrArg some e7.1) (sub_nil _)) (List.sublist_append_right _ _) ?_
             exact (rq_call (by kernel_rfl) rfl (fun w hm => ret_ans (btoi_t w)))
            ·
             intro vf pf hR
             have e0 : (vf 0) = .int .i64 c ∧ (pf 0) = [] := hR 0 (by decide)
             have e8 : (vf 8) = .int .i64 1 ∧ (pf 8) = [] := hR 8 (by decide)
             refine Or.inl ⟨rfl, ?_⟩
             refine rq_less (sx 100 (congrArg some e0.1) (sx 108 (congrArg some e8.1) (sub_nil _))) (List.sublist_append_right _ _) ?_
             exact rq_v (rv_add rfl rfl rfl (by constructor <;> omega))
           ·
            intro vf pf hR
            have e9 : (vf 9) = .int .i64 (c + 1) ∧ (pf 9) = [] := hR 9 (by decide)
            refine hl_less (l' := [rowE 3 1 v50 ys.length (ys.map (Value.int .i64)), boxE b6 #[r.nv, r.fv] 28, boxE b5 #[.int .i64 d.W, .int .i64 d.H, .int .i64 d.T, .int .i64 d.R] 25, rtE r, rowE 3 1 sv ks.length (ks.map (Value.int .i64))]) (sx 0 rfl (sx 2 rfl (sx 3 rfl (sx 4 rfl (sx 5 rfl (sx 6 rfl (sx 7 rfl (sx 8 rfl (sx 9 rfl (sx 10 rfl (sx 12 rfl (sx 25 rfl (sx 52 rfl (sx 63 rfl (sx 68 rfl (sx 99 rfl (sx 109 (congrArg some e9.1) (sub_nil _)))))))))))))))))) (List.sublist_append_right _ _) ?_
            simp only [List.drop_succ_cons, List.drop_zero]
            refine hl_v rfl rfl rfl (rv_ev rfl) ?_
            refine hl_less (sx 0 rfl (sx 2 rfl (sx 3 rfl (sx 4 rfl (sx 5 rfl (sx 6 rfl (sx 7 rfl (sx 8 rfl (sx 9 rfl (sx 10 rfl (sx 12 rfl (sx 25 rfl (sx 52 rfl (sx 63 rfl (sx 68 rfl (sx 99 rfl (sub_nil _))))))))))))))))) (.refl _) ?_
            refine hl_nil ?_
            refine hq_block_normal ?_
            refine hq_then ?_
            refine hc_region ?_
            refine hl_v rfl rfl rfl (rv_ev rfl) ?_
            refine hl_v rfl rfl rfl (rv_add rfl rfl rfl (by constructor <;> omega)) ?_
            refine hl_v rfl rfl rfl (rv_ev rfl) ?_
            refine hl_less (sx 0 rfl (sx 2 rfl (sx 3 rfl (sx 4 rfl (sx 5 rfl (sx 6 rfl (sx 7 rfl (sx 8 rfl (sx 9 rfl (sx 10 rfl (sx 12 rfl (sx 25 rfl (sx 52 rfl (sx 63 rfl (sx 68 rfl (sx 99 rfl (sub_nil _))))))))))))))))) (.refl _) ?_
            refine hl_nil ?_
            exact hq_round2 (k + 1) (c + 1) ⟨by omega, by rw [wcnt_step (by omega), if_pos (by assumption), hc]⟩ (by omega) (sx 0 rfl (sx 2 rfl (sx 3 rfl (sx 4 rfl (sx 5 rfl (sx 6 rfl (sx 7 rfl (sx 8 rfl (sx 9 rfl (sx 12 rfl (sx 25 rfl (sx 52 rfl (sx 63 rfl (sub_nil _)))))))))))))) ((.cons _ (.cons_cons _ (.cons_cons _ (.cons_cons _ (.cons_cons _ .slnil))))))
          ·
           refine hc_draw (by kernel_rfl) 10 [0, 1, 2, 3, 4, 5, 6, 7, 8, 9] (List.take 10 _) (List.drop 10 _) [[], [], [], [2], [], [3, 4], [5], [1, 6], [7], [0, 8]] [100, 101, 102, 103, 104, 105, 106, 107, 108, 109] (fun i_ vs_ v_ p_ => match i_ with | 0 => v_ = .int .i64 c ∧ p_ = [] | 1 => v_ = .agg #[.int .i64 d.W, .int .i64 d.H, .int .i64 d.T, .int .i64 d.R] ∧ p_ = [] | 2 => v_ = .pointer (some ⟨b6, 0 + 0, none⟩) ∧ p_ = [] | 3 => v_ = r.nv ∧ p_ = [] | 4 => v_ = .int .i64 (k : Int) ∧ p_ = [] | 5 => v_ = elP r.nv (((k : Int)).toNat * 1) ∧ p_ = [] | 6 => v_ = .int .i64 (r.ns.getD k 0) ∧ p_ = [] | 7 => v_ = .bool false ∧ p_ = [] | 8 => v_ = .int .i64 0 ∧ p_ = [] | 9 => v_ = .int .i64 (c + 0) ∧ p_ = [] | _ => True) (List.take_append_drop 10 _).symm (by kernel_rfl) (by kernel_rfl) rfl rfl ?_ ?_
           ·
            refine ⟨?_, ?_, ?_, ?_, ?_, ?_, ?_, ?_, ?_, ?_, trivial⟩
            ·
             intro vf pf hR
             refine Or.inl ⟨rfl, ?_⟩
             refine rq_less (sx 8 rfl (sub_nil _)) (List.sublist_append_right _ _) ?_
             exact rq_v (rv_ev rfl)
            ·
             intro vf pf hR
             refine Or.inl ⟨rfl, ?_⟩
             refine rq_less (sx 3 rfl (sub_nil _)) (List.sublist_append_right _ _) ?_
             exact rq_v (rv_loadN (cs := [.int .i64 d.W, .int .i64 d.H, .int .i64 d.T, .int .i64 d.R]) rfl (by kernel_rfl) (by kernel_rfl) rfl rfl (box_part 2 rfl 0 rfl))
            ·
             intro vf pf hR
             refine Or.inl ⟨rfl, ?_⟩
             refine rq_less (sx 6 rfl (sub_nil _)) (List.sublist_append_right _ _) ?_
             exact rq_v (rv_field (k0 := 0) rfl (by kernel_rfl) rfl)
            ·
             intro vf pf hR
             have e2 : (vf 2) = .pointer (some ⟨b6, 0 + 0, none⟩) ∧ (pf 2) = [] := hR 2 (by decide)
             refine Or.inl ⟨rfl, ?_⟩
             refine rq_less (sx 102 (congrArg some e2.1) (sub_nil _)) (List.sublist_append_right _ _) ?_
             exact rq_v (rv_load rfl (by kernel_rfl) rfl (box_cell 1 rfl rfl))
            ·
             intro vf pf hR
             refine Or.inl ⟨rfl, ?_⟩
             refine rq_less (sx 9 rfl (sub_nil _)) (List.sublist_append_right _ _) ?_
             exact rq_v (rv_ev rfl)
            ·
             intro vf pf hR
             have e3 : (vf 3) = r.nv ∧ (pf 3) = [] := hR 3 (by decide)
             have e4 : (vf 4) = .int .i64 (k : Int) ∧ (pf 4) = [] := hR 4 (by decide)
             refine Or.inl ⟨rfl, ?_⟩
             refine rq_less (sx 103 (congrArg some e3.1) (sx 104 (congrArg some e4.1) (sub_nil _))) (List.sublist_append_right _ _) ?_
             exact rq_v (rv_index (s := 1) rfl Try.underlying26 (by kernel_rfl) rfl rfl (fun w hm => (rt_rds 3 rfl w hm).1) (by omega) (by first | omega | (simp only [List.length_set]; omega)))
            ·
             intro vf pf hR
             have e5 : (vf 5) = elP r.nv (((k : Int)).toNat * 1) ∧ (pf 5) = [] := hR 5 (by decide)
             refine Or.inl ⟨rfl, ?_⟩
             refine rq_less (sx 105 (congrArg some e5.1) (sub_nil _)) (List.sublist_append_right _ _) ?_
             exact rq_v (rv_loadEl (u := .int .i64 (r.ns.getD k 0)) rfl (by kernel_rfl) rfl (fun w hm => (rt_rds 3 rfl w hm).1) (ints_at1 (show _ < r.ns.length by first | omega | (simp only [List.length_set]; omega))))
            ·
             intro vf pf hR
             have e1 : (vf 1) = .agg #[.int .i64 d.W, .int .i64 d.H, .int .i64 d.T, .int .i64 d.R] ∧ (pf 1) = [] := hR 1 (by decide)
             have e6 : (vf 6) = .int .i64 (r.ns.getD k 0) ∧ (pf 6) = [] := hR 6 (by decide)
             refine Or.inl ⟨rfl, ?_⟩
             refine rq_less (sx 101 (congrArg some e1.1) (sx 106 (congrArg some e6.1) (sub_nil _))) (List.sublist_append_right _ _) ?_
             exact rq_mono (rq_call (by kernel_rfl) rfl (fun w hm => ret_ans (isWire_ans d _ w))) (fun _ _ h => ⟨h.1.trans (congrArg Value.bool hb57), h.2⟩)
            ·
             intro vf pf hR
             have e7 : (vf 7) = .bool false ∧ (pf 7) = [] := hR 7 (by decide)
             refine Or.inl ⟨rfl, ?_⟩
             refine rq_less (sx 107 (congrArg some e7.1) (sub_nil _)) (List.sublist_append_right _ _) ?_
             exact (rq_call (by kernel_rfl) rfl (fun w hm => ret_ans (btoi_f w)))
            ·
             intro vf pf hR
             have e0 : (vf 0) = .int .i64 c ∧ (pf 0) = [] := hR 0 (by decide)
             have e8 : (vf 8) = .int .i64 0 ∧ (pf 8) = [] := hR 8 (by decide)
             refine Or.inl ⟨rfl, ?_⟩
             refine rq_less (sx 100 (congrArg some e0.1) (sx 108 (congrArg some e8.1) (sub_nil _))) (List.sublist_append_right _ _) ?_
             exact rq_v (rv_add rfl rfl rfl (by constructor <;> omega))
           ·
            intro vf pf hR
            have e9 : (vf 9) = .int .i64 (c + 0) ∧ (pf 9) = [] := hR 9 (by decide)
            refine hl_less (l' := [rowE 3 1 v50 ys.length (ys.map (Value.int .i64)), boxE b6 #[r.nv, r.fv] 28, boxE b5 #[.int .i64 d.W, .int .i64 d.H, .int .i64 d.T, .int .i64 d.R] 25, rtE r, rowE 3 1 sv ks.length (ks.map (Value.int .i64))]) (sx 0 rfl (sx 2 rfl (sx 3 rfl (sx 4 rfl (sx 5 rfl (sx 6 rfl (sx 7 rfl (sx 8 rfl (sx 9 rfl (sx 10 rfl (sx 12 rfl (sx 25 rfl (sx 52 rfl (sx 63 rfl (sx 68 rfl (sx 99 rfl (sx 109 (congrArg some e9.1) (sub_nil _)))))))))))))))))) (List.sublist_append_right _ _) ?_
            simp only [List.drop_succ_cons, List.drop_zero]
            refine hl_v rfl rfl rfl (rv_ev rfl) ?_
            refine hl_less (sx 0 rfl (sx 2 rfl (sx 3 rfl (sx 4 rfl (sx 5 rfl (sx 6 rfl (sx 7 rfl (sx 8 rfl (sx 9 rfl (sx 10 rfl (sx 12 rfl (sx 25 rfl (sx 52 rfl (sx 63 rfl (sx 68 rfl (sx 99 rfl (sub_nil _))))))))))))))))) (.refl _) ?_
            refine hl_nil ?_
            refine hq_block_normal ?_
            refine hq_then ?_
            refine hc_region ?_
            refine hl_v rfl rfl rfl (rv_ev rfl) ?_
            refine hl_v rfl rfl rfl (rv_add rfl rfl rfl (by constructor <;> omega)) ?_
            refine hl_v rfl rfl rfl (rv_ev rfl) ?_
            refine hl_less (sx 0 rfl (sx 2 rfl (sx 3 rfl (sx 4 rfl (sx 5 rfl (sx 6 rfl (sx 7 rfl (sx 8 rfl (sx 9 rfl (sx 10 rfl (sx 12 rfl (sx 25 rfl (sx 52 rfl (sx 63 rfl (sx 68 rfl (sx 99 rfl (sub_nil _))))))))))))))))) (.refl _) ?_
            refine hl_nil ?_
            exact hq_round2 (k + 1) (c + 0) ⟨by omega, by rw [wcnt_step (by omega), if_neg (by rw [show isWireI d (r.ns.getD k 0) = false by assumption]; decide), hc]⟩ (by omega) (sx 0 rfl (sx 2 rfl (sx 3 rfl (sx 4 rfl (sx 5 rfl (sx 6 rfl (sx 7 rfl (sx 8 rfl (sx 9 rfl (sx 12 rfl (sx 25 rfl (sx 52 rfl (sx 63 rfl (sub_nil _)))))))))))))) ((.cons _ (.cons_cons _ (.cons_cons _ (.cons_cons _ (.cons_cons _ .slnil))))))
        ·
         have hb55p : ¬ (0 < (k : Int)) := of_decide_eq_false hb55
         refine hc_draw (by kernel_rfl) 26 [0, 1, 2, 3, 4, 5, 6, 7, 8, 9, 10, 11, 12, 13, 14, 15, 16, 17, 18, 19, 20, 21, 22, 23, 24, 25] (List.take 26 _) (List.drop 26 _) [[], [0], [], [1, 2], [3], [4], [4], [4, 6], [4, 7], [4, 5, 8], [4], [4, 10], [4], [4, 11, 12], [4, 13], [4, 9, 14], [4, 15], [16], [17], [17, 18], [17, 19], [20], [20], [20], [17, 20, 23], [17, 24]] [74, 75, 76, 77, 78, 79, 80, 81, 82, 83, 84, 85, 86, 87, 88, 89, 90, 91, 92, 93, 94, 95, 96, 97, 98, 99] (fun i_ vs_ v_ p_ => match i_ with | 0 => v_ = v50 ∧ p_ = [] | 1 => v_ = .int .i64 (getI ys 0) ∧ p_ = [] | 2 => v_ = .int .i64 s0 ∧ p_ = [] | 3 => v_ = .bool false ∧ p_ = [] | 4 => v_ = .bool false ∧ p_ = [] | 5 => v_ = v50 ∧ p_ = [] | 6 => v_ = v50 ∧ p_ = [] | 7 => v_ = .int .i64 (ys.length : Int) ∧ p_ = [] | 8 => v_ = .int .i64 ((ys.length : Int) - 1) ∧ p_ = [] | 9 => v_ = .int .i64 (getI ys ((ys.length : Int) - 1)) ∧ p_ = [] | 10 => v_ = .pointer (some ⟨b6, 0 + 0, none⟩) ∧ p_ = [] | 11 => v_ = r.nv ∧ p_ = [] | 12 => v_ = .int .i64 (k : Int) ∧ p_ = [] | 13 => v_ = elP r.nv (((k : Int)).toNat * 1) ∧ p_ = [] | 14 => v_ = .int .i64 (r.ns.getD k 0) ∧ p_ = [] | 15 => v_ = .bool false ∧ p_ = [] | 16 => v_ = .bool false ∧ p_ = [] | 17 => v_ = .bool false ∧ p_ = [] | 18 => v_ = .int .i64 (k : Int) ∧ p_ = [] | 19 => v_ = .bool false ∧ p_ = [] | 20 => v_ = .bool false ∧ p_ = [] | 21 => v_ = undef ∧ p_ = [] | 22 => v_ = undef ∧ p_ = [] | 23 => v_ = undef ∧ p_ = [] | 24 => v_ = .bool false ∧ p_ = [] | 25 => v_ = .bool false ∧ p_ = [] | _ => True) (List.take_append_drop 26 _).symm (by kernel_rfl) (by kernel_rfl) rfl rfl ?_ ?_
         ·
          refine ⟨?_, ?_, ?_, ?_, ?_, ?_, ?_, ?_, ?_, ?_, ?_, ?_, ?_, ?_, ?_, ?_, ?_, ?_, ?_, ?_, ?_, ?_, ?_, ?_, ?_, ?_, trivial⟩
          ·
           intro vf pf hR
           refine Or.inl ⟨rfl, ?_⟩
           refine rq_less (sx 10 rfl (sub_nil _)) (List.sublist_append_right _ _) ?_
           exact rq_v (rv_ev rfl)
          ·
           intro vf pf hR
           have e0 : (vf 0) = v50 ∧ (pf 0) = [] := hR 0 (by decide)
           refine Or.inl ⟨rfl, ?_⟩
           refine rq_less (sx 74 (congrArg some e0.1) (sub_nil _)) (List.sublist_append_right _ _) ?_
           exact (rq_call (by kernel_rfl) rfl (fun w hm => ret_ans (lawsGet_ans ys 0 _ w ((rd_row 0 rfl) w hm) (by omega))))
          ·
           intro vf pf hR
           refine Or.inl ⟨rfl, ?_⟩
           refine rq_less (sx 4 rfl (sub_nil _)) (List.sublist_append_right _ _) ?_
           exact rq_v (rv_ev rfl)
          ·
           intro vf pf hR
           have e1 : (vf 1) = .int .i64 (getI ys 0) ∧ (pf 1) = [] := hR 1 (by decide)
           have e2 : (vf 2) = .int .i64 s0 ∧ (pf 2) = [] := hR 2 (by decide)
           refine Or.inl ⟨rfl, ?_⟩
           refine rq_less (sx 75 (congrArg some e1.1) (sx 76 (congrArg some e2.1) (sub_nil _))) (List.sublist_append_right _ _) ?_
           exact rq_mono (rq_v (rv_cmp rfl rfl rfl rfl)) (fun _ _ h => ⟨h.1.trans (congrArg Value.bool hb53), h.2⟩)
          ·
           intro vf pf hR
           have e3 : (vf 3) = .bool false ∧ (pf 3) = [] := hR 3 (by decide)
           refine Or.inl ⟨rfl, ?_⟩
           refine rq_less (sx 77 (congrArg some e3.1) (sub_nil _)) (List.sublist_append_right _ _) ?_
           exact rq_v (rv_ev rfl)
          ·
           intro vf pf hR
           have e4 : (vf 4) = .bool false ∧ (pf 4) = [] := hR 4 (by decide)
           refine Or.inl ⟨want_of (congrArg some e4.1) rfl, ?_⟩
           refine rq_less (sx 10 rfl (sub_nil _)) (List.sublist_append_right _ _) ?_
           exact rq_v (rv_ev rfl)
          ·
           intro vf pf hR
           have e4 : (vf 4) = .bool false ∧ (pf 4) = [] := hR 4 (by decide)
           refine Or.inl ⟨want_of (congrArg some e4.1) rfl, ?_⟩
           refine rq_less (sx 10 rfl (sub_nil _)) (List.sublist_append_right _ _) ?_
           exact rq_v (rv_ev rfl)
          ·
           intro vf pf hR
           have e4 : (vf 4) = .bool false ∧ (pf 4) = [] := hR 4 (by decide)
           have e6 : (vf 6) = v50 ∧ (pf 6) = [] := hR 6 (by decide)
           refine Or.inl ⟨want_of (congrArg some e4.1) rfl, ?_⟩
           refine rq_less (sx 80 (congrArg some e6.1) (sub_nil _)) (List.sublist_append_right _ _) ?_
           exact rq_v (rv_len rfl Try.underlying26 rfl (rd_row 0 rfl))
          ·
           intro vf pf hR
           have e4 : (vf 4) = .bool false ∧ (pf 4) = [] := hR 4 (by decide)
           have e7 : (vf 7) = .int .i64 (ys.length : Int) ∧ (pf 7) = [] := hR 7 (by decide)
           refine Or.inl ⟨want_of (congrArg some e4.1) rfl, ?_⟩
           refine rq_less (sx 81 (congrArg some e7.1) (sub_nil _)) (List.sublist_append_right _ _) ?_
           exact rq_v (rv_sub rfl rfl rfl (by constructor <;> omega))
          ·
           intro vf pf hR
           have e4 : (vf 4) = .bool false ∧ (pf 4) = [] := hR 4 (by decide)
           have e5 : (vf 5) = v50 ∧ (pf 5) = [] := hR 5 (by decide)
           have e8 : (vf 8) = .int .i64 ((ys.length : Int) - 1) ∧ (pf 8) = [] := hR 8 (by decide)
           refine Or.inl ⟨want_of (congrArg some e4.1) rfl, ?_⟩
           refine rq_less (sx 79 (congrArg some e5.1) (sx 82 (congrArg some e8.1) (sub_nil _))) (List.sublist_append_right _ _) ?_
           exact (rq_call (by kernel_rfl) rfl (fun w hm => ret_ans (lawsGet_ans ys ((ys.length : Int) - 1) _ w ((rd_row 0 rfl) w hm) (by omega))))
          ·
           intro vf pf hR
           have e4 : (vf 4) = .bool false ∧ (pf 4) = [] := hR 4 (by decide)
           refine Or.inl ⟨want_of (congrArg some e4.1) rfl, ?_⟩
           refine rq_less (sx 6 rfl (sub_nil _)) (List.sublist_append_right _ _) ?_
           exact rq_v (rv_field (k0 := 0) rfl (by kernel_rfl) rfl)
          ·
           intro vf pf hR
           have e4 : (vf 4) = .bool false ∧ (pf 4) = [] := hR 4 (by decide)
           have e10 : (vf 10) = .pointer (some ⟨b6, 0 + 0, none⟩) ∧ (pf 10) = [] := hR 10 (by decide)
           refine Or.inl ⟨want_of (congrArg some e4.1) rfl, ?_⟩
           refine rq_less (sx 84 (congrArg some e10.1) (sub_nil _)) (List.sublist_append_right _ _) ?_
           exact rq_v (rv_load rfl (by kernel_rfl) rfl (box_cell 1 rfl rfl))
          ·
           intro vf pf hR
           have e4 : (vf 4) = .bool false ∧ (pf 4) = [] := hR 4 (by decide)
           refine Or.inl ⟨want_of (congrArg some e4.1) rfl, ?_⟩
           refine rq_less (sx 9 rfl (sub_nil _)) (List.sublist_append_right _ _) ?_
           exact rq_v (rv_ev rfl)
          ·
           intro vf pf hR
           have e4 : (vf 4) = .bool false ∧ (pf 4) = [] := hR 4 (by decide)
           have e11 : (vf 11) = r.nv ∧ (pf 11) = [] := hR 11 (by decide)
           have e12 : (vf 12) = .int .i64 (k : Int) ∧ (pf 12) = [] := hR 12 (by decide)
           refine Or.inl ⟨want_of (congrArg some e4.1) rfl, ?_⟩
           refine rq_less (sx 85 (congrArg some e11.1) (sx 86 (congrArg some e12.1) (sub_nil _))) (List.sublist_append_right _ _) ?_
           exact rq_v (rv_index (s := 1) rfl Try.underlying26 (by kernel_rfl) rfl rfl (fun w hm => (rt_rds 3 rfl w hm).1) (by omega) (by first | omega | (simp only [List.length_set]; omega)))
          ·
           intro vf pf hR
           have e4 : (vf 4) = .bool false ∧ (pf 4) = [] := hR 4 (by decide)
           have e13 : (vf 13) = elP r.nv (((k : Int)).toNat * 1) ∧ (pf 13) = [] := hR 13 (by decide)
           refine Or.inl ⟨want_of (congrArg some e4.1) rfl, ?_⟩
           refine rq_less (sx 87 (congrArg some e13.1) (sub_nil _)) (List.sublist_append_right _ _) ?_
           exact rq_v (rv_loadEl (u := .int .i64 (r.ns.getD k 0)) rfl (by kernel_rfl) rfl (fun w hm => (rt_rds 3 rfl w hm).1) (ints_at1 (show _ < r.ns.length by first | omega | (simp only [List.length_set]; omega))))
          ·
           intro vf pf hR
           have e4 : (vf 4) = .bool false ∧ (pf 4) = [] := hR 4 (by decide)
           have e9 : (vf 9) = .int .i64 (getI ys ((ys.length : Int) - 1)) ∧ (pf 9) = [] := hR 9 (by decide)
           have e14 : (vf 14) = .int .i64 (r.ns.getD k 0) ∧ (pf 14) = [] := hR 14 (by decide)
           refine Or.inl ⟨want_of (congrArg some e4.1) rfl, ?_⟩
           refine rq_less (sx 83 (congrArg some e9.1) (sx 88 (congrArg some e14.1) (sub_nil _))) (List.sublist_append_right _ _) ?_
           exact rq_mono (rq_v (rv_cmp rfl rfl rfl rfl)) (fun _ _ h => ⟨h.1.trans (congrArg Value.bool hb54), h.2⟩)
          ·
           intro vf pf hR
           have e4 : (vf 4) = .bool false ∧ (pf 4) = [] := hR 4 (by decide)
           have e15 : (vf 15) = .bool false ∧ (pf 15) = [] := hR 15 (by decide)
           refine Or.inl ⟨rfl, ?_⟩
           refine rq_less (sx 78 (congrArg some e4.1) (sx 89 (congrArg some e15.1) (sub_nil _))) (List.sublist_append_right _ _) ?_
           exact rq_v (rv_ev rfl)
          ·
           intro vf pf hR
           have e16 : (vf 16) = .bool false ∧ (pf 16) = [] := hR 16 (by decide)
           refine Or.inl ⟨rfl, ?_⟩
           refine rq_less (sx 90 (congrArg some e16.1) (sub_nil _)) (List.sublist_append_right _ _) ?_
           exact rq_v (rv_ev rfl)
          ·
           intro vf pf hR
           have e17 : (vf 17) = .bool false ∧ (pf 17) = [] := hR 17 (by decide)
           refine Or.inl ⟨want_of (congrArg some e17.1) rfl, ?_⟩
           refine rq_less (sx 9 rfl (sub_nil _)) (List.sublist_append_right _ _) ?_
           exact rq_v (rv_ev rfl)
          ·
           intro vf pf hR
           have e17 : (vf 17) = .bool false ∧ (pf 17) = [] := hR 17 (by decide)
           have e18 : (vf 18) = .int .i64 (k : Int) ∧ (pf 18) = [] := hR 18 (by decide)
           refine Or.inl ⟨want_of (congrArg some e17.1) rfl, ?_⟩
           refine rq_less (sx 92 (congrArg some e18.1) (sub_nil _)) (List.sublist_append_right _ _) ?_
           exact rq_mono (rq_v (rv_cmp rfl rfl rfl rfl)) (fun _ _ h => ⟨h.1.trans (congrArg Value.bool hb55), h.2⟩)
          ·
           intro vf pf hR
           have e17 : (vf 17) = .bool false ∧ (pf 17) = [] := hR 17 (by decide)
           have e19 : (vf 19) = .bool false ∧ (pf 19) = [] := hR 19 (by decide)
           refine Or.inl ⟨want_of (congrArg some e17.1) rfl, ?_⟩
           refine rq_less (sx 93 (congrArg some e19.1) (sub_nil _)) (List.sublist_append_right _ _) ?_
           exact rq_v (rv_ev rfl)
          ·
           intro vf pf hR
           have e20 : (vf 20) = .bool false ∧ (pf 20) = [] := hR 20 (by decide)
           exact Or.inr ⟨want_of (congrArg some e20.1) rfl, rfl, rfl⟩
          ·
           intro vf pf hR
           have e20 : (vf 20) = .bool false ∧ (pf 20) = [] := hR 20 (by decide)
           exact Or.inr ⟨want_of (congrArg some e20.1) rfl, rfl, rfl⟩
          ·
           intro vf pf hR
           have e20 : (vf 20) = .bool false ∧ (pf 20) = [] := hR 20 (by decide)
           exact Or.inr ⟨want_of (congrArg some e20.1) rfl, rfl, rfl⟩
          ·
           intro vf pf hR
           have e17 : (vf 17) = .bool false ∧ (pf 17) = [] := hR 17 (by decide)
           have e20 : (vf 20) = .bool false ∧ (pf 20) = [] := hR 20 (by decide)
           have e23 : (vf 23) = undef ∧ (pf 23) = [] := hR 23 (by decide)
           refine Or.inl ⟨want_of (congrArg some e17.1) rfl, ?_⟩
           refine rq_less (sx 94 (congrArg some e20.1) (sx 97 (congrArg some e23.1) (sub_nil _))) (List.sublist_append_right _ _) ?_
           exact rq_v (rv_ev rfl)
          ·
           intro vf pf hR
           have e17 : (vf 17) = .bool false ∧ (pf 17) = [] := hR 17 (by decide)
           have e24 : (vf 24) = .bool false ∧ (pf 24) = [] := hR 24 (by decide)
           refine Or.inl ⟨rfl, ?_⟩
           refine rq_less (sx 91 (congrArg some e17.1) (sx 98 (congrArg some e24.1) (sub_nil _))) (List.sublist_append_right _ _) ?_
           exact rq_v (rv_ev rfl)
         ·
          intro vf pf hR
          have e25 : (vf 25) = .bool false ∧ (pf 25) = [] := hR 25 (by decide)
          refine hl_less (l' := [rowE 3 1 v50 ys.length (ys.map (Value.int .i64)), boxE b6 #[r.nv, r.fv] 28, boxE b5 #[.int .i64 d.W, .int .i64 d.H, .int .i64 d.T, .int .i64 d.R] 25, rtE r, rowE 3 1 sv ks.length (ks.map (Value.int .i64))]) (sx 0 rfl (sx 2 rfl (sx 3 rfl (sx 4 rfl (sx 5 rfl (sx 6 rfl (sx 7 rfl (sx 8 rfl (sx 9 rfl (sx 10 rfl (sx 12 rfl (sx 25 rfl (sx 52 rfl (sx 63 rfl (sx 68 rfl (sx 99 (congrArg some e25.1) (sub_nil _))))))))))))))))) (List.sublist_append_right _ _) ?_
          simp only [List.drop_succ_cons, List.drop_zero]
          refine hl_less (sx 0 rfl (sx 2 rfl (sx 3 rfl (sx 4 rfl (sx 5 rfl (sx 6 rfl (sx 7 rfl (sx 8 rfl (sx 9 rfl (sx 10 rfl (sx 12 rfl (sx 25 rfl (sx 52 rfl (sx 63 rfl (sx 68 rfl (sx 99 rfl (sub_nil _))))))))))))))))) (.refl _) ?_
          refine hl_nil ?_
          refine hq_then ?_
          refine hc_false rfl ?_
          refine hc_skip ?_
          refine hq_then ?_
          rcases Bool.eq_false_or_eq_true (isWireI d (r.ns.getD k 0)) with hb58 | hb58
          ·
           refine hc_draw (by kernel_rfl) 10 [0, 1, 2, 3, 4, 5, 6, 7, 8, 9] (List.take 10 _) (List.drop 10 _) [[], [], [], [2], [], [3, 4], [5], [1, 6], [7], [0, 8]] [100, 101, 102, 103, 104, 105, 106, 107, 108, 109] (fun i_ vs_ v_ p_ => match i_ with | 0 => v_ = .int .i64 c ∧ p_ = [] | 1 => v_ = .agg #[.int .i64 d.W, .int .i64 d.H, .int .i64 d.T, .int .i64 d.R] ∧ p_ = [] | 2 => v_ = .pointer (some ⟨b6, 0 + 0, none⟩) ∧ p_ = [] | 3 => v_ = r.nv ∧ p_ = [] | 4 => v_ = .int .i64 (k : Int) ∧ p_ = [] | 5 => v_ = elP r.nv (((k : Int)).toNat * 1) ∧ p_ = [] | 6 => v_ = .int .i64 (r.ns.getD k 0) ∧ p_ = [] | 7 => v_ = .bool true ∧ p_ = [] | 8 => v_ = .int .i64 1 ∧ p_ = [] | 9 => v_ = .int .i64 (c + 1) ∧ p_ = [] | _ => True) (List.take_append_drop 10 _).symm (by kernel_rfl) (by kernel_rfl) rfl rfl ?_ ?_
           ·
            refine ⟨?_, ?_, ?_, ?_, ?_, ?_, ?_, ?_, ?_, ?_, trivial⟩
            ·
             intro vf pf hR
             refine Or.inl ⟨rfl, ?_⟩
             refine rq_less (sx 8 rfl (sub_nil _)) (List.sublist_append_right _ _) ?_
             exact rq_v (rv_ev rfl)
            ·
             intro vf pf hR
             refine Or.inl ⟨rfl, ?_⟩
             refine rq_less (sx 3 rfl (sub_nil _)) (List.sublist_append_right _ _) ?_
             exact rq_v (rv_loadN (cs := [.int .i64 d.W, .int .i64 d.H, .int .i64 d.T, .int .i64 d.R]) rfl (by kernel_rfl) (by kernel_rfl) rfl rfl (box_part 2 rfl 0 rfl))
            ·
             intro vf pf hR
             refine Or.inl ⟨rfl, ?_⟩
             refine rq_less (sx 6 rfl (sub_nil _)) (List.sublist_append_right _ _) ?_
             exact rq_v (rv_field (k0 := 0) rfl (by kernel_rfl) rfl)
            ·
             intro vf pf hR
             have e2 : (vf 2) = .pointer (some ⟨b6, 0 + 0, none⟩) ∧ (pf 2) = [] := hR 2 (by decide)
             refine Or.inl ⟨rfl, ?_⟩
             refine rq_less (sx 102 (congrArg some e2.1) (sub_nil _)) (List.sublist_append_right _ _) ?_
             exact rq_v (rv_load rfl (by kernel_rfl) rfl (box_cell 1 rfl rfl))
            ·
             intro vf pf hR
             refine Or.inl ⟨rfl, ?_⟩
             refine rq_less (sx 9 rfl (sub_nil _)) (List.sublist_append_right _ _) ?_
             exact rq_v (rv_ev rfl)
            ·
             intro vf pf hR
             have e3 : (vf 3) = r.nv ∧ (pf 3) = [] := hR 3 (by decide)
             have e4 : (vf 4) = .int .i64 (k : Int) ∧ (pf 4) = [] := hR 4 (by decide)
             refine Or.inl ⟨rfl, ?_⟩
             refine rq_less (sx 103 (congrArg some e3.1) (sx 104 (congrArg some e4.1) (sub_nil _))) (List.sublist_append_right _ _) ?_
             exact rq_v (rv_index (s := 1) rfl Try.underlying26 (by kernel_rfl) rfl rfl (fun w hm => (rt_rds 3 rfl w hm).1) (by omega) (by first | omega | (simp only [List.length_set]; omega)))
            ·
             intro vf pf hR
             have e5 : (vf 5) = elP r.nv (((k : Int)).toNat * 1) ∧ (pf 5) = [] := hR 5 (by decide)
             refine Or.inl ⟨rfl, ?_⟩
             refine rq_less (sx 105 (congrArg some e5.1) (sub_nil _)) (List.sublist_append_right _ _) ?_
             exact rq_v (rv_loadEl (u := .int .i64 (r.ns.getD k 0)) rfl (by kernel_rfl) rfl (fun w hm => (rt_rds 3 rfl w hm).1) (ints_at1 (show _ < r.ns.length by first | omega | (simp only [List.length_set]; omega))))
            ·
             intro vf pf hR
             have e1 : (vf 1) = .agg #[.int .i64 d.W, .int .i64 d.H, .int .i64 d.T, .int .i64 d.R] ∧ (pf 1) = [] := hR 1 (by decide)
             have e6 : (vf 6) = .int .i64 (r.ns.getD k 0) ∧ (pf 6) = [] := hR 6 (by decide)
             refine Or.inl ⟨rfl, ?_⟩
             refine rq_less (sx 101 (congrArg some e1.1) (sx 106 (congrArg some e6.1) (sub_nil _))) (List.sublist_append_right _ _) ?_
             exact rq_mono (rq_call (by kernel_rfl) rfl (fun w hm => ret_ans (isWire_ans d _ w))) (fun _ _ h => ⟨h.1.trans (congrArg Value.bool hb58), h.2⟩)
            ·
             intro vf pf hR
             have e7 : (vf 7) = .bool true ∧ (pf 7) = [] := hR 7 (by decide)
             refine Or.inl ⟨rfl, ?_⟩
             refine rq_less (sx 107 (congrArg some e7.1) (sub_nil _)) (List.sublist_append_right _ _) ?_
             exact (rq_call (by kernel_rfl) rfl (fun w hm => ret_ans (btoi_t w)))
            ·
             intro vf pf hR
             have e0 : (vf 0) = .int .i64 c ∧ (pf 0) = [] := hR 0 (by decide)
             have e8 : (vf 8) = .int .i64 1 ∧ (pf 8) = [] := hR 8 (by decide)
             refine Or.inl ⟨rfl, ?_⟩
             refine rq_less (sx 100 (congrArg some e0.1) (sx 108 (congrArg some e8.1) (sub_nil _))) (List.sublist_append_right _ _) ?_
             exact rq_v (rv_add rfl rfl rfl (by constructor <;> omega))
           ·
            intro vf pf hR
            have e9 : (vf 9) = .int .i64 (c + 1) ∧ (pf 9) = [] := hR 9 (by decide)
            refine hl_less (l' := [rowE 3 1 v50 ys.length (ys.map (Value.int .i64)), boxE b6 #[r.nv, r.fv] 28, boxE b5 #[.int .i64 d.W, .int .i64 d.H, .int .i64 d.T, .int .i64 d.R] 25, rtE r, rowE 3 1 sv ks.length (ks.map (Value.int .i64))]) (sx 0 rfl (sx 2 rfl (sx 3 rfl (sx 4 rfl (sx 5 rfl (sx 6 rfl (sx 7 rfl (sx 8 rfl (sx 9 rfl (sx 10 rfl (sx 12 rfl (sx 25 rfl (sx 52 rfl (sx 63 rfl (sx 68 rfl (sx 99 rfl (sx 109 (congrArg some e9.1) (sub_nil _)))))))))))))))))) (List.sublist_append_right _ _) ?_
            simp only [List.drop_succ_cons, List.drop_zero]
            refine hl_v rfl rfl rfl (rv_ev rfl) ?_
            refine hl_less (sx 0 rfl (sx 2 rfl (sx 3 rfl (sx 4 rfl (sx 5 rfl (sx 6 rfl (sx 7 rfl (sx 8 rfl (sx 9 rfl (sx 10 rfl (sx 12 rfl (sx 25 rfl (sx 52 rfl (sx 63 rfl (sx 68 rfl (sx 99 rfl (sub_nil _))))))))))))))))) (.refl _) ?_
            refine hl_nil ?_
            refine hq_block_normal ?_
            refine hq_then ?_
            refine hc_region ?_
            refine hl_v rfl rfl rfl (rv_ev rfl) ?_
            refine hl_v rfl rfl rfl (rv_add rfl rfl rfl (by constructor <;> omega)) ?_
            refine hl_v rfl rfl rfl (rv_ev rfl) ?_
            refine hl_less (sx 0 rfl (sx 2 rfl (sx 3 rfl (sx 4 rfl (sx 5 rfl (sx 6 rfl (sx 7 rfl (sx 8 rfl (sx 9 rfl (sx 10 rfl (sx 12 rfl (sx 25 rfl (sx 52 rfl (sx 63 rfl (sx 68 rfl (sx 99 rfl (sub_nil _))))))))))))))))) (.refl _) ?_
            refine hl_nil ?_
            exact hq_round2 (k + 1) (c + 1) ⟨by omega, by rw [wcnt_step (by omega), if_pos (by assumption), hc]⟩ (by omega) (sx 0 rfl (sx 2 rfl (sx 3 rfl (sx 4 rfl (sx 5 rfl (sx 6 rfl (sx 7 rfl (sx 8 rfl (sx 9 rfl (sx 12 rfl (sx 25 rfl (sx 52 rfl (sx 63 rfl (sub_nil _)))))))))))))) ((.cons _ (.cons_cons _ (.cons_cons _ (.cons_cons _ (.cons_cons _ .slnil))))))
          ·
           refine hc_draw (by kernel_rfl) 10 [0, 1, 2, 3, 4, 5, 6, 7, 8, 9] (List.take 10 _) (List.drop 10 _) [[], [], [], [2], [], [3, 4], [5], [1, 6], [7], [0, 8]] [100, 101, 102, 103, 104, 105, 106, 107, 108, 109] (fun i_ vs_ v_ p_ => match i_ with | 0 => v_ = .int .i64 c ∧ p_ = [] | 1 => v_ = .agg #[.int .i64 d.W, .int .i64 d.H, .int .i64 d.T, .int .i64 d.R] ∧ p_ = [] | 2 => v_ = .pointer (some ⟨b6, 0 + 0, none⟩) ∧ p_ = [] | 3 => v_ = r.nv ∧ p_ = [] | 4 => v_ = .int .i64 (k : Int) ∧ p_ = [] | 5 => v_ = elP r.nv (((k : Int)).toNat * 1) ∧ p_ = [] | 6 => v_ = .int .i64 (r.ns.getD k 0) ∧ p_ = [] | 7 => v_ = .bool false ∧ p_ = [] | 8 => v_ = .int .i64 0 ∧ p_ = [] | 9 => v_ = .int .i64 (c + 0) ∧ p_ = [] | _ => True) (List.take_append_drop 10 _).symm (by kernel_rfl) (by kernel_rfl) rfl rfl ?_ ?_
           ·
            refine ⟨?_, ?_, ?_, ?_, ?_, ?_, ?_, ?_, ?_, ?_, trivial⟩
            ·
             intro vf pf hR
             refine Or.inl ⟨rfl, ?_⟩
             refine rq_less (sx 8 rfl (sub_nil _)) (List.sublist_append_right _ _) ?_
             exact rq_v (rv_ev rfl)
            ·
             intro vf pf hR
             refine Or.inl ⟨rfl, ?_⟩
             refine rq_less (sx 3 rfl (sub_nil _)) (List.sublist_append_right _ _) ?_
             exact rq_v (rv_loadN (cs := [.int .i64 d.W, .int .i64 d.H, .int .i64 d.T, .int .i64 d.R]) rfl (by kernel_rfl) (by kernel_rfl) rfl rfl (box_part 2 rfl 0 rfl))
            ·
             intro vf pf hR
             refine Or.inl ⟨rfl, ?_⟩
             refine rq_less (sx 6 rfl (sub_nil _)) (List.sublist_append_right _ _) ?_
             exact rq_v (rv_field (k0 := 0) rfl (by kernel_rfl) rfl)
            ·
             intro vf pf hR
             have e2 : (vf 2) = .pointer (some ⟨b6, 0 + 0, none⟩) ∧ (pf 2) = [] := hR 2 (by decide)
             refine Or.inl ⟨rfl, ?_⟩
             refine rq_less (sx 102 (congrArg some e2.1) (sub_nil _)) (List.sublist_append_right _ _) ?_
             exact rq_v (rv_load rfl (by kernel_rfl) rfl (box_cell 1 rfl rfl))
            ·
             intro vf pf hR
             refine Or.inl ⟨rfl, ?_⟩
             refine rq_less (sx 9 rfl (sub_nil _)) (List.sublist_append_right _ _) ?_
             exact rq_v (rv_ev rfl)
            ·
             intro vf pf hR
             have e3 : (vf 3) = r.nv ∧ (pf 3) = [] := hR 3 (by decide)
             have e4 : (vf 4) = .int .i64 (k : Int) ∧ (pf 4) = [] := hR 4 (by decide)
             refine Or.inl ⟨rfl, ?_⟩
             refine rq_less (sx 103 (congrArg some e3.1) (sx 104 (congrArg some e4.1) (sub_nil _))) (List.sublist_append_right _ _) ?_
             exact rq_v (rv_index (s := 1) rfl Try.underlying26 (by kernel_rfl) rfl rfl (fun w hm => (rt_rds 3 rfl w hm).1) (by omega) (by first | omega | (simp only [List.length_set]; omega)))
            ·
             intro vf pf hR
             have e5 : (vf 5) = elP r.nv (((k : Int)).toNat * 1) ∧ (pf 5) = [] := hR 5 (by decide)
             refine Or.inl ⟨rfl, ?_⟩
             refine rq_less (sx 105 (congrArg some e5.1) (sub_nil _)) (List.sublist_append_right _ _) ?_
             exact rq_v (rv_loadEl (u := .int .i64 (r.ns.getD k 0)) rfl (by kernel_rfl) rfl (fun w hm => (rt_rds 3 rfl w hm).1) (ints_at1 (show _ < r.ns.length by first | omega | (simp only [List.length_set]; omega))))
            ·
             intro vf pf hR
             have e1 : (vf 1) = .agg #[.int .i64 d.W, .int .i64 d.H, .int .i64 d.T, .int .i64 d.R] ∧ (pf 1) = [] := hR 1 (by decide)
             have e6 : (vf 6) = .int .i64 (r.ns.getD k 0) ∧ (pf 6) = [] := hR 6 (by decide)
             refine Or.inl ⟨rfl, ?_⟩
             refine rq_less (sx 101 (congrArg some e1.1) (sx 106 (congrArg some e6.1) (sub_nil _))) (List.sublist_append_right _ _) ?_
             exact rq_mono (rq_call (by kernel_rfl) rfl (fun w hm => ret_ans (isWire_ans d _ w))) (fun _ _ h => ⟨h.1.trans (congrArg Value.bool hb58), h.2⟩)
            ·
             intro vf pf hR
             have e7 : (vf 7) = .bool false ∧ (pf 7) = [] := hR 7 (by decide)
             refine Or.inl ⟨rfl, ?_⟩
             refine rq_less (sx 107 (congrArg some e7.1) (sub_nil _)) (List.sublist_append_right _ _) ?_
             exact (rq_call (by kernel_rfl) rfl (fun w hm => ret_ans (btoi_f w)))
            ·
             intro vf pf hR
             have e0 : (vf 0) = .int .i64 c ∧ (pf 0) = [] := hR 0 (by decide)
             have e8 : (vf 8) = .int .i64 0 ∧ (pf 8) = [] := hR 8 (by decide)
             refine Or.inl ⟨rfl, ?_⟩
             refine rq_less (sx 100 (congrArg some e0.1) (sx 108 (congrArg some e8.1) (sub_nil _))) (List.sublist_append_right _ _) ?_
             exact rq_v (rv_add rfl rfl rfl (by constructor <;> omega))
           ·
            intro vf pf hR
            have e9 : (vf 9) = .int .i64 (c + 0) ∧ (pf 9) = [] := hR 9 (by decide)
            refine hl_less (l' := [rowE 3 1 v50 ys.length (ys.map (Value.int .i64)), boxE b6 #[r.nv, r.fv] 28, boxE b5 #[.int .i64 d.W, .int .i64 d.H, .int .i64 d.T, .int .i64 d.R] 25, rtE r, rowE 3 1 sv ks.length (ks.map (Value.int .i64))]) (sx 0 rfl (sx 2 rfl (sx 3 rfl (sx 4 rfl (sx 5 rfl (sx 6 rfl (sx 7 rfl (sx 8 rfl (sx 9 rfl (sx 10 rfl (sx 12 rfl (sx 25 rfl (sx 52 rfl (sx 63 rfl (sx 68 rfl (sx 99 rfl (sx 109 (congrArg some e9.1) (sub_nil _)))))))))))))))))) (List.sublist_append_right _ _) ?_
            simp only [List.drop_succ_cons, List.drop_zero]
            refine hl_v rfl rfl rfl (rv_ev rfl) ?_
            refine hl_less (sx 0 rfl (sx 2 rfl (sx 3 rfl (sx 4 rfl (sx 5 rfl (sx 6 rfl (sx 7 rfl (sx 8 rfl (sx 9 rfl (sx 10 rfl (sx 12 rfl (sx 25 rfl (sx 52 rfl (sx 63 rfl (sx 68 rfl (sx 99 rfl (sub_nil _))))))))))))))))) (.refl _) ?_
            refine hl_nil ?_
            refine hq_block_normal ?_
            refine hq_then ?_
            refine hc_region ?_
            refine hl_v rfl rfl rfl (rv_ev rfl) ?_
            refine hl_v rfl rfl rfl (rv_add rfl rfl rfl (by constructor <;> omega)) ?_
            refine hl_v rfl rfl rfl (rv_ev rfl) ?_
            refine hl_less (sx 0 rfl (sx 2 rfl (sx 3 rfl (sx 4 rfl (sx 5 rfl (sx 6 rfl (sx 7 rfl (sx 8 rfl (sx 9 rfl (sx 10 rfl (sx 12 rfl (sx 25 rfl (sx 52 rfl (sx 63 rfl (sx 68 rfl (sx 99 rfl (sub_nil _))))))))))))))))) (.refl _) ?_
            refine hl_nil ?_
            exact hq_round2 (k + 1) (c + 0) ⟨by omega, by rw [wcnt_step (by omega), if_neg (by rw [show isWireI d (r.ns.getD k 0) = false by assumption]; decide), hc]⟩ (by omega) (sx 0 rfl (sx 2 rfl (sx 3 rfl (sx 4 rfl (sx 5 rfl (sx 6 rfl (sx 7 rfl (sx 8 rfl (sx 9 rfl (sx 12 rfl (sx 25 rfl (sx 52 rfl (sx 63 rfl (sub_nil _)))))))))))))) ((.cons _ (.cons_cons _ (.cons_cons _ (.cons_cons _ (.cons_cons _ .slnil))))))
       ·
        refine hl_less (sx 0 rfl (sx 2 rfl (sx 3 rfl (sx 4 rfl (sx 5 rfl (sx 6 rfl (sx 7 rfl (sx 8 rfl (sx 9 rfl (sx 12 rfl (sx 25 rfl (sx 52 rfl (sx 63 rfl (sx 68 rfl (sub_nil _))))))))))))))) (.refl _) ?_
        refine hl_nil ?_
        refine hq_then ?_
        refine hc_false rfl ?_
        refine hc_exit ?_
        refine hq_then_exit ?_
        refine hq_then_exit ?_
        refine hq_block_exit ?_
        refine hq_then ?_
        refine hc_seq ?_
        refine hc_region ?_
        have hcw : c = wcnt d r.ns r.ns.length := by rw [hc, show k = r.ns.length by omega]
        refine hl_v rfl rfl rfl (rv_loadN (cs := [.int .i64 d.W, .int .i64 d.H, .int .i64 d.T, .int .i64 d.R]) rfl (by kernel_rfl) (by kernel_rfl) rfl rfl (box_part 1 rfl 0 rfl)) ?_
        refine hl_v rfl rfl rfl (rv_loadN (cs := [r.nv, r.fv]) rfl (by kernel_rfl) (by kernel_rfl) rfl rfl (box_part 0 rfl 0 rfl)) ?_
        refine hl_callV rfl rfl rfl (rq_call (by kernel_rfl) rfl (fun w hm => ret_ans (WireCount_ans d r w (rt_rds 2 rfl w hm).1 (rt_rds 2 rfl w hm).2 (by omega)))) ?_
        refine hl_v rfl rfl rfl (rv_ev rfl) ?_
        refine hl_eql rfl rfl rfl rfl rfl rfl (fun h59 => ?_) (fun h59 => absurd h59 (by omega))
        refine hl_v rfl rfl rfl (rv_ev rfl) ?_
        refine hl_v rfl rfl rfl (rv_ev rfl) ?_
        refine hl_v rfl rfl rfl (rv_ev rfl) ?_
        refine hl_v rfl rfl rfl (rv_len rfl Try.underlying26 rfl (rd_row 3 rfl)) ?_
        refine hl_v rfl rfl rfl (rv_add rfl rfl rfl (by constructor <;> omega)) ?_
        refine hl_v rfl rfl rfl (rv_add rfl rfl rfl (by constructor <;> omega)) ?_
        refine hl_v rfl rfl rfl (rv_field (k0 := 0) rfl (by kernel_rfl) rfl) ?_
        refine hl_v rfl rfl rfl (rv_load rfl (by kernel_rfl) rfl (box_cell 0 rfl rfl)) ?_
        refine hl_v rfl rfl rfl (rv_len rfl Try.underlying26 rfl (fun w hm => (rt_rds 2 rfl w hm).1)) ?_
        refine hl_eql rfl rfl rfl rfl rfl rfl (fun h60 => ?_) (fun h60 => absurd h60 (by omega))
        refine hl_v rfl rfl rfl (rv_ev rfl) ?_
        refine hl_v rfl rfl rfl (rv_ev rfl) ?_
        refine hl_less (sx 0 rfl (sx 2 rfl (sx 3 rfl (sx 4 rfl (sx 5 rfl (sx 6 rfl (sx 7 rfl (sx 8 rfl (sx 9 rfl (sx 12 rfl (sx 25 rfl (sx 52 rfl (sx 63 rfl (sx 68 rfl (sub_nil _))))))))))))))) (.refl _) ?_
        refine hl_nil ?_
        refine hq_then ?_
        refine hc_ret ?_
        exact hq_ans rfl rfl rfl
     ·
      have hb46p : ¬ (0 < (ks.length : Int)) := of_decide_eq_false hb46
      refine hc_draw (by kernel_rfl) 11 [0, 1, 2, 3, 4, 5, 6, 7, 8, 9, 10] (List.take 11 _) (List.drop 11 _) [[], [0], [1], [2], [3], [3], [3], [3], [3], [3], [3, 9]] [53, 54, 55, 56, 57, 58, 59, 60, 61, 62, 63] (fun i_ vs_ v_ p_ => match i_ with | 0 => v_ = sv ∧ p_ = [] | 1 => v_ = .int .i64 (ks.length : Int) ∧ p_ = [] | 2 => v_ = .bool false ∧ p_ = [] | 3 => v_ = .bool false ∧ p_ = [] | 4 => v_ = undef ∧ p_ = [] | 5 => v_ = undef ∧ p_ = [] | 6 => v_ = undef ∧ p_ = [] | 7 => v_ = undef ∧ p_ = [] | 8 => v_ = undef ∧ p_ = [] | 9 => v_ = undef ∧ p_ = [] | 10 => v_ = .bool false ∧ p_ = [] | _ => True) (List.take_append_drop 11 _).symm (by kernel_rfl) (by kernel_rfl) rfl rfl ?_ ?_
      ·
       refine ⟨?_, ?_, ?_, ?_, ?_, ?_, ?_, ?_, ?_, ?_, ?_, trivial⟩
       ·
        intro vf pf hR
        refine Or.inl ⟨rfl, ?_⟩
        refine rq_less (sx 5 rfl (sub_nil _)) (List.sublist_append_right _ _) ?_
        exact rq_v (rv_ev rfl)
       ·
        intro vf pf hR
        have e0 : (vf 0) = sv ∧ (pf 0) = [] := hR 0 (by decide)
        refine Or.inl ⟨rfl, ?_⟩
        refine rq_less (sx 53 (congrArg some e0.1) (sub_nil _)) (List.sublist_append_right _ _) ?_
        exact rq_v (rv_len rfl Try.underlying26 rfl (rd_row 5 rfl))
       ·
        intro vf pf hR
        have e1 : (vf 1) = .int .i64 (ks.length : Int) ∧ (pf 1) = [] := hR 1 (by decide)
        refine Or.inl ⟨rfl, ?_⟩
        refine rq_less (sx 54 (congrArg some e1.1) (sub_nil _)) (List.sublist_append_right _ _) ?_
        exact rq_mono (rq_v (rv_cmp rfl rfl rfl rfl)) (fun _ _ h => ⟨h.1.trans (congrArg Value.bool hb46), h.2⟩)
       ·
        intro vf pf hR
        have e2 : (vf 2) = .bool false ∧ (pf 2) = [] := hR 2 (by decide)
        refine Or.inl ⟨rfl, ?_⟩
        refine rq_less (sx 55 (congrArg some e2.1) (sub_nil _)) (List.sublist_append_right _ _) ?_
        exact rq_v (rv_ev rfl)
       ·
        intro vf pf hR
        have e3 : (vf 3) = .bool false ∧ (pf 3) = [] := hR 3 (by decide)
        exact Or.inr ⟨want_of (congrArg some e3.1) rfl, rfl, rfl⟩
       ·
        intro vf pf hR
        have e3 : (vf 3) = .bool false ∧ (pf 3) = [] := hR 3 (by decide)
        exact Or.inr ⟨want_of (congrArg some e3.1) rfl, rfl, rfl⟩
       ·
        intro vf pf hR
        have e3 : (vf 3) = .bool false ∧ (pf 3) = [] := hR 3 (by decide)
        exact Or.inr ⟨want_of (congrArg some e3.1) rfl, rfl, rfl⟩
       ·
        intro vf pf hR
        have e3 : (vf 3) = .bool false ∧ (pf 3) = [] := hR 3 (by decide)
        exact Or.inr ⟨want_of (congrArg some e3.1) rfl, rfl, rfl⟩
       ·
        intro vf pf hR
        have e3 : (vf 3) = .bool false ∧ (pf 3) = [] := hR 3 (by decide)
        exact Or.inr ⟨want_of (congrArg some e3.1) rfl, rfl, rfl⟩
       ·
        intro vf pf hR
        have e3 : (vf 3) = .bool false ∧ (pf 3) = [] := hR 3 (by decide)
        exact Or.inr ⟨want_of (congrArg some e3.1) rfl, rfl, rfl⟩
       ·
        intro vf pf hR
        have e3 : (vf 3) = .bool false ∧ (pf 3) = [] := hR 3 (by decide)
        have e9 : (vf 9) = undef ∧ (pf 9) = [] := hR 9 (by decide)
        refine Or.inl ⟨rfl, ?_⟩
        refine rq_less (sx 56 (congrArg some e3.1) (sx 62 (congrArg some e9.1) (sub_nil _))) (List.sublist_append_right _ _) ?_
        exact rq_v (rv_ev rfl)
      ·
       intro vf pf hR
       have e10 : (vf 10) = .bool false ∧ (pf 10) = [] := hR 10 (by decide)
       refine hl_less (l' := [rowE 3 1 (.slice (some ⟨g41, 0, none⟩) 1 1) 1 ([inPinI d ((cod z0 len0 0 : Int) % (d.W * d.H)) 0].map (Value.int .i64)), rowE 3 1 v42 ((ks ++ ([inPinI d ((cod z0 len0 0 : Int) % (d.W * d.H)) 0])).length) ((ks ++ ([inPinI d ((cod z0 len0 0 : Int) % (d.W * d.H)) 0])).map (Value.int .i64)), boxE b6 #[r.nv, r.fv] 28, boxE b5 #[.int .i64 d.W, .int .i64 d.H, .int .i64 d.T, .int .i64 d.R] 25, rtE r, rowE 3 1 sv ks.length (ks.map (Value.int .i64))]) (sx 0 rfl (sx 2 rfl (sx 3 rfl (sx 4 rfl (sx 5 rfl (sx 6 rfl (sx 7 rfl (sx 12 rfl (sx 25 rfl (sx 52 rfl (sx 63 (congrArg some e10.1) (sub_nil _)))))))))))) (List.sublist_append_right _ _) ?_
       simp only [List.drop_succ_cons, List.drop_zero]
       refine hl_less (sx 0 rfl (sx 2 rfl (sx 3 rfl (sx 4 rfl (sx 5 rfl (sx 6 rfl (sx 7 rfl (sx 12 rfl (sx 25 rfl (sx 52 rfl (sx 63 rfl (sub_nil _)))))))))))) (.refl _) ?_
       refine hl_nil ?_
       refine hq_then ?_
       refine hc_false rfl ?_
       refine hc_skip ?_
       refine hq_then ?_
       refine hc_seq ?_
       refine hc_region ?_
       refine hl_v rfl rfl rfl (rv_ev rfl) ?_
       refine hl_less (sx 0 rfl (sx 2 rfl (sx 3 rfl (sx 4 rfl (sx 5 rfl (sx 6 rfl (sx 7 rfl (sx 8 rfl (sx 12 rfl (sx 25 rfl (sx 52 rfl (sx 63 rfl (sub_nil _))))))))))))) (.refl _) ?_
       refine hl_nil ?_
       refine hq_then ?_
       refine hc_seq ?_
       refine hc_seq ?_
       refine hc_region ?_
       refine hl_v rfl rfl rfl (rv_ev rfl) ?_
       refine hl_less (sx 0 rfl (sx 2 rfl (sx 3 rfl (sx 4 rfl (sx 5 rfl (sx 6 rfl (sx 7 rfl (sx 8 rfl (sx 9 rfl (sx 12 rfl (sx 25 rfl (sx 52 rfl (sx 63 rfl (sub_nil _)))))))))))))) (.refl _) ?_
       refine hl_nil ?_
       refine hq_then ?_
       refine hc_block ?_
       refine hc_loop2 (α := Nat) (β := Int) (fun k c => [boxE b6 #[r.nv, r.fv] 28, boxE b5 #[.int .i64 d.W, .int .i64 d.H, .int .i64 d.T, .int .i64 d.R] 25, rtE r, rowE 3 1 sv ks.length (ks.map (Value.int .i64))]) (fun k c => [(0, .slice a0 len0 cap0), (2, .bool false), (3, .pointer (some ⟨b5, 0, none⟩)), (4, .int .i64 s0), (5, sv), (6, .pointer (some ⟨b6, 0, none⟩)), (7, .int .i64 (inPinI d ((cod z0 len0 0 : Int) % (d.W * d.H)) 0)), (8, .int .i64 c), (9, .int .i64 (k : Int)), (12, .bool false), (25, .bool false), (52, .bool false), (63, .bool false)]) (fun k c => k ≤ r.ns.length ∧ c = wcnt d r.ns k) (fun k c => r.ns.length - k) 0 0 ⟨by omega, rfl⟩ (sx 0 rfl (sx 2 rfl (sx 3 rfl (sx 4 rfl (sx 5 rfl (sx 6 rfl (sx 7 rfl (sx 8 rfl (sx 9 rfl (sx 12 rfl (sx 25 rfl (sx 52 rfl (sx 63 rfl (sub_nil _)))))))))))))) ((.cons _ (.cons _ (.cons_cons _ (.cons_cons _ (.cons_cons _ (.cons_cons _ .slnil))))))) ?_
       intro k c hi61
       obtain ⟨hk, hc⟩ := hi61
       have hcr := wcnt_rng d r.ns k
       refine hc_seq ?_
       refine hc_seq ?_
       refine hc_region ?_
       refine hl_v rfl rfl rfl (rv_ev rfl) ?_
       refine hl_v rfl rfl rfl (rv_field (k0 := 0) rfl (by kernel_rfl) rfl) ?_
       refine hl_v rfl rfl rfl (rv_load rfl (by kernel_rfl) rfl (box_cell 0 rfl rfl)) ?_
       refine hl_v rfl rfl rfl (rv_len rfl Try.underlying26 rfl (fun w hm => (rt_rds 2 rfl w hm).1)) ?_
       refine hl_lss rfl rfl rfl rfl rfl rfl (fun h62 => ?_) (fun h62 => ?_)
       ·
        refine hl_less (sx 0 rfl (sx 2 rfl (sx 3 rfl (sx 4 rfl (sx 5 rfl (sx 6 rfl (sx 7 rfl (sx 8 rfl (sx 9 rfl (sx 12 rfl (sx 25 rfl (sx 52 rfl (sx 63 rfl (sx 68 rfl (sub_nil _))))))))))))))) (.refl _) ?_
        refine hl_nil ?_
        refine hq_then ?_
        refine hc_true rfl ?_
        refine hc_skip ?_
        refine hq_then ?_
        refine hc_seq ?_
        refine hc_block ?_
        refine hc_seq ?_
        refine hc_region ?_
        refine hl_v rfl rfl rfl (rv_loadN (cs := [r.nv, r.fv]) rfl (by kernel_rfl) (by kernel_rfl) rfl rfl (box_part 0 rfl 0 rfl)) ?_
        refine hl_v rfl rfl rfl (rv_ev rfl) ?_
        refine hl_q rfl rfl rfl (rq_call (by kernel_rfl) rfl (fun w hm => PathTo_ret d s0 r ks k w hrt (rt_rds 2 rfl w hm).1 (rt_rds 2 rfl w hm).2 (by omega))) ?_
        intro v63 p64 hR65
        obtain ⟨ys, rfl, hp⟩ := hR65
        have hp0 := hp.l0
        have hp1 := hp.l1
        have hp2 := hp.two
        have hg0 : getI ys 0 = s0 := by unfold getI; rw [if_pos (by omega)]; exact hp.first.trans htr.root
        have hg1 : getI ys ((ys.length : Int) - 1) = r.ns.getD k 0 := by unfold getI; rw [if_pos (by omega), show ((ys.length : Int) - 1).toNat = ys.length - 1 by omega]; exact hp.last
        refine hl_v rfl rfl rfl (rv_ev rfl) ?_
        refine hl_less (sx 0 rfl (sx 2 rfl (sx 3 rfl (sx 4 rfl (sx 5 rfl (sx 6 rfl (sx 7 rfl (sx 8 rfl (sx 9 rfl (sx 10 rfl (sx 12 rfl (sx 25 rfl (sx 52 rfl (sx 63 rfl (sx 68 rfl (sub_nil _)))))))))))))))) (.refl _) ?_
        refine hl_nil ?_
        refine hq_then ?_
        refine hc_seq ?_
        refine hc_seq ?_
        have hb66 : ((getI ys 0) != s0) = false := Bool.eq_false_iff.2 (fun h => bne_iff_ne.1 h (by omega))
        have hb67 : ((getI ys ((ys.length : Int) - 1)) != (r.ns.getD k 0)) = false := Bool.eq_false_iff.2 (fun h => bne_iff_ne.1 h (by omega))
        rcases Bool.eq_false_or_eq_true (decide (0 < (k : Int))) with hb68 | hb68
        ·
         have hb68p : 0 < (k : Int) := of_decide_eq_true hb68
         have hb69 : (decide ((ys.length : Int) < 2)) = false := decide_eq_false (by omega)
         refine hc_draw (by kernel_rfl) 26 [0, 1, 2, 3, 4, 5, 6, 7, 8, 9, 10, 11, 12, 13, 14, 15, 16, 17, 18, 19, 20, 21, 22, 23, 24, 25] (List.take 26 _) (List.drop 26 _) [[], [0], [], [1, 2], [3], [4], [4], [4, 6], [4, 7], [4, 5, 8], [4], [4, 10], [4], [4, 11, 12], [4, 13], [4, 9, 14], [4, 15], [16], [17], [17, 18], [17, 19], [20], [20, 21], [20, 22], [17, 20, 23], [17, 24]] [74, 75, 76, 77, 78, 79, 80, 81, 82, 83, 84, 85, 86, 87, 88, 89, 90, 91, 92, 93, 94, 95, 96, 97, 98, 99] (fun i_ vs_ v_ p_ => match i_ with | 0 => v_ = v63 ∧ p_ = [] | 1 => v_ = .int .i64 (getI ys 0) ∧ p_ = [] | 2 => v_ = .int .i64 s0 ∧ p_ = [] | 3 => v_ = .bool false ∧ p_ = [] | 4 => v_ = .bool false ∧ p_ = [] | 5 => v_ = v63 ∧ p_ = [] | 6 => v_ = v63 ∧ p_ = [] | 7 => v_ = .int .i64 (ys.length : Int) ∧ p_ = [] | 8 => v_ = .int .i64 ((ys.length : Int) - 1) ∧ p_ = [] | 9 => v_ = .int .i64 (getI ys ((ys.length : Int) - 1)) ∧ p_ = [] | 10 => v_ = .pointer (some ⟨b6, 0 + 0, none⟩) ∧ p_ = [] | 11 => v_ = r.nv ∧ p_ = [] | 12 => v_ = .int .i64 (k : Int) ∧ p_ = [] | 13 => v_ = elP r.nv (((k : Int)).toNat * 1) ∧ p_ = [] | 14 => v_ = .int .i64 (r.ns.getD k 0) ∧ p_ = [] | 15 => v_ = .bool false ∧ p_ = [] | 16 => v_ = .bool false ∧ p_ = [] | 17 => v_ = .bool false ∧ p_ = [] | 18 => v_ = .int .i64 (k : Int) ∧ p_ = [] | 19 => v_ = .bool true ∧ p_ = [] | 20 => v_ = .bool true ∧ p_ = [] | 21 => v_ = v63 ∧ p_ = [] | 22 => v_ = .int .i64 (ys.length : Int) ∧ p_ = [] | 23 => v_ = .bool false ∧ p_ = [] | 24 => v_ = .bool false ∧ p_ = [] | 25 => v_ = .bool false ∧ p_ = [] | _ => True) (List.take_append_drop 26 _).symm (by kernel_rfl) (by kernel_rfl) rfl rfl ?_ ?_
         ·
          refine ⟨?_, ?_, ?_, ?_, ?_, ?_, ?_, ?_, ?_, ?_, ?_, ?_, ?_, ?_, ?_, ?_, ?_, ?_, ?_, ?_, ?_, ?_, ?_, ?_, ?_, ?_, trivial⟩
          ·
           intro vf pf hR
           refine Or.inl ⟨rfl, ?_⟩
           refine rq_less (sx 10 rfl (sub_nil _)) (List.sublist_append_right _ _) ?_
           exact rq_v (rv_ev rfl)
          ·
           intro vf pf hR
           have e0 : (vf 0) = v63 ∧ (pf 0) = [] := hR 0 (by decide)
           refine Or.inl ⟨rfl, ?_⟩
           refine rq_less (sx 74 (congrArg some e0.1) (sub_nil _)) (List.sublist_append_right _ _) ?_
           exact (rq_call (by kernel_rfl) rfl (fun w hm => ret_ans (lawsGet_ans ys 0 _ w ((rd_row 0 rfl) w hm) (by omega))))
          ·
           intro vf pf hR
           refine Or.inl ⟨rfl, ?_⟩
           refine rq_less (sx 4 rfl (sub_nil _)) (List.sublist_append_right _ _) ?_
           exact rq_v (rv_ev rfl)
          ·
           intro vf pf hR
           have e1 : (vf 1) = .int .i64 (getI ys 0) ∧ (pf 1) = [] := hR 1 (by decide)
           have e2 : (vf 2) = .int .i64 s0 ∧ (pf 2) = [] := hR 2 (by decide)
           refine Or.inl ⟨rfl, ?_⟩
           refine rq_less (sx 75 (congrArg some e1.1) (sx 76 (congrArg some e2.1) (sub_nil _))) (List.sublist_append_right _ _) ?_
           exact rq_mono (rq_v (rv_cmp rfl rfl rfl rfl)) (fun _ _ h => ⟨h.1.trans (congrArg Value.bool hb66), h.2⟩)
          ·
           intro vf pf hR
           have e3 : (vf 3) = .bool false ∧ (pf 3) = [] := hR 3 (by decide)
           refine Or.inl ⟨rfl, ?_⟩
           refine rq_less (sx 77 (congrArg some e3.1) (sub_nil _)) (List.sublist_append_right _ _) ?_
           exact rq_v (rv_ev rfl)
          ·
           intro vf pf hR
           have e4 : (vf 4) = .bool false ∧ (pf 4) = [] := hR 4 (by decide)
           refine Or.inl ⟨want_of (congrArg some e4.1) rfl, ?_⟩
           refine rq_less (sx 10 rfl (sub_nil _)) (List.sublist_append_right _ _) ?_
           exact rq_v (rv_ev rfl)
          ·
           intro vf pf hR
           have e4 : (vf 4) = .bool false ∧ (pf 4) = [] := hR 4 (by decide)
           refine Or.inl ⟨want_of (congrArg some e4.1) rfl, ?_⟩
           refine rq_less (sx 10 rfl (sub_nil _)) (List.sublist_append_right _ _) ?_
           exact rq_v (rv_ev rfl)
          ·
           intro vf pf hR
           have e4 : (vf 4) = .bool false ∧ (pf 4) = [] := hR 4 (by decide)
           have e6 : (vf 6) = v63 ∧ (pf 6) = [] := hR 6 (by decide)
           refine Or.inl ⟨want_of (congrArg some e4.1) rfl, ?_⟩
           refine rq_less (sx 80 (congrArg some e6.1) (sub_nil _)) (List.sublist_append_right _ _) ?_
           exact rq_v (rv_len rfl Try.underlying26 rfl (rd_row 0 rfl))
          ·
           intro vf pf hR
           have e4 : (vf 4) = .bool false ∧ (pf 4) = [] := hR 4 (by decide)
           have e7 : (vf 7) = .int .i64 (ys.length : Int) ∧ (pf 7) = [] := hR 7 (by decide)
           refine Or.inl ⟨want_of (congrArg some e4.1) rfl, ?_⟩
           refine rq_less (sx 81 (congrArg some e7.1) (sub_nil _)) (List.sublist_append_right _ _) ?_
           exact rq_v (rv_sub rfl rfl rfl (by constructor <;> omega))
          ·
           intro vf pf hR
           have e4 : (vf 4) = .bool false ∧ (pf 4) = [] := hR 4 (by decide)
           have e5 : (vf 5) = v63 ∧ (pf 5) = [] := hR 5 (by decide)
           have e8 : (vf 8) = .int .i64 ((ys.length : Int) - 1) ∧ (pf 8) = [] := hR 8 (by decide)
           refine Or.inl ⟨want_of (congrArg some e4.1) rfl, ?_⟩
           refine rq_less (sx 79 (congrArg some e5.1) (sx 82 (congrArg some e8.1) (sub_nil _))) (List.sublist_append_right _ _) ?_
           exact (rq_call (by kernel_rfl) rfl (fun w hm => ret_ans (lawsGet_ans ys ((ys.length : Int) - 1) _ w ((rd_row 0 rfl) w hm) (by omega))))
          ·
           intro vf pf hR
           have e4 : (vf 4) = .bool false ∧ (pf 4) = [] := hR 4 (by decide)
           refine Or.inl ⟨want_of (congrArg some e4.1) rfl, ?_⟩
           refine rq_less (sx 6 rfl (sub_nil _)) (List.sublist_append_right _ _) ?_
           exact rq_v (rv_field (k0 := 0) rfl (by kernel_rfl) rfl)
          ·
           intro vf pf hR
           have e4 : (vf 4) = .bool false ∧ (pf 4) = [] := hR 4 (by decide)
           have e10 : (vf 10) = .pointer (some ⟨b6, 0 + 0, none⟩) ∧ (pf 10) = [] := hR 10 (by decide)
           refine Or.inl ⟨want_of (congrArg some e4.1) rfl, ?_⟩
           refine rq_less (sx 84 (congrArg some e10.1) (sub_nil _)) (List.sublist_append_right _ _) ?_
           exact rq_v (rv_load rfl (by kernel_rfl) rfl (box_cell 1 rfl rfl))
          ·
           intro vf pf hR
           have e4 : (vf 4) = .bool false ∧ (pf 4) = [] := hR 4 (by decide)
           refine Or.inl ⟨want_of (congrArg some e4.1) rfl, ?_⟩
           refine rq_less (sx 9 rfl (sub_nil _)) (List.sublist_append_right _ _) ?_
           exact rq_v (rv_ev rfl)
          ·
           intro vf pf hR
           have e4 : (vf 4) = .bool false ∧ (pf 4) = [] := hR 4 (by decide)
           have e11 : (vf 11) = r.nv ∧ (pf 11) = [] := hR 11 (by decide)
           have e12 : (vf 12) = .int .i64 (k : Int) ∧ (pf 12) = [] := hR 12 (by decide)
           refine Or.inl ⟨want_of (congrArg some e4.1) rfl, ?_⟩
           refine rq_less (sx 85 (congrArg some e11.1) (sx 86 (congrArg some e12.1) (sub_nil _))) (List.sublist_append_right _ _) ?_
           exact rq_v (rv_index (s := 1) rfl Try.underlying26 (by kernel_rfl) rfl rfl (fun w hm => (rt_rds 3 rfl w hm).1) (by omega) (by first | omega | (simp only [List.length_set]; omega)))
          ·
           intro vf pf hR
           have e4 : (vf 4) = .bool false ∧ (pf 4) = [] := hR 4 (by decide)
           have e13 : (vf 13) = elP r.nv (((k : Int)).toNat * 1) ∧ (pf 13) = [] := hR 13 (by decide)
           refine Or.inl ⟨want_of (congrArg some e4.1) rfl, ?_⟩
           refine rq_less (sx 87 (congrArg some e13.1) (sub_nil _)) (List.sublist_append_right _ _) ?_
           exact rq_v (rv_loadEl (u := .int .i64 (r.ns.getD k 0)) rfl (by kernel_rfl) rfl (fun w hm => (rt_rds 3 rfl w hm).1) (ints_at1 (show _ < r.ns.length by first | omega | (simp only [List.length_set]; omega))))
          ·
           intro vf pf hR
           have e4 : (vf 4) = .bool false ∧ (pf 4) = [] := hR 4 (by decide)
           have e9 : (vf 9) = .int .i64 (getI ys ((ys.length : Int) - 1)) ∧ (pf 9) = [] := hR 9 (by decide)
           have e14 : (vf 14) = .int .i64 (r.ns.getD k 0) ∧ (pf 14) = [] := hR 14 (by decide)
           refine Or.inl ⟨want_of (congrArg some e4.1) rfl, ?_⟩
           refine rq_less (sx 83 (congrArg some e9.1) (sx 88 (congrArg some e14.1) (sub_nil _))) (List.sublist_append_right _ _) ?_
           exact rq_mono (rq_v (rv_cmp rfl rfl rfl rfl)) (fun _ _ h => ⟨h.1.trans (congrArg Value.bool hb67), h.2⟩)
          ·
           intro vf pf hR
           have e4 : (vf 4) = .bool false ∧ (pf 4) = [] := hR 4 (by decide)
           have e15 : (vf 15) = .bool false ∧ (pf 15) = [] := hR 15 (by decide)
           refine Or.inl ⟨rfl, ?_⟩
           refine rq_less (sx 78 (congrArg some e4.1) (sx 89 (congrArg some e15.1) (sub_nil _))) (List.sublist_append_right _ _) ?_
           exact rq_v (rv_ev rfl)
          ·
           intro vf pf hR
           have e16 : (vf 16) = .bool false ∧ (pf 16) = [] := hR 16 (by decide)
           refine Or.inl ⟨rfl, ?_⟩
           refine rq_less (sx 90 (congrArg some e16.1) (sub_nil _)) (List.sublist_append_right _ _) ?_
           exact rq_v (rv_ev rfl)
          ·
           intro vf pf hR
           have e17 : (vf 17) = .bool false ∧ (pf 17) = [] := hR 17 (by decide)
           refine Or.inl ⟨want_of (congrArg some e17.1) rfl, ?_⟩
           refine rq_less (sx 9 rfl (sub_nil _)) (List.sublist_append_right _ _) ?_
           exact rq_v (rv_ev rfl)
          ·
           intro vf pf hR
           have e17 : (vf 17) = .bool false ∧ (pf 17) = [] := hR 17 (by decide)
           have e18 : (vf 18) = .int .i64 (k : Int) ∧ (pf 18) = [] := hR 18 (by decide)
           refine Or.inl ⟨want_of (congrArg some e17.1) rfl, ?_⟩
           refine rq_less (sx 92 (congrArg some e18.1) (sub_nil _)) (List.sublist_append_right _ _) ?_
           exact rq_mono (rq_v (rv_cmp rfl rfl rfl rfl)) (fun _ _ h => ⟨h.1.trans (congrArg Value.bool hb68), h.2⟩)
          ·
           intro vf pf hR
           have e17 : (vf 17) = .bool false ∧ (pf 17) = [] := hR 17 (by decide)
           have e19 : (vf 19) = .bool true ∧ (pf 19) = [] := hR 19 (by decide)
           refine Or.inl ⟨want_of (congrArg some e17.1) rfl, ?_⟩
           refine rq_less (sx 93 (congrArg some e19.1) (sub_nil _)) (List.sublist_append_right _ _) ?_
           exact rq_v (rv_ev rfl)
          ·
           intro vf pf hR
           have e20 : (vf 20) = .bool true ∧ (pf 20) = [] := hR 20 (by decide)
           refine Or.inl ⟨want_of (congrArg some e20.1) rfl, ?_⟩
           refine rq_less (sx 10 rfl (sub_nil _)) (List.sublist_append_right _ _) ?_
           exact rq_v (rv_ev rfl)
          ·
           intro vf pf hR
           have e20 : (vf 20) = .bool true ∧ (pf 20) = [] := hR 20 (by decide)
           have e21 : (vf 21) = v63 ∧ (pf 21) = [] := hR 21 (by decide)
           refine Or.inl ⟨want_of (congrArg some e20.1) rfl, ?_⟩
           refine rq_less (sx 95 (congrArg some e21.1) (sub_nil _)) (List.sublist_append_right _ _) ?_
           exact rq_v (rv_len rfl Try.underlying26 rfl (rd_row 0 rfl))
          ·
           intro vf pf hR
           have e20 : (vf 20) = .bool true ∧ (pf 20) = [] := hR 20 (by decide)
           have e22 : (vf 22) = .int .i64 (ys.length : Int) ∧ (pf 22) = [] := hR 22 (by decide)
           refine Or.inl ⟨want_of (congrArg some e20.1) rfl, ?_⟩
           refine rq_less (sx 96 (congrArg some e22.1) (sub_nil _)) (List.sublist_append_right _ _) ?_
           exact rq_mono (rq_v (rv_cmp rfl rfl rfl rfl)) (fun _ _ h => ⟨h.1.trans (congrArg Value.bool hb69), h.2⟩)
          ·
           intro vf pf hR
           have e17 : (vf 17) = .bool false ∧ (pf 17) = [] := hR 17 (by decide)
           have e20 : (vf 20) = .bool true ∧ (pf 20) = [] := hR 20 (by decide)
           have e23 : (vf 23) = .bool false ∧ (pf 23) = [] := hR 23 (by decide)
           refine Or.inl ⟨want_of (congrArg some e17.1) rfl, ?_⟩
           refine rq_less (sx 94 (congrArg some e20.1) (sx 97 (congrArg some e23.1) (sub_nil _))) (List.sublist_append_right _ _) ?_
           exact rq_v (rv_ev rfl)
          ·
           intro vf pf hR
           have e17 : (vf 17) = .bool false ∧ (pf 17) = [] := hR 17 (by decide)
           have e24 : (vf 24) = .bool false ∧ (pf 24) = [] := hR 24 (by decide)
           refine Or.inl ⟨rfl, ?_⟩
           refine rq_less (sx 91 (congrArg some e17.1) (sx 98 (congrArg some e24.1) (sub_nil _))) (List.sublist_append_right _ _) ?_
           exact rq_v (rv_ev rfl)
         ·
          intro vf pf hR
          have e25 : (vf 25) = .bool false ∧ (pf 25) = [] := hR 25 (by decide)
          refine hl_less (l' := [rowE 3 1 v63 ys.length (ys.map (Value.int .i64)), boxE b6 #[r.nv, r.fv] 28, boxE b5 #[.int .i64 d.W, .int .i64 d.H, .int .i64 d.T, .int .i64 d.R] 25, rtE r, rowE 3 1 sv ks.length (ks.map (Value.int .i64))]) (sx 0 rfl (sx 2 rfl (sx 3 rfl (sx 4 rfl (sx 5 rfl (sx 6 rfl (sx 7 rfl (sx 8 rfl (sx 9 rfl (sx 10 rfl (sx 12 rfl (sx 25 rfl (sx 52 rfl (sx 63 rfl (sx 68 rfl (sx 99 (congrArg some e25.1) (sub_nil _))))))))))))))))) (List.sublist_append_right _ _) ?_
          simp only [List.drop_succ_cons, List.drop_zero]
          refine hl_less (sx 0 rfl (sx 2 rfl (sx 3 rfl (sx 4 rfl (sx 5 rfl (sx 6 rfl (sx 7 rfl (sx 8 rfl (sx 9 rfl (sx 10 rfl (sx 12 rfl (sx 25 rfl (sx 52 rfl (sx 63 rfl (sx 68 rfl (sx 99 rfl (sub_nil _))))))))))))))))) (.refl _) ?_
          refine hl_nil ?_
          refine hq_then ?_
          refine hc_false rfl ?_
          refine hc_skip ?_
          refine hq_then ?_
          rcases Bool.eq_false_or_eq_true (isWireI d (r.ns.getD k 0)) with hb70 | hb70
          ·
           refine hc_draw (by kernel_rfl) 10 [0, 1, 2, 3, 4, 5, 6, 7, 8, 9] (List.take 10 _) (List.drop 10 _) [[], [], [], [2], [], [3, 4], [5], [1, 6], [7], [0, 8]] [100, 101, 102, 103, 104, 105, 106, 107, 108, 109] (fun i_ vs_ v_ p_ => match i_ with | 0 => v_ = .int .i64 c ∧ p_ = [] | 1 => v_ = .agg #[.int .i64 d.W, .int .i64 d.H, .int .i64 d.T, .int .i64 d.R] ∧ p_ = [] | 2 => v_ = .pointer (some ⟨b6, 0 + 0, none⟩) ∧ p_ = [] | 3 => v_ = r.nv ∧ p_ = [] | 4 => v_ = .int .i64 (k : Int) ∧ p_ = [] | 5 => v_ = elP r.nv (((k : Int)).toNat * 1) ∧ p_ = [] | 6 => v_ = .int .i64 (r.ns.getD k 0) ∧ p_ = [] | 7 => v_ = .bool true ∧ p_ = [] | 8 => v_ = .int .i64 1 ∧ p_ = [] | 9 => v_ = .int .i64 (c + 1) ∧ p_ = [] | _ => True) (List.take_append_drop 10 _).symm (by kernel_rfl) (by kernel_rfl) rfl rfl ?_ ?_
           ·
            refine ⟨?_, ?_, ?_, ?_, ?_, ?_, ?_, ?_, ?_, ?_, trivial⟩
            ·
             intro vf pf hR
             refine Or.inl ⟨rfl, ?_⟩
             refine rq_less (sx 8 rfl (sub_nil _)) (List.sublist_append_right _ _) ?_
             exact rq_v (rv_ev rfl)
            ·
             intro vf pf hR
             refine Or.inl ⟨rfl, ?_⟩
             refine rq_less (sx 3 rfl (sub_nil _)) (List.sublist_append_right _ _) ?_
             exact rq_v (rv_loadN (cs := [.int .i64 d.W, .int .i64 d.H, .int .i64 d.T, .int .i64 d.R]) rfl (by kernel_rfl) (by kernel_rfl) rfl rfl (box_part 2 rfl 0 rfl))
            ·
             intro vf pf hR
             refine Or.inl ⟨rfl, ?_⟩
             refine rq_less (sx 6 rfl (sub_nil _)) (List.sublist_append_right _ _) ?_
             exact rq_v (rv_field (k0 := 0) rfl (by kernel_rfl) rfl)
            ·
             intro vf pf hR
             have e2 : (vf 2) = .pointer (some ⟨b6, 0 + 0, none⟩) ∧ (pf 2) = [] := hR 2 (by decide)
             refine Or.inl ⟨rfl, ?_⟩
             refine rq_less (sx 102 (congrArg some e2.1) (sub_nil _)) (List.sublist_append_right _ _) ?_
             exact rq_v (rv_load rfl (by kernel_rfl) rfl (box_cell 1 rfl rfl))
            ·
             intro vf pf hR
             refine Or.inl ⟨rfl, ?_⟩
             refine rq_less (sx 9 rfl (sub_nil _)) (List.sublist_append_right _ _) ?_
             exact rq_v (rv_ev rfl)
            ·
             intro vf pf hR
             have e3 : (vf 3) = r.nv ∧ (pf 3) = [] := hR 3 (by decide)
             have e4 : (vf 4) = .int .i64 (k : Int) ∧ (pf 4) = [] := hR 4 (by decide)
             refine Or.inl ⟨rfl, ?_⟩
             refine rq_less (sx 103 (congrArg some e3.1) (sx 104 (congrArg some e4.1) (sub_nil _))) (List.sublist_append_right _ _) ?_
             exact rq_v (rv_index (s := 1) rfl Try.underlying26 (by kernel_rfl) rfl rfl (fun w hm => (rt_rds 3 rfl w hm).1) (by omega) (by first | omega | (simp only [List.length_set]; omega)))
            ·
             intro vf pf hR
             have e5 : (vf 5) = elP r.nv (((k : Int)).toNat * 1) ∧ (pf 5) = [] := hR 5 (by decide)
             refine Or.inl ⟨rfl, ?_⟩
             refine rq_less (sx 105 (congrArg some e5.1) (sub_nil _)) (List.sublist_append_right _ _) ?_
             exact rq_v (rv_loadEl (u := .int .i64 (r.ns.getD k 0)) rfl (by kernel_rfl) rfl (fun w hm => (rt_rds 3 rfl w hm).1) (ints_at1 (show _ < r.ns.length by first | omega | (simp only [List.length_set]; omega))))
            ·
             intro vf pf hR
             have e1 : (vf 1) = .agg #[.int .i64 d.W, .int .i64 d.H, .int .i64 d.T, .int .i64 d.R] ∧ (pf 1) = [] := hR 1 (by decide)
             have e6 : (vf 6) = .int .i64 (r.ns.getD k 0) ∧ (pf 6) = [] := hR 6 (by decide)
             refine Or.inl ⟨rfl, ?_⟩
             refine rq_less (sx 101 (congrArg some e1.1) (sx 106 (congrArg some e6.1) (sub_nil _))) (List.sublist_append_right _ _) ?_
             exact rq_mono (rq_call (by kernel_rfl) rfl (fun w hm => ret_ans (isWire_ans d _ w))) (fun _ _ h => ⟨h.1.trans (congrArg Value.bool hb70), h.2⟩)
            ·
             intro vf pf hR
             have e7 : (vf 7) = .bool true ∧ (pf 7) = [] := hR 7 (by decide)
             refine Or.inl ⟨rfl, ?_⟩
             refine rq_less (sx 107 (congrArg some e7.1) (sub_nil _)) (List.sublist_append_right _ _) ?_
             exact (rq_call (by kernel_rfl) rfl (fun w hm => ret_ans (btoi_t w)))
            ·
             intro vf pf hR
             have e0 : (vf 0) = .int .i64 c ∧ (pf 0) = [] := hR 0 (by decide)
             have e8 : (vf 8) = .int .i64 1 ∧ (pf 8) = [] := hR 8 (by decide)
             refine Or.inl ⟨rfl, ?_⟩
             refine rq_less (sx 100 (congrArg some e0.1) (sx 108 (congrArg some e8.1) (sub_nil _))) (List.sublist_append_right _ _) ?_
             exact rq_v (rv_add rfl rfl rfl (by constructor <;> omega))
           ·
            intro vf pf hR
            have e9 : (vf 9) = .int .i64 (c + 1) ∧ (pf 9) = [] := hR 9 (by decide)
            refine hl_less (l' := [rowE 3 1 v63 ys.length (ys.map (Value.int .i64)), boxE b6 #[r.nv, r.fv] 28, boxE b5 #[.int .i64 d.W, .int .i64 d.H, .int .i64 d.T, .int .i64 d.R] 25, rtE r, rowE 3 1 sv ks.length (ks.map (Value.int .i64))]) (sx 0 rfl (sx 2 rfl (sx 3 rfl (sx 4 rfl (sx 5 rfl (sx 6 rfl (sx 7 rfl (sx 8 rfl (sx 9 rfl (sx 10 rfl (sx 12 rfl (sx 25 rfl (sx 52 rfl (sx 63 rfl (sx 68 rfl (sx 99 rfl (sx 109 (congrArg some e9.1) (sub_nil _)))))))))))))))))) (List.sublist_append_right _ _) ?_
            simp only [List.drop_succ_cons, List.drop_zero]
            refine hl_v rfl rfl rfl (rv_ev rfl) ?_
            refine hl_less (sx 0 rfl (sx 2 rfl (sx 3 rfl (sx 4 rfl (sx 5 rfl (sx 6 rfl (sx 7 rfl (sx 8 rfl (sx 9 rfl (sx 10 rfl (sx 12 rfl (sx 25 rfl (sx 52 rfl (sx 63 rfl (sx 68 rfl (sx 99 rfl (sub_nil _))))))))))))))))) (.refl _) ?_
            refine hl_nil ?_
            refine hq_block_normal ?_
            refine hq_then ?_
            refine hc_region ?_
            refine hl_v rfl rfl rfl (rv_ev rfl) ?_
            refine hl_v rfl rfl rfl (rv_add rfl rfl rfl (by constructor <;> omega)) ?_
            refine hl_v rfl rfl rfl (rv_ev rfl) ?_
            refine hl_less (sx 0 rfl (sx 2 rfl (sx 3 rfl (sx 4 rfl (sx 5 rfl (sx 6 rfl (sx 7 rfl (sx 8 rfl (sx 9 rfl (sx 10 rfl (sx 12 rfl (sx 25 rfl (sx 52 rfl (sx 63 rfl (sx 68 rfl (sx 99 rfl (sub_nil _))))))))))))))))) (.refl _) ?_
            refine hl_nil ?_
            exact hq_round2 (k + 1) (c + 1) ⟨by omega, by rw [wcnt_step (by omega), if_pos (by assumption), hc]⟩ (by omega) (sx 0 rfl (sx 2 rfl (sx 3 rfl (sx 4 rfl (sx 5 rfl (sx 6 rfl (sx 7 rfl (sx 8 rfl (sx 9 rfl (sx 12 rfl (sx 25 rfl (sx 52 rfl (sx 63 rfl (sub_nil _)))))))))))))) ((.cons _ (.cons_cons _ (.cons_cons _ (.cons_cons _ (.cons_cons _ .slnil))))))
          ·
           refine hc_draw (by kernel_rfl) 10 [0, 1, 2, 3, 4, 5, 6, 7, 8, 9] (List.take 10 _) (List.drop 10 _) [[], [], [], [2], [], [3, 4], [5], [1, 6], [7], [0, 8]] [100, 101, 102, 103, 104, 105, 106, 107, 108, 109] (fun i_ vs_ v_ p_ => match i_ with | 0 => v_ = .int .i64 c ∧ p_ = [] | 1 => v_ = .agg #[.int .i64 d.W, .int .i64 d.H, .int .i64 d.T, .int .i64 d.R] ∧ p_ = [] | 2 => v_ = .pointer (some ⟨b6, 0 + 0, none⟩) ∧ p_ = [] | 3 => v_ = r.nv ∧ p_ = [] | 4 => v_ = .int .i64 (k : Int) ∧ p_ = [] | 5 => v_ = elP r.nv (((k : Int)).toNat * 1) ∧ p_ = [] | 6 => v_ = .int .i64 (r.ns.getD k 0) ∧ p_ = [] | 7 => v_ = .bool false ∧ p_ = [] | 8 => v_ = .int .i64 0 ∧ p_ = [] | 9 => v_ = .int .i64 (c + 0) ∧ p_ = [] | _ => True) (List.take_append_drop 10 _).symm (by kernel_rfl) (by kernel_rfl) rfl rfl ?_ ?_
           ·
            refine ⟨?_, ?_, ?_, ?_, ?_, ?_, ?_, ?_, ?_, ?_, trivial⟩
            ·
             intro vf pf hR
             refine Or.inl ⟨rfl, ?_⟩
             refine rq_less (sx 8 rfl (sub_nil _)) (List.sublist_append_right _ _) ?_
             exact rq_v (rv_ev rfl)
            ·
             intro vf pf hR
             refine Or.inl ⟨rfl, ?_⟩
             refine rq_less (sx 3 rfl (sub_nil _)) (List.sublist_append_right _ _) ?_
             exact rq_v (rv_loadN (cs := [.int .i64 d.W, .int .i64 d.H, .int .i64 d.T, .int .i64 d.R]) rfl (by kernel_rfl) (by kernel_rfl) rfl rfl (box_part 2 rfl 0 rfl))
            ·
             intro vf pf hR
             refine Or.inl ⟨rfl, ?_⟩
             refine rq_less (sx 6 rfl (sub_nil _)) (List.sublist_append_right _ _) ?_
             exact rq_v (rv_field (k0 := 0) rfl (by kernel_rfl) rfl)
            ·
             intro vf pf hR
             have e2 : (vf 2) = .pointer (some ⟨b6, 0 + 0, none⟩) ∧ (pf 2) = [] := hR 2 (by decide)
             refine Or.inl ⟨rfl, ?_⟩
             refine rq_less (sx 102 (congrArg some e2.1) (sub_nil _)) (List.sublist_append_right _ _) ?_
             exact rq_v (rv_load rfl (by kernel_rfl) rfl (box_cell 1 rfl rfl))
            ·
             intro vf pf hR
             refine Or.inl ⟨rfl, ?_⟩
             refine rq_less (sx 9 rfl (sub_nil _)) (List.sublist_append_right _ _) ?_
             exact rq_v (rv_ev rfl)
            ·
             intro vf pf hR
             have e3 : (vf 3) = r.nv ∧ (pf 3) = [] := hR 3 (by decide)
             have e4 : (vf 4) = .int .i64 (k : Int) ∧ (pf 4) = [] := hR 4 (by decide)
             refine Or.inl ⟨rfl, ?_⟩
             refine rq_less (sx 103 (congrArg some e3.1) (sx 104 (congrArg some e4.1) (sub_nil _))) (List.sublist_append_right _ _) ?_
             exact rq_v (rv_index (s := 1) rfl Try.underlying26 (by kernel_rfl) rfl rfl (fun w hm => (rt_rds 3 rfl w hm).1) (by omega) (by first | omega | (simp only [List.length_set]; omega)))
            ·
             intro vf pf hR
             have e5 : (vf 5) = elP r.nv (((k : Int)).toNat * 1) ∧ (pf 5) = [] := hR 5 (by decide)
             refine Or.inl ⟨rfl, ?_⟩
             refine rq_less (sx 105 (congrArg some e5.1) (sub_nil _)) (List.sublist_append_right _ _) ?_
             exact rq_v (rv_loadEl (u := .int .i64 (r.ns.getD k 0)) rfl (by kernel_rfl) rfl (fun w hm => (rt_rds 3 rfl w hm).1) (ints_at1 (show _ < r.ns.length by first | omega | (simp only [List.length_set]; omega))))
            ·
             intro vf pf hR
             have e1 : (vf 1) = .agg #[.int .i64 d.W, .int .i64 d.H, .int .i64 d.T, .int .i64 d.R] ∧ (pf 1) = [] := hR 1 (by decide)
             have e6 : (vf 6) = .int .i64 (r.ns.getD k 0) ∧ (pf 6) = [] := hR 6 (by decide)
             refine Or.inl ⟨rfl, ?_⟩
             refine rq_less (sx 101 (congrArg some e1.1) (sx 106 (congrArg some e6.1) (sub_nil _))) (List.sublist_append_right _ _) ?_
             exact rq_mono (rq_call (by kernel_rfl) rfl (fun w hm => ret_ans (isWire_ans d _ w))) (fun _ _ h => ⟨h.1.trans (congrArg Value.bool hb70), h.2⟩)
            ·
             intro vf pf hR
             have e7 : (vf 7) = .bool false ∧ (pf 7) = [] := hR 7 (by decide)
             refine Or.inl ⟨rfl, ?_⟩
             refine rq_less (sx 107 (congrArg some e7.1) (sub_nil _)) (List.sublist_append_right _ _) ?_
             exact (rq_call (by kernel_rfl) rfl (fun w hm => ret_ans (btoi_f w)))
            ·
             intro vf pf hR
             have e0 : (vf 0) = .int .i64 c ∧ (pf 0) = [] := hR 0 (by decide)
             have e8 : (vf 8) = .int .i64 0 ∧ (pf 8) = [] := hR 8 (by decide)
             refine Or.inl ⟨rfl, ?_⟩
             refine rq_less (sx 100 (congrArg some e0.1) (sx 108 (congrArg some e8.1) (sub_nil _))) (List.sublist_append_right _ _) ?_
             exact rq_v (rv_add rfl rfl rfl (by constructor <;> omega))
           ·
            intro vf pf hR
            have e9 : (vf 9) = .int .i64 (c + 0) ∧ (pf 9) = [] := hR 9 (by decide)
            refine hl_less (l' := [rowE 3 1 v63 ys.length (ys.map (Value.int .i64)), boxE b6 #[r.nv, r.fv] 28, boxE b5 #[.int .i64 d.W, .int .i64 d.H, .int .i64 d.T, .int .i64 d.R] 25, rtE r, rowE 3 1 sv ks.length (ks.map (Value.int .i64))]) (sx 0 rfl (sx 2 rfl (sx 3 rfl (sx 4 rfl (sx 5 rfl (sx 6 rfl (sx 7 rfl (sx 8 rfl (sx 9 rfl (sx 10 rfl (sx 12 rfl (sx 25 rfl (sx 52 rfl (sx 63 rfl (sx 68 rfl (sx 99 rfl (sx 109 (congrArg some e9.1) (sub_nil _)))))))))))))))))) (List.sublist_append_right _ _) ?_
            simp only [List.drop_succ_cons, List.drop_zero]
            refine hl_v rfl rfl rfl (rv_ev rfl) ?_
            refine hl_less (sx 0 rfl (sx 2 rfl (sx 3 rfl (sx 4 rfl (sx 5 rfl (sx 6 rfl (sx 7 rfl (sx 8 rfl (sx 9 rfl (sx 10 rfl (sx 12 rfl (sx 25 rfl (sx 52 rfl (sx 63 rfl (sx 68 rfl (sx 99 rfl (sub_nil _))))))))))))))))) (.refl _) ?_
            refine hl_nil ?_
            refine hq_block_normal ?_
            refine hq_then ?_
            refine hc_region ?_
            refine hl_v rfl rfl rfl (rv_ev rfl) ?_
            refine hl_v rfl rfl rfl (rv_add rfl rfl rfl (by constructor <;> omega)) ?_
            refine hl_v rfl rfl rfl (rv_ev rfl) ?_
            refine hl_less (sx 0 rfl (sx 2 rfl (sx 3 rfl (sx 4 rfl (sx 5 rfl (sx 6 rfl (sx 7 rfl (sx 8 rfl (sx 9 rfl (sx 10 rfl (sx 12 rfl (sx 25 rfl (sx 52 rfl (sx 63 rfl (sx 68 rfl (sx 99 rfl (sub_nil _))))))))))))))))) (.refl _) ?_
            refine hl_nil ?_
            exact hq_round2 (k + 1) (c + 0) ⟨by omega, by rw [wcnt_step (by omega), if_neg (by rw [show isWireI d (r.ns.getD k 0) = false by assumption]; decide), hc]⟩ (by omega) (sx 0 rfl (sx 2 rfl (sx 3 rfl (sx 4 rfl (sx 5 rfl (sx 6 rfl (sx 7 rfl (sx 8 rfl (sx 9 rfl (sx 12 rfl (sx 25 rfl (sx 52 rfl (sx 63 rfl (sub_nil _)))))))))))))) ((.cons _ (.cons_cons _ (.cons_cons _ (.cons_cons _ (.cons_cons _ .slnil))))))
        ·
         have hb68p : ¬ (0 < (k : Int)) := of_decide_eq_false hb68
         refine hc_draw (by kernel_rfl) 26 [0, 1, 2, 3, 4, 5, 6, 7, 8, 9, 10, 11, 12, 13, 14, 15, 16, 17, 18, 19, 20, 21, 22, 23, 24, 25] (List.take 26 _) (List.drop 26 _) [[], [0], [], [1, 2], [3], [4], [4], [4, 6], [4, 7], [4, 5, 8], [4], [4, 10], [4], [4, 11, 12], [4, 13], [4, 9, 14], [4, 15], [16], [17], [17, 18], [17, 19], [20], [20], [20], [17, 20, 23], [17, 24]] [74, 75, 76, 77, 78, 79, 80, 81, 82, 83, 84, 85, 86, 87, 88, 89, 90, 91, 92, 93, 94, 95, 96, 97, 98, 99] (fun i_ vs_ v_ p_ => match i_ with | 0 => v_ = v63 ∧ p_ = [] | 1 => v_ = .int .i64 (getI ys 0) ∧ p_ = [] | 2 => v_ = .int .i64 s0 ∧ p_ = [] | 3 => v_ = .bool false ∧ p_ = [] | 4 => v_ = .bool false ∧ p_ = [] | 5 => v_ = v63 ∧ p_ = [] | 6 => v_ = v63 ∧ p_ = [] | 7 => v_ = .int .i64 (ys.length : Int) ∧ p_ = [] | 8 => v_ = .int .i64 ((ys.length : Int) - 1) ∧ p_ = [] | 9 => v_ = .int .i64 (getI ys ((ys.length : Int) - 1)) ∧ p_ = [] | 10 => v_ = .pointer (some ⟨b6, 0 + 0, none⟩) ∧ p_ = [] | 11 => v_ = r.nv ∧ p_ = [] | 12 => v_ = .int .i64 (k : Int) ∧ p_ = [] | 13 => v_ = elP r.nv (((k : Int)).toNat * 1) ∧ p_ = [] | 14 => v_ = .int .i64 (r.ns.getD k 0) ∧ p_ = [] | 15 => v_ = .bool false ∧ p_ = [] | 16 => v_ = .bool false ∧ p_ = [] | 17 => v_ = .bool false ∧ p_ = [] | 18 => v_ = .int .i64 (k : Int) ∧ p_ = [] | 19 => v_ = .bool false ∧ p_ = [] | 20 => v_ = .bool false ∧ p_ = [] | 21 => v_ = undef ∧ p_ = [] | 22 => v_ = undef ∧ p_ = [] | 23 => v_ = undef ∧ p_ = [] | 24 => v_ = .bool false ∧ p_ = [] | 25 => v_ = .bool false ∧ p_ = [] | _ => True) (List.take_append_drop 26 _).symm (by kernel_rfl) (by kernel_rfl) rfl rfl ?_ ?_
         ·
          refine ⟨?_, ?_, ?_, ?_, ?_, ?_, ?_, ?_, ?_, ?_, ?_, ?_, ?_, ?_, ?_, ?_, ?_, ?_, ?_, ?_, ?_, ?_, ?_, ?_, ?_, ?_, trivial⟩
          ·
           intro vf pf hR
           refine Or.inl ⟨rfl, ?_⟩
           refine rq_less (sx 10 rfl (sub_nil _)) (List.sublist_append_right _ _) ?_
           exact rq_v (rv_ev rfl)
          ·
           intro vf pf hR
           have e0 : (vf 0) = v63 ∧ (pf 0) = [] := hR 0 (by decide)
           refine Or.inl ⟨rfl, ?_⟩
           refine rq_less (sx 74 (congrArg some e0.1) (sub_nil _)) (List.sublist_append_right _ _) ?_
           exact (rq_call (by kernel_rfl) rfl (fun w hm => ret_ans (lawsGet_ans ys 0 _ w ((rd_row 0 rfl) w hm) (by omega))))
          ·
           intro vf pf hR
           refine Or.inl ⟨rfl, ?_⟩
           refine rq_less (sx 4 rfl (sub_nil _)) (List.sublist_append_right _ _) ?_
           exact rq_v (rv_ev rfl)
          ·
           intro vf pf hR
           have e1 : (vf 1) = .int .i64 (getI ys 0) ∧ (pf 1) = [] := hR 1 (by decide)
           have e2 : (vf 2) = .int .i64 s0 ∧ (pf 2) = [] := hR 2 (by decide)
           refine Or.inl ⟨rfl, ?_⟩
           refine rq_less (sx 75 (congrArg some e1.1) (sx 76 (congrArg some e2.1) (sub_nil _))) (List.sublist_append_right _ _) ?_
           exact rq_mono (rq_v (rv_cmp rfl rfl rfl rfl)) (fun _ _ h => ⟨h.1.trans (congrArg Value.bool hb66), h.2⟩)
          ·
           intro vf pf hR
           have e3 : (vf 3) = .bool false ∧ (pf 3) = [] := hR 3 (by decide)
           refine Or.inl ⟨rfl, ?_⟩
           refine rq_less (sx 77 (congrArg some e3.1) (sub_nil _)) (List.sublist_append_right _ _) ?_
           exact rq_v (rv_ev rfl)
          ·
           intro vf pf hR
           have e4 : (vf 4) = .bool false ∧ (pf 4) = [] := hR 4 (by decide)
           refine Or.inl ⟨want_of (congrArg some e4.1) rfl, ?_⟩
           refine rq_less (sx 10 rfl (sub_nil _)) (List.sublist_append_right _ _) ?_
           exact rq_v (rv_ev rfl)
          ·
           intro vf pf hR
           have e4 : (vf 4) = .bool false ∧ (pf 4) = [] := hR 4 (by decide)
           refine Or.inl ⟨want_of (congrArg some e4.1) rfl, ?_⟩
           refine rq_less (sx 10 rfl (sub_nil _)) (List.sublist_append_right _ _) ?_
           exact rq_v (rv_ev rfl)
          ·
           intro vf pf hR
           have e4 : (vf 4) = .bool false ∧ (pf 4) = [] := hR 4 (by decide)
           have e6 : (vf 6) = v63 ∧ (pf 6) = [] := hR 6 (by decide)
           refine Or.inl ⟨want_of (congrArg some e4.1) rfl, ?_⟩
           refine rq_less (sx 80 (congrArg some e6.1) (sub_nil _)) (List.sublist_append_right _ _) ?_
           exact rq_v (rv_len rfl Try.underlying26 rfl (rd_row 0 rfl))
          ·
           intro vf pf hR
           have e4 : (vf 4) = .bool false ∧ (pf 4) = [] := hR 4 (by decide)
           have e7 : (vf 7) = .int .i64 (ys.length : Int) ∧ (pf 7) = [] := hR 7 (by decide)
           refine Or.inl ⟨want_of (congrArg some e4.1) rfl, ?_⟩
           refine rq_less (sx 81 (congrArg some e7.1) (sub_nil _)) (List.sublist_append_right _ _) ?_
           exact rq_v (rv_sub rfl rfl rfl (by constructor <;> omega))
          ·
           intro vf pf hR
           have e4 : (vf 4) = .bool false ∧ (pf 4) = [] := hR 4 (by decide)
           have e5 : (vf 5) = v63 ∧ (pf 5) = [] := hR 5 (by decide)
           have e8 : (vf 8) = .int .i64 ((ys.length : Int) - 1) ∧ (pf 8) = [] := hR 8 (by decide)
           refine Or.inl ⟨want_of (congrArg some e4.1) rfl, ?_⟩
           refine rq_less (sx 79 (congrArg some e5.1) (sx 82 (congrArg some e8.1) (sub_nil _))) (List.sublist_append_right _ _) ?_
           exact (rq_call (by kernel_rfl) rfl (fun w hm => ret_ans (lawsGet_ans ys ((ys.length : Int) - 1) _ w ((rd_row 0 rfl) w hm) (by omega))))
          ·
           intro vf pf hR
           have e4 : (vf 4) = .bool false ∧ (pf 4) = [] := hR 4 (by decide)
           refine Or.inl ⟨want_of (congrArg some e4.1) rfl, ?_⟩
           refine rq_less (sx 6 rfl (sub_nil _)) (List.sublist_append_right _ _) ?_
           exact rq_v (rv_field (k0 := 0) rfl (by kernel_rfl) rfl)
          ·
           intro vf pf hR
           have e4 : (vf 4) = .bool false ∧ (pf 4) = [] := hR 4 (by decide)
           have e10 : (vf 10) = .pointer (some ⟨b6, 0 + 0, none⟩) ∧ (pf 10) = [] := hR 10 (by decide)
           refine Or.inl ⟨want_of (congrArg some e4.1) rfl, ?_⟩
           refine rq_less (sx 84 (congrArg some e10.1) (sub_nil _)) (List.sublist_append_right _ _) ?_
           exact rq_v (rv_load rfl (by kernel_rfl) rfl (box_cell 1 rfl rfl))
          ·
           intro vf pf hR
           have e4 : (vf 4) = .bool false ∧ (pf 4) = [] := hR 4 (by decide)
           refine Or.inl ⟨want_of (congrArg some e4.1) rfl, ?_⟩
           refine rq_less (sx 9 rfl (sub_nil _)) (List.sublist_append_right _ _) ?_
           exact rq_v (rv_ev rfl)
          ·
           intro vf pf hR
           have e4 : (vf 4) = .bool false ∧ (pf 4) = [] := hR 4 (by decide)
           have e11 : (vf 11) = r.nv ∧ (pf 11) = [] := hR 11 (by decide)
           have e12 : (vf 12) = .int .i64 (k : Int) ∧ (pf 12) = [] := hR 12 (by decide)
           refine Or.inl ⟨want_of (congrArg some e4.1) rfl, ?_⟩
           refine rq_less (sx 85 (congrArg some e11.1) (sx 86 (congrArg some e12.1) (sub_nil _))) (List.sublist_append_right _ _) ?_
           exact rq_v (rv_index (s := 1) rfl Try.underlying26 (by kernel_rfl) rfl rfl (fun w hm => (rt_rds 3 rfl w hm).1) (by omega) (by first | omega | (simp only [List.length_set]; omega)))
          ·
           intro vf pf hR
           have e4 : (vf 4) = .bool false ∧ (pf 4) = [] := hR 4 (by decide)
           have e13 : (vf 13) = elP r.nv (((k : Int)).toNat * 1) ∧ (pf 13) = [] := hR 13 (by decide)
           refine Or.inl ⟨want_of (congrArg some e4.1) rfl, ?_⟩
           refine rq_less (sx 87 (congrArg some e13.1) (sub_nil _)) (List.sublist_append_right _ _) ?_
           exact rq_v (rv_loadEl (u := .int .i64 (r.ns.getD k 0)) rfl (by kernel_rfl) rfl (fun w hm => (rt_rds 3 rfl w hm).1) (ints_at1 (show _ < r.ns.length by first | omega | (simp only [List.length_set]; omega))))
          ·
           intro vf pf hR
           have e4 : (vf 4) = .bool false ∧ (pf 4) = [] := hR 4 (by decide)
           have e9 : (vf 9) = .int .i64 (getI ys ((ys.length : Int) - 1)) ∧ (pf 9) = [] := hR 9 (by decide)
           have e14 : (vf 14) = .int .i64 (r.ns.getD k 0) ∧ (pf 14) = [] := hR 14 (by decide)
           refine Or.inl ⟨want_of (congrArg some e4.1) rfl, ?_⟩
           refine rq_less (sx 83 (congrArg some e9.1) (sx 88 (congrArg some e14.1) (sub_nil _))) (List.sublist_append_right _ _) ?_
           exact rq_mono (rq_v (rv_cmp rfl rfl rfl rfl)) (fun _ _ h => ⟨h.1.trans (congrArg Value.bool hb67), h.2⟩)
          ·
           intro vf pf hR
           have e4 : (vf 4) = .bool false ∧ (pf 4) = [] := hR 4 (by decide)
           have e15 : (vf 15) = .bool false ∧ (pf 15) = [] := hR 15 (by decide)
           refine Or.inl ⟨rfl, ?_⟩
           refine rq_less (sx 78 (congrArg some e4.1) (sx 89 (congrArg some e15.1) (sub_nil _))) (List.sublist_append_right _ _) ?_
           exact rq_v (rv_ev rfl)
          ·
           intro vf pf hR
           have e16 : (vf 16) = .bool false ∧ (pf 16) = [] := hR 16 (by decide)
           refine Or.inl ⟨rfl, ?_⟩
           refine rq_less (sx 90 (congrArg some e16.1) (sub_nil _)) (List.sublist_append_right _ _) ?_
           exact rq_v (rv_ev rfl)
          ·
           intro vf pf hR
           have e17 : (vf 17) = .bool false ∧ (pf 17) = [] := hR 17 (by decide)
           refine Or.inl ⟨want_of (congrArg some e17.1) rfl, ?_⟩
           refine rq_less (sx 9 rfl (sub_nil _)) (List.sublist_append_right _ _) ?_
           exact rq_v (rv_ev rfl)
          ·
           intro vf pf hR
           have e17 : (vf 17) = .bool false ∧ (pf 17) = [] := hR 17 (by decide)
           have e18 : (vf 18) = .int .i64 (k : Int) ∧ (pf 18) = [] := hR 18 (by decide)
           refine Or.inl ⟨want_of (congrArg some e17.1) rfl, ?_⟩
           refine rq_less (sx 92 (congrArg some e18.1) (sub_nil _)) (List.sublist_append_right _ _) ?_
           exact rq_mono (rq_v (rv_cmp rfl rfl rfl rfl)) (fun _ _ h => ⟨h.1.trans (congrArg Value.bool hb68), h.2⟩)
          ·
           intro vf pf hR
           have e17 : (vf 17) = .bool false ∧ (pf 17) = [] := hR 17 (by decide)
           have e19 : (vf 19) = .bool false ∧ (pf 19) = [] := hR 19 (by decide)
           refine Or.inl ⟨want_of (congrArg some e17.1) rfl, ?_⟩
           refine rq_less (sx 93 (congrArg some e19.1) (sub_nil _)) (List.sublist_append_right _ _) ?_
           exact rq_v (rv_ev rfl)
          ·
           intro vf pf hR
           have e20 : (vf 20) = .bool false ∧ (pf 20) = [] := hR 20 (by decide)
           exact Or.inr ⟨want_of (congrArg some e20.1) rfl, rfl, rfl⟩
          ·
           intro vf pf hR
           have e20 : (vf 20) = .bool false ∧ (pf 20) = [] := hR 20 (by decide)
           exact Or.inr ⟨want_of (congrArg some e20.1) rfl, rfl, rfl⟩
          ·
           intro vf pf hR
           have e20 : (vf 20) = .bool false ∧ (pf 20) = [] := hR 20 (by decide)
           exact Or.inr ⟨want_of (congrArg some e20.1) rfl, rfl, rfl⟩
          ·
           intro vf pf hR
           have e17 : (vf 17) = .bool false ∧ (pf 17) = [] := hR 17 (by decide)
           have e20 : (vf 20) = .bool false ∧ (pf 20) = [] := hR 20 (by decide)
           have e23 : (vf 23) = undef ∧ (pf 23) = [] := hR 23 (by decide)
           refine Or.inl ⟨want_of (congrArg some e17.1) rfl, ?_⟩
           refine rq_less (sx 94 (congrArg some e20.1) (sx 97 (congrArg some e23.1) (sub_nil _))) (List.sublist_append_right _ _) ?_
           exact rq_v (rv_ev rfl)
          ·
           intro vf pf hR
           have e17 : (vf 17) = .bool false ∧ (pf 17) = [] := hR 17 (by decide)
           have e24 : (vf 24) = .bool false ∧ (pf 24) = [] := hR 24 (by decide)
           refine Or.inl ⟨rfl, ?_⟩
           refine rq_less (sx 91 (congrArg some e17.1) (sx 98 (congrArg some e24.1) (sub_nil _))) (List.sublist_append_right _ _) ?_
           exact rq_v (rv_ev rfl)
         ·
          intro vf pf hR
          have e25 : (vf 25) = .bool false ∧ (pf 25) = [] := hR 25 (by decide)
          refine hl_less (l' := [rowE 3 1 v63 ys.length (ys.map (Value.int .i64)), boxE b6 #[r.nv, r.fv] 28, boxE b5 #[.int .i64 d.W, .int .i64 d.H, .int .i64 d.T, .int .i64 d.R] 25, rtE r, rowE 3 1 sv ks.length (ks.map (Value.int .i64))]) (sx 0 rfl (sx 2 rfl (sx 3 rfl (sx 4 rfl (sx 5 rfl (sx 6 rfl (sx 7 rfl (sx 8 rfl (sx 9 rfl (sx 10 rfl (sx 12 rfl (sx 25 rfl (sx 52 rfl (sx 63 rfl (sx 68 rfl (sx 99 (congrArg some e25.1) (sub_nil _))))))))))))))))) (List.sublist_append_right _ _) ?_
          simp only [List.drop_succ_cons, List.drop_zero]
          refine hl_less (sx 0 rfl (sx 2 rfl (sx 3 rfl (sx 4 rfl (sx 5 rfl (sx 6 rfl (sx 7 rfl (sx 8 rfl (sx 9 rfl (sx 10 rfl (sx 12 rfl (sx 25 rfl (sx 52 rfl (sx 63 rfl (sx 68 rfl (sx 99 rfl (sub_nil _))))))))))))))))) (.refl _) ?_
          refine hl_nil ?_
          refine hq_then ?_
          refine hc_false rfl ?_
          refine hc_skip ?_
          refine hq_then ?_
          rcases Bool.eq_false_or_eq_true (isWireI d (r.ns.getD k 0)) with hb71 | hb71
          ·
           refine hc_draw (by kernel_rfl) 10 [0, 1, 2, 3, 4, 5, 6, 7, 8, 9] (List.take 10 _) (List.drop 10 _) [[], [], [], [2], [], [3, 4], [5], [1, 6], [7], [0, 8]] [100, 101, 102, 103, 104, 105, 106, 107, 108, 109] (fun i_ vs_ v_ p_ => match i_ with | 0 => v_ = .int .i64 c ∧ p_ = [] | 1 => v_ = .agg #[.int .i64 d.W, .int .i64 d.H, .int .i64 d.T, .int .i64 d.R] ∧ p_ = [] | 2 => v_ = .pointer (some ⟨b6, 0 + 0, none⟩) ∧ p_ = [] | 3 => v_ = r.nv ∧ p_ = [] | 4 => v_ = .int .i64 (k : Int) ∧ p_ = [] | 5 => v_ = elP r.nv (((k : Int)).toNat * 1) ∧ p_ = [] | 6 => v_ = .int .i64 (r.ns.getD k 0) ∧ p_ = [] | 7 => v_ = .bool true ∧ p_ = [] | 8 => v_ = .int .i64 1 ∧ p_ = [] | 9 => v_ = .int .i64 (c + 1) ∧ p_ = [] | _ => True) (List.take_append_drop 10 _).symm (by kernel_rfl) (by kernel_rfl) rfl rfl ?_ ?_
           ·
            refine ⟨?_, ?_, ?_, ?_, ?_, ?_, ?_, ?_, ?_, ?_, trivial⟩
            ·
             intro vf pf hR
             refine Or.inl ⟨rfl, ?_⟩
             refine rq_less (sx 8 rfl (sub_nil _)) (List.sublist_append_right _ _) ?_
             exact rq_v (rv_ev rfl)
            ·
             intro vf pf hR
             refine Or.inl ⟨rfl, ?_⟩
             refine rq_less (sx 3 rfl (sub_nil _)) (List.sublist_append_right _ _) ?_
             exact rq_v (rv_loadN (cs := [.int .i64 d.W, .int .i64 d.H, .int .i64 d.T, .int .i64 d.R]) rfl (by kernel_rfl) (by kernel_rfl) rfl rfl (box_part 2 rfl 0 rfl))
            ·
             intro vf pf hR
             refine Or.inl ⟨rfl, ?_⟩
             refine rq_less (sx 6 rfl (sub_nil _)) (List.sublist_append_right _ _) ?_
             exact rq_v (rv_field (k0 := 0) rfl (by kernel_rfl) rfl)
            ·
             intro vf pf hR
             have e2 : (vf 2) = .pointer (some ⟨b6, 0 + 0, none⟩) ∧ (pf 2) = [] := hR 2 (by decide)
             refine Or.inl ⟨rfl, ?_⟩
             refine rq_less (sx 102 (congrArg some e2.1) (sub_nil _)) (List.sublist_append_right _ _) ?_
             exact rq_v (rv_load rfl (by kernel_rfl) rfl (box_cell 1 rfl rfl))
            ·
             intro vf pf hR
             refine Or.inl ⟨rfl, ?_⟩
             refine rq_less (sx 9 rfl (sub_nil _)) (List.sublist_append_right _ _) ?_
             exact rq_v (rv_ev rfl)
            ·
             intro vf pf hR
             have e3 : (vf 3) = r.nv ∧ (pf 3) = [] := hR 3 (by decide)
             have e4 : (vf 4) = .int .i64 (k : Int) ∧ (pf 4) = [] := hR 4 (by decide)
             refine Or.inl ⟨rfl, ?_⟩
             refine rq_less (sx 103 (congrArg some e3.1) (sx 104 (congrArg some e4.1) (sub_nil _))) (List.sublist_append_right _ _) ?_
             exact rq_v (rv_index (s := 1) rfl Try.underlying26 (by kernel_rfl) rfl rfl (fun w hm => (rt_rds 3 rfl w hm).1) (by omega) (by first | omega | (simp only [List.length_set]; omega)))
            ·
             intro vf pf hR
             have e5 : (vf 5) = elP r.nv (((k : Int)).toNat * 1) ∧ (pf 5) = [] := hR 5 (by decide)
             refine Or.inl ⟨rfl, ?_⟩
             refine rq_less (sx 105 (congrArg some e5.1) (sub_nil _)) (List.sublist_append_right _ _) ?_
             exact rq_v (rv_loadEl (u := .int .i64 (r.ns.getD k 0)) rfl (by kernel_rfl) rfl (fun w hm => (rt_rds 3 rfl w hm).1) (ints_at1 (show _ < r.ns.length by first | omega | (simp only [List.length_set]; omega))))
            ·
             intro vf pf hR
             have e1 : (vf 1) = .agg #[.int .i64 d.W, .int .i64 d.H, .int .i64 d.T, .int .i64 d.R] ∧ (pf 1) = [] := hR 1 (by decide)
             have e6 : (vf 6) = .int .i64 (r.ns.getD k 0) ∧ (pf 6) = [] := hR 6 (by decide)
             refine Or.inl ⟨rfl, ?_⟩
             refine rq_less (sx 101 (congrArg some e1.1) (sx 106 (congrArg some e6.1) (sub_nil _))) (List.sublist_append_right _ _) ?_
             exact rq_mono (rq_call (by kernel_rfl) rfl (fun w hm => ret_ans (isWire_ans d _ w))) (fun _ _ h => ⟨h.1.trans (congrArg Value.bool hb71), h.2⟩)
            ·
             intro vf pf hR
             have e7 : (vf 7) = .bool true ∧ (pf 7) = [] := hR 7 (by decide)
             refine Or.inl ⟨rfl, ?_⟩
             refine rq_less (sx 107 (congrArg some e7.1) (sub_nil _)) (List.sublist_append_right _ _) ?_
             exact (rq_call (by kernel_rfl) rfl (fun w hm => ret_ans (btoi_t w)))
            ·
             intro vf pf hR
             have e0 : (vf 0) = .int .i64 c ∧ (pf 0) = [] := hR 0 (by decide)
             have e8 : (vf 8) = .int .i64 1 ∧ (pf 8) = [] := hR 8 (by decide)
             refine Or.inl ⟨rfl, ?_⟩
             refine rq_less (sx 100 (congrArg some e0.1) (sx 108 (congrArg some e8.1) (sub_nil _))) (List.sublist_append_right _ _) ?_
             exact rq_v (rv_add rfl rfl rfl (by constructor <;> omega))
           ·
            intro vf pf hR
            have e9 : (vf 9) = .int .i64 (c + 1) ∧ (pf 9) = [] := hR 9 (by decide)
            refine hl_less (l' := [rowE 3 1 v63 ys.length (ys.map (Value.int .i64)), boxE b6 #[r.nv, r.fv] 28, boxE b5 #[.int .i64 d.W, .int .i64 d.H, .int .i64 d.T, .int .i64 d.R] 25, rtE r, rowE 3 1 sv ks.length (ks.map (Value.int .i64))]) (sx 0 rfl (sx 2 rfl (sx 3 rfl (sx 4 rfl (sx 5 rfl (sx 6 rfl (sx 7 rfl (sx 8 rfl (sx 9 rfl (sx 10 rfl (sx 12 rfl (sx 25 rfl (sx 52 rfl (sx 63 rfl (sx 68 rfl (sx 99 rfl (sx 109 (congrArg some e9.1) (sub_nil _)))))))))))))))))) (List.sublist_append_right _ _) ?_
            simp only [List.drop_succ_cons, List.drop_zero]
            refine hl_v rfl rfl rfl (rv_ev rfl) ?_
            refine hl_less (sx 0 rfl (sx 2 rfl (sx 3 rfl (sx 4 rfl (sx 5 rfl (sx 6 rfl (sx 7 rfl (sx 8 rfl (sx 9 rfl (sx 10 rfl (sx 12 rfl (sx 25 rfl (sx 52 rfl (sx 63 rfl (sx 68 rfl (sx 99 rfl (sub_nil _))))))))))))))))) (.refl _) ?_
            refine hl_nil ?_
            refine hq_block_normal ?_
            refine hq_then ?_
            refine hc_region ?_
            refine hl_v rfl rfl rfl (rv_ev rfl) ?_
            refine hl_v rfl rfl rfl (rv_add rfl rfl rfl (by constructor <;> omega)) ?_
            refine hl_v rfl rfl rfl (rv_ev rfl) ?_
            refine hl_less (sx 0 rfl (sx 2 rfl (sx 3 rfl (sx 4 rfl (sx 5 rfl (sx 6 rfl (sx 7 rfl (sx 8 rfl (sx 9 rfl (sx 10 rfl (sx 12 rfl (sx 25 rfl (sx 52 rfl (sx 63 rfl (sx 68 rfl (sx 99 rfl (sub_nil _))))))))))))))))) (.refl _) ?_
            refine hl_nil ?_
            exact hq_round2 (k + 1) (c + 1) ⟨by omega, by rw [wcnt_step (by omega), if_pos (by assumption), hc]⟩ (by omega) (sx 0 rfl (sx 2 rfl (sx 3 rfl (sx 4 rfl (sx 5 rfl (sx 6 rfl (sx 7 rfl (sx 8 rfl (sx 9 rfl (sx 12 rfl (sx 25 rfl (sx 52 rfl (sx 63 rfl (sub_nil _)))))))))))))) ((.cons _ (.cons_cons _ (.cons_cons _ (.cons_cons _ (.cons_cons _ .slnil))))))
          ·
           refine hc_draw (by kernel_rfl) 10 [0, 1, 2, 3, 4, 5, 6, 7, 8, 9] (List.take 10 _) (List.drop 10 _) [[], [], [], [2], [], [3, 4], [5], [1, 6], [7], [0, 8]] [100, 101, 102, 103, 104, 105, 106, 107, 108, 109] (fun i_ vs_ v_ p_ => match i_ with | 0 => v_ = .int .i64 c ∧ p_ = [] | 1 => v_ = .agg #[.int .i64 d.W, .int .i64 d.H, .int .i64 d.T, .int .i64 d.R] ∧ p_ = [] | 2 => v_ = .pointer (some ⟨b6, 0 + 0, none⟩) ∧ p_ = [] | 3 => v_ = r.nv ∧ p_ = [] | 4 => v_ = .int .i64 (k : Int) ∧ p_ = [] | 5 => v_ = elP r.nv (((k : Int)).toNat * 1) ∧ p_ = [] | 6 => v_ = .int .i64 (r.ns.getD k 0) ∧ p_ = [] | 7 => v_ = .bool false ∧ p_ = [] | 8 => v_ = .int .i64 0 ∧ p_ = [] | 9 => v_ = .int .i64 (c + 0) ∧ p_ = [] | _ => True) (List.take_append_drop 10 _).symm (by kernel_rfl) (by kernel_rfl) rfl rfl ?_ ?_
           ·
            refine ⟨?_, ?_, ?_, ?_, ?_, ?_, ?_, ?_, ?_, ?_, trivial⟩
            ·
             intro vf pf hR
             refine Or.inl ⟨rfl, ?_⟩
             refine rq_less (sx 8 rfl (sub_nil _)) (List.sublist_append_right _ _) ?_
             exact rq_v (rv_ev rfl)
            ·
             intro vf pf hR
             refine Or.inl ⟨rfl, ?_⟩
             refine rq_less (sx 3 rfl (sub_nil _)) (List.sublist_append_right _ _) ?_
             exact rq_v (rv_loadN (cs := [.int .i64 d.W, .int .i64 d.H, .int .i64 d.T, .int .i64 d.R]) rfl (by kernel_rfl) (by kernel_rfl) rfl rfl (box_part 2 rfl 0 rfl))
            ·
             intro vf pf hR
             refine Or.inl ⟨rfl, ?_⟩
             refine rq_less (sx 6 rfl (sub_nil _)) (List.sublist_append_right _ _) ?_
             exact rq_v (rv_field (k0 := 0) rfl (by kernel_rfl) rfl)
            ·
             intro vf pf hR
             have e2 : (vf 2) = .pointer (some ⟨b6, 0 + 0, none⟩) ∧ (pf 2) = [] := hR 2 (by decide)
             refine Or.inl ⟨rfl, ?_⟩
             refine rq_less (sx 102 (congrArg some e2.1) (sub_nil _)) (List.sublist_append_right _ _) ?_
             exact rq_v (rv_load rfl (by kernel_rfl) rfl (box_cell 1 rfl rfl))
            ·
             intro vf pf hR
             refine Or.inl ⟨rfl, ?_⟩
             refine rq_less (sx 9 rfl (sub_nil _)) (List.sublist_append_right _ _) ?_
             exact rq_v (rv_ev rfl)
            ·
             intro vf pf hR
             have e3 : (vf 3) = r.nv ∧ (pf 3) = [] := hR 3 (by decide)
             have e4 : (vf 4) = .int .i64 (k : Int) ∧ (pf 4) = [] := hR 4 (by decide)
             refine Or.inl ⟨rfl, ?_⟩
             refine rq_less (sx 103 (congrArg some e3.1) (sx 104 (congrArg some e4.1) (sub_nil _))) (List.sublist_append_right _ _) ?_
             exact rq_v (rv_index (s := 1) rfl Try.underlying26 (by kernel_rfl) rfl rfl (fun w hm => (rt_rds 3 rfl w hm).1) (by omega) (by first | omega | (simp only [List.length_set]; omega)))
            ·
             intro vf pf hR
             have e5 : (vf 5) = elP r.nv (((k : Int)).toNat * 1) ∧ (pf 5) = [] := hR 5 (by decide)
             refine Or.inl ⟨rfl, ?_⟩
             refine rq_less (sx 105 (congrArg some e5.1) (sub_nil _)) (List.sublist_append_right _ _) ?_
             exact rq_v (rv_loadEl (u := .int .i64 (r.ns.getD k 0)) rfl (by kernel_rfl) rfl (fun w hm => (rt_rds 3 rfl w hm).1) (ints_at1 (show _ < r.ns.length by first | omega | (simp only [List.length_set]; omega))))
            ·
             intro vf pf hR
             have e1 : (vf 1) = .agg #[.int .i64 d.W, .int .i64 d.H, .int .i64 d.T, .int .i64 d.R] ∧ (pf 1) = [] := hR 1 (by decide)
             have e6 : (vf 6) = .int .i64 (r.ns.getD k 0) ∧ (pf 6) = [] := hR 6 (by decide)
             refine Or.inl ⟨rfl, ?_⟩
             refine rq_less (sx 101 (congrArg some e1.1) (sx 106 (congrArg some e6.1) (sub_nil _))) (List.sublist_append_right _ _) ?_
             exact rq_mono (rq_call (by kernel_rfl) rfl (fun w hm => ret_ans (isWire_ans d _ w))) (fun _ _ h => ⟨h.1.trans (congrArg Value.bool hb71), h.2⟩)
            ·
             intro vf pf hR
             have e7 : (vf 7) = .bool false ∧ (pf 7) = [] := hR 7 (by decide)
             refine Or.inl ⟨rfl, ?_⟩
             refine rq_less (sx 107 (congrArg some e7.1) (sub_nil _)) (List.sublist_append_right _ _) ?_
             exact (rq_call (by kernel_rfl) rfl (fun w hm => ret_ans (btoi_f w)))
            ·
             intro vf pf hR
             have e0 : (vf 0) = .int .i64 c ∧ (pf 0) = [] := hR 0 (by decide)
             have e8 : (vf 8) = .int .i64 0 ∧ (pf 8) = [] := hR 8 (by decide)
             refine Or.inl ⟨rfl, ?_⟩
             refine rq_less (sx 100 (congrArg some e0.1) (sx 108 (congrArg some e8.1) (sub_nil _))) (List.sublist_append_right _ _) ?_
             exact rq_v (rv_add rfl rfl rfl (by constructor <;> omega))
           ·
            intro vf pf hR
            have e9 : (vf 9) = .int .i64 (c + 0) ∧ (pf 9) = [] := hR 9 (by decide)
            refine hl_less (l' := [rowE 3 1 v63 ys.length (ys.map (Value.int .i64)), boxE b6 #[r.nv, r.fv] 28, boxE b5 #[.int .i64 d.W, .int .i64 d.H, .int .i64 d.T, .int .i64 d.R] 25, rtE r, rowE 3 1 sv ks.length (ks.map (Value.int .i64))]) (sx 0 rfl (sx 2 rfl (sx 3 rfl (sx 4 rfl (sx 5 rfl (sx 6 rfl (sx 7 rfl (sx 8 rfl (sx 9 rfl (sx 10 rfl (sx 12 rfl (sx 25 rfl (sx 52 rfl (sx 63 rfl (sx 68 rfl (sx 99 rfl (sx 109 (congrArg some e9.1) (sub_nil _)))))))))))))))))) (List.sublist_append_right _ _) ?_
            simp only [List.drop_succ_cons, List.drop_zero]
            refine hl_v rfl rfl rfl (rv_ev rfl) ?_
            refine hl_less (sx 0 rfl (sx 2 rfl (sx 3 rfl (sx 4 rfl (sx 5 rfl (sx 6 rfl (sx 7 rfl (sx 8 rfl (sx 9 rfl (sx 10 rfl (sx 12 rfl (sx 25 rfl (sx 52 rfl (sx 63 rfl (sx 68 rfl (sx 99 rfl (sub_nil _))))))))))))))))) (.refl _) ?_
            refine hl_nil ?_
            refine hq_block_normal ?_
            refine hq_then ?_
            refine hc_region ?_
            refine hl_v rfl rfl rfl (rv_ev rfl) ?_
            refine hl_v rfl rfl rfl (rv_add rfl rfl rfl (by constructor <;> omega)) ?_
            refine hl_v rfl rfl rfl (rv_ev rfl) ?_
            refine hl_less (sx 0 rfl (sx 2 rfl (sx 3 rfl (sx 4 rfl (sx 5 rfl (sx 6 rfl (sx 7 rfl (sx 8 rfl (sx 9 rfl (sx 10 rfl (sx 12 rfl (sx 25 rfl (sx 52 rfl (sx 63 rfl (sx 68 rfl (sx 99 rfl (sub_nil _))))))))))))))))) (.refl _) ?_
            refine hl_nil ?_
            exact hq_round2 (k + 1) (c + 0) ⟨by omega, by rw [wcnt_step (by omega), if_neg (by rw [show isWireI d (r.ns.getD k 0) = false by assumption]; decide), hc]⟩ (by omega) (sx 0 rfl (sx 2 rfl (sx 3 rfl (sx 4 rfl (sx 5 rfl (sx 6 rfl (sx 7 rfl (sx 8 rfl (sx 9 rfl (sx 12 rfl (sx 25 rfl (sx 52 rfl (sx 63 rfl (sub_nil _)))))))))))))) ((.cons _ (.cons_cons _ (.cons_cons _ (.cons_cons _ (.cons_cons _ .slnil))))))
       ·
        refine hl_less (sx 0 rfl (sx 2 rfl (sx 3 rfl (sx 4 rfl (sx 5 rfl (sx 6 rfl (sx 7 rfl (sx 8 rfl (sx 9 rfl (sx 12 rfl (sx 25 rfl (sx 52 rfl (sx 63 rfl (sx 68 rfl (sub_nil _))))))))))))))) (.refl _) ?_
        refine hl_nil ?_
        refine hq_then ?_
        refine hc_false rfl ?_
        refine hc_exit ?_
        refine hq_then_exit ?_
        refine hq_then_exit ?_
        refine hq_block_exit ?_
        refine hq_then ?_
        refine hc_seq ?_
        refine hc_region ?_
        have hcw : c = wcnt d r.ns r.ns.length := by rw [hc, show k = r.ns.length by omega]
        refine hl_v rfl rfl rfl (rv_loadN (cs := [.int .i64 d.W, .int .i64 d.H, .int .i64 d.T, .int .i64 d.R]) rfl (by kernel_rfl) (by kernel_rfl) rfl rfl (box_part 1 rfl 0 rfl)) ?_
        refine hl_v rfl rfl rfl (rv_loadN (cs := [r.nv, r.fv]) rfl (by kernel_rfl) (by kernel_rfl) rfl rfl (box_part 0 rfl 0 rfl)) ?_
        refine hl_callV rfl rfl rfl (rq_call (by kernel_rfl) rfl (fun w hm => ret_ans (WireCount_ans d r w (rt_rds 2 rfl w hm).1 (rt_rds 2 rfl w hm).2 (by omega)))) ?_
        refine hl_v rfl rfl rfl (rv_ev rfl) ?_
        refine hl_eql rfl rfl rfl rfl rfl rfl (fun h72 => ?_) (fun h72 => absurd h72 (by omega))
        refine hl_v rfl rfl rfl (rv_ev rfl) ?_
        refine hl_v rfl rfl rfl (rv_ev rfl) ?_
        refine hl_v rfl rfl rfl (rv_ev rfl) ?_
        refine hl_v rfl rfl rfl (rv_len rfl Try.underlying26 rfl (rd_row 3 rfl)) ?_
        refine hl_v rfl rfl rfl (rv_add rfl rfl rfl (by constructor <;> omega)) ?_
        refine hl_v rfl rfl rfl (rv_add rfl rfl rfl (by constructor <;> omega)) ?_
        refine hl_v rfl rfl rfl (rv_field (k0 := 0) rfl (by kernel_rfl) rfl) ?_
        refine hl_v rfl rfl rfl (rv_load rfl (by kernel_rfl) rfl (box_cell 0 rfl rfl)) ?_
        refine hl_v rfl rfl rfl (rv_len rfl Try.underlying26 rfl (fun w hm => (rt_rds 2 rfl w hm).1)) ?_
        refine hl_eql rfl rfl rfl rfl rfl rfl (fun h73 => ?_) (fun h73 => absurd h73 (by omega))
        refine hl_v rfl rfl rfl (rv_ev rfl) ?_
        refine hl_v rfl rfl rfl (rv_ev rfl) ?_
        refine hl_less (sx 0 rfl (sx 2 rfl (sx 3 rfl (sx 4 rfl (sx 5 rfl (sx 6 rfl (sx 7 rfl (sx 8 rfl (sx 9 rfl (sx 12 rfl (sx 25 rfl (sx 52 rfl (sx 63 rfl (sx 68 rfl (sub_nil _))))))))))))))) (.refl _) ?_
        refine hl_nil ?_
        refine hq_then ?_
        refine hc_ret ?_
        exact hq_ans rfl rfl rfl
end Go.Proofs.Ytagjmgfcbmbkhaa
