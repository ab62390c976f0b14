/- The law FnExactEncodeTile: its walk. -/
import Derived.Test.YtnnkbpcfjjijbaaEx16
set_option linter.unusedVariables false
set_option linter.unusedSimpArgs false
namespace Go.Proofs.Ytnnkbpcfjjijbaa
open Go.RowKit

theorem encV_len (d : Dev) (val : List Int × List (List Int × Int × Int × Int) × Int × Int) : (encV d val).length ≤ 2000000 := by
  unfold encV
  split
  · rename_i h
    have hd : devB d = true := by unfold tcOkV at h; simp only [Bool.and_eq_true] at h; exact h.1.1.1.1.1.1
    obtain ⟨-, -, ⟨l1, l2⟩, -⟩ := (devB_iff d).1 hd
    rw [packJ_len]; show ((5 * (5 + 4 * d.T) + 67 + 15) / 16).toNat ≤ _; omega
  · simp
set_option maxHeartbeats 4000000 in
set_option maxRecDepth 100000 in
theorem walk_FnExactEncodeTile (d : Dev) (x : Tc) (w : World) (hx : x.RdU w) :
    Calls Try.prog 10 #[.agg #[.int .i64 d.W, .int .i64 d.H, .int .i64 d.T, .int .i64 d.R], .agg #[x.mv, x.lv, .int .i64 x.pad, .int .i64 x.ram]] w (Ans w (.bool true)) := by
  have hel := encV_len d x.val
  refine calls_hc (N := 104) (args := [.agg #[.int .i64 d.W, .int .i64 d.H, .int .i64 d.T, .int .i64 d.R], .agg #[x.mv, x.lv, .int .i64 x.pad, .int .i64 x.ram]]) Try.func10 rfl rfl ?_
  refine hc_less _ (sub_cons (d := 0) rfl (sub_cons (d := 1) rfl (sub_nil _))) (.refl _) ?_
  refine hc_seq ?_
  refine hc_region ?_
  refine hl_box rfl rfl rfl (rq_box rfl rfl) ?_
  intro b1
  refine hl_box rfl rfl rfl (rq_box rfl rfl) ?_
  intro b2
  refine hl_v rfl rfl rfl (rv_ev rfl) ?_
  refine hl_less (sub_cons (d := 0) rfl (sub_cons (d := 1) rfl (sub_cons (d := 2) rfl (sub_cons (d := 3) rfl (sub_cons (d := 4) rfl (sub_nil _)))))) (.refl _) ?_
  refine hl_nil ?_
  refine hq_then ?_
  refine hc_seq ?_
  refine hc_region ?_
  refine hl_v rfl rfl rfl (rv_ev rfl) ?_
  refine hl_less (sub_cons (d := 0) rfl (sub_cons (d := 1) rfl (sub_cons (d := 2) rfl (sub_cons (d := 3) rfl (sub_cons (d := 4) rfl (sub_cons (d := 5) rfl (sub_nil _))))))) (.refl _) ?_
  refine hl_nil ?_
  refine hq_then ?_
  refine hc_seq ?_
  refine hc_region ?_
  refine hl_v rfl rfl rfl (rv_loadN (cs := [x.mv, x.lv, .int .i64 x.pad, .int .i64 x.ram]) rfl (by kernel_rfl) (by kernel_rfl) rfl rfl (box_part 0 rfl 0 rfl)) ?_
  refine hl_v rfl rfl rfl (rv_ev rfl) ?_
  refine hl_q rfl rfl rfl (rq_call (by kernel_rfl) rfl (fun w hm => szTileConfig_ret x 1048576 w (hx.below hm.bel) (by omega))) ?_
  intro v3 p4 hR5
  obtain ⟨rfl, rhR5, rfl, uhR5, hsz⟩ := hR5
  refine hl_v rfl rfl rfl (rv_ev rfl) ?_
  refine hl_less (sub_cons (d := 0) rfl (sub_cons (d := 1) rfl (sub_cons (d := 2) rfl (sub_cons (d := 3) rfl (sub_cons (d := 4) rfl (sub_cons (d := 5) rfl (sub_nil _))))))) (.refl _) ?_
  refine hl_nil ?_
  refine hq_then ?_
  refine hc_seq ?_
  refine hc_seq ?_
  refine hc_region ?_
  refine hl_v rfl rfl rfl (rv_ev rfl) ?_
  refine hl_lss rfl rfl rfl rfl rfl rfl (fun h6 => ?_) (fun h6 => ?_)
  ·
    refine hl_less (sub_cons (d := 0) rfl (sub_cons (d := 1) rfl (sub_cons (d := 2) rfl (sub_cons (d := 3) rfl (sub_cons (d := 4) rfl (sub_cons (d := 5) rfl (sub_cons (d := 20) rfl (sub_nil _)))))))) (.refl _) ?_
    refine hl_nil ?_
    refine hq_then ?_
    refine hc_true rfl ?_
    refine hc_seq ?_
    refine hc_region ?_
    refine hl_v rfl rfl rfl (rv_ev rfl) ?_
    refine hl_less (sub_cons (d := 0) rfl (sub_cons (d := 1) rfl (sub_cons (d := 2) rfl (sub_cons (d := 3) rfl (sub_cons (d := 4) rfl (sub_cons (d := 5) rfl (sub_cons (d := 20) rfl (sub_nil _)))))))) (.refl _) ?_
    refine hl_nil ?_
    refine hq_then ?_
    refine hc_ret ?_
    refine hq_then_ret ?_
    exact hq_ans rfl rfl rfl
  ·
    refine hl_less (sub_cons (d := 0) rfl (sub_cons (d := 1) rfl (sub_cons (d := 2) rfl (sub_cons (d := 3) rfl (sub_cons (d := 4) rfl (sub_cons (d := 5) rfl (sub_cons (d := 20) rfl (sub_nil _)))))))) (.refl _) ?_
    refine hl_nil ?_
    refine hq_then ?_
    refine hc_false rfl ?_
    refine hc_skip ?_
    refine hq_then ?_
    refine hc_seq ?_
    obtain ⟨hs1, hs2, hs3⟩ := hsz (by omega)
    rcases Bool.eq_false_or_eq_true (tcOkV d x.val) with hb13 | hb13
    ·
      obtain ⟨hs1, hs2, hs3⟩ := hsz (by omega)
      refine hc_draw (by kernel_rfl) 9 [0, 1, 2, 3, 4, 5, 6, 7, 8] (List.take 9 _) (List.drop 9 _) [[], [0], [], [2], [1, 3], [4], [4, 5], [4, 5], [4, 6]] [22, 23, 24, 25, 26, 21, 27, 28, 6] (fun i vs_ v_ p_ => match i with | 0 => v_ = .agg #[.int .i64 d.W, .int .i64 d.H, .int .i64 d.T, .int .i64 d.R] ∧ p_ = [] | 1 => v_ = .agg #[.int .i64 d.W, .int .i64 d.H, .int .i64 d.T, .int .i64 d.R] ∧ p_ = [] | 2 => v_ = .agg #[x.mv, x.lv, .int .i64 x.pad, .int .i64 x.ram] ∧ p_ = [] | 3 => (IsTc x.val) v_ p_ | 4 => (IsEnc d x.val) v_ p_ | 5 => v_ = .tuple #[(tupAt (List.getD vs_ 0 undef) 0), .bool (tcOkV d x.val)] ∧ p_ = [] | 6 => v_ = (tupAt (List.getD vs_ 0 undef) 0) ∧ p_ = [] | 7 => v_ = .bool true ∧ p_ = [] | 8 => v_ = (tupAt (List.getD vs_ 0 undef) 0) ∧ p_ = [] | _ => True) (List.take_append_drop 9 _).symm (by kernel_rfl) (by kernel_rfl) rfl rfl ?_ ?_
      ·
        refine ⟨?_, ?_, ?_, ?_, ?_, ?_, ?_, ?_, ?_, trivial⟩
        ·
          intro vf pf hR
          refine Or.inl ⟨rfl, ?_⟩
          refine rq_less (l' := [boxE b2 #[x.mv, x.lv, .int .i64 x.pad, .int .i64 x.ram] 50, boxE b1 #[.int .i64 d.W, .int .i64 d.H, .int .i64 d.T, .int .i64 d.R] 36]) (sub_cons (d := 2) rfl (sub_nil _)) (List.sublist_append_right _ _) ?_
          exact rq_v (rv_loadN (cs := [.int .i64 d.W, .int .i64 d.H, .int .i64 d.T, .int .i64 d.R]) rfl (by kernel_rfl) (by kernel_rfl) rfl rfl (box_part 1 rfl 0 rfl))
        ·
          intro vf pf hR
          have e0 : (vf 0) = .agg #[.int .i64 d.W, .int .i64 d.H, .int .i64 d.T, .int .i64 d.R] ∧ (pf 0) = [] := hR 0 (by decide)
          refine Or.inl ⟨rfl, ?_⟩
          refine rq_less (l' := [boxE b2 #[x.mv, x.lv, .int .i64 x.pad, .int .i64 x.ram] 50, boxE b1 #[.int .i64 d.W, .int .i64 d.H, .int .i64 d.T, .int .i64 d.R] 36]) (sub_cons (d := 22) (congrArg some e0.1) (sub_nil _)) (List.sublist_append_right _ _) ?_
          exact (rq_call (by kernel_rfl) rfl (fun w hm => ret_ans (toDevice_any d w)))
        ·
          intro vf pf hR
          refine Or.inl ⟨rfl, ?_⟩
          refine rq_less (l' := [boxE b2 #[x.mv, x.lv, .int .i64 x.pad, .int .i64 x.ram] 50, boxE b1 #[.int .i64 d.W, .int .i64 d.H, .int .i64 d.T, .int .i64 d.R] 36]) (sub_cons (d := 3) rfl (sub_nil _)) (List.sublist_append_right _ _) ?_
          exact rq_v (rv_loadN (cs := [x.mv, x.lv, .int .i64 x.pad, .int .i64 x.ram]) rfl (by kernel_rfl) (by kernel_rfl) rfl rfl (box_part 0 rfl 0 rfl))
        ·
          intro vf pf hR
          have e2 : (vf 2) = .agg #[x.mv, x.lv, .int .i64 x.pad, .int .i64 x.ram] ∧ (pf 2) = [] := hR 2 (by decide)
          refine Or.inl ⟨rfl, ?_⟩
          refine rq_less (l' := [boxE b2 #[x.mv, x.lv, .int .i64 x.pad, .int .i64 x.ram] 50, boxE b1 #[.int .i64 d.W, .int .i64 d.H, .int .i64 d.T, .int .i64 d.R] 36]) (sub_cons (d := 24) (congrArg some e2.1) (sub_nil _)) (List.sublist_append_right _ _) ?_
          exact rq_call (by kernel_rfl) rfl (fun w hm => toTileConfig_ret x w (hx.below hm.bel) hs1 hs2 hs3)
        ·
          intro vf pf hR
          have e1 : (vf 1) = .agg #[.int .i64 d.W, .int .i64 d.H, .int .i64 d.T, .int .i64 d.R] ∧ (pf 1) = [] := hR 1 (by decide)
          have e3 : (IsTc x.val) (vf 3) (pf 3) := hR 3 (by decide)
          obtain ⟨v14, v3⟩ : ∃ x, vf 3 = x := ⟨_, rfl⟩
          obtain ⟨p15, p3⟩ : ∃ x, pf 3 = x := ⟨_, rfl⟩
          have hR16 := e3
          rw [v3, p3] at hR16
          obtain ⟨thR16, rfl, rfl, ⟨c1thR16, c2thR16⟩, valthR16, n1thR16, n2thR16, n3thR16⟩ := hR16
          have bthR16 := And.intro n1thR16 (And.intro n2thR16 n3thR16)
          refine Or.inl ⟨rfl, ?_⟩
          refine rq_less (l' := [tcE thR16, boxE b2 #[x.mv, x.lv, .int .i64 x.pad, .int .i64 x.ram] 50, boxE b1 #[.int .i64 d.W, .int .i64 d.H, .int .i64 d.T, .int .i64 d.R] 36]) (sub_cons (d := 23) (congrArg some e1.1) (sub_cons (d := 25) (congrArg some v3) (sub_nil _))) (by first | (simp only [p3, v3, e1.2, List.flatMap_cons, List.flatMap_nil, List.append_nil, List.nil_append, List.cons_append]; exact List.Sublist.refl _) | simp [p3, v3, e1.2]) ?_
          exact rq_call (by kernel_rfl) rfl (fun w hm => by have h := specEncodeTile_ret d thR16 w (tc_rds 0 rfl bthR16.1 bthR16.2.1 bthR16.2.2 w hm); rw [valthR16] at h; exact h)
        ·
          intro vf pf hR
          have e4 : (IsEnc d x.val) (vf 4) (pf 4) := hR 4 (by decide)
          obtain ⟨v17, v4⟩ : ∃ x, vf 4 = x := ⟨_, rfl⟩
          obtain ⟨p18, p4⟩ : ∃ x, pf 4 = x := ⟨_, rfl⟩
          have hR19 := e4
          rw [v4, p4] at hR19
          obtain ⟨uhR19, rfl, rfl⟩ := hR19
          refine Or.inl ⟨rfl, ?_⟩
          refine rq_less (l' := [rowE 3 1 uhR19 ((encV d x.val).length) ((encV d x.val).map (Value.int .i64)), boxE b2 #[x.mv, x.lv, .int .i64 x.pad, .int .i64 x.ram] 50, boxE b1 #[.int .i64 d.W, .int .i64 d.H, .int .i64 d.T, .int .i64 d.R] 36]) (sub_cons (d := 26) (congrArg some v4) (sub_nil _)) (by first | (simp only [p4, v4, List.flatMap_cons, List.flatMap_nil, List.append_nil, List.nil_append, List.cons_append]; exact List.Sublist.refl _) | simp [p4, v4]) ?_
          exact rq_mono (rq_v (rv_ev rfl)) (fun _ _ h => ⟨h.1.trans (by show _ = (.tuple #[(tupAt (vf 4) 0), .bool (tcOkV d x.val)] : Value); first | (rw [v4]; done) | (rw [v4]; rfl)), h.2⟩)
        ·
          intro vf pf hR
          have e4 : (IsEnc d x.val) (vf 4) (pf 4) := hR 4 (by decide)
          obtain ⟨v17, v4⟩ : ∃ x, vf 4 = x := ⟨_, rfl⟩
          obtain ⟨p18, p4⟩ : ∃ x, pf 4 = x := ⟨_, rfl⟩
          have hR19 := e4
          rw [v4, p4] at hR19
          obtain ⟨uhR19, rfl, rfl⟩ := hR19
          have e5 : (vf 5) = .tuple #[(tupAt (vf 4) 0), .bool (tcOkV d x.val)] ∧ (pf 5) = [] := hR 5 (by decide)
          rw [v4] at e5
          refine Or.inl ⟨rfl, ?_⟩
          refine rq_less (l' := [rowE 3 1 uhR19 ((encV d x.val).length) ((encV d x.val).map (Value.int .i64)), boxE b2 #[x.mv, x.lv, .int .i64 x.pad, .int .i64 x.ram] 50, boxE b1 #[.int .i64 d.W, .int .i64 d.H, .int .i64 d.T, .int .i64 d.R] 36]) (sub_cons (d := 21) (congrArg some e5.1) (sub_nil _)) (by first | (simp only [p4, v4, e5.2, List.flatMap_cons, List.flatMap_nil, List.append_nil, List.nil_append, List.cons_append]; exact List.Sublist.refl _) | simp [p4, v4, e5.2]) ?_
          exact rq_mono (rq_v (rv_ev rfl)) (fun _ _ h => ⟨h.1.trans (by show _ = ((tupAt (vf 4) 0) : Value); first | (rw [v4]; done) | (rw [v4]; rfl)), h.2⟩)
        ·
          intro vf pf hR
          have e4 : (IsEnc d x.val) (vf 4) (pf 4) := hR 4 (by decide)
          obtain ⟨v17, v4⟩ : ∃ x, vf 4 = x := ⟨_, rfl⟩
          obtain ⟨p18, p4⟩ : ∃ x, pf 4 = x := ⟨_, rfl⟩
          have hR19 := e4
          rw [v4, p4] at hR19
          obtain ⟨uhR19, rfl, rfl⟩ := hR19
          have e5 : (vf 5) = .tuple #[(tupAt (vf 4) 0), .bool (tcOkV d x.val)] ∧ (pf 5) = [] := hR 5 (by decide)
          rw [v4] at e5
          refine Or.inl ⟨rfl, ?_⟩
          refine rq_less (l' := [rowE 3 1 uhR19 ((encV d x.val).length) ((encV d x.val).map (Value.int .i64)), boxE b2 #[x.mv, x.lv, .int .i64 x.pad, .int .i64 x.ram] 50, boxE b1 #[.int .i64 d.W, .int .i64 d.H, .int .i64 d.T, .int .i64 d.R] 36]) (sub_cons (d := 21) (congrArg some e5.1) (sub_nil _)) (by first | (simp only [p4, v4, e5.2, List.flatMap_cons, List.flatMap_nil, List.append_nil, List.nil_append, List.cons_append]; exact List.Sublist.refl _) | simp [p4, v4, e5.2]) ?_
          exact rq_mono (rq_v (rv_ev rfl)) (fun _ _ h => ⟨h.1.trans (congrArg Value.bool hb13), h.2⟩)
        ·
          intro vf pf hR
          have e4 : (IsEnc d x.val) (vf 4) (pf 4) := hR 4 (by decide)
          obtain ⟨v17, v4⟩ : ∃ x, vf 4 = x := ⟨_, rfl⟩
          obtain ⟨p18, p4⟩ : ∃ x, pf 4 = x := ⟨_, rfl⟩
          have hR19 := e4
          rw [v4, p4] at hR19
          obtain ⟨uhR19, rfl, rfl⟩ := hR19
          have e6 : (vf 6) = (tupAt (vf 4) 0) ∧ (pf 6) = [] := hR 6 (by decide)
          rw [v4] at e6
          refine Or.inl ⟨rfl, ?_⟩
          refine rq_less (l' := [rowE 3 1 uhR19 ((encV d x.val).length) ((encV d x.val).map (Value.int .i64)), boxE b2 #[x.mv, x.lv, .int .i64 x.pad, .int .i64 x.ram] 50, boxE b1 #[.int .i64 d.W, .int .i64 d.H, .int .i64 d.T, .int .i64 d.R] 36]) (sub_cons (d := 27) (congrArg some e6.1) (sub_nil _)) (by first | (simp only [p4, v4, e6.2, List.flatMap_cons, List.flatMap_nil, List.append_nil, List.nil_append, List.cons_append]; exact List.Sublist.refl _) | simp [p4, v4, e6.2]) ?_
          exact rq_mono (rq_v (rv_ev rfl)) (fun _ _ h => ⟨h.1.trans (by show _ = ((tupAt (vf 4) 0) : Value); first | (rw [v4]; done) | (rw [v4]; rfl)), h.2⟩)
      ·
        intro vf pf hR
        have e3 : (IsTc x.val) (vf 3) (pf 3) := hR 3 (by decide)
        obtain ⟨v14, v3⟩ : ∃ x, vf 3 = x := ⟨_, rfl⟩
        obtain ⟨p15, p3⟩ : ∃ x, pf 3 = x := ⟨_, rfl⟩
        have hR16 := e3
        rw [v3, p3] at hR16
        obtain ⟨thR16, rfl, rfl, ⟨c1thR16, c2thR16⟩, valthR16, n1thR16, n2thR16, n3thR16⟩ := hR16
        have bthR16 := And.intro n1thR16 (And.intro n2thR16 n3thR16)
        have e4 : (IsEnc d x.val) (vf 4) (pf 4) := hR 4 (by decide)
        obtain ⟨v17, v4⟩ : ∃ x, vf 4 = x := ⟨_, rfl⟩
        obtain ⟨p18, p4⟩ : ∃ x, pf 4 = x := ⟨_, rfl⟩
        have hR19 := e4
        rw [v4, p4] at hR19
        obtain ⟨uhR19, rfl, rfl⟩ := hR19
        have e7 : (vf 7) = .bool true ∧ (pf 7) = [] := hR 7 (by decide)
        have e8 : (vf 8) = (tupAt (vf 4) 0) ∧ (pf 8) = [] := hR 8 (by decide)
        rw [v4] at e8
        have q0 : (vf 0) = .agg #[.int .i64 d.W, .int .i64 d.H, .int .i64 d.T, .int .i64 d.R] ∧ (pf 0) = [] := hR 0 (by decide)
        have q1 : (vf 1) = .agg #[.int .i64 d.W, .int .i64 d.H, .int .i64 d.T, .int .i64 d.R] ∧ (pf 1) = [] := hR 1 (by decide)
        have q2 : (vf 2) = .agg #[x.mv, x.lv, .int .i64 x.pad, .int .i64 x.ram] ∧ (pf 2) = [] := hR 2 (by decide)
        have q5 : (vf 5) = .tuple #[(tupAt (vf 4) 0), .bool (tcOkV d x.val)] ∧ (pf 5) = [] := hR 5 (by decide)
        have q6 : (vf 6) = (tupAt (vf 4) 0) ∧ (pf 6) = [] := hR 6 (by decide)
        have q7 : (vf 7) = .bool true ∧ (pf 7) = [] := hR 7 (by decide)
        have q8 : (vf 8) = (tupAt (vf 4) 0) ∧ (pf 8) = [] := hR 8 (by decide)
        refine hl_less (l' := [tcE thR16, rowE 3 1 uhR19 ((encV d x.val).length) ((encV d x.val).map (Value.int .i64)), boxE b2 #[x.mv, x.lv, .int .i64 x.pad, .int .i64 x.ram] 50, boxE b1 #[.int .i64 d.W, .int .i64 d.H, .int .i64 d.T, .int .i64 d.R] 36]) (sub_cons (d := 0) rfl (sub_cons (d := 1) rfl (sub_cons (d := 2) rfl (sub_cons (d := 3) rfl (sub_cons (d := 4) rfl (sub_cons (d := 5) rfl (sub_cons (d := 6) (congrArg some e8.1) (sub_cons (d := 20) rfl (sub_cons (d := 28) (congrArg some e7.1) (sub_nil _)))))))))) (by first | (simp only [p3, v3, p4, v4, q0.2, q1.2, q2.2, q5.2, q6.2, q7.2, q8.2, List.flatMap_cons, List.flatMap_nil, List.append_nil, List.nil_append, List.cons_append]; exact List.Sublist.refl _) | simp [p3, v3, p4, v4, q0.2, q1.2, q2.2, q5.2, q6.2, q7.2, q8.2]) ?_
        simp only [List.drop_succ_cons, List.drop_zero]
        refine hl_v rfl rfl rfl (rv_ev rfl) ?_
        refine hl_less (sub_cons (d := 0) rfl (sub_cons (d := 1) rfl (sub_cons (d := 2) rfl (sub_cons (d := 3) rfl (sub_cons (d := 4) rfl (sub_cons (d := 5) rfl (sub_cons (d := 6) rfl (sub_cons (d := 7) rfl (sub_cons (d := 20) rfl (sub_nil _)))))))))) (.refl _) ?_
        refine hl_nil ?_
        refine hq_then ?_
        refine hc_seq ?_
        refine hc_region ?_
        refine hl_v rfl rfl rfl (rv_loadN (cs := [x.mv, x.lv, .int .i64 x.pad, .int .i64 x.ram]) rfl (by kernel_rfl) (by kernel_rfl) rfl rfl (box_part 2 rfl 0 rfl)) ?_
        refine hl_q rfl rfl rfl (rq_call (by kernel_rfl) rfl (fun w hm => toTileConfig_ret x w (hx.below hm.bel) hs1 hs2 hs3)) ?_
        intro v20 p21 hR22
        obtain ⟨thR22, rfl, rfl, ⟨c1thR22, c2thR22⟩, valthR22, n1thR22, n2thR22, n3thR22⟩ := hR22
        have bthR22 := And.intro n1thR22 (And.intro n2thR22 n3thR22)
        refine hl_box rfl rfl rfl (rq_alloc (z := .agg #[.slice none 0 0, .slice none 0 0, .int .i64 0, .int .i64 0]) rfl (by kernel_rfl)) ?_
        intro b23
        refine hl_storeBoxN (i := 0) (off := 0) (us := [thR22.mv, thR22.lv, .int .i64 thR22.pad, .int .i64 thR22.ram]) (l' := [boxE b23 #[thR22.mv, thR22.lv, .int .i64 thR22.pad, .int .i64 thR22.ram] 39, tcE thR22, tcE thR16, rowE 3 1 uhR19 ((encV d x.val).length) ((encV d x.val).map (Value.int .i64)), boxE b2 #[x.mv, x.lv, .int .i64 x.pad, .int .i64 x.ram] 50, boxE b1 #[.int .i64 d.W, .int .i64 d.H, .int .i64 d.T, .int .i64 d.R] 36]) rfl rfl rfl (by kernel_rfl) rfl rfl rfl (all_cons c1thR22 (all_cons c2thR22 (all_cons rfl (all_cons rfl all_nil)))) rfl rfl rfl ?_
        refine hl_less (sub_cons (d := 0) rfl (sub_cons (d := 1) rfl (sub_cons (d := 2) rfl (sub_cons (d := 3) rfl (sub_cons (d := 4) rfl (sub_cons (d := 5) rfl (sub_cons (d := 6) rfl (sub_cons (d := 7) rfl (sub_cons (d := 8) rfl (sub_cons (d := 20) rfl (sub_nil _))))))))))) (.refl _) ?_
        refine hl_nil ?_
        refine hq_then ?_
        refine hc_seq ?_
        have hb27 : (tcOkV d x.val) = true := hb13
        refine hc_draw (by kernel_rfl) 8 [0, 1, 2, 3, 4, 5, 6, 7] (List.take 8 _) (List.drop 8 _) [[], [0], [], [1, 2], [3], [3, 4], [3, 4], [3, 5]] [32, 33, 34, 35, 31, 36, 37, 9] (fun i vs_ v_ p_ => match i with | 0 => v_ = .agg #[.int .i64 d.W, .int .i64 d.H, .int .i64 d.T, .int .i64 d.R] ∧ p_ = [] | 1 => v_ = .agg #[.int .i64 d.W, .int .i64 d.H, .int .i64 d.T, .int .i64 d.R] ∧ p_ = [] | 2 => v_ = .agg #[thR22.mv, thR22.lv, .int .i64 thR22.pad, .int .i64 thR22.ram] ∧ p_ = [] | 3 => (IsEnc d x.val) v_ p_ | 4 => v_ = .tuple #[(tupAt (List.getD vs_ 0 undef) 0), .bool (tcOkV d x.val)] ∧ p_ = [] | 5 => v_ = (tupAt (List.getD vs_ 0 undef) 0) ∧ p_ = [] | 6 => v_ = .bool true ∧ p_ = [] | 7 => v_ = (tupAt (List.getD vs_ 0 undef) 0) ∧ p_ = [] | _ => True) (List.take_append_drop 8 _).symm (by kernel_rfl) (by kernel_rfl) rfl rfl ?_ ?_
        ·
          refine ⟨?_, ?_, ?_, ?_, ?_, ?_, ?_, ?_, trivial⟩
          ·
            intro vf pf hR
            refine Or.inl ⟨rfl, ?_⟩
            refine rq_less (l' := [boxE b23 #[thR22.mv, thR22.lv, .int .i64 thR22.pad, .int .i64 thR22.ram] 39, tcE thR22, tcE thR16, rowE 3 1 uhR19 ((encV d x.val).length) ((encV d x.val).map (Value.int .i64)), boxE b2 #[x.mv, x.lv, .int .i64 x.pad, .int .i64 x.ram] 50, boxE b1 #[.int .i64 d.W, .int .i64 d.H, .int .i64 d.T, .int .i64 d.R] 36]) (sub_cons (d := 2) rfl (sub_nil _)) (List.sublist_append_right _ _) ?_
            exact rq_v (rv_loadN (cs := [.int .i64 d.W, .int .i64 d.H, .int .i64 d.T, .int .i64 d.R]) rfl (by kernel_rfl) (by kernel_rfl) rfl rfl (box_part 5 rfl 0 rfl))
          ·
            intro vf pf hR
            have e0 : (vf 0) = .agg #[.int .i64 d.W, .int .i64 d.H, .int .i64 d.T, .int .i64 d.R] ∧ (pf 0) = [] := hR 0 (by decide)
            refine Or.inl ⟨rfl, ?_⟩
            refine rq_less (l' := [boxE b23 #[thR22.mv, thR22.lv, .int .i64 thR22.pad, .int .i64 thR22.ram] 39, tcE thR22, tcE thR16, rowE 3 1 uhR19 ((encV d x.val).length) ((encV d x.val).map (Value.int .i64)), boxE b2 #[x.mv, x.lv, .int .i64 x.pad, .int .i64 x.ram] 50, boxE b1 #[.int .i64 d.W, .int .i64 d.H, .int .i64 d.T, .int .i64 d.R] 36]) (sub_cons (d := 32) (congrArg some e0.1) (sub_nil _)) (List.sublist_append_right _ _) ?_
            exact (rq_call (by kernel_rfl) rfl (fun w hm => ret_ans (toDevice_any d w)))
          ·
            intro vf pf hR
            refine Or.inl ⟨rfl, ?_⟩
            refine rq_less (l' := [boxE b23 #[thR22.mv, thR22.lv, .int .i64 thR22.pad, .int .i64 thR22.ram] 39, tcE thR22, tcE thR16, rowE 3 1 uhR19 ((encV d x.val).length) ((encV d x.val).map (Value.int .i64)), boxE b2 #[x.mv, x.lv, .int .i64 x.pad, .int .i64 x.ram] 50, boxE b1 #[.int .i64 d.W, .int .i64 d.H, .int .i64 d.T, .int .i64 d.R] 36]) (sub_cons (d := 8) rfl (sub_nil _)) (List.sublist_append_right _ _) ?_
            exact rq_v (rv_loadN (cs := [thR22.mv, thR22.lv, .int .i64 thR22.pad, .int .i64 thR22.ram]) rfl (by kernel_rfl) (by kernel_rfl) rfl rfl (box_part 0 rfl 0 rfl))
          ·
            intro vf pf hR
            have e1 : (vf 1) = .agg #[.int .i64 d.W, .int .i64 d.H, .int .i64 d.T, .int .i64 d.R] ∧ (pf 1) = [] := hR 1 (by decide)
            have e2 : (vf 2) = .agg #[thR22.mv, thR22.lv, .int .i64 thR22.pad, .int .i64 thR22.ram] ∧ (pf 2) = [] := hR 2 (by decide)
            refine Or.inl ⟨rfl, ?_⟩
            refine rq_less (l' := [boxE b23 #[thR22.mv, thR22.lv, .int .i64 thR22.pad, .int .i64 thR22.ram] 39, tcE thR22, tcE thR16, rowE 3 1 uhR19 ((encV d x.val).length) ((encV d x.val).map (Value.int .i64)), boxE b2 #[x.mv, x.lv, .int .i64 x.pad, .int .i64 x.ram] 50, boxE b1 #[.int .i64 d.W, .int .i64 d.H, .int .i64 d.T, .int .i64 d.R] 36]) (sub_cons (d := 33) (congrArg some e1.1) (sub_cons (d := 34) (congrArg some e2.1) (sub_nil _))) (List.sublist_append_right _ _) ?_
            exact rq_call (by kernel_rfl) rfl (fun w hm => by have h := implEncodeTile_ret d thR22 w (tc_rds 1 rfl bthR22.1 bthR22.2.1 bthR22.2.2 w hm); rw [valthR22] at h; exact h)
          ·
            intro vf pf hR
            have e3 : (IsEnc d x.val) (vf 3) (pf 3) := hR 3 (by decide)
            obtain ⟨v24, v3⟩ : ∃ x, vf 3 = x := ⟨_, rfl⟩
            obtain ⟨p25, p3⟩ : ∃ x, pf 3 = x := ⟨_, rfl⟩
            have hR26 := e3
            rw [v3, p3] at hR26
            obtain ⟨uhR26, rfl, rfl⟩ := hR26
            refine Or.inl ⟨rfl, ?_⟩
            refine rq_less (l' := [rowE 3 1 uhR26 ((encV d x.val).length) ((encV d x.val).map (Value.int .i64)), boxE b23 #[thR22.mv, thR22.lv, .int .i64 thR22.pad, .int .i64 thR22.ram] 39, tcE thR22, tcE thR16, rowE 3 1 uhR19 ((encV d x.val).length) ((encV d x.val).map (Value.int .i64)), boxE b2 #[x.mv, x.lv, .int .i64 x.pad, .int .i64 x.ram] 50, boxE b1 #[.int .i64 d.W, .int .i64 d.H, .int .i64 d.T, .int .i64 d.R] 36]) (sub_cons (d := 35) (congrArg some v3) (sub_nil _)) (by first | (simp only [p3, v3, List.flatMap_cons, List.flatMap_nil, List.append_nil, List.nil_append, List.cons_append]; exact List.Sublist.refl _) | simp [p3, v3]) ?_
            exact rq_mono (rq_v (rv_ev rfl)) (fun _ _ h => ⟨h.1.trans (by show _ = (.tuple #[(tupAt (vf 3) 0), .bool (tcOkV d x.val)] : Value); first | (rw [v3]; done) | (rw [v3]; rfl)), h.2⟩)
          ·
            intro vf pf hR
            have e3 : (IsEnc d x.val) (vf 3) (pf 3) := hR 3 (by decide)
            obtain ⟨v24, v3⟩ : ∃ x, vf 3 = x := ⟨_, rfl⟩
            obtain ⟨p25, p3⟩ : ∃ x, pf 3 = x := ⟨_, rfl⟩
            have hR26 := e3
            rw [v3, p3] at hR26
            obtain ⟨uhR26, rfl, rfl⟩ := hR26
            have e4 : (vf 4) = .tuple #[(tupAt (vf 3) 0), .bool (tcOkV d x.val)] ∧ (pf 4) = [] := hR 4 (by decide)
            rw [v3] at e4
            refine Or.inl ⟨rfl, ?_⟩
            refine rq_less (l' := [rowE 3 1 uhR26 ((encV d x.val).length) ((encV d x.val).map (Value.int .i64)), boxE b23 #[thR22.mv, thR22.lv, .int .i64 thR22.pad, .int .i64 thR22.ram] 39, tcE thR22, tcE thR16, rowE 3 1 uhR19 ((encV d x.val).length) ((encV d x.val).map (Value.int .i64)), boxE b2 #[x.mv, x.lv, .int .i64 x.pad, .int .i64 x.ram] 50, boxE b1 #[.int .i64 d.W, .int .i64 d.H, .int .i64 d.T, .int .i64 d.R] 36]) (sub_cons (d := 31) (congrArg some e4.1) (sub_nil _)) (by first | (simp only [p3, v3, e4.2, List.flatMap_cons, List.flatMap_nil, List.append_nil, List.nil_append, List.cons_append]; exact List.Sublist.refl _) | simp [p3, v3, e4.2]) ?_
            exact rq_mono (rq_v (rv_ev rfl)) (fun _ _ h => ⟨h.1.trans (by show _ = ((tupAt (vf 3) 0) : Value); first | (rw [v3]; done) | (rw [v3]; rfl)), h.2⟩)
          ·
            intro vf pf hR
            have e3 : (IsEnc d x.val) (vf 3) (pf 3) := hR 3 (by decide)
            obtain ⟨v24, v3⟩ : ∃ x, vf 3 = x := ⟨_, rfl⟩
            obtain ⟨p25, p3⟩ : ∃ x, pf 3 = x := ⟨_, rfl⟩
            have hR26 := e3
            rw [v3, p3] at hR26
            obtain ⟨uhR26, rfl, rfl⟩ := hR26
            have e4 : (vf 4) = .tuple #[(tupAt (vf 3) 0), .bool (tcOkV d x.val)] ∧ (pf 4) = [] := hR 4 (by decide)
            rw [v3] at e4
            refine Or.inl ⟨rfl, ?_⟩
            refine rq_less (l' := [rowE 3 1 uhR26 ((encV d x.val).length) ((encV d x.val).map (Value.int .i64)), boxE b23 #[thR22.mv, thR22.lv, .int .i64 thR22.pad, .int .i64 thR22.ram] 39, tcE thR22, tcE thR16, rowE 3 1 uhR19 ((encV d x.val).length) ((encV d x.val).map (Value.int .i64)), boxE b2 #[x.mv, x.lv, .int .i64 x.pad, .int .i64 x.ram] 50, boxE b1 #[.int .i64 d.W, .int .i64 d.H, .int .i64 d.T, .int .i64 d.R] 36]) (sub_cons (d := 31) (congrArg some e4.1) (sub_nil _)) (by first | (simp only [p3, v3, e4.2, List.flatMap_cons, List.flatMap_nil, List.append_nil, List.nil_append, List.cons_append]; exact List.Sublist.refl _) | simp [p3, v3, e4.2]) ?_
            exact rq_mono (rq_v (rv_ev rfl)) (fun _ _ h => ⟨h.1.trans (congrArg Value.bool hb27), h.2⟩)
          ·
            intro vf pf hR
            have e3 : (IsEnc d x.val) (vf 3) (pf 3) := hR 3 (by decide)
            obtain ⟨v24, v3⟩ : ∃ x, vf 3 = x := ⟨_, rfl⟩
            obtain ⟨p25, p3⟩ : ∃ x, pf 3 = x := ⟨_, rfl⟩
            have hR26 := e3
            rw [v3, p3] at hR26
            obtain ⟨uhR26, rfl, rfl⟩ := hR26
            have e5 : (vf 5) = (tupAt (vf 3) 0) ∧ (pf 5) = [] := hR 5 (by decide)
            rw [v3] at e5
            refine Or.inl ⟨rfl, ?_⟩
            refine rq_less (l' := [rowE 3 1 uhR26 ((encV d x.val).length) ((encV d x.val).map (Value.int .i64)), boxE b23 #[thR22.mv, thR22.lv, .int .i64 thR22.pad, .int .i64 thR22.ram] 39, tcE thR22, tcE thR16, rowE 3 1 uhR19 ((encV d x.val).length) ((encV d x.val).map (Value.int .i64)), boxE b2 #[x.mv, x.lv, .int .i64 x.pad, .int .i64 x.ram] 50, boxE b1 #[.int .i64 d.W, .int .i64 d.H, .int .i64 d.T, .int .i64 d.R] 36]) (sub_cons (d := 36) (congrArg some e5.1) (sub_nil _)) (by first | (simp only [p3, v3, e5.2, List.flatMap_cons, List.flatMap_nil, List.append_nil, List.nil_append, List.cons_append]; exact List.Sublist.refl _) | simp [p3, v3, e5.2]) ?_
            exact rq_mono (rq_v (rv_ev rfl)) (fun _ _ h => ⟨h.1.trans (by show _ = ((tupAt (vf 3) 0) : Value); first | (rw [v3]; done) | (rw [v3]; rfl)), h.2⟩)
        ·
          intro vf pf hR
          have e3 : (IsEnc d x.val) (vf 3) (pf 3) := hR 3 (by decide)
          obtain ⟨v24, v3⟩ : ∃ x, vf 3 = x := ⟨_, rfl⟩
          obtain ⟨p25, p3⟩ : ∃ x, pf 3 = x := ⟨_, rfl⟩
          have hR26 := e3
          rw [v3, p3] at hR26
          obtain ⟨uhR26, rfl, rfl⟩ := hR26
          have e6 : (vf 6) = .bool true ∧ (pf 6) = [] := hR 6 (by decide)
          have e7 : (vf 7) = (tupAt (vf 3) 0) ∧ (pf 7) = [] := hR 7 (by decide)
          rw [v3] at e7
          have q0 : (vf 0) = .agg #[.int .i64 d.W, .int .i64 d.H, .int .i64 d.T, .int .i64 d.R] ∧ (pf 0) = [] := hR 0 (by decide)
          have q1 : (vf 1) = .agg #[.int .i64 d.W, .int .i64 d.H, .int .i64 d.T, .int .i64 d.R] ∧ (pf 1) = [] := hR 1 (by decide)
          have q2 : (vf 2) = .agg #[thR22.mv, thR22.lv, .int .i64 thR22.pad, .int .i64 thR22.ram] ∧ (pf 2) = [] := hR 2 (by decide)
          have q4 : (vf 4) = .tuple #[(tupAt (vf 3) 0), .bool (tcOkV d x.val)] ∧ (pf 4) = [] := hR 4 (by decide)
          have q5 : (vf 5) = (tupAt (vf 3) 0) ∧ (pf 5) = [] := hR 5 (by decide)
          have q6 : (vf 6) = .bool true ∧ (pf 6) = [] := hR 6 (by decide)
          have q7 : (vf 7) = (tupAt (vf 3) 0) ∧ (pf 7) = [] := hR 7 (by decide)
          refine hl_less (l' := [rowE 3 1 uhR26 ((encV d x.val).length) ((encV d x.val).map (Value.int .i64)), boxE b23 #[thR22.mv, thR22.lv, .int .i64 thR22.pad, .int .i64 thR22.ram] 39, tcE thR22, tcE thR16, rowE 3 1 uhR19 ((encV d x.val).length) ((encV d x.val).map (Value.int .i64)), boxE b2 #[x.mv, x.lv, .int .i64 x.pad, .int .i64 x.ram] 50, boxE b1 #[.int .i64 d.W, .int .i64 d.H, .int .i64 d.T, .int .i64 d.R] 36]) (sub_cons (d := 0) rfl (sub_cons (d := 1) rfl (sub_cons (d := 2) rfl (sub_cons (d := 3) rfl (sub_cons (d := 4) rfl (sub_cons (d := 5) rfl (sub_cons (d := 6) rfl (sub_cons (d := 7) rfl (sub_cons (d := 8) rfl (sub_cons (d := 9) (congrArg some e7.1) (sub_cons (d := 20) rfl (sub_cons (d := 37) (congrArg some e6.1) (sub_nil _))))))))))))) (by first | (simp only [p3, v3, q0.2, q1.2, q2.2, q4.2, q5.2, q6.2, q7.2, List.flatMap_cons, List.flatMap_nil, List.append_nil, List.nil_append, List.cons_append]; exact List.Sublist.refl _) | simp [p3, v3, q0.2, q1.2, q2.2, q4.2, q5.2, q6.2, q7.2]) ?_
          simp only [List.drop_succ_cons, List.drop_zero]
          refine hl_v rfl rfl rfl (rv_ev rfl) ?_
          refine hl_less (sub_cons (d := 0) rfl (sub_cons (d := 1) rfl (sub_cons (d := 2) rfl (sub_cons (d := 3) rfl (sub_cons (d := 4) rfl (sub_cons (d := 5) rfl (sub_cons (d := 6) rfl (sub_cons (d := 7) rfl (sub_cons (d := 8) rfl (sub_cons (d := 9) rfl (sub_cons (d := 10) rfl (sub_cons (d := 20) rfl (sub_nil _))))))))))))) (.refl _) ?_
          refine hl_nil ?_
          refine hq_then ?_
          refine hc_seq ?_
          refine hc_seq ?_
          refine hc_region ?_
          refine hl_v rfl rfl rfl (rv_ev rfl) ?_
          refine hl_v rfl rfl rfl (rv_ev rfl) ?_
          refine hl_callV rfl rfl rfl (rq_call (by kernel_rfl) rfl (fun w hm => ret_ans (eqIntS_ans (encV d x.val) (encV d x.val) _ _ w ((rd_row 0 rfl) w hm) ((rd_row 4 rfl) w hm) (by omega)))) ?_
          refine hl_bool (fun h28 => ?_) (fun h28 => absurd (((decide_eq_true rfl)).symm.trans h28) (by decide))
          refine hl_v rfl rfl rfl (rv_ev rfl) ?_
          refine hl_v rfl rfl rfl (rv_ev rfl) ?_
          refine hl_v rfl rfl rfl (rv_ev rfl) ?_
          refine hl_v rfl rfl rfl (rv_ev rfl) ?_
          refine hl_v rfl rfl rfl (rv_bneq rfl Try.underlying4 rfl rfl) ?_
          refine hl_v rfl rfl rfl (rv_ev rfl) ?_
          refine hl_less (sub_cons (d := 0) rfl (sub_cons (d := 1) rfl (sub_cons (d := 2) rfl (sub_cons (d := 3) rfl (sub_cons (d := 4) rfl (sub_cons (d := 5) rfl (sub_cons (d := 6) rfl (sub_cons (d := 7) rfl (sub_cons (d := 8) rfl (sub_cons (d := 9) rfl (sub_cons (d := 10) rfl (sub_cons (d := 20) rfl (sub_cons (d := 46) rfl (sub_nil _)))))))))))))) (.refl _) ?_
          refine hl_nil ?_
          refine hq_then ?_
          refine hc_false rfl ?_
          refine hc_skip ?_
          refine hq_then ?_
          refine hc_seq ?_
          refine hc_seq ?_
          have hb32 : (decide (x.val = x.val)) = true := (decide_eq_true rfl)
          refine hc_draw (by kernel_rfl) 5 [0, 1, 2, 3, 4] (List.take 5 _) (List.drop 5 _) [[], [], [1], [0, 2], [3]] [47, 48, 49, 50, 51] (fun i vs_ v_ p_ => match i with | 0 => v_ = .agg #[thR22.mv, thR22.lv, .int .i64 thR22.pad, .int .i64 thR22.ram] ∧ p_ = [] | 1 => v_ = .agg #[x.mv, x.lv, .int .i64 x.pad, .int .i64 x.ram] ∧ p_ = [] | 2 => (IsTc x.val) v_ p_ | 3 => v_ = .bool true ∧ p_ = [] | 4 => v_ = .bool false ∧ p_ = [] | _ => True) (List.take_append_drop 5 _).symm (by kernel_rfl) (by kernel_rfl) rfl rfl ?_ ?_
          ·
            refine ⟨?_, ?_, ?_, ?_, ?_, trivial⟩
            ·
              intro vf pf hR
              refine Or.inl ⟨rfl, ?_⟩
              refine rq_less (l' := [rowE 3 1 uhR26 ((encV d x.val).length) ((encV d x.val).map (Value.int .i64)), boxE b23 #[thR22.mv, thR22.lv, .int .i64 thR22.pad, .int .i64 thR22.ram] 39, tcE thR22, tcE thR16, rowE 3 1 uhR19 ((encV d x.val).length) ((encV d x.val).map (Value.int .i64)), boxE b2 #[x.mv, x.lv, .int .i64 x.pad, .int .i64 x.ram] 50, boxE b1 #[.int .i64 d.W, .int .i64 d.H, .int .i64 d.T, .int .i64 d.R] 36]) (sub_cons (d := 8) rfl (sub_nil _)) (List.sublist_append_right _ _) ?_
              exact rq_v (rv_loadN (cs := [thR22.mv, thR22.lv, .int .i64 thR22.pad, .int .i64 thR22.ram]) rfl (by kernel_rfl) (by kernel_rfl) rfl rfl (box_part 1 rfl 0 rfl))
            ·
              intro vf pf hR
              refine Or.inl ⟨rfl, ?_⟩
              refine rq_less (l' := [rowE 3 1 uhR26 ((encV d x.val).length) ((encV d x.val).map (Value.int .i64)), boxE b23 #[thR22.mv, thR22.lv, .int .i64 thR22.pad, .int .i64 thR22.ram] 39, tcE thR22, tcE thR16, rowE 3 1 uhR19 ((encV d x.val).length) ((encV d x.val).map (Value.int .i64)), boxE b2 #[x.mv, x.lv, .int .i64 x.pad, .int .i64 x.ram] 50, boxE b1 #[.int .i64 d.W, .int .i64 d.H, .int .i64 d.T, .int .i64 d.R] 36]) (sub_cons (d := 3) rfl (sub_nil _)) (List.sublist_append_right _ _) ?_
              exact rq_v (rv_loadN (cs := [x.mv, x.lv, .int .i64 x.pad, .int .i64 x.ram]) rfl (by kernel_rfl) (by kernel_rfl) rfl rfl (box_part 5 rfl 0 rfl))
            ·
              intro vf pf hR
              have e1 : (vf 1) = .agg #[x.mv, x.lv, .int .i64 x.pad, .int .i64 x.ram] ∧ (pf 1) = [] := hR 1 (by decide)
              refine Or.inl ⟨rfl, ?_⟩
              refine rq_less (l' := [rowE 3 1 uhR26 ((encV d x.val).length) ((encV d x.val).map (Value.int .i64)), boxE b23 #[thR22.mv, thR22.lv, .int .i64 thR22.pad, .int .i64 thR22.ram] 39, tcE thR22, tcE thR16, rowE 3 1 uhR19 ((encV d x.val).length) ((encV d x.val).map (Value.int .i64)), boxE b2 #[x.mv, x.lv, .int .i64 x.pad, .int .i64 x.ram] 50, boxE b1 #[.int .i64 d.W, .int .i64 d.H, .int .i64 d.T, .int .i64 d.R] 36]) (sub_cons (d := 48) (congrArg some e1.1) (sub_nil _)) (List.sublist_append_right _ _) ?_
              exact rq_call (by kernel_rfl) rfl (fun w hm => toTileConfig_ret x w (hx.below hm.bel) hs1 hs2 hs3)
            ·
              intro vf pf hR
              have e0 : (vf 0) = .agg #[thR22.mv, thR22.lv, .int .i64 thR22.pad, .int .i64 thR22.ram] ∧ (pf 0) = [] := hR 0 (by decide)
              have e2 : (IsTc x.val) (vf 2) (pf 2) := hR 2 (by decide)
              obtain ⟨v29, v2⟩ : ∃ x, vf 2 = x := ⟨_, rfl⟩
              obtain ⟨p30, p2⟩ : ∃ x, pf 2 = x := ⟨_, rfl⟩
              have hR31 := e2
              rw [v2, p2] at hR31
              obtain ⟨thR31, rfl, rfl, ⟨c1thR31, c2thR31⟩, valthR31, n1thR31, n2thR31, n3thR31⟩ := hR31
              have bthR31 := And.intro n1thR31 (And.intro n2thR31 n3thR31)
              refine Or.inl ⟨rfl, ?_⟩
              refine rq_less (l' := [tcE thR31, rowE 3 1 uhR26 ((encV d x.val).length) ((encV d x.val).map (Value.int .i64)), boxE b23 #[thR22.mv, thR22.lv, .int .i64 thR22.pad, .int .i64 thR22.ram] 39, tcE thR22, tcE thR16, rowE 3 1 uhR19 ((encV d x.val).length) ((encV d x.val).map (Value.int .i64)), boxE b2 #[x.mv, x.lv, .int .i64 x.pad, .int .i64 x.ram] 50, boxE b1 #[.int .i64 d.W, .int .i64 d.H, .int .i64 d.T, .int .i64 d.R] 36]) (sub_cons (d := 47) (congrArg some e0.1) (sub_cons (d := 49) (congrArg some v2) (sub_nil _))) (by first | (simp only [p2, v2, e0.2, List.flatMap_cons, List.flatMap_nil, List.append_nil, List.nil_append, List.cons_append]; exact List.Sublist.refl _) | simp [p2, v2, e0.2]) ?_
              exact rq_mono (rq_call (by kernel_rfl) rfl (fun w hm => ret_ans (by have h := eqTileConfig_ans thR22 thR31 w (tc_rds 3 rfl bthR22.1 bthR22.2.1 bthR22.2.2 w hm) (tc_rds 0 rfl bthR31.1 bthR31.2.1 bthR31.2.2 w hm); rw [valthR22, valthR31] at h; exact h))) (fun _ _ h => ⟨h.1.trans (congrArg Value.bool hb32), h.2⟩)
            ·
              intro vf pf hR
              have e3 : (vf 3) = .bool true ∧ (pf 3) = [] := hR 3 (by decide)
              refine Or.inl ⟨rfl, ?_⟩
              refine rq_less (l' := [rowE 3 1 uhR26 ((encV d x.val).length) ((encV d x.val).map (Value.int .i64)), boxE b23 #[thR22.mv, thR22.lv, .int .i64 thR22.pad, .int .i64 thR22.ram] 39, tcE thR22, tcE thR16, rowE 3 1 uhR19 ((encV d x.val).length) ((encV d x.val).map (Value.int .i64)), boxE b2 #[x.mv, x.lv, .int .i64 x.pad, .int .i64 x.ram] 50, boxE b1 #[.int .i64 d.W, .int .i64 d.H, .int .i64 d.T, .int .i64 d.R] 36]) (sub_cons (d := 50) (congrArg some e3.1) (sub_nil _)) (List.sublist_append_right _ _) ?_
              exact rq_v (rv_ev rfl)
          ·
            intro vf pf hR
            have e2 : (IsTc x.val) (vf 2) (pf 2) := hR 2 (by decide)
            obtain ⟨v29, v2⟩ : ∃ x, vf 2 = x := ⟨_, rfl⟩
            obtain ⟨p30, p2⟩ : ∃ x, pf 2 = x := ⟨_, rfl⟩
            have hR31 := e2
            rw [v2, p2] at hR31
            obtain ⟨thR31, rfl, rfl, ⟨c1thR31, c2thR31⟩, valthR31, n1thR31, n2thR31, n3thR31⟩ := hR31
            have bthR31 := And.intro n1thR31 (And.intro n2thR31 n3thR31)
            have e4 : (vf 4) = .bool false ∧ (pf 4) = [] := hR 4 (by decide)
            have q0 : (vf 0) = .agg #[thR22.mv, thR22.lv, .int .i64 thR22.pad, .int .i64 thR22.ram] ∧ (pf 0) = [] := hR 0 (by decide)
            have q1 : (vf 1) = .agg #[x.mv, x.lv, .int .i64 x.pad, .int .i64 x.ram] ∧ (pf 1) = [] := hR 1 (by decide)
            have q3 : (vf 3) = .bool true ∧ (pf 3) = [] := hR 3 (by decide)
            have q4 : (vf 4) = .bool false ∧ (pf 4) = [] := hR 4 (by decide)
            refine hl_less (l' := [tcE thR31, rowE 3 1 uhR26 ((encV d x.val).length) ((encV d x.val).map (Value.int .i64)), boxE b23 #[thR22.mv, thR22.lv, .int .i64 thR22.pad, .int .i64 thR22.ram] 39, tcE thR22, tcE thR16, rowE 3 1 uhR19 ((encV d x.val).length) ((encV d x.val).map (Value.int .i64)), boxE b2 #[x.mv, x.lv, .int .i64 x.pad, .int .i64 x.ram] 50, boxE b1 #[.int .i64 d.W, .int .i64 d.H, .int .i64 d.T, .int .i64 d.R] 36]) (sub_cons (d := 0) rfl (sub_cons (d := 1) rfl (sub_cons (d := 2) rfl (sub_cons (d := 3) rfl (sub_cons (d := 4) rfl (sub_cons (d := 5) rfl (sub_cons (d := 6) rfl (sub_cons (d := 7) rfl (sub_cons (d := 8) rfl (sub_cons (d := 9) rfl (sub_cons (d := 10) rfl (sub_cons (d := 20) rfl (sub_cons (d := 46) rfl (sub_cons (d := 51) (congrArg some e4.1) (sub_nil _))))))))))))))) (by first | (simp only [p2, v2, q0.2, q1.2, q3.2, q4.2, List.flatMap_cons, List.flatMap_nil, List.append_nil, List.nil_append, List.cons_append]; exact List.Sublist.refl _) | simp [p2, v2, q0.2, q1.2, q3.2, q4.2]) ?_
            simp only [List.drop_succ_cons, List.drop_zero]
            refine hl_less (sub_cons (d := 0) rfl (sub_cons (d := 1) rfl (sub_cons (d := 2) rfl (sub_cons (d := 3) rfl (sub_cons (d := 4) rfl (sub_cons (d := 5) rfl (sub_cons (d := 6) rfl (sub_cons (d := 7) rfl (sub_cons (d := 8) rfl (sub_cons (d := 9) rfl (sub_cons (d := 10) rfl (sub_cons (d := 20) rfl (sub_cons (d := 46) rfl (sub_cons (d := 51) rfl (sub_nil _))))))))))))))) (.refl _) ?_
            refine hl_nil ?_
            refine hq_then ?_
            refine hc_false rfl ?_
            refine hc_skip ?_
            refine hq_then ?_
            refine hc_seq ?_
            refine hc_region ?_
            refine hl_v rfl rfl rfl (rv_ev rfl) ?_
            refine hl_less (sub_cons (d := 0) rfl (sub_cons (d := 1) rfl (sub_cons (d := 2) rfl (sub_cons (d := 3) rfl (sub_cons (d := 4) rfl (sub_cons (d := 5) rfl (sub_cons (d := 6) rfl (sub_cons (d := 7) rfl (sub_cons (d := 8) rfl (sub_cons (d := 9) rfl (sub_cons (d := 10) rfl (sub_cons (d := 11) rfl (sub_cons (d := 20) rfl (sub_cons (d := 46) rfl (sub_cons (d := 51) rfl (sub_nil _)))))))))))))))) (.refl _) ?_
            refine hl_nil ?_
            refine hq_then ?_
            refine hc_seq ?_
            refine hc_region ?_
            refine hl_v rfl rfl rfl (rv_loadN (cs := [thR22.mv, thR22.lv, .int .i64 thR22.pad, .int .i64 thR22.ram]) rfl (by kernel_rfl) (by kernel_rfl) rfl rfl (box_part 2 rfl 0 rfl)) ?_
            refine hl_v rfl rfl rfl (rv_ev rfl) ?_
            refine hl_callM (R := (fun u_ p_ => u_ = .int .i64 (sumT 1 thR22) ∧ p_ = tcE (markT 1 thR22))) 3 rfl rfl (by kernel_rfl) rfl rfl (fun l' w hm => markTileConfig_mut thR22 1 _ _ w hm (by omega) bthR22.1 bthR22.2.1 bthR22.2.2) ?_
            intro v33 p34 hR35
            obtain ⟨rfl, rfl⟩ := hR35
            have mthR22 := markT_bounds (k := 1) bthR22.1 bthR22.2.1 bthR22.2.2
            have sathR22 := sumT_again 1 thR22
            have srthR22 := sumT_rng bthR22.1 bthR22.2.2
            refine hl_eqL (l' := [tcE thR31, rowE 3 1 uhR26 ((encV d x.val).length) ((encV d x.val).map (Value.int .i64)), boxE b23 #[thR22.mv, thR22.lv, .int .i64 thR22.pad, .int .i64 thR22.ram] 39, tcE (markT 1 thR22), tcE thR16, rowE 3 1 uhR19 ((encV d x.val).length) ((encV d x.val).map (Value.int .i64)), boxE b2 #[x.mv, x.lv, .int .i64 x.pad, .int .i64 x.ram] 50, boxE b1 #[.int .i64 d.W, .int .i64 d.H, .int .i64 d.T, .int .i64 d.R] 36]) rfl ?_
            refine hl_v rfl rfl rfl (rv_ev rfl) ?_
            refine hl_less (sub_cons (d := 0) rfl (sub_cons (d := 1) rfl (sub_cons (d := 2) rfl (sub_cons (d := 3) rfl (sub_cons (d := 4) rfl (sub_cons (d := 5) rfl (sub_cons (d := 6) rfl (sub_cons (d := 7) rfl (sub_cons (d := 8) rfl (sub_cons (d := 9) rfl (sub_cons (d := 10) rfl (sub_cons (d := 11) rfl (sub_cons (d := 20) rfl (sub_cons (d := 46) rfl (sub_cons (d := 51) rfl (sub_nil _)))))))))))))))) (.refl _) ?_
            refine hl_nil ?_
            refine hq_then ?_
            refine hc_seq ?_
            refine hc_seq ?_
            refine hc_region ?_
            refine hl_v rfl rfl rfl (rv_ev rfl) ?_
            refine hl_lss rfl rfl rfl rfl rfl rfl (fun h36 => absurd h36 (by omega)) (fun h36 => ?_)
            refine hl_v rfl rfl rfl (rv_ev rfl) ?_
            refine hl_v rfl rfl rfl (rv_ev rfl) ?_
            refine hl_v rfl rfl rfl (rv_ev rfl) ?_
            refine hl_callV rfl rfl rfl (rq_call (by kernel_rfl) rfl (fun w hm => ret_ans (eqIntS_ans (encV d x.val) (encV d x.val) _ _ w ((rd_row 1 rfl) w hm) ((rd_row 5 rfl) w hm) (by omega)))) ?_
            refine hl_bool (fun h37 => ?_) (fun h37 => absurd (((decide_eq_true rfl)).symm.trans h37) (by decide))
            refine hl_v rfl rfl rfl (rv_ev rfl) ?_
            refine hl_v rfl rfl rfl (rv_ev rfl) ?_
            refine hl_v rfl rfl rfl (rv_ev rfl) ?_
            refine hl_v rfl rfl rfl (rv_ev rfl) ?_
            refine hl_v rfl rfl rfl (rv_ev rfl) ?_
            refine hl_v rfl rfl rfl (rv_bneq rfl Try.underlying4 rfl rfl) ?_
            refine hl_v rfl rfl rfl (rv_ev rfl) ?_
            refine hl_less (sub_cons (d := 0) rfl (sub_cons (d := 1) rfl (sub_cons (d := 2) rfl (sub_cons (d := 3) rfl (sub_cons (d := 4) rfl (sub_cons (d := 5) rfl (sub_cons (d := 6) rfl (sub_cons (d := 7) rfl (sub_cons (d := 8) rfl (sub_cons (d := 9) rfl (sub_cons (d := 10) rfl (sub_cons (d := 11) rfl (sub_cons (d := 20) rfl (sub_cons (d := 46) rfl (sub_cons (d := 51) rfl (sub_cons (d := 67) rfl (sub_nil _))))))))))))))))) (.refl _) ?_
            refine hl_nil ?_
            refine hq_then ?_
            refine hc_false rfl ?_
            refine hc_skip ?_
            refine hq_then ?_
            refine hc_seq ?_
            refine hc_region ?_
            refine hl_v rfl rfl rfl (rv_ev rfl) ?_
            refine hl_less (sub_cons (d := 0) rfl (sub_cons (d := 1) rfl (sub_cons (d := 2) rfl (sub_cons (d := 3) rfl (sub_cons (d := 4) rfl (sub_cons (d := 5) rfl (sub_cons (d := 6) rfl (sub_cons (d := 7) rfl (sub_cons (d := 8) rfl (sub_cons (d := 9) rfl (sub_cons (d := 10) rfl (sub_cons (d := 11) rfl (sub_cons (d := 12) rfl (sub_cons (d := 20) rfl (sub_cons (d := 46) rfl (sub_cons (d := 51) rfl (sub_cons (d := 67) rfl (sub_nil _)))))))))))))))))) (.refl _) ?_
            refine hl_nil ?_
            refine hq_then ?_
            refine hc_seq ?_
            refine hc_region ?_
            refine hl_v rfl rfl rfl (rv_ev rfl) ?_
            refine hl_v rfl rfl rfl (rv_ev rfl) ?_
            refine hl_callM (R := (fun u_ p_ => u_ = .int .i64 (1 + (encV d x.val).length) ∧ p_ = rowE 3 1 uhR26 (encV d x.val).length ((seqL 1 (encV d x.val).length).map (Value.int .i64)))) 1 rfl rfl (by kernel_rfl) rfl rfl (fun l' w hm => markIntS_mut (encV d x.val) 1 uhR26 _ _ w hm (by omega) (by omega)) ?_
            intro v38 p39 hR40
            obtain ⟨rfl, rfl⟩ := hR40
            refine hl_eqL (l' := [tcE thR31, rowE 3 1 uhR26 ((encV d x.val).length) ((seqL 1 (encV d x.val).length).map (Value.int .i64)), boxE b23 #[thR22.mv, thR22.lv, .int .i64 thR22.pad, .int .i64 thR22.ram] 39, tcE (markT 1 thR22), tcE thR16, rowE 3 1 uhR19 ((encV d x.val).length) ((encV d x.val).map (Value.int .i64)), boxE b2 #[x.mv, x.lv, .int .i64 x.pad, .int .i64 x.ram] 50, boxE b1 #[.int .i64 d.W, .int .i64 d.H, .int .i64 d.T, .int .i64 d.R] 36]) rfl ?_
            refine hl_v rfl rfl rfl (rv_ev rfl) ?_
            refine hl_less (sub_cons (d := 0) rfl (sub_cons (d := 1) rfl (sub_cons (d := 2) rfl (sub_cons (d := 3) rfl (sub_cons (d := 4) rfl (sub_cons (d := 5) rfl (sub_cons (d := 6) rfl (sub_cons (d := 7) rfl (sub_cons (d := 8) rfl (sub_cons (d := 9) rfl (sub_cons (d := 10) rfl (sub_cons (d := 11) rfl (sub_cons (d := 12) rfl (sub_cons (d := 20) rfl (sub_cons (d := 46) rfl (sub_cons (d := 51) rfl (sub_cons (d := 67) rfl (sub_nil _)))))))))))))))))) (.refl _) ?_
            refine hl_nil ?_
            refine hq_then ?_
            refine hc_seq ?_
            refine hc_region ?_
            refine hl_v rfl rfl rfl (rv_ev rfl) ?_
            refine hl_less (sub_cons (d := 0) rfl (sub_cons (d := 1) rfl (sub_cons (d := 2) rfl (sub_cons (d := 3) rfl (sub_cons (d := 4) rfl (sub_cons (d := 5) rfl (sub_cons (d := 6) rfl (sub_cons (d := 7) rfl (sub_cons (d := 8) rfl (sub_cons (d := 9) rfl (sub_cons (d := 10) rfl (sub_cons (d := 11) rfl (sub_cons (d := 12) rfl (sub_cons (d := 13) rfl (sub_cons (d := 20) rfl (sub_cons (d := 46) rfl (sub_cons (d := 51) rfl (sub_cons (d := 67) rfl (sub_nil _))))))))))))))))))) (.refl _) ?_
            refine hl_nil ?_
            refine hq_then ?_
            refine hc_seq ?_
            refine hc_region ?_
            refine hl_v rfl rfl rfl (rv_ev rfl) ?_
            refine hl_v rfl rfl rfl (rv_ev rfl) ?_
            refine hl_callV rfl rfl rfl (rq_call (by kernel_rfl) rfl (fun w hm => ret_ans (heldIntS_ans (encV d x.val).length 1 _ w (rdsW_own (hm.holds _ (mem_at (i := 1) rfl))) (by omega) (by omega)))) ?_
            refine hl_v rfl rfl rfl (rv_ev rfl) ?_
            refine hl_less (sub_cons (d := 0) rfl (sub_cons (d := 1) rfl (sub_cons (d := 2) rfl (sub_cons (d := 3) rfl (sub_cons (d := 4) rfl (sub_cons (d := 5) rfl (sub_cons (d := 6) rfl (sub_cons (d := 7) rfl (sub_cons (d := 8) rfl (sub_cons (d := 9) rfl (sub_cons (d := 10) rfl (sub_cons (d := 11) rfl (sub_cons (d := 12) rfl (sub_cons (d := 13) rfl (sub_cons (d := 20) rfl (sub_cons (d := 46) rfl (sub_cons (d := 51) rfl (sub_cons (d := 67) rfl (sub_nil _))))))))))))))))))) (.refl _) ?_
            refine hl_nil ?_
            refine hq_then ?_
            refine hc_seq ?_
            refine hc_seq ?_
            refine hc_region ?_
            refine hl_v rfl rfl rfl (rv_ev rfl) ?_
            refine hl_lss rfl rfl rfl rfl rfl rfl (fun h41 => absurd h41 (by omega)) (fun h41 => ?_)
            refine hl_less (sub_cons (d := 0) rfl (sub_cons (d := 1) rfl (sub_cons (d := 2) rfl (sub_cons (d := 3) rfl (sub_cons (d := 4) rfl (sub_cons (d := 5) rfl (sub_cons (d := 6) rfl (sub_cons (d := 7) rfl (sub_cons (d := 8) rfl (sub_cons (d := 9) rfl (sub_cons (d := 10) rfl (sub_cons (d := 11) rfl (sub_cons (d := 12) rfl (sub_cons (d := 13) rfl (sub_cons (d := 20) rfl (sub_cons (d := 46) rfl (sub_cons (d := 51) rfl (sub_cons (d := 67) rfl (sub_cons (d := 75) rfl (sub_nil _)))))))))))))))))))) (.refl _) ?_
            refine hl_nil ?_
            refine hq_then ?_
            refine hc_false rfl ?_
            refine hc_skip ?_
            refine hq_then ?_
            refine hc_seq ?_
            refine hc_seq ?_
            refine hc_region ?_
            refine hl_v rfl rfl rfl (rv_ev rfl) ?_
            refine hl_v rfl rfl rfl (rv_ev rfl) ?_
            refine hl_neq rfl rfl rfl rfl rfl rfl (fun h42 => absurd h42 (by omega)) (fun h42 => ?_)
            refine hl_less (sub_cons (d := 0) rfl (sub_cons (d := 1) rfl (sub_cons (d := 2) rfl (sub_cons (d := 3) rfl (sub_cons (d := 4) rfl (sub_cons (d := 5) rfl (sub_cons (d := 6) rfl (sub_cons (d := 7) rfl (sub_cons (d := 8) rfl (sub_cons (d := 9) rfl (sub_cons (d := 10) rfl (sub_cons (d := 11) rfl (sub_cons (d := 12) rfl (sub_cons (d := 13) rfl (sub_cons (d := 20) rfl (sub_cons (d := 46) rfl (sub_cons (d := 51) rfl (sub_cons (d := 67) rfl (sub_cons (d := 75) rfl (sub_cons (d := 78) rfl (sub_nil _))))))))))))))))))))) (.refl _) ?_
            refine hl_nil ?_
            refine hq_then ?_
            refine hc_false rfl ?_
            refine hc_skip ?_
            refine hq_then ?_
            refine hc_seq ?_
            have hb49 : (tcOkV d x.val) = true := hb13
            refine hc_draw (by kernel_rfl) 9 [0, 1, 2, 3, 4, 5, 6, 7, 8] (List.take 9 _) (List.drop 9 _) [[], [0], [], [2], [1, 3], [4], [4, 5], [4, 5], [4, 6]] [80, 81, 82, 83, 84, 79, 85, 86, 14] (fun i vs_ v_ p_ => match i with | 0 => v_ = .agg #[.int .i64 d.W, .int .i64 d.H, .int .i64 d.T, .int .i64 d.R] ∧ p_ = [] | 1 => v_ = .agg #[.int .i64 d.W, .int .i64 d.H, .int .i64 d.T, .int .i64 d.R] ∧ p_ = [] | 2 => v_ = .agg #[x.mv, x.lv, .int .i64 x.pad, .int .i64 x.ram] ∧ p_ = [] | 3 => (IsTc x.val) v_ p_ | 4 => (IsEnc d x.val) v_ p_ | 5 => v_ = .tuple #[(tupAt (List.getD vs_ 0 undef) 0), .bool (tcOkV d x.val)] ∧ p_ = [] | 6 => v_ = (tupAt (List.getD vs_ 0 undef) 0) ∧ p_ = [] | 7 => v_ = .bool true ∧ p_ = [] | 8 => v_ = (tupAt (List.getD vs_ 0 undef) 0) ∧ p_ = [] | _ => True) (List.take_append_drop 9 _).symm (by kernel_rfl) (by kernel_rfl) rfl rfl ?_ ?_
            ·
              refine ⟨?_, ?_, ?_, ?_, ?_, ?_, ?_, ?_, ?_, trivial⟩
              ·
                intro vf pf hR
                refine Or.inl ⟨rfl, ?_⟩
                refine rq_less (l' := [tcE thR31, rowE 3 1 uhR26 ((encV d x.val).length) ((seqL 1 (encV d x.val).length).map (Value.int .i64)), boxE b23 #[thR22.mv, thR22.lv, .int .i64 thR22.pad, .int .i64 thR22.ram] 39, tcE (markT 1 thR22), tcE thR16, rowE 3 1 uhR19 ((encV d x.val).length) ((encV d x.val).map (Value.int .i64)), boxE b2 #[x.mv, x.lv, .int .i64 x.pad, .int .i64 x.ram] 50, boxE b1 #[.int .i64 d.W, .int .i64 d.H, .int .i64 d.T, .int .i64 d.R] 36]) (sub_cons (d := 2) rfl (sub_nil _)) (List.sublist_append_right _ _) ?_
                exact rq_v (rv_loadN (cs := [.int .i64 d.W, .int .i64 d.H, .int .i64 d.T, .int .i64 d.R]) rfl (by kernel_rfl) (by kernel_rfl) rfl rfl (box_part 7 rfl 0 rfl))
              ·
                intro vf pf hR
                have e0 : (vf 0) = .agg #[.int .i64 d.W, .int .i64 d.H, .int .i64 d.T, .int .i64 d.R] ∧ (pf 0) = [] := hR 0 (by decide)
                refine Or.inl ⟨rfl, ?_⟩
                refine rq_less (l' := [tcE thR31, rowE 3 1 uhR26 ((encV d x.val).length) ((seqL 1 (encV d x.val).length).map (Value.int .i64)), boxE b23 #[thR22.mv, thR22.lv, .int .i64 thR22.pad, .int .i64 thR22.ram] 39, tcE (markT 1 thR22), tcE thR16, rowE 3 1 uhR19 ((encV d x.val).length) ((encV d x.val).map (Value.int .i64)), boxE b2 #[x.mv, x.lv, .int .i64 x.pad, .int .i64 x.ram] 50, boxE b1 #[.int .i64 d.W, .int .i64 d.H, .int .i64 d.T, .int .i64 d.R] 36]) (sub_cons (d := 80) (congrArg some e0.1) (sub_nil _)) (List.sublist_append_right _ _) ?_
                exact (rq_call (by kernel_rfl) rfl (fun w hm => ret_ans (toDevice_any d w)))
              ·
                intro vf pf hR
                refine Or.inl ⟨rfl, ?_⟩
                refine rq_less (l' := [tcE thR31, rowE 3 1 uhR26 ((encV d x.val).length) ((seqL 1 (encV d x.val).length).map (Value.int .i64)), boxE b23 #[thR22.mv, thR22.lv, .int .i64 thR22.pad, .int .i64 thR22.ram] 39, tcE (markT 1 thR22), tcE thR16, rowE 3 1 uhR19 ((encV d x.val).length) ((encV d x.val).map (Value.int .i64)), boxE b2 #[x.mv, x.lv, .int .i64 x.pad, .int .i64 x.ram] 50, boxE b1 #[.int .i64 d.W, .int .i64 d.H, .int .i64 d.T, .int .i64 d.R] 36]) (sub_cons (d := 3) rfl (sub_nil _)) (List.sublist_append_right _ _) ?_
                exact rq_v (rv_loadN (cs := [x.mv, x.lv, .int .i64 x.pad, .int .i64 x.ram]) rfl (by kernel_rfl) (by kernel_rfl) rfl rfl (box_part 6 rfl 0 rfl))
              ·
                intro vf pf hR
                have e2 : (vf 2) = .agg #[x.mv, x.lv, .int .i64 x.pad, .int .i64 x.ram] ∧ (pf 2) = [] := hR 2 (by decide)
                refine Or.inl ⟨rfl, ?_⟩
                refine rq_less (l' := [tcE thR31, rowE 3 1 uhR26 ((encV d x.val).length) ((seqL 1 (encV d x.val).length).map (Value.int .i64)), boxE b23 #[thR22.mv, thR22.lv, .int .i64 thR22.pad, .int .i64 thR22.ram] 39, tcE (markT 1 thR22), tcE thR16, rowE 3 1 uhR19 ((encV d x.val).length) ((encV d x.val).map (Value.int .i64)), boxE b2 #[x.mv, x.lv, .int .i64 x.pad, .int .i64 x.ram] 50, boxE b1 #[.int .i64 d.W, .int .i64 d.H, .int .i64 d.T, .int .i64 d.R] 36]) (sub_cons (d := 82) (congrArg some e2.1) (sub_nil _)) (List.sublist_append_right _ _) ?_
                exact rq_call (by kernel_rfl) rfl (fun w hm => toTileConfig_ret x w (hx.below hm.bel) hs1 hs2 hs3)
              ·
                intro vf pf hR
                have e1 : (vf 1) = .agg #[.int .i64 d.W, .int .i64 d.H, .int .i64 d.T, .int .i64 d.R] ∧ (pf 1) = [] := hR 1 (by decide)
                have e3 : (IsTc x.val) (vf 3) (pf 3) := hR 3 (by decide)
                obtain ⟨v43, v3⟩ : ∃ x, vf 3 = x := ⟨_, rfl⟩
                obtain ⟨p44, p3⟩ : ∃ x, pf 3 = x := ⟨_, rfl⟩
                have hR45 := e3
                rw [v3, p3] at hR45
                obtain ⟨thR45, rfl, rfl, ⟨c1thR45, c2thR45⟩, valthR45, n1thR45, n2thR45, n3thR45⟩ := hR45
                have bthR45 := And.intro n1thR45 (And.intro n2thR45 n3thR45)
                refine Or.inl ⟨rfl, ?_⟩
                refine rq_less (l' := [tcE thR45, tcE thR31, rowE 3 1 uhR26 ((encV d x.val).length) ((seqL 1 (encV d x.val).length).map (Value.int .i64)), boxE b23 #[thR22.mv, thR22.lv, .int .i64 thR22.pad, .int .i64 thR22.ram] 39, tcE (markT 1 thR22), tcE thR16, rowE 3 1 uhR19 ((encV d x.val).length) ((encV d x.val).map (Value.int .i64)), boxE b2 #[x.mv, x.lv, .int .i64 x.pad, .int .i64 x.ram] 50, boxE b1 #[.int .i64 d.W, .int .i64 d.H, .int .i64 d.T, .int .i64 d.R] 36]) (sub_cons (d := 81) (congrArg some e1.1) (sub_cons (d := 83) (congrArg some v3) (sub_nil _))) (by first | (simp only [p3, v3, e1.2, List.flatMap_cons, List.flatMap_nil, List.append_nil, List.nil_append, List.cons_append]; exact List.Sublist.refl _) | simp [p3, v3, e1.2]) ?_
                exact rq_call (by kernel_rfl) rfl (fun w hm => by have h := implEncodeTile_ret d thR45 w (tc_rds 0 rfl bthR45.1 bthR45.2.1 bthR45.2.2 w hm); rw [valthR45] at h; exact h)
              ·
                intro vf pf hR
                have e4 : (IsEnc d x.val) (vf 4) (pf 4) := hR 4 (by decide)
                obtain ⟨v46, v4⟩ : ∃ x, vf 4 = x := ⟨_, rfl⟩
                obtain ⟨p47, p4⟩ : ∃ x, pf 4 = x := ⟨_, rfl⟩
                have hR48 := e4
                rw [v4, p4] at hR48
                obtain ⟨uhR48, rfl, rfl⟩ := hR48
                refine Or.inl ⟨rfl, ?_⟩
                refine rq_less (l' := [rowE 3 1 uhR48 ((encV d x.val).length) ((encV d x.val).map (Value.int .i64)), tcE thR31, rowE 3 1 uhR26 ((encV d x.val).length) ((seqL 1 (encV d x.val).length).map (Value.int .i64)), boxE b23 #[thR22.mv, thR22.lv, .int .i64 thR22.pad, .int .i64 thR22.ram] 39, tcE (markT 1 thR22), tcE thR16, rowE 3 1 uhR19 ((encV d x.val).length) ((encV d x.val).map (Value.int .i64)), boxE b2 #[x.mv, x.lv, .int .i64 x.pad, .int .i64 x.ram] 50, boxE b1 #[.int .i64 d.W, .int .i64 d.H, .int .i64 d.T, .int .i64 d.R] 36]) (sub_cons (d := 84) (congrArg some v4) (sub_nil _)) (by first | (simp only [p4, v4, List.flatMap_cons, List.flatMap_nil, List.append_nil, List.nil_append, List.cons_append]; exact List.Sublist.refl _) | simp [p4, v4]) ?_
                exact rq_mono (rq_v (rv_ev rfl)) (fun _ _ h => ⟨h.1.trans (by show _ = (.tuple #[(tupAt (vf 4) 0), .bool (tcOkV d x.val)] : Value); first | (rw [v4]; done) | (rw [v4]; rfl)), h.2⟩)
              ·
                intro vf pf hR
                have e4 : (IsEnc d x.val) (vf 4) (pf 4) := hR 4 (by decide)
                obtain ⟨v46, v4⟩ : ∃ x, vf 4 = x := ⟨_, rfl⟩
                obtain ⟨p47, p4⟩ : ∃ x, pf 4 = x := ⟨_, rfl⟩
                have hR48 := e4
                rw [v4, p4] at hR48
                obtain ⟨uhR48, rfl, rfl⟩ := hR48
                have e5 : (vf 5) = .tuple #[(tupAt (vf 4) 0), .bool (tcOkV d x.val)] ∧ (pf 5) = [] := hR 5 (by decide)
                rw [v4] at e5
                refine Or.inl ⟨rfl, ?_⟩
                refine rq_less (l' := [rowE 3 1 uhR48 ((encV d x.val).length) ((encV d x.val).map (Value.int .i64)), tcE thR31, rowE 3 1 uhR26 ((encV d x.val).length) ((seqL 1 (encV d x.val).length).map (Value.int .i64)), boxE b23 #[thR22.mv, thR22.lv, .int .i64 thR22.pad, .int .i64 thR22.ram] 39, tcE (markT 1 thR22), tcE thR16, rowE 3 1 uhR19 ((encV d x.val).length) ((encV d x.val).map (Value.int .i64)), boxE b2 #[x.mv, x.lv, .int .i64 x.pad, .int .i64 x.ram] 50, boxE b1 #[.int .i64 d.W, .int .i64 d.H, .int .i64 d.T, .int .i64 d.R] 36]) (sub_cons (d := 79) (congrArg some e5.1) (sub_nil _)) (by first | (simp only [p4, v4, e5.2, List.flatMap_cons, List.flatMap_nil, List.append_nil, List.nil_append, List.cons_append]; exact List.Sublist.refl _) | simp [p4, v4, e5.2]) ?_
                exact rq_mono (rq_v (rv_ev rfl)) (fun _ _ h => ⟨h.1.trans (by show _ = ((tupAt (vf 4) 0) : Value); first | (rw [v4]; done) | (rw [v4]; rfl)), h.2⟩)
              ·
                intro vf pf hR
                have e4 : (IsEnc d x.val) (vf 4) (pf 4) := hR 4 (by decide)
                obtain ⟨v46, v4⟩ : ∃ x, vf 4 = x := ⟨_, rfl⟩
                obtain ⟨p47, p4⟩ : ∃ x, pf 4 = x := ⟨_, rfl⟩
                have hR48 := e4
                rw [v4, p4] at hR48
                obtain ⟨uhR48, rfl, rfl⟩ := hR48
                have e5 : (vf 5) = .tuple #[(tupAt (vf 4) 0), .bool (tcOkV d x.val)] ∧ (pf 5) = [] := hR 5 (by decide)
                rw [v4] at e5
                refine Or.inl ⟨rfl, ?_⟩
                refine rq_less (l' := [rowE 3 1 uhR48 ((encV d x.val).length) ((encV d x.val).map (Value.int .i64)), tcE thR31, rowE 3 1 uhR26 ((encV d x.val).length) ((seqL 1 (encV d x.val).length).map (Value.int .i64)), boxE b23 #[thR22.mv, thR22.lv, .int .i64 thR22.pad, .int .i64 thR22.ram] 39, tcE (markT 1 thR22), tcE thR16, rowE 3 1 uhR19 ((encV d x.val).length) ((encV d x.val).map (Value.int .i64)), boxE b2 #[x.mv, x.lv, .int .i64 x.pad, .int .i64 x.ram] 50, boxE b1 #[.int .i64 d.W, .int .i64 d.H, .int .i64 d.T, .int .i64 d.R] 36]) (sub_cons (d := 79) (congrArg some e5.1) (sub_nil _)) (by first | (simp only [p4, v4, e5.2, List.flatMap_cons, List.flatMap_nil, List.append_nil, List.nil_append, List.cons_append]; exact List.Sublist.refl _) | simp [p4, v4, e5.2]) ?_
                exact rq_mono (rq_v (rv_ev rfl)) (fun _ _ h => ⟨h.1.trans (congrArg Value.bool hb49), h.2⟩)
              ·
                intro vf pf hR
                have e4 : (IsEnc d x.val) (vf 4) (pf 4) := hR 4 (by decide)
                obtain ⟨v46, v4⟩ : ∃ x, vf 4 = x := ⟨_, rfl⟩
                obtain ⟨p47, p4⟩ : ∃ x, pf 4 = x := ⟨_, rfl⟩
                have hR48 := e4
                rw [v4, p4] at hR48
                obtain ⟨uhR48, rfl, rfl⟩ := hR48
                have e6 : (vf 6) = (tupAt (vf 4) 0) ∧ (pf 6) = [] := hR 6 (by decide)
                rw [v4] at e6
                refine Or.inl ⟨rfl, ?_⟩
                refine rq_less (l' := [rowE 3 1 uhR48 ((encV d x.val).length) ((encV d x.val).map (Value.int .i64)), tcE thR31, rowE 3 1 uhR26 ((encV d x.val).length) ((seqL 1 (encV d x.val).length).map (Value.int .i64)), boxE b23 #[thR22.mv, thR22.lv, .int .i64 thR22.pad, .int .i64 thR22.ram] 39, tcE (markT 1 thR22), tcE thR16, rowE 3 1 uhR19 ((encV d x.val).length) ((encV d x.val).map (Value.int .i64)), boxE b2 #[x.mv, x.lv, .int .i64 x.pad, .int .i64 x.ram] 50, boxE b1 #[.int .i64 d.W, .int .i64 d.H, .int .i64 d.T, .int .i64 d.R] 36]) (sub_cons (d := 85) (congrArg some e6.1) (sub_nil _)) (by first | (simp only [p4, v4, e6.2, List.flatMap_cons, List.flatMap_nil, List.append_nil, List.nil_append, List.cons_append]; exact List.Sublist.refl _) | simp [p4, v4, e6.2]) ?_
                exact rq_mono (rq_v (rv_ev rfl)) (fun _ _ h => ⟨h.1.trans (by show _ = ((tupAt (vf 4) 0) : Value); first | (rw [v4]; done) | (rw [v4]; rfl)), h.2⟩)
            ·
              intro vf pf hR
              have e3 : (IsTc x.val) (vf 3) (pf 3) := hR 3 (by decide)
              obtain ⟨v43, v3⟩ : ∃ x, vf 3 = x := ⟨_, rfl⟩
              obtain ⟨p44, p3⟩ : ∃ x, pf 3 = x := ⟨_, rfl⟩
              have hR45 := e3
              rw [v3, p3] at hR45
              obtain ⟨thR45, rfl, rfl, ⟨c1thR45, c2thR45⟩, valthR45, n1thR45, n2thR45, n3thR45⟩ := hR45
              have bthR45 := And.intro n1thR45 (And.intro n2thR45 n3thR45)
              have e4 : (IsEnc d x.val) (vf 4) (pf 4) := hR 4 (by decide)
              obtain ⟨v46, v4⟩ : ∃ x, vf 4 = x := ⟨_, rfl⟩
              obtain ⟨p47, p4⟩ : ∃ x, pf 4 = x := ⟨_, rfl⟩
              have hR48 := e4
              rw [v4, p4] at hR48
              obtain ⟨uhR48, rfl, rfl⟩ := hR48
              have e7 : (vf 7) = .bool true ∧ (pf 7) = [] := hR 7 (by decide)
              have e8 : (vf 8) = (tupAt (vf 4) 0) ∧ (pf 8) = [] := hR 8 (by decide)
              rw [v4] at e8
              have q0 : (vf 0) = .agg #[.int .i64 d.W, .int .i64 d.H, .int .i64 d.T, .int .i64 d.R] ∧ (pf 0) = [] := hR 0 (by decide)
              have q1 : (vf 1) = .agg #[.int .i64 d.W, .int .i64 d.H, .int .i64 d.T, .int .i64 d.R] ∧ (pf 1) = [] := hR 1 (by decide)
              have q2 : (vf 2) = .agg #[x.mv, x.lv, .int .i64 x.pad, .int .i64 x.ram] ∧ (pf 2) = [] := hR 2 (by decide)
              have q5 : (vf 5) = .tuple #[(tupAt (vf 4) 0), .bool (tcOkV d x.val)] ∧ (pf 5) = [] := hR 5 (by decide)
              have q6 : (vf 6) = (tupAt (vf 4) 0) ∧ (pf 6) = [] := hR 6 (by decide)
              have q7 : (vf 7) = .bool true ∧ (pf 7) = [] := hR 7 (by decide)
              have q8 : (vf 8) = (tupAt (vf 4) 0) ∧ (pf 8) = [] := hR 8 (by decide)
              refine hl_less (l' := [tcE thR45, rowE 3 1 uhR48 ((encV d x.val).length) ((encV d x.val).map (Value.int .i64)), tcE thR31, rowE 3 1 uhR26 ((encV d x.val).length) ((seqL 1 (encV d x.val).length).map (Value.int .i64)), boxE b23 #[thR22.mv, thR22.lv, .int .i64 thR22.pad, .int .i64 thR22.ram] 39, tcE (markT 1 thR22), tcE thR16, rowE 3 1 uhR19 ((encV d x.val).length) ((encV d x.val).map (Value.int .i64)), boxE b2 #[x.mv, x.lv, .int .i64 x.pad, .int .i64 x.ram] 50, boxE b1 #[.int .i64 d.W, .int .i64 d.H, .int .i64 d.T, .int .i64 d.R] 36]) (sub_cons (d := 0) rfl (sub_cons (d := 1) rfl (sub_cons (d := 2) rfl (sub_cons (d := 3) rfl (sub_cons (d := 4) rfl (sub_cons (d := 5) rfl (sub_cons (d := 6) rfl (sub_cons (d := 7) rfl (sub_cons (d := 8) rfl (sub_cons (d := 9) rfl (sub_cons (d := 10) rfl (sub_cons (d := 11) rfl (sub_cons (d := 12) rfl (sub_cons (d := 13) rfl (sub_cons (d := 14) (congrArg some e8.1) (sub_cons (d := 20) rfl (sub_cons (d := 46) rfl (sub_cons (d := 51) rfl (sub_cons (d := 67) rfl (sub_cons (d := 75) rfl (sub_cons (d := 78) rfl (sub_cons (d := 86) (congrArg some e7.1) (sub_nil _))))))))))))))))))))))) (by first | (simp only [p3, v3, p4, v4, q0.2, q1.2, q2.2, q5.2, q6.2, q7.2, q8.2, List.flatMap_cons, List.flatMap_nil, List.append_nil, List.nil_append, List.cons_append]; exact List.Sublist.refl _) | simp [p3, v3, p4, v4, q0.2, q1.2, q2.2, q5.2, q6.2, q7.2, q8.2]) ?_
              simp only [List.drop_succ_cons, List.drop_zero]
              refine hl_v rfl rfl rfl (rv_ev rfl) ?_
              refine hl_less (sub_cons (d := 0) rfl (sub_cons (d := 1) rfl (sub_cons (d := 2) rfl (sub_cons (d := 3) rfl (sub_cons (d := 4) rfl (sub_cons (d := 5) rfl (sub_cons (d := 6) rfl (sub_cons (d := 7) rfl (sub_cons (d := 8) rfl (sub_cons (d := 9) rfl (sub_cons (d := 10) rfl (sub_cons (d := 11) rfl (sub_cons (d := 12) rfl (sub_cons (d := 13) rfl (sub_cons (d := 14) rfl (sub_cons (d := 15) rfl (sub_cons (d := 20) rfl (sub_cons (d := 46) rfl (sub_cons (d := 51) rfl (sub_cons (d := 67) rfl (sub_cons (d := 75) rfl (sub_cons (d := 78) rfl (sub_nil _))))))))))))))))))))))) (.refl _) ?_
              refine hl_nil ?_
              refine hq_then ?_
              refine hc_seq ?_
              refine hc_seq ?_
              refine hc_region ?_
              refine hl_v rfl rfl rfl (rv_ev rfl) ?_
              refine hl_v rfl rfl rfl (rv_ev rfl) ?_
              refine hl_callV rfl rfl rfl (rq_call (by kernel_rfl) rfl (fun w hm => ret_ans (eqIntS_ans (encV d x.val) (encV d x.val) _ _ w ((rd_row 1 rfl) w hm) ((rd_row 7 rfl) w hm) (by omega)))) ?_
              refine hl_bool (fun h50 => ?_) (fun h50 => absurd (((decide_eq_true rfl)).symm.trans h50) (by decide))
              refine hl_v rfl rfl rfl (rv_ev rfl) ?_
              refine hl_v rfl rfl rfl (rv_ev rfl) ?_
              refine hl_v rfl rfl rfl (rv_ev rfl) ?_
              refine hl_v rfl rfl rfl (rv_ev rfl) ?_
              refine hl_v rfl rfl rfl (rv_bneq rfl Try.underlying4 rfl rfl) ?_
              refine hl_v rfl rfl rfl (rv_ev rfl) ?_
              refine hl_less (sub_cons (d := 0) rfl (sub_cons (d := 1) rfl (sub_cons (d := 2) rfl (sub_cons (d := 3) rfl (sub_cons (d := 4) rfl (sub_cons (d := 5) rfl (sub_cons (d := 6) rfl (sub_cons (d := 7) rfl (sub_cons (d := 8) rfl (sub_cons (d := 9) rfl (sub_cons (d := 10) rfl (sub_cons (d := 11) rfl (sub_cons (d := 12) rfl (sub_cons (d := 13) rfl (sub_cons (d := 14) rfl (sub_cons (d := 15) rfl (sub_cons (d := 20) rfl (sub_cons (d := 46) rfl (sub_cons (d := 51) rfl (sub_cons (d := 67) rfl (sub_cons (d := 75) rfl (sub_cons (d := 78) rfl (sub_cons (d := 95) rfl (sub_nil _)))))))))))))))))))))))) (.refl _) ?_
              refine hl_nil ?_
              refine hq_then ?_
              refine hc_false rfl ?_
              refine hc_skip ?_
              refine hq_then ?_
              refine hc_seq ?_
              refine hc_region ?_
              refine hl_v rfl rfl rfl (rv_ev rfl) ?_
              refine hl_less (sub_cons (d := 0) rfl (sub_cons (d := 1) rfl (sub_cons (d := 2) rfl (sub_cons (d := 3) rfl (sub_cons (d := 4) rfl (sub_cons (d := 5) rfl (sub_cons (d := 6) rfl (sub_cons (d := 7) rfl (sub_cons (d := 8) rfl (sub_cons (d := 9) rfl (sub_cons (d := 10) rfl (sub_cons (d := 11) rfl (sub_cons (d := 12) rfl (sub_cons (d := 13) rfl (sub_cons (d := 14) rfl (sub_cons (d := 15) rfl (sub_cons (d := 20) rfl (sub_cons (d := 46) rfl (sub_cons (d := 51) rfl (sub_cons (d := 67) rfl (sub_cons (d := 75) rfl (sub_cons (d := 78) rfl (sub_cons (d := 95) rfl (sub_nil _)))))))))))))))))))))))) (.refl _) ?_
              refine hl_nil ?_
              refine hq_then ?_
              refine hc_seq ?_
              refine hc_region ?_
              refine hl_v rfl rfl rfl (rv_ev rfl) ?_
              refine hl_v rfl rfl rfl (rv_ev rfl) ?_
              refine hl_callV rfl rfl rfl (rq_call (by kernel_rfl) rfl (fun w hm => ret_ans (heldIntS_ans (encV d x.val).length 1 _ w (rdsW_own (hm.holds _ (mem_at (i := 3) rfl))) (by omega) (by omega)))) ?_
              refine hl_v rfl rfl rfl (rv_ev rfl) ?_
              refine hl_less (sub_cons (d := 0) rfl (sub_cons (d := 1) rfl (sub_cons (d := 2) rfl (sub_cons (d := 3) rfl (sub_cons (d := 4) rfl (sub_cons (d := 5) rfl (sub_cons (d := 6) rfl (sub_cons (d := 7) rfl (sub_cons (d := 8) rfl (sub_cons (d := 9) rfl (sub_cons (d := 10) rfl (sub_cons (d := 11) rfl (sub_cons (d := 12) rfl (sub_cons (d := 13) rfl (sub_cons (d := 14) rfl (sub_cons (d := 15) rfl (sub_cons (d := 20) rfl (sub_cons (d := 46) rfl (sub_cons (d := 51) rfl (sub_cons (d := 67) rfl (sub_cons (d := 75) rfl (sub_cons (d := 78) rfl (sub_cons (d := 95) rfl (sub_nil _)))))))))))))))))))))))) (.refl _) ?_
              refine hl_nil ?_
              refine hq_then ?_
              refine hc_seq ?_
              refine hc_seq ?_
              refine hc_region ?_
              refine hl_v rfl rfl rfl (rv_ev rfl) ?_
              refine hl_lss rfl rfl rfl rfl rfl rfl (fun h51 => absurd h51 (by omega)) (fun h51 => ?_)
              refine hl_less (sub_cons (d := 0) rfl (sub_cons (d := 1) rfl (sub_cons (d := 2) rfl (sub_cons (d := 3) rfl (sub_cons (d := 4) rfl (sub_cons (d := 5) rfl (sub_cons (d := 6) rfl (sub_cons (d := 7) rfl (sub_cons (d := 8) rfl (sub_cons (d := 9) rfl (sub_cons (d := 10) rfl (sub_cons (d := 11) rfl (sub_cons (d := 12) rfl (sub_cons (d := 13) rfl (sub_cons (d := 14) rfl (sub_cons (d := 15) rfl (sub_cons (d := 20) rfl (sub_cons (d := 46) rfl (sub_cons (d := 51) rfl (sub_cons (d := 67) rfl (sub_cons (d := 75) rfl (sub_cons (d := 78) rfl (sub_cons (d := 95) rfl (sub_cons (d := 100) rfl (sub_nil _))))))))))))))))))))))))) (.refl _) ?_
              refine hl_nil ?_
              refine hq_then ?_
              refine hc_false rfl ?_
              refine hc_skip ?_
              refine hq_then ?_
              refine hc_seq ?_
              refine hc_seq ?_
              refine hc_region ?_
              refine hl_v rfl rfl rfl (rv_ev rfl) ?_
              refine hl_v rfl rfl rfl (rv_ev rfl) ?_
              refine hl_neq rfl rfl rfl rfl rfl rfl (fun h52 => absurd h52 (by omega)) (fun h52 => ?_)
              refine hl_less (sub_cons (d := 0) rfl (sub_cons (d := 1) rfl (sub_cons (d := 2) rfl (sub_cons (d := 3) rfl (sub_cons (d := 4) rfl (sub_cons (d := 5) rfl (sub_cons (d := 6) rfl (sub_cons (d := 7) rfl (sub_cons (d := 8) rfl (sub_cons (d := 9) rfl (sub_cons (d := 10) rfl (sub_cons (d := 11) rfl (sub_cons (d := 12) rfl (sub_cons (d := 13) rfl (sub_cons (d := 14) rfl (sub_cons (d := 15) rfl (sub_cons (d := 20) rfl (sub_cons (d := 46) rfl (sub_cons (d := 51) rfl (sub_cons (d := 67) rfl (sub_cons (d := 75) rfl (sub_cons (d := 78) rfl (sub_cons (d := 95) rfl (sub_cons (d := 100) rfl (sub_cons (d := 103) rfl (sub_nil _)))))))))))))))))))))))))) (.refl _) ?_
              refine hl_nil ?_
              refine hq_then ?_
              refine hc_false rfl ?_
              refine hc_skip ?_
              refine hq_then ?_
              refine hc_seq ?_
              refine hc_region ?_
              refine hl_v rfl rfl rfl (rv_ev rfl) ?_
              refine hl_less (sub_cons (d := 0) rfl (sub_cons (d := 1) rfl (sub_cons (d := 2) rfl (sub_cons (d := 3) rfl (sub_cons (d := 4) rfl (sub_cons (d := 5) rfl (sub_cons (d := 6) rfl (sub_cons (d := 7) rfl (sub_cons (d := 8) rfl (sub_cons (d := 9) rfl (sub_cons (d := 10) rfl (sub_cons (d := 11) rfl (sub_cons (d := 12) rfl (sub_cons (d := 13) rfl (sub_cons (d := 14) rfl (sub_cons (d := 15) rfl (sub_cons (d := 20) rfl (sub_cons (d := 46) rfl (sub_cons (d := 51) rfl (sub_cons (d := 67) rfl (sub_cons (d := 75) rfl (sub_cons (d := 78) rfl (sub_cons (d := 95) rfl (sub_cons (d := 100) rfl (sub_cons (d := 103) rfl (sub_nil _)))))))))))))))))))))))))) (.refl _) ?_
              refine hl_nil ?_
              refine hq_then ?_
              refine hc_ret ?_
              exact hq_ans rfl rfl rfl
    ·
      obtain ⟨hs1, hs2, hs3⟩ := hsz (by omega)
      refine hc_draw (by kernel_rfl) 9 [0, 1, 2, 3, 4, 5, 6, 7, 8] (List.take 9 _) (List.drop 9 _) [[], [0], [], [2], [1, 3], [4], [4, 5], [4, 5], [4, 6]] [22, 23, 24, 25, 26, 21, 27, 28, 6] (fun i vs_ v_ p_ => match i with | 0 => v_ = .agg #[.int .i64 d.W, .int .i64 d.H, .int .i64 d.T, .int .i64 d.R] ∧ p_ = [] | 1 => v_ = .agg #[.int .i64 d.W, .int .i64 d.H, .int .i64 d.T, .int .i64 d.R] ∧ p_ = [] | 2 => v_ = .agg #[x.mv, x.lv, .int .i64 x.pad, .int .i64 x.ram] ∧ p_ = [] | 3 => (IsTc x.val) v_ p_ | 4 => (IsEnc d x.val) v_ p_ | 5 => v_ = .tuple #[(tupAt (List.getD vs_ 0 undef) 0), .bool (tcOkV d x.val)] ∧ p_ = [] | 6 => v_ = (tupAt (List.getD vs_ 0 undef) 0) ∧ p_ = [] | 7 => v_ = .bool false ∧ p_ = [] | 8 => v_ = (tupAt (List.getD vs_ 0 undef) 0) ∧ p_ = [] | _ => True) (List.take_append_drop 9 _).symm (by kernel_rfl) (by kernel_rfl) rfl rfl ?_ ?_
      ·
        refine ⟨?_, ?_, ?_, ?_, ?_, ?_, ?_, ?_, ?_, trivial⟩
        ·
          intro vf pf hR
          refine Or.inl ⟨rfl, ?_⟩
          refine rq_less (l' := [boxE b2 #[x.mv, x.lv, .int .i64 x.pad, .int .i64 x.ram] 50, boxE b1 #[.int .i64 d.W, .int .i64 d.H, .int .i64 d.T, .int .i64 d.R] 36]) (sub_cons (d := 2) rfl (sub_nil _)) (List.sublist_append_right _ _) ?_
          exact rq_v (rv_loadN (cs := [.int .i64 d.W, .int .i64 d.H, .int .i64 d.T, .int .i64 d.R]) rfl (by kernel_rfl) (by kernel_rfl) rfl rfl (box_part 1 rfl 0 rfl))
        ·
          intro vf pf hR
          have e0 : (vf 0) = .agg #[.int .i64 d.W, .int .i64 d.H, .int .i64 d.T, .int .i64 d.R] ∧ (pf 0) = [] := hR 0 (by decide)
          refine Or.inl ⟨rfl, ?_⟩
          refine rq_less (l' := [boxE b2 #[x.mv, x.lv, .int .i64 x.pad, .int .i64 x.ram] 50, boxE b1 #[.int .i64 d.W, .int .i64 d.H, .int .i64 d.T, .int .i64 d.R] 36]) (sub_cons (d := 22) (congrArg some e0.1) (sub_nil _)) (List.sublist_append_right _ _) ?_
          exact (rq_call (by kernel_rfl) rfl (fun w hm => ret_ans (toDevice_any d w)))
        ·
          intro vf pf hR
          refine Or.inl ⟨rfl, ?_⟩
          refine rq_less (l' := [boxE b2 #[x.mv, x.lv, .int .i64 x.pad, .int .i64 x.ram] 50, boxE b1 #[.int .i64 d.W, .int .i64 d.H, .int .i64 d.T, .int .i64 d.R] 36]) (sub_cons (d := 3) rfl (sub_nil _)) (List.sublist_append_right _ _) ?_
          exact rq_v (rv_loadN (cs := [x.mv, x.lv, .int .i64 x.pad, .int .i64 x.ram]) rfl (by kernel_rfl) (by kernel_rfl) rfl rfl (box_part 0 rfl 0 rfl))
        ·
          intro vf pf hR
          have e2 : (vf 2) = .agg #[x.mv, x.lv, .int .i64 x.pad, .int .i64 x.ram] ∧ (pf 2) = [] := hR 2 (by decide)
          refine Or.inl ⟨rfl, ?_⟩
          refine rq_less (l' := [boxE b2 #[x.mv, x.lv, .int .i64 x.pad, .int .i64 x.ram] 50, boxE b1 #[.int .i64 d.W, .int .i64 d.H, .int .i64 d.T, .int .i64 d.R] 36]) (sub_cons (d := 24) (congrArg some e2.1) (sub_nil _)) (List.sublist_append_right _ _) ?_
          exact rq_call (by kernel_rfl) rfl (fun w hm => toTileConfig_ret x w (hx.below hm.bel) hs1 hs2 hs3)
        ·
          intro vf pf hR
          have e1 : (vf 1) = .agg #[.int .i64 d.W, .int .i64 d.H, .int .i64 d.T, .int .i64 d.R] ∧ (pf 1) = [] := hR 1 (by decide)
          have e3 : (IsTc x.val) (vf 3) (pf 3) := hR 3 (by decide)
          obtain ⟨v53, v3⟩ : ∃ x, vf 3 = x := ⟨_, rfl⟩
          obtain ⟨p54, p3⟩ : ∃ x, pf 3 = x := ⟨_, rfl⟩
          have hR55 := e3
          rw [v3, p3] at hR55
          obtain ⟨thR55, rfl, rfl, ⟨c1thR55, c2thR55⟩, valthR55, n1thR55, n2thR55, n3thR55⟩ := hR55
          have bthR55 := And.intro n1thR55 (And.intro n2thR55 n3thR55)
          refine Or.inl ⟨rfl, ?_⟩
          refine rq_less (l' := [tcE thR55, boxE b2 #[x.mv, x.lv, .int .i64 x.pad, .int .i64 x.ram] 50, boxE b1 #[.int .i64 d.W, .int .i64 d.H, .int .i64 d.T, .int .i64 d.R] 36]) (sub_cons (d := 23) (congrArg some e1.1) (sub_cons (d := 25) (congrArg some v3) (sub_nil _))) (by first | (simp only [p3, v3, e1.2, List.flatMap_cons, List.flatMap_nil, List.append_nil, List.nil_append, List.cons_append]; exact List.Sublist.refl _) | simp [p3, v3, e1.2]) ?_
          exact rq_call (by kernel_rfl) rfl (fun w hm => by have h := specEncodeTile_ret d thR55 w (tc_rds 0 rfl bthR55.1 bthR55.2.1 bthR55.2.2 w hm); rw [valthR55] at h; exact h)
        ·
          intro vf pf hR
          have e4 : (IsEnc d x.val) (vf 4) (pf 4) := hR 4 (by decide)
          obtain ⟨v56, v4⟩ : ∃ x, vf 4 = x := ⟨_, rfl⟩
          obtain ⟨p57, p4⟩ : ∃ x, pf 4 = x := ⟨_, rfl⟩
          have hR58 := e4
          rw [v4, p4] at hR58
          obtain ⟨uhR58, rfl, rfl⟩ := hR58
          refine Or.inl ⟨rfl, ?_⟩
          refine rq_less (l' := [rowE 3 1 uhR58 ((encV d x.val).length) ((encV d x.val).map (Value.int .i64)), boxE b2 #[x.mv, x.lv, .int .i64 x.pad, .int .i64 x.ram] 50, boxE b1 #[.int .i64 d.W, .int .i64 d.H, .int .i64 d.T, .int .i64 d.R] 36]) (sub_cons (d := 26) (congrArg some v4) (sub_nil _)) (by first | (simp only [p4, v4, List.flatMap_cons, List.flatMap_nil, List.append_nil, List.nil_append, List.cons_append]; exact List.Sublist.refl _) | simp [p4, v4]) ?_
          exact rq_mono (rq_v (rv_ev rfl)) (fun _ _ h => ⟨h.1.trans (by show _ = (.tuple #[(tupAt (vf 4) 0), .bool (tcOkV d x.val)] : Value); first | (rw [v4]; done) | (rw [v4]; rfl)), h.2⟩)
        ·
          intro vf pf hR
          have e4 : (IsEnc d x.val) (vf 4) (pf 4) := hR 4 (by decide)
          obtain ⟨v56, v4⟩ : ∃ x, vf 4 = x := ⟨_, rfl⟩
          obtain ⟨p57, p4⟩ : ∃ x, pf 4 = x := ⟨_, rfl⟩
          have hR58 := e4
          rw [v4, p4] at hR58
          obtain ⟨uhR58, rfl, rfl⟩ := hR58
          have e5 : (vf 5) = .tuple #[(tupAt (vf 4) 0), .bool (tcOkV d x.val)] ∧ (pf 5) = [] := hR 5 (by decide)
          rw [v4] at e5
          refine Or.inl ⟨rfl, ?_⟩
          refine rq_less (l' := [rowE 3 1 uhR58 ((encV d x.val).length) ((encV d x.val).map (Value.int .i64)), boxE b2 #[x.mv, x.lv, .int .i64 x.pad, .int .i64 x.ram] 50, boxE b1 #[.int .i64 d.W, .int .i64 d.H, .int .i64 d.T, .int .i64 d.R] 36]) (sub_cons (d := 21) (congrArg some e5.1) (sub_nil _)) (by first | (simp only [p4, v4, e5.2, List.flatMap_cons, List.flatMap_nil, List.append_nil, List.nil_append, List.cons_append]; exact List.Sublist.refl _) | simp [p4, v4, e5.2]) ?_
          exact rq_mono (rq_v (rv_ev rfl)) (fun _ _ h => ⟨h.1.trans (by show _ = ((tupAt (vf 4) 0) : Value); first | (rw [v4]; done) | (rw [v4]; rfl)), h.2⟩)
        ·
          intro vf pf hR
          have e4 : (IsEnc d x.val) (vf 4) (pf 4) := hR 4 (by decide)
          obtain ⟨v56, v4⟩ : ∃ x, vf 4 = x := ⟨_, rfl⟩
          obtain ⟨p57, p4⟩ : ∃ x, pf 4 = x := ⟨_, rfl⟩
          have hR58 := e4
          rw [v4, p4] at hR58
          obtain ⟨uhR58, rfl, rfl⟩ := hR58
          have e5 : (vf 5) = .tuple #[(tupAt (vf 4) 0), .bool (tcOkV d x.val)] ∧ (pf 5) = [] := hR 5 (by decide)
          rw [v4] at e5
          refine Or.inl ⟨rfl, ?_⟩
          refine rq_less (l' := [rowE 3 1 uhR58 ((encV d x.val).length) ((encV d x.val).map (Value.int .i64)), boxE b2 #[x.mv, x.lv, .int .i64 x.pad, .int .i64 x.ram] 50, boxE b1 #[.int .i64 d.W, .int .i64 d.H, .int .i64 d.T, .int .i64 d.R] 36]) (sub_cons (d := 21) (congrArg some e5.1) (sub_nil _)) (by first | (simp only [p4, v4, e5.2, List.flatMap_cons, List.flatMap_nil, List.append_nil, List.nil_append, List.cons_append]; exact List.Sublist.refl _) | simp [p4, v4, e5.2]) ?_
          exact rq_mono (rq_v (rv_ev rfl)) (fun _ _ h => ⟨h.1.trans (congrArg Value.bool hb13), h.2⟩)
        ·
          intro vf pf hR
          have e4 : (IsEnc d x.val) (vf 4) (pf 4) := hR 4 (by decide)
          obtain ⟨v56, v4⟩ : ∃ x, vf 4 = x := ⟨_, rfl⟩
          obtain ⟨p57, p4⟩ : ∃ x, pf 4 = x := ⟨_, rfl⟩
          have hR58 := e4
          rw [v4, p4] at hR58
          obtain ⟨uhR58, rfl, rfl⟩ := hR58
          have e6 : (vf 6) = (tupAt (vf 4) 0) ∧ (pf 6) = [] := hR 6 (by decide)
          rw [v4] at e6
          refine Or.inl ⟨rfl, ?_⟩
          refine rq_less (l' := [rowE 3 1 uhR58 ((encV d x.val).length) ((encV d x.val).map (Value.int .i64)), boxE b2 #[x.mv, x.lv, .int .i64 x.pad, .int .i64 x.ram] 50, boxE b1 #[.int .i64 d.W, .int .i64 d.H, .int .i64 d.T, .int .i64 d.R] 36]) (sub_cons (d := 27) (congrArg some e6.1) (sub_nil _)) (by first | (simp only [p4, v4, e6.2, List.flatMap_cons, List.flatMap_nil, List.append_nil, List.nil_append, List.cons_append]; exact List.Sublist.refl _) | simp [p4, v4, e6.2]) ?_
          exact rq_mono (rq_v (rv_ev rfl)) (fun _ _ h => ⟨h.1.trans (by show _ = ((tupAt (vf 4) 0) : Value); first | (rw [v4]; done) | (rw [v4]; rfl)), h.2⟩)
      ·
        intro vf pf hR
        have e3 : (IsTc x.val) (vf 3) (pf 3) := hR 3 (by decide)
        obtain ⟨v53, v3⟩ : ∃ x, vf 3 = x := ⟨_, rfl⟩
        obtain ⟨p54, p3⟩ : ∃ x, pf 3 = x := ⟨_, rfl⟩
        have hR55 := e3
        rw [v3, p3] at hR55
        obtain ⟨thR55, rfl, rfl, ⟨c1thR55, c2thR55⟩, valthR55, n1thR55, n2thR55, n3thR55⟩ := hR55
        have bthR55 := And.intro n1thR55 (And.intro n2thR55 n3thR55)
        have e4 : (IsEnc d x.val) (vf 4) (pf 4) := hR 4 (by decide)
        obtain ⟨v56, v4⟩ : ∃ x, vf 4 = x := ⟨_, rfl⟩
        obtain ⟨p57, p4⟩ : ∃ x, pf 4 = x := ⟨_, rfl⟩
        have hR58 := e4
        rw [v4, p4] at hR58
        obtain ⟨uhR58, rfl, rfl⟩ := hR58
        have e7 : (vf 7) = .bool false ∧ (pf 7) = [] := hR 7 (by decide)
        have e8 : (vf 8) = (tupAt (vf 4) 0) ∧ (pf 8) = [] := hR 8 (by decide)
        rw [v4] at e8
        have q0 : (vf 0) = .agg #[.int .i64 d.W, .int .i64 d.H, .int .i64 d.T, .int .i64 d.R] ∧ (pf 0) = [] := hR 0 (by decide)
        have q1 : (vf 1) = .agg #[.int .i64 d.W, .int .i64 d.H, .int .i64 d.T, .int .i64 d.R] ∧ (pf 1) = [] := hR 1 (by decide)
        have q2 : (vf 2) = .agg #[x.mv, x.lv, .int .i64 x.pad, .int .i64 x.ram] ∧ (pf 2) = [] := hR 2 (by decide)
        have q5 : (vf 5) = .tuple #[(tupAt (vf 4) 0), .bool (tcOkV d x.val)] ∧ (pf 5) = [] := hR 5 (by decide)
        have q6 : (vf 6) = (tupAt (vf 4) 0) ∧ (pf 6) = [] := hR 6 (by decide)
        have q7 : (vf 7) = .bool false ∧ (pf 7) = [] := hR 7 (by decide)
        have q8 : (vf 8) = (tupAt (vf 4) 0) ∧ (pf 8) = [] := hR 8 (by decide)
        refine hl_less (l' := [tcE thR55, rowE 3 1 uhR58 ((encV d x.val).length) ((encV d x.val).map (Value.int .i64)), boxE b2 #[x.mv, x.lv, .int .i64 x.pad, .int .i64 x.ram] 50, boxE b1 #[.int .i64 d.W, .int .i64 d.H, .int .i64 d.T, .int .i64 d.R] 36]) (sub_cons (d := 0) rfl (sub_cons (d := 1) rfl (sub_cons (d := 2) rfl (sub_cons (d := 3) rfl (sub_cons (d := 4) rfl (sub_cons (d := 5) rfl (sub_cons (d := 6) (congrArg some e8.1) (sub_cons (d := 20) rfl (sub_cons (d := 28) (congrArg some e7.1) (sub_nil _)))))))))) (by first | (simp only [p3, v3, p4, v4, q0.2, q1.2, q2.2, q5.2, q6.2, q7.2, q8.2, List.flatMap_cons, List.flatMap_nil, List.append_nil, List.nil_append, List.cons_append]; exact List.Sublist.refl _) | simp [p3, v3, p4, v4, q0.2, q1.2, q2.2, q5.2, q6.2, q7.2, q8.2]) ?_
        simp only [List.drop_succ_cons, List.drop_zero]
        refine hl_v rfl rfl rfl (rv_ev rfl) ?_
        refine hl_less (sub_cons (d := 0) rfl (sub_cons (d := 1) rfl (sub_cons (d := 2) rfl (sub_cons (d := 3) rfl (sub_cons (d := 4) rfl (sub_cons (d := 5) rfl (sub_cons (d := 6) rfl (sub_cons (d := 7) rfl (sub_cons (d := 20) rfl (sub_nil _)))))))))) (.refl _) ?_
        refine hl_nil ?_
        refine hq_then ?_
        refine hc_seq ?_
        refine hc_region ?_
        refine hl_v rfl rfl rfl (rv_loadN (cs := [x.mv, x.lv, .int .i64 x.pad, .int .i64 x.ram]) rfl (by kernel_rfl) (by kernel_rfl) rfl rfl (box_part 2 rfl 0 rfl)) ?_
        refine hl_q rfl rfl rfl (rq_call (by kernel_rfl) rfl (fun w hm => toTileConfig_ret x w (hx.below hm.bel) hs1 hs2 hs3)) ?_
        intro v59 p60 hR61
        obtain ⟨thR61, rfl, rfl, ⟨c1thR61, c2thR61⟩, valthR61, n1thR61, n2thR61, n3thR61⟩ := hR61
        have bthR61 := And.intro n1thR61 (And.intro n2thR61 n3thR61)
        refine hl_box rfl rfl rfl (rq_alloc (z := .agg #[.slice none 0 0, .slice none 0 0, .int .i64 0, .int .i64 0]) rfl (by kernel_rfl)) ?_
        intro b62
        refine hl_storeBoxN (i := 0) (off := 0) (us := [thR61.mv, thR61.lv, .int .i64 thR61.pad, .int .i64 thR61.ram]) (l' := [boxE b62 #[thR61.mv, thR61.lv, .int .i64 thR61.pad, .int .i64 thR61.ram] 39, tcE thR61, tcE thR55, rowE 3 1 uhR58 ((encV d x.val).length) ((encV d x.val).map (Value.int .i64)), boxE b2 #[x.mv, x.lv, .int .i64 x.pad, .int .i64 x.ram] 50, boxE b1 #[.int .i64 d.W, .int .i64 d.H, .int .i64 d.T, .int .i64 d.R] 36]) rfl rfl rfl (by kernel_rfl) rfl rfl rfl (all_cons c1thR61 (all_cons c2thR61 (all_cons rfl (all_cons rfl all_nil)))) rfl rfl rfl ?_
        refine hl_less (sub_cons (d := 0) rfl (sub_cons (d := 1) rfl (sub_cons (d := 2) rfl (sub_cons (d := 3) rfl (sub_cons (d := 4) rfl (sub_cons (d := 5) rfl (sub_cons (d := 6) rfl (sub_cons (d := 7) rfl (sub_cons (d := 8) rfl (sub_cons (d := 20) rfl (sub_nil _))))))))))) (.refl _) ?_
        refine hl_nil ?_
        refine hq_then ?_
        refine hc_seq ?_
        have hb66 : (tcOkV d x.val) = false := hb13
        refine hc_draw (by kernel_rfl) 8 [0, 1, 2, 3, 4, 5, 6, 7] (List.take 8 _) (List.drop 8 _) [[], [0], [], [1, 2], [3], [3, 4], [3, 4], [3, 5]] [32, 33, 34, 35, 31, 36, 37, 9] (fun i vs_ v_ p_ => match i with | 0 => v_ = .agg #[.int .i64 d.W, .int .i64 d.H, .int .i64 d.T, .int .i64 d.R] ∧ p_ = [] | 1 => v_ = .agg #[.int .i64 d.W, .int .i64 d.H, .int .i64 d.T, .int .i64 d.R] ∧ p_ = [] | 2 => v_ = .agg #[thR61.mv, thR61.lv, .int .i64 thR61.pad, .int .i64 thR61.ram] ∧ p_ = [] | 3 => (IsEnc d x.val) v_ p_ | 4 => v_ = .tuple #[(tupAt (List.getD vs_ 0 undef) 0), .bool (tcOkV d x.val)] ∧ p_ = [] | 5 => v_ = (tupAt (List.getD vs_ 0 undef) 0) ∧ p_ = [] | 6 => v_ = .bool false ∧ p_ = [] | 7 => v_ = (tupAt (List.getD vs_ 0 undef) 0) ∧ p_ = [] | _ => True) (List.take_append_drop 8 _).symm (by kernel_rfl) (by kernel_rfl) rfl rfl ?_ ?_
        ·
          refine ⟨?_, ?_, ?_, ?_, ?_, ?_, ?_, ?_, trivial⟩
          ·
            intro vf pf hR
            refine Or.inl ⟨rfl, ?_⟩
            refine rq_less (l' := [boxE b62 #[thR61.mv, thR61.lv, .int .i64 thR61.pad, .int .i64 thR61.ram] 39, tcE thR61, tcE thR55, rowE 3 1 uhR58 ((encV d x.val).length) ((encV d x.val).map (Value.int .i64)), boxE b2 #[x.mv, x.lv, .int .i64 x.pad, .int .i64 x.ram] 50, boxE b1 #[.int .i64 d.W, .int .i64 d.H, .int .i64 d.T, .int .i64 d.R] 36]) (sub_cons (d := 2) rfl (sub_nil _)) (List.sublist_append_right _ _) ?_
            exact rq_v (rv_loadN (cs := [.int .i64 d.W, .int .i64 d.H, .int .i64 d.T, .int .i64 d.R]) rfl (by kernel_rfl) (by kernel_rfl) rfl rfl (box_part 5 rfl 0 rfl))
          ·
            intro vf pf hR
            have e0 : (vf 0) = .agg #[.int .i64 d.W, .int .i64 d.H, .int .i64 d.T, .int .i64 d.R] ∧ (pf 0) = [] := hR 0 (by decide)
            refine Or.inl ⟨rfl, ?_⟩
            refine rq_less (l' := [boxE b62 #[thR61.mv, thR61.lv, .int .i64 thR61.pad, .int .i64 thR61.ram] 39, tcE thR61, tcE thR55, rowE 3 1 uhR58 ((encV d x.val).length) ((encV d x.val).map (Value.int .i64)), boxE b2 #[x.mv, x.lv, .int .i64 x.pad, .int .i64 x.ram] 50, boxE b1 #[.int .i64 d.W, .int .i64 d.H, .int .i64 d.T, .int .i64 d.R] 36]) (sub_cons (d := 32) (congrArg some e0.1) (sub_nil _)) (List.sublist_append_right _ _) ?_
            exact (rq_call (by kernel_rfl) rfl (fun w hm => ret_ans (toDevice_any d w)))
          ·
            intro vf pf hR
            refine Or.inl ⟨rfl, ?_⟩
            refine rq_less (l' := [boxE b62 #[thR61.mv, thR61.lv, .int .i64 thR61.pad, .int .i64 thR61.ram] 39, tcE thR61, tcE thR55, rowE 3 1 uhR58 ((encV d x.val).length) ((encV d x.val).map (Value.int .i64)), boxE b2 #[x.mv, x.lv, .int .i64 x.pad, .int .i64 x.ram] 50, boxE b1 #[.int .i64 d.W, .int .i64 d.H, .int .i64 d.T, .int .i64 d.R] 36]) (sub_cons (d := 8) rfl (sub_nil _)) (List.sublist_append_right _ _) ?_
            exact rq_v (rv_loadN (cs := [thR61.mv, thR61.lv, .int .i64 thR61.pad, .int .i64 thR61.ram]) rfl (by kernel_rfl) (by kernel_rfl) rfl rfl (box_part 0 rfl 0 rfl))
          ·
            intro vf pf hR
            have e1 : (vf 1) = .agg #[.int .i64 d.W, .int .i64 d.H, .int .i64 d.T, .int .i64 d.R] ∧ (pf 1) = [] := hR 1 (by decide)
            have e2 : (vf 2) = .agg #[thR61.mv, thR61.lv, .int .i64 thR61.pad, .int .i64 thR61.ram] ∧ (pf 2) = [] := hR 2 (by decide)
            refine Or.inl ⟨rfl, ?_⟩
            refine rq_less (l' := [boxE b62 #[thR61.mv, thR61.lv, .int .i64 thR61.pad, .int .i64 thR61.ram] 39, tcE thR61, tcE thR55, rowE 3 1 uhR58 ((encV d x.val).length) ((encV d x.val).map (Value.int .i64)), boxE b2 #[x.mv, x.lv, .int .i64 x.pad, .int .i64 x.ram] 50, boxE b1 #[.int .i64 d.W, .int .i64 d.H, .int .i64 d.T, .int .i64 d.R] 36]) (sub_cons (d := 33) (congrArg some e1.1) (sub_cons (d := 34) (congrArg some e2.1) (sub_nil _))) (List.sublist_append_right _ _) ?_
            exact rq_call (by kernel_rfl) rfl (fun w hm => by have h := implEncodeTile_ret d thR61 w (tc_rds 1 rfl bthR61.1 bthR61.2.1 bthR61.2.2 w hm); rw [valthR61] at h; exact h)
          ·
            intro vf pf hR
            have e3 : (IsEnc d x.val) (vf 3) (pf 3) := hR 3 (by decide)
            obtain ⟨v63, v3⟩ : ∃ x, vf 3 = x := ⟨_, rfl⟩
            obtain ⟨p64, p3⟩ : ∃ x, pf 3 = x := ⟨_, rfl⟩
            have hR65 := e3
            rw [v3, p3] at hR65
            obtain ⟨uhR65, rfl, rfl⟩ := hR65
            refine Or.inl ⟨rfl, ?_⟩
            refine rq_less (l' := [rowE 3 1 uhR65 ((encV d x.val).length) ((encV d x.val).map (Value.int .i64)), boxE b62 #[thR61.mv, thR61.lv, .int .i64 thR61.pad, .int .i64 thR61.ram] 39, tcE thR61, tcE thR55, rowE 3 1 uhR58 ((encV d x.val).length) ((encV d x.val).map (Value.int .i64)), boxE b2 #[x.mv, x.lv, .int .i64 x.pad, .int .i64 x.ram] 50, boxE b1 #[.int .i64 d.W, .int .i64 d.H, .int .i64 d.T, .int .i64 d.R] 36]) (sub_cons (d := 35) (congrArg some v3) (sub_nil _)) (by first | (simp only [p3, v3, List.flatMap_cons, List.flatMap_nil, List.append_nil, List.nil_append, List.cons_append]; exact List.Sublist.refl _) | simp [p3, v3]) ?_
            exact rq_mono (rq_v (rv_ev rfl)) (fun _ _ h => ⟨h.1.trans (by show _ = (.tuple #[(tupAt (vf 3) 0), .bool (tcOkV d x.val)] : Value); first | (rw [v3]; done) | (rw [v3]; rfl)), h.2⟩)
          ·
            intro vf pf hR
            have e3 : (IsEnc d x.val) (vf 3) (pf 3) := hR 3 (by decide)
            obtain ⟨v63, v3⟩ : ∃ x, vf 3 = x := ⟨_, rfl⟩
            obtain ⟨p64, p3⟩ : ∃ x, pf 3 = x := ⟨_, rfl⟩
            have hR65 := e3
            rw [v3, p3] at hR65
            obtain ⟨uhR65, rfl, rfl⟩ := hR65
            have e4 : (vf 4) = .tuple #[(tupAt (vf 3) 0), .bool (tcOkV d x.val)] ∧ (pf 4) = [] := hR 4 (by decide)
            rw [v3] at e4
            refine Or.inl ⟨rfl, ?_⟩
            refine rq_less (l' := [rowE 3 1 uhR65 ((encV d x.val).length) ((encV d x.val).map (Value.int .i64)), boxE b62 #[thR61.mv, thR61.lv, .int .i64 thR61.pad, .int .i64 thR61.ram] 39, tcE thR61, tcE thR55, rowE 3 1 uhR58 ((encV d x.val).length) ((encV d x.val).map (Value.int .i64)), boxE b2 #[x.mv, x.lv, .int .i64 x.pad, .int .i64 x.ram] 50, boxE b1 #[.int .i64 d.W, .int .i64 d.H, .int .i64 d.T, .int .i64 d.R] 36]) (sub_cons (d := 31) (congrArg some e4.1) (sub_nil _)) (by first | (simp only [p3, v3, e4.2, List.flatMap_cons, List.flatMap_nil, List.append_nil, List.nil_append, List.cons_append]; exact List.Sublist.refl _) | simp [p3, v3, e4.2]) ?_
            exact rq_mono (rq_v (rv_ev rfl)) (fun _ _ h => ⟨h.1.trans (by show _ = ((tupAt (vf 3) 0) : Value); first | (rw [v3]; done) | (rw [v3]; rfl)), h.2⟩)
          ·
            intro vf pf hR
            have e3 : (IsEnc d x.val) (vf 3) (pf 3) := hR 3 (by decide)
            obtain ⟨v63, v3⟩ : ∃ x, vf 3 = x := ⟨_, rfl⟩
            obtain ⟨p64, p3⟩ : ∃ x, pf 3 = x := ⟨_, rfl⟩
            have hR65 := e3
            rw [v3, p3] at hR65
            obtain ⟨uhR65, rfl, rfl⟩ := hR65
            have e4 : (vf 4) = .tuple #[(tupAt (vf 3) 0), .bool (tcOkV d x.val)] ∧ (pf 4) = [] := hR 4 (by decide)
            rw [v3] at e4
            refine Or.inl ⟨rfl, ?_⟩
            refine rq_less (l' := [rowE 3 1 uhR65 ((encV d x.val).length) ((encV d x.val).map (Value.int .i64)), boxE b62 #[thR61.mv, thR61.lv, .int .i64 thR61.pad, .int .i64 thR61.ram] 39, tcE thR61, tcE thR55, rowE 3 1 uhR58 ((encV d x.val).length) ((encV d x.val).map (Value.int .i64)), boxE b2 #[x.mv, x.lv, .int .i64 x.pad, .int .i64 x.ram] 50, boxE b1 #[.int .i64 d.W, .int .i64 d.H, .int .i64 d.T, .int .i64 d.R] 36]) (sub_cons (d := 31) (congrArg some e4.1) (sub_nil _)) (by first | (simp only [p3, v3, e4.2, List.flatMap_cons, List.flatMap_nil, List.append_nil, List.nil_append, List.cons_append]; exact List.Sublist.refl _) | simp [p3, v3, e4.2]) ?_
            exact rq_mono (rq_v (rv_ev rfl)) (fun _ _ h => ⟨h.1.trans (congrArg Value.bool hb66), h.2⟩)
          ·
            intro vf pf hR
            have e3 : (IsEnc d x.val) (vf 3) (pf 3) := hR 3 (by decide)
            obtain ⟨v63, v3⟩ : ∃ x, vf 3 = x := ⟨_, rfl⟩
            obtain ⟨p64, p3⟩ : ∃ x, pf 3 = x := ⟨_, rfl⟩
            have hR65 := e3
            rw [v3, p3] at hR65
            obtain ⟨uhR65, rfl, rfl⟩ := hR65
            have e5 : (vf 5) = (tupAt (vf 3) 0) ∧ (pf 5) = [] := hR 5 (by decide)
            rw [v3] at e5
            refine Or.inl ⟨rfl, ?_⟩
            refine rq_less (l' := [rowE 3 1 uhR65 ((encV d x.val).length) ((encV d x.val).map (Value.int .i64)), boxE b62 #[thR61.mv, thR61.lv, .int .i64 thR61.pad, .int .i64 thR61.ram] 39, tcE thR61, tcE thR55, rowE 3 1 uhR58 ((encV d x.val).length) ((encV d x.val).map (Value.int .i64)), boxE b2 #[x.mv, x.lv, .int .i64 x.pad, .int .i64 x.ram] 50, boxE b1 #[.int .i64 d.W, .int .i64 d.H, .int .i64 d.T, .int .i64 d.R] 36]) (sub_cons (d := 36) (congrArg some e5.1) (sub_nil _)) (by first | (simp only [p3, v3, e5.2, List.flatMap_cons, List.flatMap_nil, List.append_nil, List.nil_append, List.cons_append]; exact List.Sublist.refl _) | simp [p3, v3, e5.2]) ?_
            exact rq_mono (rq_v (rv_ev rfl)) (fun _ _ h => ⟨h.1.trans (by show _ = ((tupAt (vf 3) 0) : Value); first | (rw [v3]; done) | (rw [v3]; rfl)), h.2⟩)
        ·
          intro vf pf hR
          have e3 : (IsEnc d x.val) (vf 3) (pf 3) := hR 3 (by decide)
          obtain ⟨v63, v3⟩ : ∃ x, vf 3 = x := ⟨_, rfl⟩
          obtain ⟨p64, p3⟩ : ∃ x, pf 3 = x := ⟨_, rfl⟩
          have hR65 := e3
          rw [v3, p3] at hR65
          obtain ⟨uhR65, rfl, rfl⟩ := hR65
          have e6 : (vf 6) = .bool false ∧ (pf 6) = [] := hR 6 (by decide)
          have e7 : (vf 7) = (tupAt (vf 3) 0) ∧ (pf 7) = [] := hR 7 (by decide)
          rw [v3] at e7
          have q0 : (vf 0) = .agg #[.int .i64 d.W, .int .i64 d.H, .int .i64 d.T, .int .i64 d.R] ∧ (pf 0) = [] := hR 0 (by decide)
          have q1 : (vf 1) = .agg #[.int .i64 d.W, .int .i64 d.H, .int .i64 d.T, .int .i64 d.R] ∧ (pf 1) = [] := hR 1 (by decide)
          have q2 : (vf 2) = .agg #[thR61.mv, thR61.lv, .int .i64 thR61.pad, .int .i64 thR61.ram] ∧ (pf 2) = [] := hR 2 (by decide)
          have q4 : (vf 4) = .tuple #[(tupAt (vf 3) 0), .bool (tcOkV d x.val)] ∧ (pf 4) = [] := hR 4 (by decide)
          have q5 : (vf 5) = (tupAt (vf 3) 0) ∧ (pf 5) = [] := hR 5 (by decide)
          have q6 : (vf 6) = .bool false ∧ (pf 6) = [] := hR 6 (by decide)
          have q7 : (vf 7) = (tupAt (vf 3) 0) ∧ (pf 7) = [] := hR 7 (by decide)
          refine hl_less (l' := [rowE 3 1 uhR65 ((encV d x.val).length) ((encV d x.val).map (Value.int .i64)), boxE b62 #[thR61.mv, thR61.lv, .int .i64 thR61.pad, .int .i64 thR61.ram] 39, tcE thR61, tcE thR55, rowE 3 1 uhR58 ((encV d x.val).length) ((encV d x.val).map (Value.int .i64)), boxE b2 #[x.mv, x.lv, .int .i64 x.pad, .int .i64 x.ram] 50, boxE b1 #[.int .i64 d.W, .int .i64 d.H, .int .i64 d.T, .int .i64 d.R] 36]) (sub_cons (d := 0) rfl (sub_cons (d := 1) rfl (sub_cons (d := 2) rfl (sub_cons (d := 3) rfl (sub_cons (d := 4) rfl (sub_cons (d := 5) rfl (sub_cons (d := 6) rfl (sub_cons (d := 7) rfl (sub_cons (d := 8) rfl (sub_cons (d := 9) (congrArg some e7.1) (sub_cons (d := 20) rfl (sub_cons (d := 37) (congrArg some e6.1) (sub_nil _))))))))))))) (by first | (simp only [p3, v3, q0.2, q1.2, q2.2, q4.2, q5.2, q6.2, q7.2, List.flatMap_cons, List.flatMap_nil, List.append_nil, List.nil_append, List.cons_append]; exact List.Sublist.refl _) | simp [p3, v3, q0.2, q1.2, q2.2, q4.2, q5.2, q6.2, q7.2]) ?_
          simp only [List.drop_succ_cons, List.drop_zero]
          refine hl_v rfl rfl rfl (rv_ev rfl) ?_
          refine hl_less (sub_cons (d := 0) rfl (sub_cons (d := 1) rfl (sub_cons (d := 2) rfl (sub_cons (d := 3) rfl (sub_cons (d := 4) rfl (sub_cons (d := 5) rfl (sub_cons (d := 6) rfl (sub_cons (d := 7) rfl (sub_cons (d := 8) rfl (sub_cons (d := 9) rfl (sub_cons (d := 10) rfl (sub_cons (d := 20) rfl (sub_nil _))))))))))))) (.refl _) ?_
          refine hl_nil ?_
          refine hq_then ?_
          refine hc_seq ?_
          refine hc_seq ?_
          refine hc_region ?_
          refine hl_v rfl rfl rfl (rv_ev rfl) ?_
          refine hl_v rfl rfl rfl (rv_ev rfl) ?_
          refine hl_callV rfl rfl rfl (rq_call (by kernel_rfl) rfl (fun w hm => ret_ans (eqIntS_ans (encV d x.val) (encV d x.val) _ _ w ((rd_row 0 rfl) w hm) ((rd_row 4 rfl) w hm) (by omega)))) ?_
          refine hl_bool (fun h67 => ?_) (fun h67 => absurd (((decide_eq_true rfl)).symm.trans h67) (by decide))
          refine hl_v rfl rfl rfl (rv_ev rfl) ?_
          refine hl_v rfl rfl rfl (rv_ev rfl) ?_
          refine hl_v rfl rfl rfl (rv_ev rfl) ?_
          refine hl_v rfl rfl rfl (rv_ev rfl) ?_
          refine hl_v rfl rfl rfl (rv_bneq rfl Try.underlying4 rfl rfl) ?_
          refine hl_v rfl rfl rfl (rv_ev rfl) ?_
          refine hl_less (sub_cons (d := 0) rfl (sub_cons (d := 1) rfl (sub_cons (d := 2) rfl (sub_cons (d := 3) rfl (sub_cons (d := 4) rfl (sub_cons (d := 5) rfl (sub_cons (d := 6) rfl (sub_cons (d := 7) rfl (sub_cons (d := 8) rfl (sub_cons (d := 9) rfl (sub_cons (d := 10) rfl (sub_cons (d := 20) rfl (sub_cons (d := 46) rfl (sub_nil _)))))))))))))) (.refl _) ?_
          refine hl_nil ?_
          refine hq_then ?_
          refine hc_false rfl ?_
          refine hc_skip ?_
          refine hq_then ?_
          refine hc_seq ?_
          refine hc_seq ?_
          have hb71 : (decide (x.val = x.val)) = true := (decide_eq_true rfl)
          refine hc_draw (by kernel_rfl) 5 [0, 1, 2, 3, 4] (List.take 5 _) (List.drop 5 _) [[], [], [1], [0, 2], [3]] [47, 48, 49, 50, 51] (fun i vs_ v_ p_ => match i with | 0 => v_ = .agg #[thR61.mv, thR61.lv, .int .i64 thR61.pad, .int .i64 thR61.ram] ∧ p_ = [] | 1 => v_ = .agg #[x.mv, x.lv, .int .i64 x.pad, .int .i64 x.ram] ∧ p_ = [] | 2 => (IsTc x.val) v_ p_ | 3 => v_ = .bool true ∧ p_ = [] | 4 => v_ = .bool false ∧ p_ = [] | _ => True) (List.take_append_drop 5 _).symm (by kernel_rfl) (by kernel_rfl) rfl rfl ?_ ?_
          ·
            refine ⟨?_, ?_, ?_, ?_, ?_, trivial⟩
            ·
              intro vf pf hR
              refine Or.inl ⟨rfl, ?_⟩
              refine rq_less (l' := [rowE 3 1 uhR65 ((encV d x.val).length) ((encV d x.val).map (Value.int .i64)), boxE b62 #[thR61.mv, thR61.lv, .int .i64 thR61.pad, .int .i64 thR61.ram] 39, tcE thR61, tcE thR55, rowE 3 1 uhR58 ((encV d x.val).length) ((encV d x.val).map (Value.int .i64)), boxE b2 #[x.mv, x.lv, .int .i64 x.pad, .int .i64 x.ram] 50, boxE b1 #[.int .i64 d.W, .int .i64 d.H, .int .i64 d.T, .int .i64 d.R] 36]) (sub_cons (d := 8) rfl (sub_nil _)) (List.sublist_append_right _ _) ?_
              exact rq_v (rv_loadN (cs := [thR61.mv, thR61.lv, .int .i64 thR61.pad, .int .i64 thR61.ram]) rfl (by kernel_rfl) (by kernel_rfl) rfl rfl (box_part 1 rfl 0 rfl))
            ·
              intro vf pf hR
              refine Or.inl ⟨rfl, ?_⟩
              refine rq_less (l' := [rowE 3 1 uhR65 ((encV d x.val).length) ((encV d x.val).map (Value.int .i64)), boxE b62 #[thR61.mv, thR61.lv, .int .i64 thR61.pad, .int .i64 thR61.ram] 39, tcE thR61, tcE thR55, rowE 3 1 uhR58 ((encV d x.val).length) ((encV d x.val).map (Value.int .i64)), boxE b2 #[x.mv, x.lv, .int .i64 x.pad, .int .i64 x.ram] 50, boxE b1 #[.int .i64 d.W, .int .i64 d.H, .int .i64 d.T, .int .i64 d.R] 36]) (sub_cons (d := 3) rfl (sub_nil _)) (List.sublist_append_right _ _) ?_
              exact rq_v (rv_loadN (cs := [x.mv, x.lv, .int .i64 x.pad, .int .i64 x.ram]) rfl (by kernel_rfl) (by kernel_rfl) rfl rfl (box_part 5 rfl 0 rfl))
            ·
              intro vf pf hR
              have e1 : (vf 1) = .agg #[x.mv, x.lv, .int .i64 x.pad, .int .i64 x.ram] ∧ (pf 1) = [] := hR 1 (by decide)
              refine Or.inl ⟨rfl, ?_⟩
              refine rq_less (l' := [rowE 3 1 uhR65 ((encV d x.val).length) ((encV d x.val).map (Value.int .i64)), boxE b62 #[thR61.mv, thR61.lv, .int .i64 thR61.pad, .int .i64 thR61.ram] 39, tcE thR61, tcE thR55, rowE 3 1 uhR58 ((encV d x.val).length) ((encV d x.val).map (Value.int .i64)), boxE b2 #[x.mv, x.lv, .int .i64 x.pad, .int .i64 x.ram] 50, boxE b1 #[.int .i64 d.W, .int .i64 d.H, .int .i64 d.T, .int .i64 d.R] 36]) (sub_cons (d := 48) (congrArg some e1.1) (sub_nil _)) (List.sublist_append_right _ _) ?_
              exact rq_call (by kernel_rfl) rfl (fun w hm => toTileConfig_ret x w (hx.below hm.bel) hs1 hs2 hs3)
            ·
              intro vf pf hR
              have e0 : (vf 0) = .agg #[thR61.mv, thR61.lv, .int .i64 thR61.pad, .int .i64 thR61.ram] ∧ (pf 0) = [] := hR 0 (by decide)
              have e2 : (IsTc x.val) (vf 2) (pf 2) := hR 2 (by decide)
              obtain ⟨v68, v2⟩ : ∃ x, vf 2 = x := ⟨_, rfl⟩
              obtain ⟨p69, p2⟩ : ∃ x, pf 2 = x := ⟨_, rfl⟩
              have hR70 := e2
              rw [v2, p2] at hR70
              obtain ⟨thR70, rfl, rfl, ⟨c1thR70, c2thR70⟩, valthR70, n1thR70, n2thR70, n3thR70⟩ := hR70
              have bthR70 := And.intro n1thR70 (And.intro n2thR70 n3thR70)
              refine Or.inl ⟨rfl, ?_⟩
              refine rq_less (l' := [tcE thR70, rowE 3 1 uhR65 ((encV d x.val).length) ((encV d x.val).map (Value.int .i64)), boxE b62 #[thR61.mv, thR61.lv, .int .i64 thR61.pad, .int .i64 thR61.ram] 39, tcE thR61, tcE thR55, rowE 3 1 uhR58 ((encV d x.val).length) ((encV d x.val).map (Value.int .i64)), boxE b2 #[x.mv, x.lv, .int .i64 x.pad, .int .i64 x.ram] 50, boxE b1 #[.int .i64 d.W, .int .i64 d.H, .int .i64 d.T, .int .i64 d.R] 36]) (sub_cons (d := 47) (congrArg some e0.1) (sub_cons (d := 49) (congrArg some v2) (sub_nil _))) (by first | (simp only [p2, v2, e0.2, List.flatMap_cons, List.flatMap_nil, List.append_nil, List.nil_append, List.cons_append]; exact List.Sublist.refl _) | simp [p2, v2, e0.2]) ?_
              exact rq_mono (rq_call (by kernel_rfl) rfl (fun w hm => ret_ans (by have h := eqTileConfig_ans thR61 thR70 w (tc_rds 3 rfl bthR61.1 bthR61.2.1 bthR61.2.2 w hm) (tc_rds 0 rfl bthR70.1 bthR70.2.1 bthR70.2.2 w hm); rw [valthR61, valthR70] at h; exact h))) (fun _ _ h => ⟨h.1.trans (congrArg Value.bool hb71), h.2⟩)
            ·
              intro vf pf hR
              have e3 : (vf 3) = .bool true ∧ (pf 3) = [] := hR 3 (by decide)
              refine Or.inl ⟨rfl, ?_⟩
              refine rq_less (l' := [rowE 3 1 uhR65 ((encV d x.val).length) ((encV d x.val).map (Value.int .i64)), boxE b62 #[thR61.mv, thR61.lv, .int .i64 thR61.pad, .int .i64 thR61.ram] 39, tcE thR61, tcE thR55, rowE 3 1 uhR58 ((encV d x.val).length) ((encV d x.val).map (Value.int .i64)), boxE b2 #[x.mv, x.lv, .int .i64 x.pad, .int .i64 x.ram] 50, boxE b1 #[.int .i64 d.W, .int .i64 d.H, .int .i64 d.T, .int .i64 d.R] 36]) (sub_cons (d := 50) (congrArg some e3.1) (sub_nil _)) (List.sublist_append_right _ _) ?_
              exact rq_v (rv_ev rfl)
          ·
            intro vf pf hR
            have e2 : (IsTc x.val) (vf 2) (pf 2) := hR 2 (by decide)
            obtain ⟨v68, v2⟩ : ∃ x, vf 2 = x := ⟨_, rfl⟩
            obtain ⟨p69, p2⟩ : ∃ x, pf 2 = x := ⟨_, rfl⟩
            have hR70 := e2
            rw [v2, p2] at hR70
            obtain ⟨thR70, rfl, rfl, ⟨c1thR70, c2thR70⟩, valthR70, n1thR70, n2thR70, n3thR70⟩ := hR70
            have bthR70 := And.intro n1thR70 (And.intro n2thR70 n3thR70)
            have e4 : (vf 4) = .bool false ∧ (pf 4) = [] := hR 4 (by decide)
            have q0 : (vf 0) = .agg #[thR61.mv, thR61.lv, .int .i64 thR61.pad, .int .i64 thR61.ram] ∧ (pf 0) = [] := hR 0 (by decide)
            have q1 : (vf 1) = .agg #[x.mv, x.lv, .int .i64 x.pad, .int .i64 x.ram] ∧ (pf 1) = [] := hR 1 (by decide)
            have q3 : (vf 3) = .bool true ∧ (pf 3) = [] := hR 3 (by decide)
            have q4 : (vf 4) = .bool false ∧ (pf 4) = [] := hR 4 (by decide)
            refine hl_less (l' := [tcE thR70, rowE 3 1 uhR65 ((encV d x.val).length) ((encV d x.val).map (Value.int .i64)), boxE b62 #[thR61.mv, thR61.lv, .int .i64 thR61.pad, .int .i64 thR61.ram] 39, tcE thR61, tcE thR55, rowE 3 1 uhR58 ((encV d x.val).length) ((encV d x.val).map (Value.int .i64)), boxE b2 #[x.mv, x.lv, .int .i64 x.pad, .int .i64 x.ram] 50, boxE b1 #[.int .i64 d.W, .int .i64 d.H, .int .i64 d.T, .int .i64 d.R] 36]) (sub_cons (d := 0) rfl (sub_cons (d := 1) rfl (sub_cons (d := 2) rfl (sub_cons (d := 3) rfl (sub_cons (d := 4) rfl (sub_cons (d := 5) rfl (sub_cons (d := 6) rfl (sub_cons (d := 7) rfl (sub_cons (d := 8) rfl (sub_cons (d := 9) rfl (sub_cons (d := 10) rfl (sub_cons (d := 20) rfl (sub_cons (d := 46) rfl (sub_cons (d := 51) (congrArg some e4.1) (sub_nil _))))))))))))))) (by first | (simp only [p2, v2, q0.2, q1.2, q3.2, q4.2, List.flatMap_cons, List.flatMap_nil, List.append_nil, List.nil_append, List.cons_append]; exact List.Sublist.refl _) | simp [p2, v2, q0.2, q1.2, q3.2, q4.2]) ?_
            simp only [List.drop_succ_cons, List.drop_zero]
            refine hl_less (sub_cons (d := 0) rfl (sub_cons (d := 1) rfl (sub_cons (d := 2) rfl (sub_cons (d := 3) rfl (sub_cons (d := 4) rfl (sub_cons (d := 5) rfl (sub_cons (d := 6) rfl (sub_cons (d := 7) rfl (sub_cons (d := 8) rfl (sub_cons (d := 9) rfl (sub_cons (d := 10) rfl (sub_cons (d := 20) rfl (sub_cons (d := 46) rfl (sub_cons (d := 51) rfl (sub_nil _))))))))))))))) (.refl _) ?_
            refine hl_nil ?_
            refine hq_then ?_
            refine hc_false rfl ?_
            refine hc_skip ?_
            refine hq_then ?_
            refine hc_seq ?_
            refine hc_region ?_
            refine hl_v rfl rfl rfl (rv_ev rfl) ?_
            refine hl_less (sub_cons (d := 0) rfl (sub_cons (d := 1) rfl (sub_cons (d := 2) rfl (sub_cons (d := 3) rfl (sub_cons (d := 4) rfl (sub_cons (d := 5) rfl (sub_cons (d := 6) rfl (sub_cons (d := 7) rfl (sub_cons (d := 8) rfl (sub_cons (d := 9) rfl (sub_cons (d := 10) rfl (sub_cons (d := 11) rfl (sub_cons (d := 20) rfl (sub_cons (d := 46) rfl (sub_cons (d := 51) rfl (sub_nil _)))))))))))))))) (.refl _) ?_
            refine hl_nil ?_
            refine hq_then ?_
            refine hc_seq ?_
            refine hc_region ?_
            refine hl_v rfl rfl rfl (rv_loadN (cs := [thR61.mv, thR61.lv, .int .i64 thR61.pad, .int .i64 thR61.ram]) rfl (by kernel_rfl) (by kernel_rfl) rfl rfl (box_part 2 rfl 0 rfl)) ?_
            refine hl_v rfl rfl rfl (rv_ev rfl) ?_
            refine hl_callM (R := (fun u_ p_ => u_ = .int .i64 (sumT 1 thR61) ∧ p_ = tcE (markT 1 thR61))) 3 rfl rfl (by kernel_rfl) rfl rfl (fun l' w hm => markTileConfig_mut thR61 1 _ _ w hm (by omega) bthR61.1 bthR61.2.1 bthR61.2.2) ?_
            intro v72 p73 hR74
            obtain ⟨rfl, rfl⟩ := hR74
            have mthR61 := markT_bounds (k := 1) bthR61.1 bthR61.2.1 bthR61.2.2
            have sathR61 := sumT_again 1 thR61
            have srthR61 := sumT_rng bthR61.1 bthR61.2.2
            refine hl_eqL (l' := [tcE thR70, rowE 3 1 uhR65 ((encV d x.val).length) ((encV d x.val).map (Value.int .i64)), boxE b62 #[thR61.mv, thR61.lv, .int .i64 thR61.pad, .int .i64 thR61.ram] 39, tcE (markT 1 thR61), tcE thR55, rowE 3 1 uhR58 ((encV d x.val).length) ((encV d x.val).map (Value.int .i64)), boxE b2 #[x.mv, x.lv, .int .i64 x.pad, .int .i64 x.ram] 50, boxE b1 #[.int .i64 d.W, .int .i64 d.H, .int .i64 d.T, .int .i64 d.R] 36]) rfl ?_
            refine hl_v rfl rfl rfl (rv_ev rfl) ?_
            refine hl_less (sub_cons (d := 0) rfl (sub_cons (d := 1) rfl (sub_cons (d := 2) rfl (sub_cons (d := 3) rfl (sub_cons (d := 4) rfl (sub_cons (d := 5) rfl (sub_cons (d := 6) rfl (sub_cons (d := 7) rfl (sub_cons (d := 8) rfl (sub_cons (d := 9) rfl (sub_cons (d := 10) rfl (sub_cons (d := 11) rfl (sub_cons (d := 20) rfl (sub_cons (d := 46) rfl (sub_cons (d := 51) rfl (sub_nil _)))))))))))))))) (.refl _) ?_
            refine hl_nil ?_
            refine hq_then ?_
            refine hc_seq ?_
            refine hc_seq ?_
            refine hc_region ?_
            refine hl_v rfl rfl rfl (rv_ev rfl) ?_
            refine hl_lss rfl rfl rfl rfl rfl rfl (fun h75 => absurd h75 (by omega)) (fun h75 => ?_)
            refine hl_v rfl rfl rfl (rv_ev rfl) ?_
            refine hl_v rfl rfl rfl (rv_ev rfl) ?_
            refine hl_v rfl rfl rfl (rv_ev rfl) ?_
            refine hl_callV rfl rfl rfl (rq_call (by kernel_rfl) rfl (fun w hm => ret_ans (eqIntS_ans (encV d x.val) (encV d x.val) _ _ w ((rd_row 1 rfl) w hm) ((rd_row 5 rfl) w hm) (by omega)))) ?_
            refine hl_bool (fun h76 => ?_) (fun h76 => absurd (((decide_eq_true rfl)).symm.trans h76) (by decide))
            refine hl_v rfl rfl rfl (rv_ev rfl) ?_
            refine hl_v rfl rfl rfl (rv_ev rfl) ?_
            refine hl_v rfl rfl rfl (rv_ev rfl) ?_
            refine hl_v rfl rfl rfl (rv_ev rfl) ?_
            refine hl_v rfl rfl rfl (rv_ev rfl) ?_
            refine hl_v rfl rfl rfl (rv_bneq rfl Try.underlying4 rfl rfl) ?_
            refine hl_v rfl rfl rfl (rv_ev rfl) ?_
            refine hl_less (sub_cons (d := 0) rfl (sub_cons (d := 1) rfl (sub_cons (d := 2) rfl (sub_cons (d := 3) rfl (sub_cons (d := 4) rfl (sub_cons (d := 5) rfl (sub_cons (d := 6) rfl (sub_cons (d := 7) rfl (sub_cons (d := 8) rfl (sub_cons (d := 9) rfl (sub_cons (d := 10) rfl (sub_cons (d := 11) rfl (sub_cons (d := 20) rfl (sub_cons (d := 46) rfl (sub_cons (d := 51) rfl (sub_cons (d := 67) rfl (sub_nil _))))))))))))))))) (.refl _) ?_
            refine hl_nil ?_
            refine hq_then ?_
            refine hc_false rfl ?_
            refine hc_skip ?_
            refine hq_then ?_
            refine hc_seq ?_
            refine hc_region ?_
            refine hl_v rfl rfl rfl (rv_ev rfl) ?_
            refine hl_less (sub_cons (d := 0) rfl (sub_cons (d := 1) rfl (sub_cons (d := 2) rfl (sub_cons (d := 3) rfl (sub_cons (d := 4) rfl (sub_cons (d := 5) rfl (sub_cons (d := 6) rfl (sub_cons (d := 7) rfl (sub_cons (d := 8) rfl (sub_cons (d := 9) rfl (sub_cons (d := 10) rfl (sub_cons (d := 11) rfl (sub_cons (d := 12) rfl (sub_cons (d := 20) rfl (sub_cons (d := 46) rfl (sub_cons (d := 51) rfl (sub_cons (d := 67) rfl (sub_nil _)))))))))))))))))) (.refl _) ?_
            refine hl_nil ?_
            refine hq_then ?_
            refine hc_seq ?_
            refine hc_region ?_
            refine hl_v rfl rfl rfl (rv_ev rfl) ?_
            refine hl_v rfl rfl rfl (rv_ev rfl) ?_
            refine hl_callM (R := (fun u_ p_ => u_ = .int .i64 (1 + (encV d x.val).length) ∧ p_ = rowE 3 1 uhR65 (encV d x.val).length ((seqL 1 (encV d x.val).length).map (Value.int .i64)))) 1 rfl rfl (by kernel_rfl) rfl rfl (fun l' w hm => markIntS_mut (encV d x.val) 1 uhR65 _ _ w hm (by omega) (by omega)) ?_
            intro v77 p78 hR79
            obtain ⟨rfl, rfl⟩ := hR79
            refine hl_eqL (l' := [tcE thR70, rowE 3 1 uhR65 ((encV d x.val).length) ((seqL 1 (encV d x.val).length).map (Value.int .i64)), boxE b62 #[thR61.mv, thR61.lv, .int .i64 thR61.pad, .int .i64 thR61.ram] 39, tcE (markT 1 thR61), tcE thR55, rowE 3 1 uhR58 ((encV d x.val).length) ((encV d x.val).map (Value.int .i64)), boxE b2 #[x.mv, x.lv, .int .i64 x.pad, .int .i64 x.ram] 50, boxE b1 #[.int .i64 d.W, .int .i64 d.H, .int .i64 d.T, .int .i64 d.R] 36]) rfl ?_
            refine hl_v rfl rfl rfl (rv_ev rfl) ?_
            refine hl_less (sub_cons (d := 0) rfl (sub_cons (d := 1) rfl (sub_cons (d := 2) rfl (sub_cons (d := 3) rfl (sub_cons (d := 4) rfl (sub_cons (d := 5) rfl (sub_cons (d := 6) rfl (sub_cons (d := 7) rfl (sub_cons (d := 8) rfl (sub_cons (d := 9) rfl (sub_cons (d := 10) rfl (sub_cons (d := 11) rfl (sub_cons (d := 12) rfl (sub_cons (d := 20) rfl (sub_cons (d := 46) rfl (sub_cons (d := 51) rfl (sub_cons (d := 67) rfl (sub_nil _)))))))))))))))))) (.refl _) ?_
            refine hl_nil ?_
            refine hq_then ?_
            refine hc_seq ?_
            refine hc_region ?_
            refine hl_v rfl rfl rfl (rv_ev rfl) ?_
            refine hl_less (sub_cons (d := 0) rfl (sub_cons (d := 1) rfl (sub_cons (d := 2) rfl (sub_cons (d := 3) rfl (sub_cons (d := 4) rfl (sub_cons (d := 5) rfl (sub_cons (d := 6) rfl (sub_cons (d := 7) rfl (sub_cons (d := 8) rfl (sub_cons (d := 9) rfl (sub_cons (d := 10) rfl (sub_cons (d := 11) rfl (sub_cons (d := 12) rfl (sub_cons (d := 13) rfl (sub_cons (d := 20) rfl (sub_cons (d := 46) rfl (sub_cons (d := 51) rfl (sub_cons (d := 67) rfl (sub_nil _))))))))))))))))))) (.refl _) ?_
            refine hl_nil ?_
            refine hq_then ?_
            refine hc_seq ?_
            refine hc_region ?_
            refine hl_v rfl rfl rfl (rv_ev rfl) ?_
            refine hl_v rfl rfl rfl (rv_ev rfl) ?_
            refine hl_callV rfl rfl rfl (rq_call (by kernel_rfl) rfl (fun w hm => ret_ans (heldIntS_ans (encV d x.val).length 1 _ w (rdsW_own (hm.holds _ (mem_at (i := 1) rfl))) (by omega) (by omega)))) ?_
            refine hl_v rfl rfl rfl (rv_ev rfl) ?_
            refine hl_less (sub_cons (d := 0) rfl (sub_cons (d := 1) rfl (sub_cons (d := 2) rfl (sub_cons (d := 3) rfl (sub_cons (d := 4) rfl (sub_cons (d := 5) rfl (sub_cons (d := 6) rfl (sub_cons (d := 7) rfl (sub_cons (d := 8) rfl (sub_cons (d := 9) rfl (sub_cons (d := 10) rfl (sub_cons (d := 11) rfl (sub_cons (d := 12) rfl (sub_cons (d := 13) rfl (sub_cons (d := 20) rfl (sub_cons (d := 46) rfl (sub_cons (d := 51) rfl (sub_cons (d := 67) rfl (sub_nil _))))))))))))))))))) (.refl _) ?_
            refine hl_nil ?_
            refine hq_then ?_
            refine hc_seq ?_
            refine hc_seq ?_
            refine hc_region ?_
            refine hl_v rfl rfl rfl (rv_ev rfl) ?_
            refine hl_lss rfl rfl rfl rfl rfl rfl (fun h80 => absurd h80 (by omega)) (fun h80 => ?_)
            refine hl_less (sub_cons (d := 0) rfl (sub_cons (d := 1) rfl (sub_cons (d := 2) rfl (sub_cons (d := 3) rfl (sub_cons (d := 4) rfl (sub_cons (d := 5) rfl (sub_cons (d := 6) rfl (sub_cons (d := 7) rfl (sub_cons (d := 8) rfl (sub_cons (d := 9) rfl (sub_cons (d := 10) rfl (sub_cons (d := 11) rfl (sub_cons (d := 12) rfl (sub_cons (d := 13) rfl (sub_cons (d := 20) rfl (sub_cons (d := 46) rfl (sub_cons (d := 51) rfl (sub_cons (d := 67) rfl (sub_cons (d := 75) rfl (sub_nil _)))))))))))))))))))) (.refl _) ?_
            refine hl_nil ?_
            refine hq_then ?_
            refine hc_false rfl ?_
            refine hc_skip ?_
            refine hq_then ?_
            refine hc_seq ?_
            refine hc_seq ?_
            refine hc_region ?_
            refine hl_v rfl rfl rfl (rv_ev rfl) ?_
            refine hl_v rfl rfl rfl (rv_ev rfl) ?_
            refine hl_neq rfl rfl rfl rfl rfl rfl (fun h81 => absurd h81 (by omega)) (fun h81 => ?_)
            refine hl_less (sub_cons (d := 0) rfl (sub_cons (d := 1) rfl (sub_cons (d := 2) rfl (sub_cons (d := 3) rfl (sub_cons (d := 4) rfl (sub_cons (d := 5) rfl (sub_cons (d := 6) rfl (sub_cons (d := 7) rfl (sub_cons (d := 8) rfl (sub_cons (d := 9) rfl (sub_cons (d := 10) rfl (sub_cons (d := 11) rfl (sub_cons (d := 12) rfl (sub_cons (d := 13) rfl (sub_cons (d := 20) rfl (sub_cons (d := 46) rfl (sub_cons (d := 51) rfl (sub_cons (d := 67) rfl (sub_cons (d := 75) rfl (sub_cons (d := 78) rfl (sub_nil _))))))))))))))))))))) (.refl _) ?_
            refine hl_nil ?_
            refine hq_then ?_
            refine hc_false rfl ?_
            refine hc_skip ?_
            refine hq_then ?_
            refine hc_seq ?_
            have hb88 : (tcOkV d x.val) = false := hb13
            refine hc_draw (by kernel_rfl) 9 [0, 1, 2, 3, 4, 5, 6, 7, 8] (List.take 9 _) (List.drop 9 _) [[], [0], [], [2], [1, 3], [4], [4, 5], [4, 5], [4, 6]] [80, 81, 82, 83, 84, 79, 85, 86, 14] (fun i vs_ v_ p_ => match i with | 0 => v_ = .agg #[.int .i64 d.W, .int .i64 d.H, .int .i64 d.T, .int .i64 d.R] ∧ p_ = [] | 1 => v_ = .agg #[.int .i64 d.W, .int .i64 d.H, .int .i64 d.T, .int .i64 d.R] ∧ p_ = [] | 2 => v_ = .agg #[x.mv, x.lv, .int .i64 x.pad, .int .i64 x.ram] ∧ p_ = [] | 3 => (IsTc x.val) v_ p_ | 4 => (IsEnc d x.val) v_ p_ | 5 => v_ = .tuple #[(tupAt (List.getD vs_ 0 undef) 0), .bool (tcOkV d x.val)] ∧ p_ = [] | 6 => v_ = (tupAt (List.getD vs_ 0 undef) 0) ∧ p_ = [] | 7 => v_ = .bool false ∧ p_ = [] | 8 => v_ = (tupAt (List.getD vs_ 0 undef) 0) ∧ p_ = [] | _ => True) (List.take_append_drop 9 _).symm (by kernel_rfl) (by kernel_rfl) rfl rfl ?_ ?_
            ·
              refine ⟨?_, ?_, ?_, ?_, ?_, ?_, ?_, ?_, ?_, trivial⟩
              ·
                intro vf pf hR
                refine Or.inl ⟨rfl, ?_⟩
                refine rq_less (l' := [tcE thR70, rowE 3 1 uhR65 ((encV d x.val).length) ((seqL 1 (encV d x.val).length).map (Value.int .i64)), boxE b62 #[thR61.mv, thR61.lv, .int .i64 thR61.pad, .int .i64 thR61.ram] 39, tcE (markT 1 thR61), tcE thR55, rowE 3 1 uhR58 ((encV d x.val).length) ((encV d x.val).map (Value.int .i64)), boxE b2 #[x.mv, x.lv, .int .i64 x.pad, .int .i64 x.ram] 50, boxE b1 #[.int .i64 d.W, .int .i64 d.H, .int .i64 d.T, .int .i64 d.R] 36]) (sub_cons (d := 2) rfl (sub_nil _)) (List.sublist_append_right _ _) ?_
                exact rq_v (rv_loadN (cs := [.int .i64 d.W, .int .i64 d.H, .int .i64 d.T, .int .i64 d.R]) rfl (by kernel_rfl) (by kernel_rfl) rfl rfl (box_part 7 rfl 0 rfl))
              ·
                intro vf pf hR
                have e0 : (vf 0) = .agg #[.int .i64 d.W, .int .i64 d.H, .int .i64 d.T, .int .i64 d.R] ∧ (pf 0) = [] := hR 0 (by decide)
                refine Or.inl ⟨rfl, ?_⟩
                refine rq_less (l' := [tcE thR70, rowE 3 1 uhR65 ((encV d x.val).length) ((seqL 1 (encV d x.val).length).map (Value.int .i64)), boxE b62 #[thR61.mv, thR61.lv, .int .i64 thR61.pad, .int .i64 thR61.ram] 39, tcE (markT 1 thR61), tcE thR55, rowE 3 1 uhR58 ((encV d x.val).length) ((encV d x.val).map (Value.int .i64)), boxE b2 #[x.mv, x.lv, .int .i64 x.pad, .int .i64 x.ram] 50, boxE b1 #[.int .i64 d.W, .int .i64 d.H, .int .i64 d.T, .int .i64 d.R] 36]) (sub_cons (d := 80) (congrArg some e0.1) (sub_nil _)) (List.sublist_append_right _ _) ?_
                exact (rq_call (by kernel_rfl) rfl (fun w hm => ret_ans (toDevice_any d w)))
              ·
                intro vf pf hR
                refine Or.inl ⟨rfl, ?_⟩
                refine rq_less (l' := [tcE thR70, rowE 3 1 uhR65 ((encV d x.val).length) ((seqL 1 (encV d x.val).length).map (Value.int .i64)), boxE b62 #[thR61.mv, thR61.lv, .int .i64 thR61.pad, .int .i64 thR61.ram] 39, tcE (markT 1 thR61), tcE thR55, rowE 3 1 uhR58 ((encV d x.val).length) ((encV d x.val).map (Value.int .i64)), boxE b2 #[x.mv, x.lv, .int .i64 x.pad, .int .i64 x.ram] 50, boxE b1 #[.int .i64 d.W, .int .i64 d.H, .int .i64 d.T, .int .i64 d.R] 36]) (sub_cons (d := 3) rfl (sub_nil _)) (List.sublist_append_right _ _) ?_
                exact rq_v (rv_loadN (cs := [x.mv, x.lv, .int .i64 x.pad, .int .i64 x.ram]) rfl (by kernel_rfl) (by kernel_rfl) rfl rfl (box_part 6 rfl 0 rfl))
              ·
                intro vf pf hR
                have e2 : (vf 2) = .agg #[x.mv, x.lv, .int .i64 x.pad, .int .i64 x.ram] ∧ (pf 2) = [] := hR 2 (by decide)
                refine Or.inl ⟨rfl, ?_⟩
                refine rq_less (l' := [tcE thR70, rowE 3 1 uhR65 ((encV d x.val).length) ((seqL 1 (encV d x.val).length).map (Value.int .i64)), boxE b62 #[thR61.mv, thR61.lv, .int .i64 thR61.pad, .int .i64 thR61.ram] 39, tcE (markT 1 thR61), tcE thR55, rowE 3 1 uhR58 ((encV d x.val).length) ((encV d x.val).map (Value.int .i64)), boxE b2 #[x.mv, x.lv, .int .i64 x.pad, .int .i64 x.ram] 50, boxE b1 #[.int .i64 d.W, .int .i64 d.H, .int .i64 d.T, .int .i64 d.R] 36]) (sub_cons (d := 82) (congrArg some e2.1) (sub_nil _)) (List.sublist_append_right _ _) ?_
                exact rq_call (by kernel_rfl) rfl (fun w hm => toTileConfig_ret x w (hx.below hm.bel) hs1 hs2 hs3)
              ·
                intro vf pf hR
                have e1 : (vf 1) = .agg #[.int .i64 d.W, .int .i64 d.H, .int .i64 d.T, .int .i64 d.R] ∧ (pf 1) = [] := hR 1 (by decide)
                have e3 : (IsTc x.val) (vf 3) (pf 3) := hR 3 (by decide)
                obtain ⟨v82, v3⟩ : ∃ x, vf 3 = x := ⟨_, rfl⟩
                obtain ⟨p83, p3⟩ : ∃ x, pf 3 = x := ⟨_, rfl⟩
                have hR84 := e3
                rw [v3, p3] at hR84
                obtain ⟨thR84, rfl, rfl, ⟨c1thR84, c2thR84⟩, valthR84, n1thR84, n2thR84, n3thR84⟩ := hR84
                have bthR84 := And.intro n1thR84 (And.intro n2thR84 n3thR84)
                refine Or.inl ⟨rfl, ?_⟩
                refine rq_less (l' := [tcE thR84, tcE thR70, rowE 3 1 uhR65 ((encV d x.val).length) ((seqL 1 (encV d x.val).length).map (Value.int .i64)), boxE b62 #[thR61.mv, thR61.lv, .int .i64 thR61.pad, .int .i64 thR61.ram] 39, tcE (markT 1 thR61), tcE thR55, rowE 3 1 uhR58 ((encV d x.val).length) ((encV d x.val).map (Value.int .i64)), boxE b2 #[x.mv, x.lv, .int .i64 x.pad, .int .i64 x.ram] 50, boxE b1 #[.int .i64 d.W, .int .i64 d.H, .int .i64 d.T, .int .i64 d.R] 36]) (sub_cons (d := 81) (congrArg some e1.1) (sub_cons (d := 83) (congrArg some v3) (sub_nil _))) (by first | (simp only [p3, v3, e1.2, List.flatMap_cons, List.flatMap_nil, List.append_nil, List.nil_append, List.cons_append]; exact List.Sublist.refl _) | simp [p3, v3, e1.2]) ?_
                exact rq_call (by kernel_rfl) rfl (fun w hm => by have h := implEncodeTile_ret d thR84 w (tc_rds 0 rfl bthR84.1 bthR84.2.1 bthR84.2.2 w hm); rw [valthR84] at h; exact h)
              ·
                intro vf pf hR
                have e4 : (IsEnc d x.val) (vf 4) (pf 4) := hR 4 (by decide)
                obtain ⟨v85, v4⟩ : ∃ x, vf 4 = x := ⟨_, rfl⟩
                obtain ⟨p86, p4⟩ : ∃ x, pf 4 = x := ⟨_, rfl⟩
                have hR87 := e4
                rw [v4, p4] at hR87
                obtain ⟨uhR87, rfl, rfl⟩ := hR87
                refine Or.inl ⟨rfl, ?_⟩
                refine rq_less (l' := [rowE 3 1 uhR87 ((encV d x.val).length) ((encV d x.val).map (Value.int .i64)), tcE thR70, rowE 3 1 uhR65 ((encV d x.val).length) ((seqL 1 (encV d x.val).length).map (Value.int .i64)), boxE b62 #[thR61.mv, thR61.lv, .int .i64 thR61.pad, .int .i64 thR61.ram] 39, tcE (markT 1 thR61), tcE thR55, rowE 3 1 uhR58 ((encV d x.val).length) ((encV d x.val).map (Value.int .i64)), boxE b2 #[x.mv, x.lv, .int .i64 x.pad, .int .i64 x.ram] 50, boxE b1 #[.int .i64 d.W, .int .i64 d.H, .int .i64 d.T, .int .i64 d.R] 36]) (sub_cons (d := 84) (congrArg some v4) (sub_nil _)) (by first | (simp only [p4, v4, List.flatMap_cons, List.flatMap_nil, List.append_nil, List.nil_append, List.cons_append]; exact List.Sublist.refl _) | simp [p4, v4]) ?_
                exact rq_mono (rq_v (rv_ev rfl)) (fun _ _ h => ⟨h.1.trans (by show _ = (.tuple #[(tupAt (vf 4) 0), .bool (tcOkV d x.val)] : Value); first | (rw [v4]; done) | (rw [v4]; rfl)), h.2⟩)
              ·
                intro vf pf hR
                have e4 : (IsEnc d x.val) (vf 4) (pf 4) := hR 4 (by decide)
                obtain ⟨v85, v4⟩ : ∃ x, vf 4 = x := ⟨_, rfl⟩
                obtain ⟨p86, p4⟩ : ∃ x, pf 4 = x := ⟨_, rfl⟩
                have hR87 := e4
                rw [v4, p4] at hR87
                obtain ⟨uhR87, rfl, rfl⟩ := hR87
                have e5 : (vf 5) = .tuple #[(tupAt (vf 4) 0), .bool (tcOkV d x.val)] ∧ (pf 5) = [] := hR 5 (by decide)
                rw [v4] at e5
                refine Or.inl ⟨rfl, ?_⟩
                refine rq_less (l' := [rowE 3 1 uhR87 ((encV d x.val).length) ((encV d x.val).map (Value.int .i64)), tcE thR70, rowE 3 1 uhR65 ((encV d x.val).length) ((seqL 1 (encV d x.val).length).map (Value.int .i64)), boxE b62 #[thR61.mv, thR61.lv, .int .i64 thR61.pad, .int .i64 thR61.ram] 39, tcE (markT 1 thR61), tcE thR55, rowE 3 1 uhR58 ((encV d x.val).length) ((encV d x.val).map (Value.int .i64)), boxE b2 #[x.mv, x.lv, .int .i64 x.pad, .int .i64 x.ram] 50, boxE b1 #[.int .i64 d.W, .int .i64 d.H, .int .i64 d.T, .int .i64 d.R] 36]) (sub_cons (d := 79) (congrArg some e5.1) (sub_nil _)) (by first | (simp only [p4, v4, e5.2, List.flatMap_cons, List.flatMap_nil, List.append_nil, List.nil_append, List.cons_append]; exact List.Sublist.refl _) | simp [p4, v4, e5.2]) ?_
                exact rq_mono (rq_v (rv_ev rfl)) (fun _ _ h => ⟨h.1.trans (by show _ = ((tupAt (vf 4) 0) : Value); first | (rw [v4]; done) | (rw [v4]; rfl)), h.2⟩)
              ·
                intro vf pf hR
                have e4 : (IsEnc d x.val) (vf 4) (pf 4) := hR 4 (by decide)
                obtain ⟨v85, v4⟩ : ∃ x, vf 4 = x := ⟨_, rfl⟩
                obtain ⟨p86, p4⟩ : ∃ x, pf 4 = x := ⟨_, rfl⟩
                have hR87 := e4
                rw [v4, p4] at hR87
                obtain ⟨uhR87, rfl, rfl⟩ := hR87
                have e5 : (vf 5) = .tuple #[(tupAt (vf 4) 0), .bool (tcOkV d x.val)] ∧ (pf 5) = [] := hR 5 (by decide)
                rw [v4] at e5
                refine Or.inl ⟨rfl, ?_⟩
                refine rq_less (l' := [rowE 3 1 uhR87 ((encV d x.val).length) ((encV d x.val).map (Value.int .i64)), tcE thR70, rowE 3 1 uhR65 ((encV d x.val).length) ((seqL 1 (encV d x.val).length).map (Value.int .i64)), boxE b62 #[thR61.mv, thR61.lv, .int .i64 thR61.pad, .int .i64 thR61.ram] 39, tcE (markT 1 thR61), tcE thR55, rowE 3 1 uhR58 ((encV d x.val).length) ((encV d x.val).map (Value.int .i64)), boxE b2 #[x.mv, x.lv, .int .i64 x.pad, .int .i64 x.ram] 50, boxE b1 #[.int .i64 d.W, .int .i64 d.H, .int .i64 d.T, .int .i64 d.R] 36]) (sub_cons (d := 79) (congrArg some e5.1) (sub_nil _)) (by first | (simp only [p4, v4, e5.2, List.flatMap_cons, List.flatMap_nil, List.append_nil, List.nil_append, List.cons_append]; exact List.Sublist.refl _) | simp [p4, v4, e5.2]) ?_
                exact rq_mono (rq_v (rv_ev rfl)) (fun _ _ h => ⟨h.1.trans (congrArg Value.bool hb88), h.2⟩)
              ·
                intro vf pf hR
                have e4 : (IsEnc d x.val) (vf 4) (pf 4) := hR 4 (by decide)
                obtain ⟨v85, v4⟩ : ∃ x, vf 4 = x := ⟨_, rfl⟩
                obtain ⟨p86, p4⟩ : ∃ x, pf 4 = x := ⟨_, rfl⟩
                have hR87 := e4
                rw [v4, p4] at hR87
                obtain ⟨uhR87, rfl, rfl⟩ := hR87
                have e6 : (vf 6) = (tupAt (vf 4) 0) ∧ (pf 6) = [] := hR 6 (by decide)
                rw [v4] at e6
                refine Or.inl ⟨rfl, ?_⟩
                refine rq_less (l' := [rowE 3 1 uhR87 ((encV d x.val).length) ((encV d x.val).map (Value.int .i64)), tcE thR70, rowE 3 1 uhR65 ((encV d x.val).length) ((seqL 1 (encV d x.val).length).map (Value.int .i64)), boxE b62 #[thR61.mv, thR61.lv, .int .i64 thR61.pad, .int .i64 thR61.ram] 39, tcE (markT 1 thR61), tcE thR55, rowE 3 1 uhR58 ((encV d x.val).length) ((encV d x.val).map (Value.int .i64)), boxE b2 #[x.mv, x.lv, .int .i64 x.pad, .int .i64 x.ram] 50, boxE b1 #[.int .i64 d.W, .int .i64 d.H, .int .i64 d.T, .int .i64 d.R] 36]) (sub_cons (d := 85) (congrArg some e6.1) (sub_nil _)) (by first | (simp only [p4, v4, e6.2, List.flatMap_cons, List.flatMap_nil, List.append_nil, List.nil_append, List.cons_append]; exact List.Sublist.refl _) | simp [p4, v4, e6.2]) ?_
                exact rq_mono (rq_v (rv_ev rfl)) (fun _ _ h => ⟨h.1.trans (by show _ = ((tupAt (vf 4) 0) : Value); first | (rw [v4]; done) | (rw [v4]; rfl)), h.2⟩)
            ·
              intro vf pf hR
              have e3 : (IsTc x.val) (vf 3) (pf 3) := hR 3 (by decide)
              obtain ⟨v82, v3⟩ : ∃ x, vf 3 = x := ⟨_, rfl⟩
              obtain ⟨p83, p3⟩ : ∃ x, pf 3 = x := ⟨_, rfl⟩
              have hR84 := e3
              rw [v3, p3] at hR84
              obtain ⟨thR84, rfl, rfl, ⟨c1thR84, c2thR84⟩, valthR84, n1thR84, n2thR84, n3thR84⟩ := hR84
              have bthR84 := And.intro n1thR84 (And.intro n2thR84 n3thR84)
              have e4 : (IsEnc d x.val) (vf 4) (pf 4) := hR 4 (by decide)
              obtain ⟨v85, v4⟩ : ∃ x, vf 4 = x := ⟨_, rfl⟩
              obtain ⟨p86, p4⟩ : ∃ x, pf 4 = x := ⟨_, rfl⟩
              have hR87 := e4
              rw [v4, p4] at hR87
              obtain ⟨uhR87, rfl, rfl⟩ := hR87
              have e7 : (vf 7) = .bool false ∧ (pf 7) = [] := hR 7 (by decide)
              have e8 : (vf 8) = (tupAt (vf 4) 0) ∧ (pf 8) = [] := hR 8 (by decide)
              rw [v4] at e8
              have q0 : (vf 0) = .agg #[.int .i64 d.W, .int .i64 d.H, .int .i64 d.T, .int .i64 d.R] ∧ (pf 0) = [] := hR 0 (by decide)
              have q1 : (vf 1) = .agg #[.int .i64 d.W, .int .i64 d.H, .int .i64 d.T, .int .i64 d.R] ∧ (pf 1) = [] := hR 1 (by decide)
              have q2 : (vf 2) = .agg #[x.mv, x.lv, .int .i64 x.pad, .int .i64 x.ram] ∧ (pf 2) = [] := hR 2 (by decide)
              have q5 : (vf 5) = .tuple #[(tupAt (vf 4) 0), .bool (tcOkV d x.val)] ∧ (pf 5) = [] := hR 5 (by decide)
              have q6 : (vf 6) = (tupAt (vf 4) 0) ∧ (pf 6) = [] := hR 6 (by decide)
              have q7 : (vf 7) = .bool false ∧ (pf 7) = [] := hR 7 (by decide)
              have q8 : (vf 8) = (tupAt (vf 4) 0) ∧ (pf 8) = [] := hR 8 (by decide)
              refine hl_less (l' := [tcE thR84, rowE 3 1 uhR87 ((encV d x.val).length) ((encV d x.val).map (Value.int .i64)), tcE thR70, rowE 3 1 uhR65 ((encV d x.val).length) ((seqL 1 (encV d x.val).length).map (Value.int .i64)), boxE b62 #[thR61.mv, thR61.lv, .int .i64 thR61.pad, .int .i64 thR61.ram] 39, tcE (markT 1 thR61), tcE thR55, rowE 3 1 uhR58 ((encV d x.val).length) ((encV d x.val).map (Value.int .i64)), boxE b2 #[x.mv, x.lv, .int .i64 x.pad, .int .i64 x.ram] 50, boxE b1 #[.int .i64 d.W, .int .i64 d.H, .int .i64 d.T, .int .i64 d.R] 36]) (sub_cons (d := 0) rfl (sub_cons (d := 1) rfl (sub_cons (d := 2) rfl (sub_cons (d := 3) rfl (sub_cons (d := 4) rfl (sub_cons (d := 5) rfl (sub_cons (d := 6) rfl (sub_cons (d := 7) rfl (sub_cons (d := 8) rfl (sub_cons (d := 9) rfl (sub_cons (d := 10) rfl (sub_cons (d := 11) rfl (sub_cons (d := 12) rfl (sub_cons (d := 13) rfl (sub_cons (d := 14) (congrArg some e8.1) (sub_cons (d := 20) rfl (sub_cons (d := 46) rfl (sub_cons (d := 51) rfl (sub_cons (d := 67) rfl (sub_cons (d := 75) rfl (sub_cons (d := 78) rfl (sub_cons (d := 86) (congrArg some e7.1) (sub_nil _))))))))))))))))))))))) (by first | (simp only [p3, v3, p4, v4, q0.2, q1.2, q2.2, q5.2, q6.2, q7.2, q8.2, List.flatMap_cons, List.flatMap_nil, List.append_nil, List.nil_append, List.cons_append]; exact List.Sublist.refl _) | simp [p3, v3, p4, v4, q0.2, q1.2, q2.2, q5.2, q6.2, q7.2, q8.2]) ?_
              simp only [List.drop_succ_cons, List.drop_zero]
              refine hl_v rfl rfl rfl (rv_ev rfl) ?_
              refine hl_less (sub_cons (d := 0) rfl (sub_cons (d := 1) rfl (sub_cons (d := 2) rfl (sub_cons (d := 3) rfl (sub_cons (d := 4) rfl (sub_cons (d := 5) rfl (sub_cons (d := 6) rfl (sub_cons (d := 7) rfl (sub_cons (d := 8) rfl (sub_cons (d := 9) rfl (sub_cons (d := 10) rfl (sub_cons (d := 11) rfl (sub_cons (d := 12) rfl (sub_cons (d := 13) rfl (sub_cons (d := 14) rfl (sub_cons (d := 15) rfl (sub_cons (d := 20) rfl (sub_cons (d := 46) rfl (sub_cons (d := 51) rfl (sub_cons (d := 67) rfl (sub_cons (d := 75) rfl (sub_cons (d := 78) rfl (sub_nil _))))))))))))))))))))))) (.refl _) ?_
              refine hl_nil ?_
              refine hq_then ?_
              refine hc_seq ?_
              refine hc_seq ?_
              refine hc_region ?_
              refine hl_v rfl rfl rfl (rv_ev rfl) ?_
              refine hl_v rfl rfl rfl (rv_ev rfl) ?_
              refine hl_callV rfl rfl rfl (rq_call (by kernel_rfl) rfl (fun w hm => ret_ans (eqIntS_ans (encV d x.val) (encV d x.val) _ _ w ((rd_row 1 rfl) w hm) ((rd_row 7 rfl) w hm) (by omega)))) ?_
              refine hl_bool (fun h89 => ?_) (fun h89 => absurd (((decide_eq_true rfl)).symm.trans h89) (by decide))
              refine hl_v rfl rfl rfl (rv_ev rfl) ?_
              refine hl_v rfl rfl rfl (rv_ev rfl) ?_
              refine hl_v rfl rfl rfl (rv_ev rfl) ?_
              refine hl_v rfl rfl rfl (rv_ev rfl) ?_
              refine hl_v rfl rfl rfl (rv_bneq rfl Try.underlying4 rfl rfl) ?_
              refine hl_v rfl rfl rfl (rv_ev rfl) ?_
              refine hl_less (sub_cons (d := 0) rfl (sub_cons (d := 1) rfl (sub_cons (d := 2) rfl (sub_cons (d := 3) rfl (sub_cons (d := 4) rfl (sub_cons (d := 5) rfl (sub_cons (d := 6) rfl (sub_cons (d := 7) rfl (sub_cons (d := 8) rfl (sub_cons (d := 9) rfl (sub_cons (d := 10) rfl (sub_cons (d := 11) rfl (sub_cons (d := 12) rfl (sub_cons (d := 13) rfl (sub_cons (d := 14) rfl (sub_cons (d := 15) rfl (sub_cons (d := 20) rfl (sub_cons (d := 46) rfl (sub_cons (d := 51) rfl (sub_cons (d := 67) rfl (sub_cons (d := 75) rfl (sub_cons (d := 78) rfl (sub_cons (d := 95) rfl (sub_nil _)))))))))))))))))))))))) (.refl _) ?_
              refine hl_nil ?_
              refine hq_then ?_
              refine hc_false rfl ?_
              refine hc_skip ?_
              refine hq_then ?_
              refine hc_seq ?_
              refine hc_region ?_
              refine hl_v rfl rfl rfl (rv_ev rfl) ?_
              refine hl_less (sub_cons (d := 0) rfl (sub_cons (d := 1) rfl (sub_cons (d := 2) rfl (sub_cons (d := 3) rfl (sub_cons (d := 4) rfl (sub_cons (d := 5) rfl (sub_cons (d := 6) rfl (sub_cons (d := 7) rfl (sub_cons (d := 8) rfl (sub_cons (d := 9) rfl (sub_cons (d := 10) rfl (sub_cons (d := 11) rfl (sub_cons (d := 12) rfl (sub_cons (d := 13) rfl (sub_cons (d := 14) rfl (sub_cons (d := 15) rfl (sub_cons (d := 20) rfl (sub_cons (d := 46) rfl (sub_cons (d := 51) rfl (sub_cons (d := 67) rfl (sub_cons (d := 75) rfl (sub_cons (d := 78) rfl (sub_cons (d := 95) rfl (sub_nil _)))))))))))))))))))))))) (.refl _) ?_
              refine hl_nil ?_
              refine hq_then ?_
              refine hc_seq ?_
              refine hc_region ?_
              refine hl_v rfl rfl rfl (rv_ev rfl) ?_
              refine hl_v rfl rfl rfl (rv_ev rfl) ?_
              refine hl_callV rfl rfl rfl (rq_call (by kernel_rfl) rfl (fun w hm => ret_ans (heldIntS_ans (encV d x.val).length 1 _ w (rdsW_own (hm.holds _ (mem_at (i := 3) rfl))) (by omega) (by omega)))) ?_
              refine hl_v rfl rfl rfl (rv_ev rfl) ?_
              refine hl_less (sub_cons (d := 0) rfl (sub_cons (d := 1) rfl (sub_cons (d := 2) rfl (sub_cons (d := 3) rfl (sub_cons (d := 4) rfl (sub_cons (d := 5) rfl (sub_cons (d := 6) rfl (sub_cons (d := 7) rfl (sub_cons (d := 8) rfl (sub_cons (d := 9) rfl (sub_cons (d := 10) rfl (sub_cons (d := 11) rfl (sub_cons (d := 12) rfl (sub_cons (d := 13) rfl (sub_cons (d := 14) rfl (sub_cons (d := 15) rfl (sub_cons (d := 20) rfl (sub_cons (d := 46) rfl (sub_cons (d := 51) rfl (sub_cons (d := 67) rfl (sub_cons (d := 75) rfl (sub_cons (d := 78) rfl (sub_cons (d := 95) rfl (sub_nil _)))))))))))))))))))))))) (.refl _) ?_
              refine hl_nil ?_
              refine hq_then ?_
              refine hc_seq ?_
              refine hc_seq ?_
              refine hc_region ?_
              refine hl_v rfl rfl rfl (rv_ev rfl) ?_
              refine hl_lss rfl rfl rfl rfl rfl rfl (fun h90 => absurd h90 (by omega)) (fun h90 => ?_)
              refine hl_less (sub_cons (d := 0) rfl (sub_cons (d := 1) rfl (sub_cons (d := 2) rfl (sub_cons (d := 3) rfl (sub_cons (d := 4) rfl (sub_cons (d := 5) rfl (sub_cons (d := 6) rfl (sub_cons (d := 7) rfl (sub_cons (d := 8) rfl (sub_cons (d := 9) rfl (sub_cons (d := 10) rfl (sub_cons (d := 11) rfl (sub_cons (d := 12) rfl (sub_cons (d := 13) rfl (sub_cons (d := 14) rfl (sub_cons (d := 15) rfl (sub_cons (d := 20) rfl (sub_cons (d := 46) rfl (sub_cons (d := 51) rfl (sub_cons (d := 67) rfl (sub_cons (d := 75) rfl (sub_cons (d := 78) rfl (sub_cons (d := 95) rfl (sub_cons (d := 100) rfl (sub_nil _))))))))))))))))))))))))) (.refl _) ?_
              refine hl_nil ?_
              refine hq_then ?_
              refine hc_false rfl ?_
              refine hc_skip ?_
              refine hq_then ?_
              refine hc_seq ?_
              refine hc_seq ?_
              refine hc_region ?_
              refine hl_v rfl rfl rfl (rv_ev rfl) ?_
              refine hl_v rfl rfl rfl (rv_ev rfl) ?_
              refine hl_neq rfl rfl rfl rfl rfl rfl (fun h91 => absurd h91 (by omega)) (fun h91 => ?_)
              refine hl_less (sub_cons (d := 0) rfl (sub_cons (d := 1) rfl (sub_cons (d := 2) rfl (sub_cons (d := 3) rfl (sub_cons (d := 4) rfl (sub_cons (d := 5) rfl (sub_cons (d := 6) rfl (sub_cons (d := 7) rfl (sub_cons (d := 8) rfl (sub_cons (d := 9) rfl (sub_cons (d := 10) rfl (sub_cons (d := 11) rfl (sub_cons (d := 12) rfl (sub_cons (d := 13) rfl (sub_cons (d := 14) rfl (sub_cons (d := 15) rfl (sub_cons (d := 20) rfl (sub_cons (d := 46) rfl (sub_cons (d := 51) rfl (sub_cons (d := 67) rfl (sub_cons (d := 75) rfl (sub_cons (d := 78) rfl (sub_cons (d := 95) rfl (sub_cons (d := 100) rfl (sub_cons (d := 103) rfl (sub_nil _)))))))))))))))))))))))))) (.refl _) ?_
              refine hl_nil ?_
              refine hq_then ?_
              refine hc_false rfl ?_
              refine hc_skip ?_
              refine hq_then ?_
              refine hc_seq ?_
              refine hc_region ?_
              refine hl_v rfl rfl rfl (rv_ev rfl) ?_
              refine hl_less (sub_cons (d := 0) rfl (sub_cons (d := 1) rfl (sub_cons (d := 2) rfl (sub_cons (d := 3) rfl (sub_cons (d := 4) rfl (sub_cons (d := 5) rfl (sub_cons (d := 6) rfl (sub_cons (d := 7) rfl (sub_cons (d := 8) rfl (sub_cons (d := 9) rfl (sub_cons (d := 10) rfl (sub_cons (d := 11) rfl (sub_cons (d := 12) rfl (sub_cons (d := 13) rfl (sub_cons (d := 14) rfl (sub_cons (d := 15) rfl (sub_cons (d := 20) rfl (sub_cons (d := 46) rfl (sub_cons (d := 51) rfl (sub_cons (d := 67) rfl (sub_cons (d := 75) rfl (sub_cons (d := 78) rfl (sub_cons (d := 95) rfl (sub_cons (d := 100) rfl (sub_cons (d := 103) rfl (sub_nil _)))))))))))))))))))))))))) (.refl _) ?_
              refine hl_nil ?_
              refine hq_then ?_
              refine hc_ret ?_
              exact hq_ans rfl rfl rfl
end Go.Proofs.Ytnnkbpcfjjijbaa
