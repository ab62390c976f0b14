/- The law FnSlackPeriod: the walk. -/
import Derived.Test.YteccnnpcigkmhaaTim5
set_option linter.unusedVariables false
set_option linter.unusedSimpArgs false
namespace Go.Proofs.Yteccnnpcigkmhaa
open Go.RowKit
set_option maxHeartbeats 4000000 in
set_option maxRecDepth 100000 in
theorem walk_FnSlackPeriod (a0 : Option Addr) (len0 cap0 : Nat) (z0 : List Int) (w : World) (hbr : BRow .u8 w a0 len0 cap0 z0) :
    Calls Try.prog 4 #[.slice a0 len0 cap0] w (Ans w (.bool true)) := by
  have hcd0 := cod_le hbr 0
  refine calls_hc (N := 108) (args := [.slice a0 len0 cap0]) Try.func4 rfl rfl ?_
  refine hc_less _ (sub_cons (d := 0) rfl (sub_nil _)) (.refl _) ?_
  refine hc_seq ?_
  refine hc_region ?_
  refine hl_v rfl rfl rfl (rv_ev rfl) ?_
  refine hl_less (sub_cons (d := 0) rfl (sub_cons (d := 2) rfl (sub_nil _))) (.refl _) ?_
  refine hl_nil ?_
  refine hq_then ?_
  refine hc_seq ?_
  refine hc_seq ?_
  refine hc_region ?_
  refine hl_v rfl rfl rfl (rv_ev rfl) ?_
  refine hl_callV rfl rfl rfl (rq_call (by kernel_rfl) rfl (fun w hm => ret_ans (ans_of (big_any a0 len0 cap0 w (hbr.len_le))))) ?_
  refine hl_bool (fun h1 => ?_) (fun h1 => ?_)
  ·
    have h1p := of_decide_eq_true h1
    refine hl_less (sub_cons (d := 0) rfl (sub_cons (d := 2) rfl (sub_cons (d := 13) rfl (sub_nil _)))) (.refl _) ?_
    refine hl_nil ?_
    refine hq_then ?_
    refine hc_true rfl ?_
    refine hc_seq ?_
    refine hc_region ?_
    refine hl_v rfl rfl rfl (rv_ev rfl) ?_
    refine hl_less (sub_cons (d := 0) rfl (sub_cons (d := 2) rfl (sub_cons (d := 13) rfl (sub_nil _)))) (.refl _) ?_
    refine hl_nil ?_
    refine hq_then ?_
    refine hc_ret ?_
    refine hq_then_ret ?_
    exact hq_ans rfl rfl rfl
  ·
    have h1p := of_decide_eq_false h1
    refine hl_less (sub_cons (d := 0) rfl (sub_cons (d := 2) rfl (sub_cons (d := 13) rfl (sub_nil _)))) (.refl _) ?_
    refine hl_nil ?_
    refine hq_then ?_
    refine hc_false rfl ?_
    refine hc_skip ?_
    refine hq_then ?_
    refine hc_seq ?_
    refine hc_region ?_
    refine hl_v rfl rfl rfl (rv_ev rfl) ?_
    refine hl_q rfl rfl rfl (rq_call (by kernel_rfl) rfl (fun w hm => DrawGraph_ret _ _ _ z0 w (hbr.below hm.bel) (by omega))) ?_
    intro v2 p3 hR4
    obtain ⟨n, gs, u, ua, ub, ue, pa, pb, pe, rfl, rfl, hg, ⟨hn2, hn9⟩, ⟨hl1, hl2, hl3, hl4⟩, hpa, hpb, hpe⟩ := hR4
    refine hl_v rfl rfl rfl (rv_ev rfl) ?_
    refine hl_v rfl rfl rfl (rv_ev rfl) ?_
    refine hl_v rfl rfl rfl (rv_ev rfl) ?_
    refine hl_v rfl rfl rfl (rv_ev rfl) ?_
    refine hl_v rfl rfl rfl (rv_ev rfl) ?_
    refine hl_box rfl rfl rfl (rq_alloc (z := .agg #[.int .i64 0, .slice none 0 0]) rfl (by kernel_rfl)) ?_
    intro b5
    refine hl_one (i := 1) rfl (fun ho6 => ?_)
    refine hl_storeBoxN (i := 0) (off := 0) (us := [.int .i64 n, u]) (l' := [boxE b5 #[.int .i64 n, u] 38, rowE 82 3 u gs.length (gs.flatMap arcC), rowE 47 2 ua pa.length (pa.flatMap pntC), rowE 47 2 ub pb.length (pb.flatMap pntC), rowE 72 3 ue pe.length (pe.flatMap excC)]) rfl rfl rfl (by kernel_rfl) rfl rfl rfl (all_cons rfl (all_cons ho6 all_nil)) rfl rfl rfl ?_
    refine hl_v rfl rfl rfl (rv_ev rfl) ?_
    refine hl_v rfl rfl rfl (rv_ev rfl) ?_
    refine hl_v rfl rfl rfl (rv_ev rfl) ?_
    refine hl_less (sub_cons (d := 0) rfl (sub_cons (d := 2) rfl (sub_cons (d := 3) rfl (sub_cons (d := 4) rfl (sub_cons (d := 5) rfl (sub_cons (d := 6) rfl (sub_cons (d := 13) rfl (sub_nil _)))))))) (.refl _) ?_
    refine hl_nil ?_
    refine hq_then ?_
    refine hc_seq ?_
    refine hc_region ?_
    refine hl_v rfl rfl rfl (rv_ev rfl) ?_
    refine hl_callV rfl rfl rfl (rq_call (by kernel_rfl) rfl (fun w hm => ret_ans (at_ans hbr 0 (by omega) w hm))) ?_
    refine hl_v rfl rfl rfl (rv_add rfl rfl rfl (by constructor <;> omega)) ?_
    refine hl_v rfl rfl rfl (rv_ev rfl) ?_
    refine hl_less (sub_cons (d := 0) rfl (sub_cons (d := 2) rfl (sub_cons (d := 3) rfl (sub_cons (d := 4) rfl (sub_cons (d := 5) rfl (sub_cons (d := 6) rfl (sub_cons (d := 7) rfl (sub_cons (d := 13) rfl (sub_nil _))))))))) (.refl _) ?_
    refine hl_nil ?_
    refine hq_then ?_
    refine hc_seq ?_
    refine hc_region ?_
    refine hl_v rfl rfl rfl (rv_loadN (cs := [.int .i64 n, u]) rfl (by kernel_rfl) (by kernel_rfl) rfl rfl (box_part 0 rfl 0 rfl)) ?_
    refine hl_v rfl rfl rfl (rv_ev rfl) ?_
    refine hl_v rfl rfl rfl (rv_ev rfl) ?_
    refine hl_v rfl rfl rfl (rv_ev rfl) ?_
    refine hl_v rfl rfl rfl (rv_ev rfl) ?_
    refine hl_q rfl rfl rfl (rq_call (by kernel_rfl) rfl (fun w hm => SetupSlacks_ret n gs u pa pb pe ua ub ue (1 + (cod z0 len0 0 : Int)) w hg (rd_row 1 rfl w hm) hpa (by omega) (rd_row 2 rfl w hm) hpb (by omega) (rd_row 3 rfl w hm) hpe (by omega) (rd_row 4 rfl w hm) (by omega))) ?_
    intro v7 p8 hR9
    obtain ⟨yhR9, rfl, lhR9, bhR9⟩ := hR9
    refine hl_v rfl rfl rfl (rv_ev rfl) ?_
    refine hl_less (sub_cons (d := 0) rfl (sub_cons (d := 2) rfl (sub_cons (d := 3) rfl (sub_cons (d := 4) rfl (sub_cons (d := 5) rfl (sub_cons (d := 6) rfl (sub_cons (d := 7) rfl (sub_cons (d := 8) rfl (sub_cons (d := 13) rfl (sub_nil _)))))))))) (.refl _) ?_
    refine hl_nil ?_
    refine hq_then ?_
    refine hc_seq ?_
    refine hc_region ?_
    refine hl_v rfl rfl rfl (rv_loadN (cs := [.int .i64 n, u]) rfl (by kernel_rfl) (by kernel_rfl) rfl rfl (box_part 1 rfl 0 rfl)) ?_
    refine hl_v rfl rfl rfl (rv_ev rfl) ?_
    refine hl_v rfl rfl rfl (rv_ev rfl) ?_
    refine hl_v rfl rfl rfl (rv_ev rfl) ?_
    refine hl_v rfl rfl rfl (rv_ev rfl) ?_
    refine hl_v rfl rfl rfl (rv_add rfl rfl rfl (by constructor <;> omega)) ?_
    refine hl_q rfl rfl rfl (rq_call (by kernel_rfl) rfl (fun w hm => SetupSlacks_ret n gs u pa pb pe ua ub ue ((1 + (cod z0 len0 0 : Int)) + 1) w hg (rd_row 2 rfl w hm) hpa (by omega) (rd_row 3 rfl w hm) hpb (by omega) (rd_row 4 rfl w hm) hpe (by omega) (rd_row 5 rfl w hm) (by omega))) ?_
    intro v10 p11 hR12
    obtain ⟨yhR12, rfl, lhR12, bhR12⟩ := hR12
    refine hl_v rfl rfl rfl (rv_ev rfl) ?_
    refine hl_less (sub_cons (d := 0) rfl (sub_cons (d := 2) rfl (sub_cons (d := 3) rfl (sub_cons (d := 4) rfl (sub_cons (d := 5) rfl (sub_cons (d := 6) rfl (sub_cons (d := 7) rfl (sub_cons (d := 8) rfl (sub_cons (d := 9) rfl (sub_cons (d := 13) rfl (sub_nil _))))))))))) (.refl _) ?_
    refine hl_nil ?_
    refine hq_then ?_
    refine hc_seq ?_
    refine hc_region ?_
    refine hl_v rfl rfl rfl (rv_loadN (cs := [.int .i64 n, u]) rfl (by kernel_rfl) (by kernel_rfl) rfl rfl (box_part 2 rfl 0 rfl)) ?_
    refine hl_v rfl rfl rfl (rv_ev rfl) ?_
    refine hl_v rfl rfl rfl (rv_ev rfl) ?_
    refine hl_v rfl rfl rfl (rv_ev rfl) ?_
    refine hl_q rfl rfl rfl (rq_call (by kernel_rfl) rfl (fun w hm => HoldSlacks_ret n gs u pa pb pe ua ub ue w hg (rd_row 3 rfl w hm) hpa (by omega) (rd_row 4 rfl w hm) hpb (by omega) (rd_row 5 rfl w hm) hpe (by omega) (rd_row 6 rfl w hm))) ?_
    intro v13 p14 hR15
    obtain ⟨yhR15, rfl, lhR15, bhR15⟩ := hR15
    refine hl_v rfl rfl rfl (rv_ev rfl) ?_
    refine hl_less (sub_cons (d := 0) rfl (sub_cons (d := 2) rfl (sub_cons (d := 3) rfl (sub_cons (d := 4) rfl (sub_cons (d := 5) rfl (sub_cons (d := 6) rfl (sub_cons (d := 7) rfl (sub_cons (d := 8) rfl (sub_cons (d := 9) rfl (sub_cons (d := 10) rfl (sub_cons (d := 13) rfl (sub_nil _)))))))))))) (.refl _) ?_
    refine hl_nil ?_
    refine hq_then ?_
    refine hc_seq ?_
    refine hc_seq ?_
    refine hc_region ?_
    refine hl_v rfl rfl rfl (rv_ev rfl) ?_
    refine hl_v rfl rfl rfl (rv_len rfl Try.underlying43 rfl (rd_row 2 rfl)) ?_
    refine hl_v rfl rfl rfl (rv_ev rfl) ?_
    refine hl_v rfl rfl rfl (rv_len rfl Try.underlying39 rfl (rd_row 6 rfl)) ?_
    refine hl_neq rfl rfl rfl rfl rfl rfl (fun h16 => absurd h16 (by omega)) (fun h16 => ?_)
    refine hl_v rfl rfl rfl (rv_ev rfl) ?_
    refine hl_v rfl rfl rfl (rv_ev rfl) ?_
    refine hl_v rfl rfl rfl (rv_len rfl Try.underlying43 rfl (rd_row 1 rfl)) ?_
    refine hl_v rfl rfl rfl (rv_ev rfl) ?_
    refine hl_v rfl rfl rfl (rv_len rfl Try.underlying39 rfl (rd_row 6 rfl)) ?_
    refine hl_neq rfl rfl rfl rfl rfl rfl (fun h17 => absurd h17 (by omega)) (fun h17 => ?_)
    refine hl_v rfl rfl rfl (rv_ev rfl) ?_
    refine hl_v rfl rfl rfl (rv_ev rfl) ?_
    refine hl_v rfl rfl rfl (rv_ev rfl) ?_
    refine hl_v rfl rfl rfl (rv_len rfl Try.underlying43 rfl (rd_row 0 rfl)) ?_
    refine hl_v rfl rfl rfl (rv_ev rfl) ?_
    refine hl_v rfl rfl rfl (rv_len rfl Try.underlying39 rfl (rd_row 6 rfl)) ?_
    refine hl_neq rfl rfl rfl rfl rfl rfl (fun h18 => absurd h18 (by omega)) (fun h18 => ?_)
    refine hl_v rfl rfl rfl (rv_ev rfl) ?_
    refine hl_less (sub_cons (d := 0) rfl (sub_cons (d := 2) rfl (sub_cons (d := 3) rfl (sub_cons (d := 4) rfl (sub_cons (d := 5) rfl (sub_cons (d := 6) rfl (sub_cons (d := 7) rfl (sub_cons (d := 8) rfl (sub_cons (d := 9) rfl (sub_cons (d := 10) rfl (sub_cons (d := 13) rfl (sub_cons (d := 60) rfl (sub_nil _))))))))))))) (.refl _) ?_
    refine hl_nil ?_
    refine hq_then ?_
    refine hc_false rfl ?_
    refine hc_skip ?_
    refine hq_then ?_
    refine hc_seq ?_
    refine hc_seq ?_
    refine hc_region ?_
    refine hl_v rfl rfl rfl (rv_ev rfl) ?_
    refine hl_less (sub_cons (d := 0) rfl (sub_cons (d := 2) rfl (sub_cons (d := 3) rfl (sub_cons (d := 4) rfl (sub_cons (d := 5) rfl (sub_cons (d := 6) rfl (sub_cons (d := 7) rfl (sub_cons (d := 8) rfl (sub_cons (d := 9) rfl (sub_cons (d := 10) rfl (sub_cons (d := 11) rfl (sub_cons (d := 13) rfl (sub_cons (d := 60) rfl (sub_nil _)))))))))))))) (.refl _) ?_
    refine hl_nil ?_
    refine hq_then ?_
    refine hc_block ?_
    refine hc_loop1 (α := Nat) (fun j => [rowE 3 1 v13 yhR15.length (yhR15.map (Value.int .i64)), rowE 3 1 v10 yhR12.length (yhR12.map (Value.int .i64)), rowE 3 1 v7 yhR9.length (yhR9.map (Value.int .i64)), boxE b5 #[.int .i64 n, u] 38, rowE 82 3 u gs.length (gs.flatMap arcC), rowE 47 2 ua pa.length (pa.flatMap pntC), rowE 47 2 ub pb.length (pb.flatMap pntC), rowE 72 3 ue pe.length (pe.flatMap excC)]) (fun j => [(0, .slice a0 len0 cap0), (2, .bool false), (3, .pointer (some ⟨b5, 0, none⟩)), (4, ua), (5, ub), (6, ue), (7, .int .i64 (1 + (cod z0 len0 0 : Int))), (8, v7), (9, v10), (10, v13), (11, .int .i64 (j : Int)), (13, .bool false), (60, .bool false)]) (fun j => j ≤ pb.length) (fun j => pb.length - j) 0 (Nat.zero_le _) (sub_cons (d := 0) rfl (sub_cons (d := 2) rfl (sub_cons (d := 3) rfl (sub_cons (d := 4) rfl (sub_cons (d := 5) rfl (sub_cons (d := 6) rfl (sub_cons (d := 7) rfl (sub_cons (d := 8) rfl (sub_cons (d := 9) rfl (sub_cons (d := 10) rfl (sub_cons (d := 11) rfl (sub_cons (d := 13) rfl (sub_cons (d := 60) rfl (sub_nil _)))))))))))))) ((.cons_cons _ (.cons_cons _ (.cons_cons _ (.cons_cons _ (.cons_cons _ (.cons_cons _ (.cons_cons _ (.cons_cons _ .slnil))))))))) ?_
    intro j hi19
    have hj := hi19
    refine hc_seq ?_
    refine hc_seq ?_
    refine hc_region ?_
    refine hl_v rfl rfl rfl (rv_ev rfl) ?_
    refine hl_v rfl rfl rfl (rv_ev rfl) ?_
    refine hl_v rfl rfl rfl (rv_len rfl Try.underlying39 rfl (rd_row 6 rfl)) ?_
    refine hl_lss rfl rfl rfl rfl rfl rfl (fun h20 => ?_) (fun h20 => ?_)
    ·
      refine hl_less (sub_cons (d := 0) rfl (sub_cons (d := 2) rfl (sub_cons (d := 3) rfl (sub_cons (d := 4) rfl (sub_cons (d := 5) rfl (sub_cons (d := 6) rfl (sub_cons (d := 7) rfl (sub_cons (d := 8) rfl (sub_cons (d := 9) rfl (sub_cons (d := 10) rfl (sub_cons (d := 11) rfl (sub_cons (d := 13) rfl (sub_cons (d := 60) rfl (sub_cons (d := 64) rfl (sub_nil _))))))))))))))) (.refl _) ?_
      refine hl_nil ?_
      refine hq_then ?_
      refine hc_true rfl ?_
      refine hc_skip ?_
      refine hq_then ?_
      refine hc_seq ?_
      refine hc_block ?_
      refine hc_seq ?_
      refine hc_seq ?_
      obtain ⟨r1, r2, r3, r4, r5⟩ := best_all hg hpa hpb hpe (j := j) (p := 1 + (cod z0 len0 0 : Int)) (by omega) (by omega) pa.length (Nat.le_refl _)
      obtain ⟨_, k1⟩ := bhR9 j (by omega)
      obtain ⟨_, k2⟩ := bhR12 j (by omega)
      obtain ⟨_, k3⟩ := bhR15 j (by omega)
      have hrel := slack_rel k1 k2 k3 r1 r2 r3 r4 r5
      rcases Bool.eq_false_or_eq_true ((yhR9.getD j 0) == 1000000) with hb21 | hb21
      ·
        have hb21p : yhR9.getD j 0 = 1000000 := beq_iff_eq.1 hb21
        obtain ⟨r1, r2, r3, r4, r5⟩ := best_all hg hpa hpb hpe (j := j) (p := 1 + (cod z0 len0 0 : Int)) (by omega) (by omega) pa.length (Nat.le_refl _)
        obtain ⟨_, k1⟩ := bhR9 j (by omega)
        obtain ⟨_, k2⟩ := bhR12 j (by omega)
        obtain ⟨_, k3⟩ := bhR15 j (by omega)
        have hrel := slack_rel k1 k2 k3 r1 r2 r3 r4 r5
        obtain ⟨r1, r2, r3, r4, r5⟩ := best_all hg hpa hpb hpe (j := j) (p := 1 + (cod z0 len0 0 : Int)) (by omega) (by omega) pa.length (Nat.le_refl _)
        obtain ⟨_, k1⟩ := bhR9 j (by omega)
        obtain ⟨_, k2⟩ := bhR12 j (by omega)
        obtain ⟨_, k3⟩ := bhR15 j (by omega)
        have hrel := slack_rel k1 k2 k3 r1 r2 r3 r4 r5
        have hb22 : ((yhR15.getD j 0) == 1000000) = true := beq_iff_eq.2 (by omega)
        obtain ⟨r1, r2, r3, r4, r5⟩ := best_all hg hpa hpb hpe (j := j) (p := 1 + (cod z0 len0 0 : Int)) (by omega) (by omega) pa.length (Nat.le_refl _)
        obtain ⟨_, k1⟩ := bhR9 j (by omega)
        obtain ⟨_, k2⟩ := bhR12 j (by omega)
        obtain ⟨_, k3⟩ := bhR15 j (by omega)
        have hrel := slack_rel k1 k2 k3 r1 r2 r3 r4 r5
        have hb23 : ((yhR9.getD j 0) == 1000000) = true := hb21
        obtain ⟨r1, r2, r3, r4, r5⟩ := best_all hg hpa hpb hpe (j := j) (p := 1 + (cod z0 len0 0 : Int)) (by omega) (by omega) pa.length (Nat.le_refl _)
        obtain ⟨_, k1⟩ := bhR9 j (by omega)
        obtain ⟨_, k2⟩ := bhR12 j (by omega)
        obtain ⟨_, k3⟩ := bhR15 j (by omega)
        have hrel := slack_rel k1 k2 k3 r1 r2 r3 r4 r5
        have hb24 : ((yhR12.getD j 0) == 1000000) = true := beq_iff_eq.2 (by omega)
        refine hc_draw (by kernel_rfl) 24 [0, 1, 2, 3, 4, 5, 6, 7, 8, 9, 10, 11, 12, 13, 14, 15, 16, 17, 18, 19, 20, 21, 22, 23] (List.take 24 _) (List.drop 24 _) [[], [], [0, 1], [2], [3], [], [], [5, 6], [7], [8], [4, 9], [10], [11], [11], [11, 12, 13], [11, 14], [11, 15], [11], [11], [11, 17, 18], [11, 19], [11, 20], [11, 16, 21], [11, 22]] [67, 68, 69, 70, 71, 72, 73, 74, 75, 76, 77, 78, 79, 80, 81, 82, 83, 84, 85, 86, 87, 88, 89, 90] (fun i_ vs_ v_ p_ => match i_ with | 0 => v_ = v7 ∧ p_ = [] | 1 => v_ = .int .i64 (j : Int) ∧ p_ = [] | 2 => v_ = elP v7 (((j : Int)).toNat * 1) ∧ p_ = [] | 3 => v_ = .int .i64 (yhR9.getD j 0) ∧ p_ = [] | 4 => v_ = .bool true ∧ p_ = [] | 5 => v_ = v13 ∧ p_ = [] | 6 => v_ = .int .i64 (j : Int) ∧ p_ = [] | 7 => v_ = elP v13 (((j : Int)).toNat * 1) ∧ p_ = [] | 8 => v_ = .int .i64 (yhR15.getD j 0) ∧ p_ = [] | 9 => v_ = .bool true ∧ p_ = [] | 10 => v_ = .bool false ∧ p_ = [] | 11 => v_ = .bool false ∧ p_ = [] | 12 => v_ = v7 ∧ p_ = [] | 13 => v_ = .int .i64 (j : Int) ∧ p_ = [] | 14 => v_ = elP v7 (((j : Int)).toNat * 1) ∧ p_ = [] | 15 => v_ = .int .i64 (yhR9.getD j 0) ∧ p_ = [] | 16 => v_ = .bool true ∧ p_ = [] | 17 => v_ = v10 ∧ p_ = [] | 18 => v_ = .int .i64 (j : Int) ∧ p_ = [] | 19 => v_ = elP v10 (((j : Int)).toNat * 1) ∧ p_ = [] | 20 => v_ = .int .i64 (yhR12.getD j 0) ∧ p_ = [] | 21 => v_ = .bool true ∧ p_ = [] | 22 => v_ = .bool false ∧ p_ = [] | 23 => v_ = .bool false ∧ p_ = [] | _ => True) (List.take_append_drop 24 _).symm (by kernel_rfl) (by kernel_rfl) rfl rfl ?_ ?_
        ·
          refine ⟨?_, ?_, ?_, ?_, ?_, ?_, ?_, ?_, ?_, ?_, ?_, ?_, ?_, ?_, ?_, ?_, ?_, ?_, ?_, ?_, ?_, ?_, ?_, ?_, trivial⟩
          ·
            intro vf pf hR
            refine Or.inl ⟨rfl, ?_⟩
            refine rq_less (l' := [rowE 3 1 v13 yhR15.length (yhR15.map (Value.int .i64)), rowE 3 1 v10 yhR12.length (yhR12.map (Value.int .i64)), rowE 3 1 v7 yhR9.length (yhR9.map (Value.int .i64)), boxE b5 #[.int .i64 n, u] 38, rowE 82 3 u gs.length (gs.flatMap arcC), rowE 47 2 ua pa.length (pa.flatMap pntC), rowE 47 2 ub pb.length (pb.flatMap pntC), rowE 72 3 ue pe.length (pe.flatMap excC)]) (sub_cons (d := 8) rfl (sub_nil _)) (List.sublist_append_right _ _) ?_
            exact rq_v (rv_ev rfl)
          ·
            intro vf pf hR
            refine Or.inl ⟨rfl, ?_⟩
            refine rq_less (l' := [rowE 3 1 v13 yhR15.length (yhR15.map (Value.int .i64)), rowE 3 1 v10 yhR12.length (yhR12.map (Value.int .i64)), rowE 3 1 v7 yhR9.length (yhR9.map (Value.int .i64)), boxE b5 #[.int .i64 n, u] 38, rowE 82 3 u gs.length (gs.flatMap arcC), rowE 47 2 ua pa.length (pa.flatMap pntC), rowE 47 2 ub pb.length (pb.flatMap pntC), rowE 72 3 ue pe.length (pe.flatMap excC)]) (sub_cons (d := 11) rfl (sub_nil _)) (List.sublist_append_right _ _) ?_
            exact rq_v (rv_ev rfl)
          ·
            intro vf pf hR
            have e0 : (vf 0) = v7 ∧ (pf 0) = [] := hR 0 (by decide)
            have e1 : (vf 1) = .int .i64 (j : Int) ∧ (pf 1) = [] := hR 1 (by decide)
            refine Or.inl ⟨rfl, ?_⟩
            refine rq_less (l' := [rowE 3 1 v13 yhR15.length (yhR15.map (Value.int .i64)), rowE 3 1 v10 yhR12.length (yhR12.map (Value.int .i64)), rowE 3 1 v7 yhR9.length (yhR9.map (Value.int .i64)), boxE b5 #[.int .i64 n, u] 38, rowE 82 3 u gs.length (gs.flatMap arcC), rowE 47 2 ua pa.length (pa.flatMap pntC), rowE 47 2 ub pb.length (pb.flatMap pntC), rowE 72 3 ue pe.length (pe.flatMap excC)]) (sub_cons (d := 67) (congrArg some e0.1) (sub_cons (d := 68) (congrArg some e1.1) (sub_nil _))) (List.sublist_append_right _ _) ?_
            exact rq_v (rv_index (s := 1) rfl Try.underlying43 (by kernel_rfl) rfl rfl (rd_row 2 rfl) (by omega) (by first | omega | (simp only [List.length_set]; omega)))
          ·
            intro vf pf hR
            have e2 : (vf 2) = elP v7 (((j : Int)).toNat * 1) ∧ (pf 2) = [] := hR 2 (by decide)
            refine Or.inl ⟨rfl, ?_⟩
            refine rq_less (l' := [rowE 3 1 v13 yhR15.length (yhR15.map (Value.int .i64)), rowE 3 1 v10 yhR12.length (yhR12.map (Value.int .i64)), rowE 3 1 v7 yhR9.length (yhR9.map (Value.int .i64)), boxE b5 #[.int .i64 n, u] 38, rowE 82 3 u gs.length (gs.flatMap arcC), rowE 47 2 ua pa.length (pa.flatMap pntC), rowE 47 2 ub pb.length (pb.flatMap pntC), rowE 72 3 ue pe.length (pe.flatMap excC)]) (sub_cons (d := 69) (congrArg some e2.1) (sub_nil _)) (List.sublist_append_right _ _) ?_
            exact rq_v (rv_loadEl (u := .int .i64 (yhR9.getD j 0)) rfl (by kernel_rfl) rfl (rd_row 2 rfl) (ints_at1 (show _ < yhR9.length by first | omega | (simp only [List.length_set]; omega))))
          ·
            intro vf pf hR
            have e3 : (vf 3) = .int .i64 (yhR9.getD j 0) ∧ (pf 3) = [] := hR 3 (by decide)
            refine Or.inl ⟨rfl, ?_⟩
            refine rq_less (l' := [rowE 3 1 v13 yhR15.length (yhR15.map (Value.int .i64)), rowE 3 1 v10 yhR12.length (yhR12.map (Value.int .i64)), rowE 3 1 v7 yhR9.length (yhR9.map (Value.int .i64)), boxE b5 #[.int .i64 n, u] 38, rowE 82 3 u gs.length (gs.flatMap arcC), rowE 47 2 ua pa.length (pa.flatMap pntC), rowE 47 2 ub pb.length (pb.flatMap pntC), rowE 72 3 ue pe.length (pe.flatMap excC)]) (sub_cons (d := 70) (congrArg some e3.1) (sub_nil _)) (List.sublist_append_right _ _) ?_
            exact rq_mono (rq_v (rv_cmp rfl rfl rfl rfl)) (fun _ _ h => ⟨h.1.trans (congrArg Value.bool hb21), h.2⟩)
          ·
            intro vf pf hR
            refine Or.inl ⟨rfl, ?_⟩
            refine rq_less (l' := [rowE 3 1 v13 yhR15.length (yhR15.map (Value.int .i64)), rowE 3 1 v10 yhR12.length (yhR12.map (Value.int .i64)), rowE 3 1 v7 yhR9.length (yhR9.map (Value.int .i64)), boxE b5 #[.int .i64 n, u] 38, rowE 82 3 u gs.length (gs.flatMap arcC), rowE 47 2 ua pa.length (pa.flatMap pntC), rowE 47 2 ub pb.length (pb.flatMap pntC), rowE 72 3 ue pe.length (pe.flatMap excC)]) (sub_cons (d := 10) rfl (sub_nil _)) (List.sublist_append_right _ _) ?_
            exact rq_v (rv_ev rfl)
          ·
            intro vf pf hR
            refine Or.inl ⟨rfl, ?_⟩
            refine rq_less (l' := [rowE 3 1 v13 yhR15.length (yhR15.map (Value.int .i64)), rowE 3 1 v10 yhR12.length (yhR12.map (Value.int .i64)), rowE 3 1 v7 yhR9.length (yhR9.map (Value.int .i64)), boxE b5 #[.int .i64 n, u] 38, rowE 82 3 u gs.length (gs.flatMap arcC), rowE 47 2 ua pa.length (pa.flatMap pntC), rowE 47 2 ub pb.length (pb.flatMap pntC), rowE 72 3 ue pe.length (pe.flatMap excC)]) (sub_cons (d := 11) rfl (sub_nil _)) (List.sublist_append_right _ _) ?_
            exact rq_v (rv_ev rfl)
          ·
            intro vf pf hR
            have e5 : (vf 5) = v13 ∧ (pf 5) = [] := hR 5 (by decide)
            have e6 : (vf 6) = .int .i64 (j : Int) ∧ (pf 6) = [] := hR 6 (by decide)
            refine Or.inl ⟨rfl, ?_⟩
            refine rq_less (l' := [rowE 3 1 v13 yhR15.length (yhR15.map (Value.int .i64)), rowE 3 1 v10 yhR12.length (yhR12.map (Value.int .i64)), rowE 3 1 v7 yhR9.length (yhR9.map (Value.int .i64)), boxE b5 #[.int .i64 n, u] 38, rowE 82 3 u gs.length (gs.flatMap arcC), rowE 47 2 ua pa.length (pa.flatMap pntC), rowE 47 2 ub pb.length (pb.flatMap pntC), rowE 72 3 ue pe.length (pe.flatMap excC)]) (sub_cons (d := 72) (congrArg some e5.1) (sub_cons (d := 73) (congrArg some e6.1) (sub_nil _))) (List.sublist_append_right _ _) ?_
            exact rq_v (rv_index (s := 1) rfl Try.underlying43 (by kernel_rfl) rfl rfl (rd_row 0 rfl) (by omega) (by first | omega | (simp only [List.length_set]; omega)))
          ·
            intro vf pf hR
            have e7 : (vf 7) = elP v13 (((j : Int)).toNat * 1) ∧ (pf 7) = [] := hR 7 (by decide)
            refine Or.inl ⟨rfl, ?_⟩
            refine rq_less (l' := [rowE 3 1 v13 yhR15.length (yhR15.map (Value.int .i64)), rowE 3 1 v10 yhR12.length (yhR12.map (Value.int .i64)), rowE 3 1 v7 yhR9.length (yhR9.map (Value.int .i64)), boxE b5 #[.int .i64 n, u] 38, rowE 82 3 u gs.length (gs.flatMap arcC), rowE 47 2 ua pa.length (pa.flatMap pntC), rowE 47 2 ub pb.length (pb.flatMap pntC), rowE 72 3 ue pe.length (pe.flatMap excC)]) (sub_cons (d := 74) (congrArg some e7.1) (sub_nil _)) (List.sublist_append_right _ _) ?_
            exact rq_v (rv_loadEl (u := .int .i64 (yhR15.getD j 0)) rfl (by kernel_rfl) rfl (rd_row 0 rfl) (ints_at1 (show _ < yhR15.length by first | omega | (simp only [List.length_set]; omega))))
          ·
            intro vf pf hR
            have e8 : (vf 8) = .int .i64 (yhR15.getD j 0) ∧ (pf 8) = [] := hR 8 (by decide)
            refine Or.inl ⟨rfl, ?_⟩
            refine rq_less (l' := [rowE 3 1 v13 yhR15.length (yhR15.map (Value.int .i64)), rowE 3 1 v10 yhR12.length (yhR12.map (Value.int .i64)), rowE 3 1 v7 yhR9.length (yhR9.map (Value.int .i64)), boxE b5 #[.int .i64 n, u] 38, rowE 82 3 u gs.length (gs.flatMap arcC), rowE 47 2 ua pa.length (pa.flatMap pntC), rowE 47 2 ub pb.length (pb.flatMap pntC), rowE 72 3 ue pe.length (pe.flatMap excC)]) (sub_cons (d := 75) (congrArg some e8.1) (sub_nil _)) (List.sublist_append_right _ _) ?_
            exact rq_mono (rq_v (rv_cmp rfl rfl rfl rfl)) (fun _ _ h => ⟨h.1.trans (congrArg Value.bool hb22), h.2⟩)
          ·
            intro vf pf hR
            have e4 : (vf 4) = .bool true ∧ (pf 4) = [] := hR 4 (by decide)
            have e9 : (vf 9) = .bool true ∧ (pf 9) = [] := hR 9 (by decide)
            refine Or.inl ⟨rfl, ?_⟩
            refine rq_less (l' := [rowE 3 1 v13 yhR15.length (yhR15.map (Value.int .i64)), rowE 3 1 v10 yhR12.length (yhR12.map (Value.int .i64)), rowE 3 1 v7 yhR9.length (yhR9.map (Value.int .i64)), boxE b5 #[.int .i64 n, u] 38, rowE 82 3 u gs.length (gs.flatMap arcC), rowE 47 2 ua pa.length (pa.flatMap pntC), rowE 47 2 ub pb.length (pb.flatMap pntC), rowE 72 3 ue pe.length (pe.flatMap excC)]) (sub_cons (d := 71) (congrArg some e4.1) (sub_cons (d := 76) (congrArg some e9.1) (sub_nil _))) (List.sublist_append_right _ _) ?_
            exact rq_v (rv_bneq (m := true) (n := true) rfl Try.underlying4 rfl rfl)
          ·
            intro vf pf hR
            have e10 : (vf 10) = .bool false ∧ (pf 10) = [] := hR 10 (by decide)
            refine Or.inl ⟨rfl, ?_⟩
            refine rq_less (l' := [rowE 3 1 v13 yhR15.length (yhR15.map (Value.int .i64)), rowE 3 1 v10 yhR12.length (yhR12.map (Value.int .i64)), rowE 3 1 v7 yhR9.length (yhR9.map (Value.int .i64)), boxE b5 #[.int .i64 n, u] 38, rowE 82 3 u gs.length (gs.flatMap arcC), rowE 47 2 ua pa.length (pa.flatMap pntC), rowE 47 2 ub pb.length (pb.flatMap pntC), rowE 72 3 ue pe.length (pe.flatMap excC)]) (sub_cons (d := 77) (congrArg some e10.1) (sub_nil _)) (List.sublist_append_right _ _) ?_
            exact rq_v (rv_ev rfl)
          ·
            intro vf pf hR
            have e11 : (vf 11) = .bool false ∧ (pf 11) = [] := hR 11 (by decide)
            refine Or.inl ⟨want_of (congrArg some e11.1) rfl, ?_⟩
            refine rq_less (l' := [rowE 3 1 v13 yhR15.length (yhR15.map (Value.int .i64)), rowE 3 1 v10 yhR12.length (yhR12.map (Value.int .i64)), rowE 3 1 v7 yhR9.length (yhR9.map (Value.int .i64)), boxE b5 #[.int .i64 n, u] 38, rowE 82 3 u gs.length (gs.flatMap arcC), rowE 47 2 ua pa.length (pa.flatMap pntC), rowE 47 2 ub pb.length (pb.flatMap pntC), rowE 72 3 ue pe.length (pe.flatMap excC)]) (sub_cons (d := 8) rfl (sub_nil _)) (List.sublist_append_right _ _) ?_
            exact rq_v (rv_ev rfl)
          ·
            intro vf pf hR
            have e11 : (vf 11) = .bool false ∧ (pf 11) = [] := hR 11 (by decide)
            refine Or.inl ⟨want_of (congrArg some e11.1) rfl, ?_⟩
            refine rq_less (l' := [rowE 3 1 v13 yhR15.length (yhR15.map (Value.int .i64)), rowE 3 1 v10 yhR12.length (yhR12.map (Value.int .i64)), rowE 3 1 v7 yhR9.length (yhR9.map (Value.int .i64)), boxE b5 #[.int .i64 n, u] 38, rowE 82 3 u gs.length (gs.flatMap arcC), rowE 47 2 ua pa.length (pa.flatMap pntC), rowE 47 2 ub pb.length (pb.flatMap pntC), rowE 72 3 ue pe.length (pe.flatMap excC)]) (sub_cons (d := 11) rfl (sub_nil _)) (List.sublist_append_right _ _) ?_
            exact rq_v (rv_ev rfl)
          ·
            intro vf pf hR
            have e11 : (vf 11) = .bool false ∧ (pf 11) = [] := hR 11 (by decide)
            have e12 : (vf 12) = v7 ∧ (pf 12) = [] := hR 12 (by decide)
            have e13 : (vf 13) = .int .i64 (j : Int) ∧ (pf 13) = [] := hR 13 (by decide)
            refine Or.inl ⟨want_of (congrArg some e11.1) rfl, ?_⟩
            refine rq_less (l' := [rowE 3 1 v13 yhR15.length (yhR15.map (Value.int .i64)), rowE 3 1 v10 yhR12.length (yhR12.map (Value.int .i64)), rowE 3 1 v7 yhR9.length (yhR9.map (Value.int .i64)), boxE b5 #[.int .i64 n, u] 38, rowE 82 3 u gs.length (gs.flatMap arcC), rowE 47 2 ua pa.length (pa.flatMap pntC), rowE 47 2 ub pb.length (pb.flatMap pntC), rowE 72 3 ue pe.length (pe.flatMap excC)]) (sub_cons (d := 79) (congrArg some e12.1) (sub_cons (d := 80) (congrArg some e13.1) (sub_nil _))) (List.sublist_append_right _ _) ?_
            exact rq_v (rv_index (s := 1) rfl Try.underlying43 (by kernel_rfl) rfl rfl (rd_row 2 rfl) (by omega) (by first | omega | (simp only [List.length_set]; omega)))
          ·
            intro vf pf hR
            have e11 : (vf 11) = .bool false ∧ (pf 11) = [] := hR 11 (by decide)
            have e14 : (vf 14) = elP v7 (((j : Int)).toNat * 1) ∧ (pf 14) = [] := hR 14 (by decide)
            refine Or.inl ⟨want_of (congrArg some e11.1) rfl, ?_⟩
            refine rq_less (l' := [rowE 3 1 v13 yhR15.length (yhR15.map (Value.int .i64)), rowE 3 1 v10 yhR12.length (yhR12.map (Value.int .i64)), rowE 3 1 v7 yhR9.length (yhR9.map (Value.int .i64)), boxE b5 #[.int .i64 n, u] 38, rowE 82 3 u gs.length (gs.flatMap arcC), rowE 47 2 ua pa.length (pa.flatMap pntC), rowE 47 2 ub pb.length (pb.flatMap pntC), rowE 72 3 ue pe.length (pe.flatMap excC)]) (sub_cons (d := 81) (congrArg some e14.1) (sub_nil _)) (List.sublist_append_right _ _) ?_
            exact rq_v (rv_loadEl (u := .int .i64 (yhR9.getD j 0)) rfl (by kernel_rfl) rfl (rd_row 2 rfl) (ints_at1 (show _ < yhR9.length by first | omega | (simp only [List.length_set]; omega))))
          ·
            intro vf pf hR
            have e11 : (vf 11) = .bool false ∧ (pf 11) = [] := hR 11 (by decide)
            have e15 : (vf 15) = .int .i64 (yhR9.getD j 0) ∧ (pf 15) = [] := hR 15 (by decide)
            refine Or.inl ⟨want_of (congrArg some e11.1) rfl, ?_⟩
            refine rq_less (l' := [rowE 3 1 v13 yhR15.length (yhR15.map (Value.int .i64)), rowE 3 1 v10 yhR12.length (yhR12.map (Value.int .i64)), rowE 3 1 v7 yhR9.length (yhR9.map (Value.int .i64)), boxE b5 #[.int .i64 n, u] 38, rowE 82 3 u gs.length (gs.flatMap arcC), rowE 47 2 ua pa.length (pa.flatMap pntC), rowE 47 2 ub pb.length (pb.flatMap pntC), rowE 72 3 ue pe.length (pe.flatMap excC)]) (sub_cons (d := 82) (congrArg some e15.1) (sub_nil _)) (List.sublist_append_right _ _) ?_
            exact rq_mono (rq_v (rv_cmp rfl rfl rfl rfl)) (fun _ _ h => ⟨h.1.trans (congrArg Value.bool hb23), h.2⟩)
          ·
            intro vf pf hR
            have e11 : (vf 11) = .bool false ∧ (pf 11) = [] := hR 11 (by decide)
            refine Or.inl ⟨want_of (congrArg some e11.1) rfl, ?_⟩
            refine rq_less (l' := [rowE 3 1 v13 yhR15.length (yhR15.map (Value.int .i64)), rowE 3 1 v10 yhR12.length (yhR12.map (Value.int .i64)), rowE 3 1 v7 yhR9.length (yhR9.map (Value.int .i64)), boxE b5 #[.int .i64 n, u] 38, rowE 82 3 u gs.length (gs.flatMap arcC), rowE 47 2 ua pa.length (pa.flatMap pntC), rowE 47 2 ub pb.length (pb.flatMap pntC), rowE 72 3 ue pe.length (pe.flatMap excC)]) (sub_cons (d := 9) rfl (sub_nil _)) (List.sublist_append_right _ _) ?_
            exact rq_v (rv_ev rfl)
          ·
            intro vf pf hR
            have e11 : (vf 11) = .bool false ∧ (pf 11) = [] := hR 11 (by decide)
            refine Or.inl ⟨want_of (congrArg some e11.1) rfl, ?_⟩
            refine rq_less (l' := [rowE 3 1 v13 yhR15.length (yhR15.map (Value.int .i64)), rowE 3 1 v10 yhR12.length (yhR12.map (Value.int .i64)), rowE 3 1 v7 yhR9.length (yhR9.map (Value.int .i64)), boxE b5 #[.int .i64 n, u] 38, rowE 82 3 u gs.length (gs.flatMap arcC), rowE 47 2 ua pa.length (pa.flatMap pntC), rowE 47 2 ub pb.length (pb.flatMap pntC), rowE 72 3 ue pe.length (pe.flatMap excC)]) (sub_cons (d := 11) rfl (sub_nil _)) (List.sublist_append_right _ _) ?_
            exact rq_v (rv_ev rfl)
          ·
            intro vf pf hR
            have e11 : (vf 11) = .bool false ∧ (pf 11) = [] := hR 11 (by decide)
            have e17 : (vf 17) = v10 ∧ (pf 17) = [] := hR 17 (by decide)
            have e18 : (vf 18) = .int .i64 (j : Int) ∧ (pf 18) = [] := hR 18 (by decide)
            refine Or.inl ⟨want_of (congrArg some e11.1) rfl, ?_⟩
            refine rq_less (l' := [rowE 3 1 v13 yhR15.length (yhR15.map (Value.int .i64)), rowE 3 1 v10 yhR12.length (yhR12.map (Value.int .i64)), rowE 3 1 v7 yhR9.length (yhR9.map (Value.int .i64)), boxE b5 #[.int .i64 n, u] 38, rowE 82 3 u gs.length (gs.flatMap arcC), rowE 47 2 ua pa.length (pa.flatMap pntC), rowE 47 2 ub pb.length (pb.flatMap pntC), rowE 72 3 ue pe.length (pe.flatMap excC)]) (sub_cons (d := 84) (congrArg some e17.1) (sub_cons (d := 85) (congrArg some e18.1) (sub_nil _))) (List.sublist_append_right _ _) ?_
            exact rq_v (rv_index (s := 1) rfl Try.underlying43 (by kernel_rfl) rfl rfl (rd_row 1 rfl) (by omega) (by first | omega | (simp only [List.length_set]; omega)))
          ·
            intro vf pf hR
            have e11 : (vf 11) = .bool false ∧ (pf 11) = [] := hR 11 (by decide)
            have e19 : (vf 19) = elP v10 (((j : Int)).toNat * 1) ∧ (pf 19) = [] := hR 19 (by decide)
            refine Or.inl ⟨want_of (congrArg some e11.1) rfl, ?_⟩
            refine rq_less (l' := [rowE 3 1 v13 yhR15.length (yhR15.map (Value.int .i64)), rowE 3 1 v10 yhR12.length (yhR12.map (Value.int .i64)), rowE 3 1 v7 yhR9.length (yhR9.map (Value.int .i64)), boxE b5 #[.int .i64 n, u] 38, rowE 82 3 u gs.length (gs.flatMap arcC), rowE 47 2 ua pa.length (pa.flatMap pntC), rowE 47 2 ub pb.length (pb.flatMap pntC), rowE 72 3 ue pe.length (pe.flatMap excC)]) (sub_cons (d := 86) (congrArg some e19.1) (sub_nil _)) (List.sublist_append_right _ _) ?_
            exact rq_v (rv_loadEl (u := .int .i64 (yhR12.getD j 0)) rfl (by kernel_rfl) rfl (rd_row 1 rfl) (ints_at1 (show _ < yhR12.length by first | omega | (simp only [List.length_set]; omega))))
          ·
            intro vf pf hR
            have e11 : (vf 11) = .bool false ∧ (pf 11) = [] := hR 11 (by decide)
            have e20 : (vf 20) = .int .i64 (yhR12.getD j 0) ∧ (pf 20) = [] := hR 20 (by decide)
            refine Or.inl ⟨want_of (congrArg some e11.1) rfl, ?_⟩
            refine rq_less (l' := [rowE 3 1 v13 yhR15.length (yhR15.map (Value.int .i64)), rowE 3 1 v10 yhR12.length (yhR12.map (Value.int .i64)), rowE 3 1 v7 yhR9.length (yhR9.map (Value.int .i64)), boxE b5 #[.int .i64 n, u] 38, rowE 82 3 u gs.length (gs.flatMap arcC), rowE 47 2 ua pa.length (pa.flatMap pntC), rowE 47 2 ub pb.length (pb.flatMap pntC), rowE 72 3 ue pe.length (pe.flatMap excC)]) (sub_cons (d := 87) (congrArg some e20.1) (sub_nil _)) (List.sublist_append_right _ _) ?_
            exact rq_mono (rq_v (rv_cmp rfl rfl rfl rfl)) (fun _ _ h => ⟨h.1.trans (congrArg Value.bool hb24), h.2⟩)
          ·
            intro vf pf hR
            have e11 : (vf 11) = .bool false ∧ (pf 11) = [] := hR 11 (by decide)
            have e16 : (vf 16) = .bool true ∧ (pf 16) = [] := hR 16 (by decide)
            have e21 : (vf 21) = .bool true ∧ (pf 21) = [] := hR 21 (by decide)
            refine Or.inl ⟨want_of (congrArg some e11.1) rfl, ?_⟩
            refine rq_less (l' := [rowE 3 1 v13 yhR15.length (yhR15.map (Value.int .i64)), rowE 3 1 v10 yhR12.length (yhR12.map (Value.int .i64)), rowE 3 1 v7 yhR9.length (yhR9.map (Value.int .i64)), boxE b5 #[.int .i64 n, u] 38, rowE 82 3 u gs.length (gs.flatMap arcC), rowE 47 2 ua pa.length (pa.flatMap pntC), rowE 47 2 ub pb.length (pb.flatMap pntC), rowE 72 3 ue pe.length (pe.flatMap excC)]) (sub_cons (d := 83) (congrArg some e16.1) (sub_cons (d := 88) (congrArg some e21.1) (sub_nil _))) (List.sublist_append_right _ _) ?_
            exact rq_v (rv_bneq (m := true) (n := true) rfl Try.underlying4 rfl rfl)
          ·
            intro vf pf hR
            have e11 : (vf 11) = .bool false ∧ (pf 11) = [] := hR 11 (by decide)
            have e22 : (vf 22) = .bool false ∧ (pf 22) = [] := hR 22 (by decide)
            refine Or.inl ⟨rfl, ?_⟩
            refine rq_less (l' := [rowE 3 1 v13 yhR15.length (yhR15.map (Value.int .i64)), rowE 3 1 v10 yhR12.length (yhR12.map (Value.int .i64)), rowE 3 1 v7 yhR9.length (yhR9.map (Value.int .i64)), boxE b5 #[.int .i64 n, u] 38, rowE 82 3 u gs.length (gs.flatMap arcC), rowE 47 2 ua pa.length (pa.flatMap pntC), rowE 47 2 ub pb.length (pb.flatMap pntC), rowE 72 3 ue pe.length (pe.flatMap excC)]) (sub_cons (d := 78) (congrArg some e11.1) (sub_cons (d := 89) (congrArg some e22.1) (sub_nil _))) (List.sublist_append_right _ _) ?_
            exact rq_v (rv_ev rfl)
        ·
          intro vf pf hR
          have e23 : (vf 23) = .bool false ∧ (pf 23) = [] := hR 23 (by decide)
          refine hl_less (l' := [rowE 3 1 v13 yhR15.length (yhR15.map (Value.int .i64)), rowE 3 1 v10 yhR12.length (yhR12.map (Value.int .i64)), rowE 3 1 v7 yhR9.length (yhR9.map (Value.int .i64)), boxE b5 #[.int .i64 n, u] 38, rowE 82 3 u gs.length (gs.flatMap arcC), rowE 47 2 ua pa.length (pa.flatMap pntC), rowE 47 2 ub pb.length (pb.flatMap pntC), rowE 72 3 ue pe.length (pe.flatMap excC)]) (sub_cons (d := 0) rfl (sub_cons (d := 2) rfl (sub_cons (d := 3) rfl (sub_cons (d := 4) rfl (sub_cons (d := 5) rfl (sub_cons (d := 6) rfl (sub_cons (d := 7) rfl (sub_cons (d := 8) rfl (sub_cons (d := 9) rfl (sub_cons (d := 10) rfl (sub_cons (d := 11) rfl (sub_cons (d := 13) rfl (sub_cons (d := 60) rfl (sub_cons (d := 64) rfl (sub_cons (d := 90) (congrArg some e23.1) (sub_nil _)))))))))))))))) (List.sublist_append_right _ _) ?_
          simp only [List.drop_succ_cons, List.drop_zero]
          refine hl_less (sub_cons (d := 0) rfl (sub_cons (d := 2) rfl (sub_cons (d := 3) rfl (sub_cons (d := 4) rfl (sub_cons (d := 5) rfl (sub_cons (d := 6) rfl (sub_cons (d := 7) rfl (sub_cons (d := 8) rfl (sub_cons (d := 9) rfl (sub_cons (d := 10) rfl (sub_cons (d := 11) rfl (sub_cons (d := 13) rfl (sub_cons (d := 60) rfl (sub_cons (d := 64) rfl (sub_cons (d := 90) rfl (sub_nil _)))))))))))))))) (.refl _) ?_
          refine hl_nil ?_
          refine hq_then ?_
          refine hc_false rfl ?_
          refine hc_skip ?_
          refine hq_then ?_
          refine hc_seq ?_
          have hb25 : ((yhR9.getD j 0) != 1000000) = false := Bool.eq_false_iff.2 (fun h => bne_iff_ne.1 h (by omega))
          refine hc_draw (by kernel_rfl) 17 [0, 1, 2, 3, 4, 5, 6, 7, 8, 9, 10, 11, 12, 13, 14, 15, 16] (List.take 17 _) (List.drop 17 _) [[], [], [0, 1], [2], [3], [4], [5], [5], [5], [5], [5], [5], [5], [5], [5], [5], [5, 15]] [91, 92, 93, 94, 95, 96, 97, 98, 99, 100, 101, 102, 103, 104, 105, 106, 107] (fun i_ vs_ v_ p_ => match i_ with | 0 => v_ = v7 ∧ p_ = [] | 1 => v_ = .int .i64 (j : Int) ∧ p_ = [] | 2 => v_ = elP v7 (((j : Int)).toNat * 1) ∧ p_ = [] | 3 => v_ = .int .i64 (yhR9.getD j 0) ∧ p_ = [] | 4 => v_ = .bool false ∧ p_ = [] | 5 => v_ = .bool false ∧ p_ = [] | 6 => v_ = undef ∧ p_ = [] | 7 => v_ = undef ∧ p_ = [] | 8 => v_ = undef ∧ p_ = [] | 9 => v_ = undef ∧ p_ = [] | 10 => v_ = undef ∧ p_ = [] | 11 => v_ = undef ∧ p_ = [] | 12 => v_ = undef ∧ p_ = [] | 13 => v_ = undef ∧ p_ = [] | 14 => v_ = undef ∧ p_ = [] | 15 => v_ = undef ∧ p_ = [] | 16 => v_ = .bool false ∧ p_ = [] | _ => True) (List.take_append_drop 17 _).symm (by kernel_rfl) (by kernel_rfl) rfl rfl ?_ ?_
          ·
            refine ⟨?_, ?_, ?_, ?_, ?_, ?_, ?_, ?_, ?_, ?_, ?_, ?_, ?_, ?_, ?_, ?_, ?_, trivial⟩
            ·
              intro vf pf hR
              refine Or.inl ⟨rfl, ?_⟩
              refine rq_less (l' := [rowE 3 1 v13 yhR15.length (yhR15.map (Value.int .i64)), rowE 3 1 v10 yhR12.length (yhR12.map (Value.int .i64)), rowE 3 1 v7 yhR9.length (yhR9.map (Value.int .i64)), boxE b5 #[.int .i64 n, u] 38, rowE 82 3 u gs.length (gs.flatMap arcC), rowE 47 2 ua pa.length (pa.flatMap pntC), rowE 47 2 ub pb.length (pb.flatMap pntC), rowE 72 3 ue pe.length (pe.flatMap excC)]) (sub_cons (d := 8) rfl (sub_nil _)) (List.sublist_append_right _ _) ?_
              exact rq_v (rv_ev rfl)
            ·
              intro vf pf hR
              refine Or.inl ⟨rfl, ?_⟩
              refine rq_less (l' := [rowE 3 1 v13 yhR15.length (yhR15.map (Value.int .i64)), rowE 3 1 v10 yhR12.length (yhR12.map (Value.int .i64)), rowE 3 1 v7 yhR9.length (yhR9.map (Value.int .i64)), boxE b5 #[.int .i64 n, u] 38, rowE 82 3 u gs.length (gs.flatMap arcC), rowE 47 2 ua pa.length (pa.flatMap pntC), rowE 47 2 ub pb.length (pb.flatMap pntC), rowE 72 3 ue pe.length (pe.flatMap excC)]) (sub_cons (d := 11) rfl (sub_nil _)) (List.sublist_append_right _ _) ?_
              exact rq_v (rv_ev rfl)
            ·
              intro vf pf hR
              have e0 : (vf 0) = v7 ∧ (pf 0) = [] := hR 0 (by decide)
              have e1 : (vf 1) = .int .i64 (j : Int) ∧ (pf 1) = [] := hR 1 (by decide)
              refine Or.inl ⟨rfl, ?_⟩
              refine rq_less (l' := [rowE 3 1 v13 yhR15.length (yhR15.map (Value.int .i64)), rowE 3 1 v10 yhR12.length (yhR12.map (Value.int .i64)), rowE 3 1 v7 yhR9.length (yhR9.map (Value.int .i64)), boxE b5 #[.int .i64 n, u] 38, rowE 82 3 u gs.length (gs.flatMap arcC), rowE 47 2 ua pa.length (pa.flatMap pntC), rowE 47 2 ub pb.length (pb.flatMap pntC), rowE 72 3 ue pe.length (pe.flatMap excC)]) (sub_cons (d := 91) (congrArg some e0.1) (sub_cons (d := 92) (congrArg some e1.1) (sub_nil _))) (List.sublist_append_right _ _) ?_
              exact rq_v (rv_index (s := 1) rfl Try.underlying43 (by kernel_rfl) rfl rfl (rd_row 2 rfl) (by omega) (by first | omega | (simp only [List.length_set]; omega)))
            ·
              intro vf pf hR
              have e2 : (vf 2) = elP v7 (((j : Int)).toNat * 1) ∧ (pf 2) = [] := hR 2 (by decide)
              refine Or.inl ⟨rfl, ?_⟩
              refine rq_less (l' := [rowE 3 1 v13 yhR15.length (yhR15.map (Value.int .i64)), rowE 3 1 v10 yhR12.length (yhR12.map (Value.int .i64)), rowE 3 1 v7 yhR9.length (yhR9.map (Value.int .i64)), boxE b5 #[.int .i64 n, u] 38, rowE 82 3 u gs.length (gs.flatMap arcC), rowE 47 2 ua pa.length (pa.flatMap pntC), rowE 47 2 ub pb.length (pb.flatMap pntC), rowE 72 3 ue pe.length (pe.flatMap excC)]) (sub_cons (d := 93) (congrArg some e2.1) (sub_nil _)) (List.sublist_append_right _ _) ?_
              exact rq_v (rv_loadEl (u := .int .i64 (yhR9.getD j 0)) rfl (by kernel_rfl) rfl (rd_row 2 rfl) (ints_at1 (show _ < yhR9.length by first | omega | (simp only [List.length_set]; omega))))
            ·
              intro vf pf hR
              have e3 : (vf 3) = .int .i64 (yhR9.getD j 0) ∧ (pf 3) = [] := hR 3 (by decide)
              refine Or.inl ⟨rfl, ?_⟩
              refine rq_less (l' := [rowE 3 1 v13 yhR15.length (yhR15.map (Value.int .i64)), rowE 3 1 v10 yhR12.length (yhR12.map (Value.int .i64)), rowE 3 1 v7 yhR9.length (yhR9.map (Value.int .i64)), boxE b5 #[.int .i64 n, u] 38, rowE 82 3 u gs.length (gs.flatMap arcC), rowE 47 2 ua pa.length (pa.flatMap pntC), rowE 47 2 ub pb.length (pb.flatMap pntC), rowE 72 3 ue pe.length (pe.flatMap excC)]) (sub_cons (d := 94) (congrArg some e3.1) (sub_nil _)) (List.sublist_append_right _ _) ?_
              exact rq_mono (rq_v (rv_cmp rfl rfl rfl rfl)) (fun _ _ h => ⟨h.1.trans (congrArg Value.bool hb25), h.2⟩)
            ·
              intro vf pf hR
              have e4 : (vf 4) = .bool false ∧ (pf 4) = [] := hR 4 (by decide)
              refine Or.inl ⟨rfl, ?_⟩
              refine rq_less (l' := [rowE 3 1 v13 yhR15.length (yhR15.map (Value.int .i64)), rowE 3 1 v10 yhR12.length (yhR12.map (Value.int .i64)), rowE 3 1 v7 yhR9.length (yhR9.map (Value.int .i64)), boxE b5 #[.int .i64 n, u] 38, rowE 82 3 u gs.length (gs.flatMap arcC), rowE 47 2 ua pa.length (pa.flatMap pntC), rowE 47 2 ub pb.length (pb.flatMap pntC), rowE 72 3 ue pe.length (pe.flatMap excC)]) (sub_cons (d := 95) (congrArg some e4.1) (sub_nil _)) (List.sublist_append_right _ _) ?_
              exact rq_v (rv_ev rfl)
            ·
              intro vf pf hR
              have e5 : (vf 5) = .bool false ∧ (pf 5) = [] := hR 5 (by decide)
              exact Or.inr ⟨want_of (congrArg some e5.1) rfl, rfl, rfl⟩
            ·
              intro vf pf hR
              have e5 : (vf 5) = .bool false ∧ (pf 5) = [] := hR 5 (by decide)
              exact Or.inr ⟨want_of (congrArg some e5.1) rfl, rfl, rfl⟩
            ·
              intro vf pf hR
              have e5 : (vf 5) = .bool false ∧ (pf 5) = [] := hR 5 (by decide)
              exact Or.inr ⟨want_of (congrArg some e5.1) rfl, rfl, rfl⟩
            ·
              intro vf pf hR
              have e5 : (vf 5) = .bool false ∧ (pf 5) = [] := hR 5 (by decide)
              exact Or.inr ⟨want_of (congrArg some e5.1) rfl, rfl, rfl⟩
            ·
              intro vf pf hR
              have e5 : (vf 5) = .bool false ∧ (pf 5) = [] := hR 5 (by decide)
              exact Or.inr ⟨want_of (congrArg some e5.1) rfl, rfl, rfl⟩
            ·
              intro vf pf hR
              have e5 : (vf 5) = .bool false ∧ (pf 5) = [] := hR 5 (by decide)
              exact Or.inr ⟨want_of (congrArg some e5.1) rfl, rfl, rfl⟩
            ·
              intro vf pf hR
              have e5 : (vf 5) = .bool false ∧ (pf 5) = [] := hR 5 (by decide)
              exact Or.inr ⟨want_of (congrArg some e5.1) rfl, rfl, rfl⟩
            ·
              intro vf pf hR
              have e5 : (vf 5) = .bool false ∧ (pf 5) = [] := hR 5 (by decide)
              exact Or.inr ⟨want_of (congrArg some e5.1) rfl, rfl, rfl⟩
            ·
              intro vf pf hR
              have e5 : (vf 5) = .bool false ∧ (pf 5) = [] := hR 5 (by decide)
              exact Or.inr ⟨want_of (congrArg some e5.1) rfl, rfl, rfl⟩
            ·
              intro vf pf hR
              have e5 : (vf 5) = .bool false ∧ (pf 5) = [] := hR 5 (by decide)
              exact Or.inr ⟨want_of (congrArg some e5.1) rfl, rfl, rfl⟩
            ·
              intro vf pf hR
              have e5 : (vf 5) = .bool false ∧ (pf 5) = [] := hR 5 (by decide)
              have e15 : (vf 15) = undef ∧ (pf 15) = [] := hR 15 (by decide)
              refine Or.inl ⟨rfl, ?_⟩
              refine rq_less (l' := [rowE 3 1 v13 yhR15.length (yhR15.map (Value.int .i64)), rowE 3 1 v10 yhR12.length (yhR12.map (Value.int .i64)), rowE 3 1 v7 yhR9.length (yhR9.map (Value.int .i64)), boxE b5 #[.int .i64 n, u] 38, rowE 82 3 u gs.length (gs.flatMap arcC), rowE 47 2 ua pa.length (pa.flatMap pntC), rowE 47 2 ub pb.length (pb.flatMap pntC), rowE 72 3 ue pe.length (pe.flatMap excC)]) (sub_cons (d := 96) (congrArg some e5.1) (sub_cons (d := 106) (congrArg some e15.1) (sub_nil _))) (List.sublist_append_right _ _) ?_
              exact rq_v (rv_ev rfl)
          ·
            intro vf pf hR
            have e16 : (vf 16) = .bool false ∧ (pf 16) = [] := hR 16 (by decide)
            refine hl_less (l' := [rowE 3 1 v13 yhR15.length (yhR15.map (Value.int .i64)), rowE 3 1 v10 yhR12.length (yhR12.map (Value.int .i64)), rowE 3 1 v7 yhR9.length (yhR9.map (Value.int .i64)), boxE b5 #[.int .i64 n, u] 38, rowE 82 3 u gs.length (gs.flatMap arcC), rowE 47 2 ua pa.length (pa.flatMap pntC), rowE 47 2 ub pb.length (pb.flatMap pntC), rowE 72 3 ue pe.length (pe.flatMap excC)]) (sub_cons (d := 0) rfl (sub_cons (d := 2) rfl (sub_cons (d := 3) rfl (sub_cons (d := 4) rfl (sub_cons (d := 5) rfl (sub_cons (d := 6) rfl (sub_cons (d := 7) rfl (sub_cons (d := 8) rfl (sub_cons (d := 9) rfl (sub_cons (d := 10) rfl (sub_cons (d := 11) rfl (sub_cons (d := 13) rfl (sub_cons (d := 60) rfl (sub_cons (d := 64) rfl (sub_cons (d := 90) rfl (sub_cons (d := 107) (congrArg some e16.1) (sub_nil _))))))))))))))))) (List.sublist_append_right _ _) ?_
            simp only [List.drop_succ_cons, List.drop_zero]
            refine hl_less (sub_cons (d := 0) rfl (sub_cons (d := 2) rfl (sub_cons (d := 3) rfl (sub_cons (d := 4) rfl (sub_cons (d := 5) rfl (sub_cons (d := 6) rfl (sub_cons (d := 7) rfl (sub_cons (d := 8) rfl (sub_cons (d := 9) rfl (sub_cons (d := 10) rfl (sub_cons (d := 11) rfl (sub_cons (d := 13) rfl (sub_cons (d := 60) rfl (sub_cons (d := 64) rfl (sub_cons (d := 90) rfl (sub_cons (d := 107) rfl (sub_nil _))))))))))))))))) (.refl _) ?_
            refine hl_nil ?_
            refine hq_then ?_
            refine hc_false rfl ?_
            refine hc_skip ?_
            refine hq_block_normal ?_
            refine hq_then ?_
            refine hc_region ?_
            refine hl_v rfl rfl rfl (rv_ev rfl) ?_
            refine hl_v rfl rfl rfl (rv_add rfl rfl rfl (by constructor <;> omega)) ?_
            refine hl_v rfl rfl rfl (rv_ev rfl) ?_
            refine hl_less (sub_cons (d := 0) rfl (sub_cons (d := 2) rfl (sub_cons (d := 3) rfl (sub_cons (d := 4) rfl (sub_cons (d := 5) rfl (sub_cons (d := 6) rfl (sub_cons (d := 7) rfl (sub_cons (d := 8) rfl (sub_cons (d := 9) rfl (sub_cons (d := 10) rfl (sub_cons (d := 11) rfl (sub_cons (d := 13) rfl (sub_cons (d := 60) rfl (sub_cons (d := 64) rfl (sub_cons (d := 90) rfl (sub_cons (d := 107) rfl (sub_nil _))))))))))))))))) (.refl _) ?_
            refine hl_nil ?_
            exact hq_round1 (j + 1) (by omega) (by omega) (sub_cons (d := 0) rfl (sub_cons (d := 2) rfl (sub_cons (d := 3) rfl (sub_cons (d := 4) rfl (sub_cons (d := 5) rfl (sub_cons (d := 6) rfl (sub_cons (d := 7) rfl (sub_cons (d := 8) rfl (sub_cons (d := 9) rfl (sub_cons (d := 10) rfl (sub_cons (d := 11) rfl (sub_cons (d := 13) rfl (sub_cons (d := 60) rfl (sub_nil _)))))))))))))) ((.cons_cons _ (.cons_cons _ (.cons_cons _ (.cons_cons _ (.cons_cons _ (.cons_cons _ (.cons_cons _ (.cons_cons _ .slnil)))))))))
      ·
        have hb21p : yhR9.getD j 0 ≠ 1000000 := beq_eq_false_iff_ne.1 hb21
        obtain ⟨r1, r2, r3, r4, r5⟩ := best_all hg hpa hpb hpe (j := j) (p := 1 + (cod z0 len0 0 : Int)) (by omega) (by omega) pa.length (Nat.le_refl _)
        obtain ⟨_, k1⟩ := bhR9 j (by omega)
        obtain ⟨_, k2⟩ := bhR12 j (by omega)
        obtain ⟨_, k3⟩ := bhR15 j (by omega)
        have hrel := slack_rel k1 k2 k3 r1 r2 r3 r4 r5
        obtain ⟨r1, r2, r3, r4, r5⟩ := best_all hg hpa hpb hpe (j := j) (p := 1 + (cod z0 len0 0 : Int)) (by omega) (by omega) pa.length (Nat.le_refl _)
        obtain ⟨_, k1⟩ := bhR9 j (by omega)
        obtain ⟨_, k2⟩ := bhR12 j (by omega)
        obtain ⟨_, k3⟩ := bhR15 j (by omega)
        have hrel := slack_rel k1 k2 k3 r1 r2 r3 r4 r5
        have hb26 : ((yhR15.getD j 0) == 1000000) = false := beq_eq_false_iff_ne.2 (by omega)
        obtain ⟨r1, r2, r3, r4, r5⟩ := best_all hg hpa hpb hpe (j := j) (p := 1 + (cod z0 len0 0 : Int)) (by omega) (by omega) pa.length (Nat.le_refl _)
        obtain ⟨_, k1⟩ := bhR9 j (by omega)
        obtain ⟨_, k2⟩ := bhR12 j (by omega)
        obtain ⟨_, k3⟩ := bhR15 j (by omega)
        have hrel := slack_rel k1 k2 k3 r1 r2 r3 r4 r5
        have hb27 : ((yhR9.getD j 0) == 1000000) = false := hb21
        obtain ⟨r1, r2, r3, r4, r5⟩ := best_all hg hpa hpb hpe (j := j) (p := 1 + (cod z0 len0 0 : Int)) (by omega) (by omega) pa.length (Nat.le_refl _)
        obtain ⟨_, k1⟩ := bhR9 j (by omega)
        obtain ⟨_, k2⟩ := bhR12 j (by omega)
        obtain ⟨_, k3⟩ := bhR15 j (by omega)
        have hrel := slack_rel k1 k2 k3 r1 r2 r3 r4 r5
        have hb28 : ((yhR12.getD j 0) == 1000000) = false := beq_eq_false_iff_ne.2 (by omega)
        refine hc_draw (by kernel_rfl) 24 [0, 1, 2, 3, 4, 5, 6, 7, 8, 9, 10, 11, 12, 13, 14, 15, 16, 17, 18, 19, 20, 21, 22, 23] (List.take 24 _) (List.drop 24 _) [[], [], [0, 1], [2], [3], [], [], [5, 6], [7], [8], [4, 9], [10], [11], [11], [11, 12, 13], [11, 14], [11, 15], [11], [11], [11, 17, 18], [11, 19], [11, 20], [11, 16, 21], [11, 22]] [67, 68, 69, 70, 71, 72, 73, 74, 75, 76, 77, 78, 79, 80, 81, 82, 83, 84, 85, 86, 87, 88, 89, 90] (fun i_ vs_ v_ p_ => match i_ with | 0 => v_ = v7 ∧ p_ = [] | 1 => v_ = .int .i64 (j : Int) ∧ p_ = [] | 2 => v_ = elP v7 (((j : Int)).toNat * 1) ∧ p_ = [] | 3 => v_ = .int .i64 (yhR9.getD j 0) ∧ p_ = [] | 4 => v_ = .bool false ∧ p_ = [] | 5 => v_ = v13 ∧ p_ = [] | 6 => v_ = .int .i64 (j : Int) ∧ p_ = [] | 7 => v_ = elP v13 (((j : Int)).toNat * 1) ∧ p_ = [] | 8 => v_ = .int .i64 (yhR15.getD j 0) ∧ p_ = [] | 9 => v_ = .bool false ∧ p_ = [] | 10 => v_ = .bool false ∧ p_ = [] | 11 => v_ = .bool false ∧ p_ = [] | 12 => v_ = v7 ∧ p_ = [] | 13 => v_ = .int .i64 (j : Int) ∧ p_ = [] | 14 => v_ = elP v7 (((j : Int)).toNat * 1) ∧ p_ = [] | 15 => v_ = .int .i64 (yhR9.getD j 0) ∧ p_ = [] | 16 => v_ = .bool false ∧ p_ = [] | 17 => v_ = v10 ∧ p_ = [] | 18 => v_ = .int .i64 (j : Int) ∧ p_ = [] | 19 => v_ = elP v10 (((j : Int)).toNat * 1) ∧ p_ = [] | 20 => v_ = .int .i64 (yhR12.getD j 0) ∧ p_ = [] | 21 => v_ = .bool false ∧ p_ = [] | 22 => v_ = .bool false ∧ p_ = [] | 23 => v_ = .bool false ∧ p_ = [] | _ => True) (List.take_append_drop 24 _).symm (by kernel_rfl) (by kernel_rfl) rfl rfl ?_ ?_
        ·
          refine ⟨?_, ?_, ?_, ?_, ?_, ?_, ?_, ?_, ?_, ?_, ?_, ?_, ?_, ?_, ?_, ?_, ?_, ?_, ?_, ?_, ?_, ?_, ?_, ?_, trivial⟩
          ·
            intro vf pf hR
            refine Or.inl ⟨rfl, ?_⟩
            refine rq_less (l' := [rowE 3 1 v13 yhR15.length (yhR15.map (Value.int .i64)), rowE 3 1 v10 yhR12.length (yhR12.map (Value.int .i64)), rowE 3 1 v7 yhR9.length (yhR9.map (Value.int .i64)), boxE b5 #[.int .i64 n, u] 38, rowE 82 3 u gs.length (gs.flatMap arcC), rowE 47 2 ua pa.length (pa.flatMap pntC), rowE 47 2 ub pb.length (pb.flatMap pntC), rowE 72 3 ue pe.length (pe.flatMap excC)]) (sub_cons (d := 8) rfl (sub_nil _)) (List.sublist_append_right _ _) ?_
            exact rq_v (rv_ev rfl)
          ·
            intro vf pf hR
            refine Or.inl ⟨rfl, ?_⟩
            refine rq_less (l' := [rowE 3 1 v13 yhR15.length (yhR15.map (Value.int .i64)), rowE 3 1 v10 yhR12.length (yhR12.map (Value.int .i64)), rowE 3 1 v7 yhR9.length (yhR9.map (Value.int .i64)), boxE b5 #[.int .i64 n, u] 38, rowE 82 3 u gs.length (gs.flatMap arcC), rowE 47 2 ua pa.length (pa.flatMap pntC), rowE 47 2 ub pb.length (pb.flatMap pntC), rowE 72 3 ue pe.length (pe.flatMap excC)]) (sub_cons (d := 11) rfl (sub_nil _)) (List.sublist_append_right _ _) ?_
            exact rq_v (rv_ev rfl)
          ·
            intro vf pf hR
            have e0 : (vf 0) = v7 ∧ (pf 0) = [] := hR 0 (by decide)
            have e1 : (vf 1) = .int .i64 (j : Int) ∧ (pf 1) = [] := hR 1 (by decide)
            refine Or.inl ⟨rfl, ?_⟩
            refine rq_less (l' := [rowE 3 1 v13 yhR15.length (yhR15.map (Value.int .i64)), rowE 3 1 v10 yhR12.length (yhR12.map (Value.int .i64)), rowE 3 1 v7 yhR9.length (yhR9.map (Value.int .i64)), boxE b5 #[.int .i64 n, u] 38, rowE 82 3 u gs.length (gs.flatMap arcC), rowE 47 2 ua pa.length (pa.flatMap pntC), rowE 47 2 ub pb.length (pb.flatMap pntC), rowE 72 3 ue pe.length (pe.flatMap excC)]) (sub_cons (d := 67) (congrArg some e0.1) (sub_cons (d := 68) (congrArg some e1.1) (sub_nil _))) (List.sublist_append_right _ _) ?_
            exact rq_v (rv_index (s := 1) rfl Try.underlying43 (by kernel_rfl) rfl rfl (rd_row 2 rfl) (by omega) (by first | omega | (simp only [List.length_set]; omega)))
          ·
            intro vf pf hR
            have e2 : (vf 2) = elP v7 (((j : Int)).toNat * 1) ∧ (pf 2) = [] := hR 2 (by decide)
            refine Or.inl ⟨rfl, ?_⟩
            refine rq_less (l' := [rowE 3 1 v13 yhR15.length (yhR15.map (Value.int .i64)), rowE 3 1 v10 yhR12.length (yhR12.map (Value.int .i64)), rowE 3 1 v7 yhR9.length (yhR9.map (Value.int .i64)), boxE b5 #[.int .i64 n, u] 38, rowE 82 3 u gs.length (gs.flatMap arcC), rowE 47 2 ua pa.length (pa.flatMap pntC), rowE 47 2 ub pb.length (pb.flatMap pntC), rowE 72 3 ue pe.length (pe.flatMap excC)]) (sub_cons (d := 69) (congrArg some e2.1) (sub_nil _)) (List.sublist_append_right _ _) ?_
            exact rq_v (rv_loadEl (u := .int .i64 (yhR9.getD j 0)) rfl (by kernel_rfl) rfl (rd_row 2 rfl) (ints_at1 (show _ < yhR9.length by first | omega | (simp only [List.length_set]; omega))))
          ·
            intro vf pf hR
            have e3 : (vf 3) = .int .i64 (yhR9.getD j 0) ∧ (pf 3) = [] := hR 3 (by decide)
            refine Or.inl ⟨rfl, ?_⟩
            refine rq_less (l' := [rowE 3 1 v13 yhR15.length (yhR15.map (Value.int .i64)), rowE 3 1 v10 yhR12.length (yhR12.map (Value.int .i64)), rowE 3 1 v7 yhR9.length (yhR9.map (Value.int .i64)), boxE b5 #[.int .i64 n, u] 38, rowE 82 3 u gs.length (gs.flatMap arcC), rowE 47 2 ua pa.length (pa.flatMap pntC), rowE 47 2 ub pb.length (pb.flatMap pntC), rowE 72 3 ue pe.length (pe.flatMap excC)]) (sub_cons (d := 70) (congrArg some e3.1) (sub_nil _)) (List.sublist_append_right _ _) ?_
            exact rq_mono (rq_v (rv_cmp rfl rfl rfl rfl)) (fun _ _ h => ⟨h.1.trans (congrArg Value.bool hb21), h.2⟩)
          ·
            intro vf pf hR
            refine Or.inl ⟨rfl, ?_⟩
            refine rq_less (l' := [rowE 3 1 v13 yhR15.length (yhR15.map (Value.int .i64)), rowE 3 1 v10 yhR12.length (yhR12.map (Value.int .i64)), rowE 3 1 v7 yhR9.length (yhR9.map (Value.int .i64)), boxE b5 #[.int .i64 n, u] 38, rowE 82 3 u gs.length (gs.flatMap arcC), rowE 47 2 ua pa.length (pa.flatMap pntC), rowE 47 2 ub pb.length (pb.flatMap pntC), rowE 72 3 ue pe.length (pe.flatMap excC)]) (sub_cons (d := 10) rfl (sub_nil _)) (List.sublist_append_right _ _) ?_
            exact rq_v (rv_ev rfl)
          ·
            intro vf pf hR
            refine Or.inl ⟨rfl, ?_⟩
            refine rq_less (l' := [rowE 3 1 v13 yhR15.length (yhR15.map (Value.int .i64)), rowE 3 1 v10 yhR12.length (yhR12.map (Value.int .i64)), rowE 3 1 v7 yhR9.length (yhR9.map (Value.int .i64)), boxE b5 #[.int .i64 n, u] 38, rowE 82 3 u gs.length (gs.flatMap arcC), rowE 47 2 ua pa.length (pa.flatMap pntC), rowE 47 2 ub pb.length (pb.flatMap pntC), rowE 72 3 ue pe.length (pe.flatMap excC)]) (sub_cons (d := 11) rfl (sub_nil _)) (List.sublist_append_right _ _) ?_
            exact rq_v (rv_ev rfl)
          ·
            intro vf pf hR
            have e5 : (vf 5) = v13 ∧ (pf 5) = [] := hR 5 (by decide)
            have e6 : (vf 6) = .int .i64 (j : Int) ∧ (pf 6) = [] := hR 6 (by decide)
            refine Or.inl ⟨rfl, ?_⟩
            refine rq_less (l' := [rowE 3 1 v13 yhR15.length (yhR15.map (Value.int .i64)), rowE 3 1 v10 yhR12.length (yhR12.map (Value.int .i64)), rowE 3 1 v7 yhR9.length (yhR9.map (Value.int .i64)), boxE b5 #[.int .i64 n, u] 38, rowE 82 3 u gs.length (gs.flatMap arcC), rowE 47 2 ua pa.length (pa.flatMap pntC), rowE 47 2 ub pb.length (pb.flatMap pntC), rowE 72 3 ue pe.length (pe.flatMap excC)]) (sub_cons (d := 72) (congrArg some e5.1) (sub_cons (d := 73) (congrArg some e6.1) (sub_nil _))) (List.sublist_append_right _ _) ?_
            exact rq_v (rv_index (s := 1) rfl Try.underlying43 (by kernel_rfl) rfl rfl (rd_row 0 rfl) (by omega) (by first | omega | (simp only [List.length_set]; omega)))
          ·
            intro vf pf hR
            have e7 : (vf 7) = elP v13 (((j : Int)).toNat * 1) ∧ (pf 7) = [] := hR 7 (by decide)
            refine Or.inl ⟨rfl, ?_⟩
            refine rq_less (l' := [rowE 3 1 v13 yhR15.length (yhR15.map (Value.int .i64)), rowE 3 1 v10 yhR12.length (yhR12.map (Value.int .i64)), rowE 3 1 v7 yhR9.length (yhR9.map (Value.int .i64)), boxE b5 #[.int .i64 n, u] 38, rowE 82 3 u gs.length (gs.flatMap arcC), rowE 47 2 ua pa.length (pa.flatMap pntC), rowE 47 2 ub pb.length (pb.flatMap pntC), rowE 72 3 ue pe.length (pe.flatMap excC)]) (sub_cons (d := 74) (congrArg some e7.1) (sub_nil _)) (List.sublist_append_right _ _) ?_
            exact rq_v (rv_loadEl (u := .int .i64 (yhR15.getD j 0)) rfl (by kernel_rfl) rfl (rd_row 0 rfl) (ints_at1 (show _ < yhR15.length by first | omega | (simp only [List.length_set]; omega))))
          ·
            intro vf pf hR
            have e8 : (vf 8) = .int .i64 (yhR15.getD j 0) ∧ (pf 8) = [] := hR 8 (by decide)
            refine Or.inl ⟨rfl, ?_⟩
            refine rq_less (l' := [rowE 3 1 v13 yhR15.length (yhR15.map (Value.int .i64)), rowE 3 1 v10 yhR12.length (yhR12.map (Value.int .i64)), rowE 3 1 v7 yhR9.length (yhR9.map (Value.int .i64)), boxE b5 #[.int .i64 n, u] 38, rowE 82 3 u gs.length (gs.flatMap arcC), rowE 47 2 ua pa.length (pa.flatMap pntC), rowE 47 2 ub pb.length (pb.flatMap pntC), rowE 72 3 ue pe.length (pe.flatMap excC)]) (sub_cons (d := 75) (congrArg some e8.1) (sub_nil _)) (List.sublist_append_right _ _) ?_
            exact rq_mono (rq_v (rv_cmp rfl rfl rfl rfl)) (fun _ _ h => ⟨h.1.trans (congrArg Value.bool hb26), h.2⟩)
          ·
            intro vf pf hR
            have e4 : (vf 4) = .bool false ∧ (pf 4) = [] := hR 4 (by decide)
            have e9 : (vf 9) = .bool false ∧ (pf 9) = [] := hR 9 (by decide)
            refine Or.inl ⟨rfl, ?_⟩
            refine rq_less (l' := [rowE 3 1 v13 yhR15.length (yhR15.map (Value.int .i64)), rowE 3 1 v10 yhR12.length (yhR12.map (Value.int .i64)), rowE 3 1 v7 yhR9.length (yhR9.map (Value.int .i64)), boxE b5 #[.int .i64 n, u] 38, rowE 82 3 u gs.length (gs.flatMap arcC), rowE 47 2 ua pa.length (pa.flatMap pntC), rowE 47 2 ub pb.length (pb.flatMap pntC), rowE 72 3 ue pe.length (pe.flatMap excC)]) (sub_cons (d := 71) (congrArg some e4.1) (sub_cons (d := 76) (congrArg some e9.1) (sub_nil _))) (List.sublist_append_right _ _) ?_
            exact rq_v (rv_bneq (m := false) (n := false) rfl Try.underlying4 rfl rfl)
          ·
            intro vf pf hR
            have e10 : (vf 10) = .bool false ∧ (pf 10) = [] := hR 10 (by decide)
            refine Or.inl ⟨rfl, ?_⟩
            refine rq_less (l' := [rowE 3 1 v13 yhR15.length (yhR15.map (Value.int .i64)), rowE 3 1 v10 yhR12.length (yhR12.map (Value.int .i64)), rowE 3 1 v7 yhR9.length (yhR9.map (Value.int .i64)), boxE b5 #[.int .i64 n, u] 38, rowE 82 3 u gs.length (gs.flatMap arcC), rowE 47 2 ua pa.length (pa.flatMap pntC), rowE 47 2 ub pb.length (pb.flatMap pntC), rowE 72 3 ue pe.length (pe.flatMap excC)]) (sub_cons (d := 77) (congrArg some e10.1) (sub_nil _)) (List.sublist_append_right _ _) ?_
            exact rq_v (rv_ev rfl)
          ·
            intro vf pf hR
            have e11 : (vf 11) = .bool false ∧ (pf 11) = [] := hR 11 (by decide)
            refine Or.inl ⟨want_of (congrArg some e11.1) rfl, ?_⟩
            refine rq_less (l' := [rowE 3 1 v13 yhR15.length (yhR15.map (Value.int .i64)), rowE 3 1 v10 yhR12.length (yhR12.map (Value.int .i64)), rowE 3 1 v7 yhR9.length (yhR9.map (Value.int .i64)), boxE b5 #[.int .i64 n, u] 38, rowE 82 3 u gs.length (gs.flatMap arcC), rowE 47 2 ua pa.length (pa.flatMap pntC), rowE 47 2 ub pb.length (pb.flatMap pntC), rowE 72 3 ue pe.length (pe.flatMap excC)]) (sub_cons (d := 8) rfl (sub_nil _)) (List.sublist_append_right _ _) ?_
            exact rq_v (rv_ev rfl)
          ·
            intro vf pf hR
            have e11 : (vf 11) = .bool false ∧ (pf 11) = [] := hR 11 (by decide)
            refine Or.inl ⟨want_of (congrArg some e11.1) rfl, ?_⟩
            refine rq_less (l' := [rowE 3 1 v13 yhR15.length (yhR15.map (Value.int .i64)), rowE 3 1 v10 yhR12.length (yhR12.map (Value.int .i64)), rowE 3 1 v7 yhR9.length (yhR9.map (Value.int .i64)), boxE b5 #[.int .i64 n, u] 38, rowE 82 3 u gs.length (gs.flatMap arcC), rowE 47 2 ua pa.length (pa.flatMap pntC), rowE 47 2 ub pb.length (pb.flatMap pntC), rowE 72 3 ue pe.length (pe.flatMap excC)]) (sub_cons (d := 11) rfl (sub_nil _)) (List.sublist_append_right _ _) ?_
            exact rq_v (rv_ev rfl)
          ·
            intro vf pf hR
            have e11 : (vf 11) = .bool false ∧ (pf 11) = [] := hR 11 (by decide)
            have e12 : (vf 12) = v7 ∧ (pf 12) = [] := hR 12 (by decide)
            have e13 : (vf 13) = .int .i64 (j : Int) ∧ (pf 13) = [] := hR 13 (by decide)
            refine Or.inl ⟨want_of (congrArg some e11.1) rfl, ?_⟩
            refine rq_less (l' := [rowE 3 1 v13 yhR15.length (yhR15.map (Value.int .i64)), rowE 3 1 v10 yhR12.length (yhR12.map (Value.int .i64)), rowE 3 1 v7 yhR9.length (yhR9.map (Value.int .i64)), boxE b5 #[.int .i64 n, u] 38, rowE 82 3 u gs.length (gs.flatMap arcC), rowE 47 2 ua pa.length (pa.flatMap pntC), rowE 47 2 ub pb.length (pb.flatMap pntC), rowE 72 3 ue pe.length (pe.flatMap excC)]) (sub_cons (d := 79) (congrArg some e12.1) (sub_cons (d := 80) (congrArg some e13.1) (sub_nil _))) (List.sublist_append_right _ _) ?_
            exact rq_v (rv_index (s := 1) rfl Try.underlying43 (by kernel_rfl) rfl rfl (rd_row 2 rfl) (by omega) (by first | omega | (simp only [List.length_set]; omega)))
          ·
            intro vf pf hR
            have e11 : (vf 11) = .bool false ∧ (pf 11) = [] := hR 11 (by decide)
            have e14 : (vf 14) = elP v7 (((j : Int)).toNat * 1) ∧ (pf 14) = [] := hR 14 (by decide)
            refine Or.inl ⟨want_of (congrArg some e11.1) rfl, ?_⟩
            refine rq_less (l' := [rowE 3 1 v13 yhR15.length (yhR15.map (Value.int .i64)), rowE 3 1 v10 yhR12.length (yhR12.map (Value.int .i64)), rowE 3 1 v7 yhR9.length (yhR9.map (Value.int .i64)), boxE b5 #[.int .i64 n, u] 38, rowE 82 3 u gs.length (gs.flatMap arcC), rowE 47 2 ua pa.length (pa.flatMap pntC), rowE 47 2 ub pb.length (pb.flatMap pntC), rowE 72 3 ue pe.length (pe.flatMap excC)]) (sub_cons (d := 81) (congrArg some e14.1) (sub_nil _)) (List.sublist_append_right _ _) ?_
            exact rq_v (rv_loadEl (u := .int .i64 (yhR9.getD j 0)) rfl (by kernel_rfl) rfl (rd_row 2 rfl) (ints_at1 (show _ < yhR9.length by first | omega | (simp only [List.length_set]; omega))))
          ·
            intro vf pf hR
            have e11 : (vf 11) = .bool false ∧ (pf 11) = [] := hR 11 (by decide)
            have e15 : (vf 15) = .int .i64 (yhR9.getD j 0) ∧ (pf 15) = [] := hR 15 (by decide)
            refine Or.inl ⟨want_of (congrArg some e11.1) rfl, ?_⟩
            refine rq_less (l' := [rowE 3 1 v13 yhR15.length (yhR15.map (Value.int .i64)), rowE 3 1 v10 yhR12.length (yhR12.map (Value.int .i64)), rowE 3 1 v7 yhR9.length (yhR9.map (Value.int .i64)), boxE b5 #[.int .i64 n, u] 38, rowE 82 3 u gs.length (gs.flatMap arcC), rowE 47 2 ua pa.length (pa.flatMap pntC), rowE 47 2 ub pb.length (pb.flatMap pntC), rowE 72 3 ue pe.length (pe.flatMap excC)]) (sub_cons (d := 82) (congrArg some e15.1) (sub_nil _)) (List.sublist_append_right _ _) ?_
            exact rq_mono (rq_v (rv_cmp rfl rfl rfl rfl)) (fun _ _ h => ⟨h.1.trans (congrArg Value.bool hb27), h.2⟩)
          ·
            intro vf pf hR
            have e11 : (vf 11) = .bool false ∧ (pf 11) = [] := hR 11 (by decide)
            refine Or.inl ⟨want_of (congrArg some e11.1) rfl, ?_⟩
            refine rq_less (l' := [rowE 3 1 v13 yhR15.length (yhR15.map (Value.int .i64)), rowE 3 1 v10 yhR12.length (yhR12.map (Value.int .i64)), rowE 3 1 v7 yhR9.length (yhR9.map (Value.int .i64)), boxE b5 #[.int .i64 n, u] 38, rowE 82 3 u gs.length (gs.flatMap arcC), rowE 47 2 ua pa.length (pa.flatMap pntC), rowE 47 2 ub pb.length (pb.flatMap pntC), rowE 72 3 ue pe.length (pe.flatMap excC)]) (sub_cons (d := 9) rfl (sub_nil _)) (List.sublist_append_right _ _) ?_
            exact rq_v (rv_ev rfl)
          ·
            intro vf pf hR
            have e11 : (vf 11) = .bool false ∧ (pf 11) = [] := hR 11 (by decide)
            refine Or.inl ⟨want_of (congrArg some e11.1) rfl, ?_⟩
            refine rq_less (l' := [rowE 3 1 v13 yhR15.length (yhR15.map (Value.int .i64)), rowE 3 1 v10 yhR12.length (yhR12.map (Value.int .i64)), rowE 3 1 v7 yhR9.length (yhR9.map (Value.int .i64)), boxE b5 #[.int .i64 n, u] 38, rowE 82 3 u gs.length (gs.flatMap arcC), rowE 47 2 ua pa.length (pa.flatMap pntC), rowE 47 2 ub pb.length (pb.flatMap pntC), rowE 72 3 ue pe.length (pe.flatMap excC)]) (sub_cons (d := 11) rfl (sub_nil _)) (List.sublist_append_right _ _) ?_
            exact rq_v (rv_ev rfl)
          ·
            intro vf pf hR
            have e11 : (vf 11) = .bool false ∧ (pf 11) = [] := hR 11 (by decide)
            have e17 : (vf 17) = v10 ∧ (pf 17) = [] := hR 17 (by decide)
            have e18 : (vf 18) = .int .i64 (j : Int) ∧ (pf 18) = [] := hR 18 (by decide)
            refine Or.inl ⟨want_of (congrArg some e11.1) rfl, ?_⟩
            refine rq_less (l' := [rowE 3 1 v13 yhR15.length (yhR15.map (Value.int .i64)), rowE 3 1 v10 yhR12.length (yhR12.map (Value.int .i64)), rowE 3 1 v7 yhR9.length (yhR9.map (Value.int .i64)), boxE b5 #[.int .i64 n, u] 38, rowE 82 3 u gs.length (gs.flatMap arcC), rowE 47 2 ua pa.length (pa.flatMap pntC), rowE 47 2 ub pb.length (pb.flatMap pntC), rowE 72 3 ue pe.length (pe.flatMap excC)]) (sub_cons (d := 84) (congrArg some e17.1) (sub_cons (d := 85) (congrArg some e18.1) (sub_nil _))) (List.sublist_append_right _ _) ?_
            exact rq_v (rv_index (s := 1) rfl Try.underlying43 (by kernel_rfl) rfl rfl (rd_row 1 rfl) (by omega) (by first | omega | (simp only [List.length_set]; omega)))
          ·
            intro vf pf hR
            have e11 : (vf 11) = .bool false ∧ (pf 11) = [] := hR 11 (by decide)
            have e19 : (vf 19) = elP v10 (((j : Int)).toNat * 1) ∧ (pf 19) = [] := hR 19 (by decide)
            refine Or.inl ⟨want_of (congrArg some e11.1) rfl, ?_⟩
            refine rq_less (l' := [rowE 3 1 v13 yhR15.length (yhR15.map (Value.int .i64)), rowE 3 1 v10 yhR12.length (yhR12.map (Value.int .i64)), rowE 3 1 v7 yhR9.length (yhR9.map (Value.int .i64)), boxE b5 #[.int .i64 n, u] 38, rowE 82 3 u gs.length (gs.flatMap arcC), rowE 47 2 ua pa.length (pa.flatMap pntC), rowE 47 2 ub pb.length (pb.flatMap pntC), rowE 72 3 ue pe.length (pe.flatMap excC)]) (sub_cons (d := 86) (congrArg some e19.1) (sub_nil _)) (List.sublist_append_right _ _) ?_
            exact rq_v (rv_loadEl (u := .int .i64 (yhR12.getD j 0)) rfl (by kernel_rfl) rfl (rd_row 1 rfl) (ints_at1 (show _ < yhR12.length by first | omega | (simp only [List.length_set]; omega))))
          ·
            intro vf pf hR
            have e11 : (vf 11) = .bool false ∧ (pf 11) = [] := hR 11 (by decide)
            have e20 : (vf 20) = .int .i64 (yhR12.getD j 0) ∧ (pf 20) = [] := hR 20 (by decide)
            refine Or.inl ⟨want_of (congrArg some e11.1) rfl, ?_⟩
            refine rq_less (l' := [rowE 3 1 v13 yhR15.length (yhR15.map (Value.int .i64)), rowE 3 1 v10 yhR12.length (yhR12.map (Value.int .i64)), rowE 3 1 v7 yhR9.length (yhR9.map (Value.int .i64)), boxE b5 #[.int .i64 n, u] 38, rowE 82 3 u gs.length (gs.flatMap arcC), rowE 47 2 ua pa.length (pa.flatMap pntC), rowE 47 2 ub pb.length (pb.flatMap pntC), rowE 72 3 ue pe.length (pe.flatMap excC)]) (sub_cons (d := 87) (congrArg some e20.1) (sub_nil _)) (List.sublist_append_right _ _) ?_
            exact rq_mono (rq_v (rv_cmp rfl rfl rfl rfl)) (fun _ _ h => ⟨h.1.trans (congrArg Value.bool hb28), h.2⟩)
          ·
            intro vf pf hR
            have e11 : (vf 11) = .bool false ∧ (pf 11) = [] := hR 11 (by decide)
            have e16 : (vf 16) = .bool false ∧ (pf 16) = [] := hR 16 (by decide)
            have e21 : (vf 21) = .bool false ∧ (pf 21) = [] := hR 21 (by decide)
            refine Or.inl ⟨want_of (congrArg some e11.1) rfl, ?_⟩
            refine rq_less (l' := [rowE 3 1 v13 yhR15.length (yhR15.map (Value.int .i64)), rowE 3 1 v10 yhR12.length (yhR12.map (Value.int .i64)), rowE 3 1 v7 yhR9.length (yhR9.map (Value.int .i64)), boxE b5 #[.int .i64 n, u] 38, rowE 82 3 u gs.length (gs.flatMap arcC), rowE 47 2 ua pa.length (pa.flatMap pntC), rowE 47 2 ub pb.length (pb.flatMap pntC), rowE 72 3 ue pe.length (pe.flatMap excC)]) (sub_cons (d := 83) (congrArg some e16.1) (sub_cons (d := 88) (congrArg some e21.1) (sub_nil _))) (List.sublist_append_right _ _) ?_
            exact rq_v (rv_bneq (m := false) (n := false) rfl Try.underlying4 rfl rfl)
          ·
            intro vf pf hR
            have e11 : (vf 11) = .bool false ∧ (pf 11) = [] := hR 11 (by decide)
            have e22 : (vf 22) = .bool false ∧ (pf 22) = [] := hR 22 (by decide)
            refine Or.inl ⟨rfl, ?_⟩
            refine rq_less (l' := [rowE 3 1 v13 yhR15.length (yhR15.map (Value.int .i64)), rowE 3 1 v10 yhR12.length (yhR12.map (Value.int .i64)), rowE 3 1 v7 yhR9.length (yhR9.map (Value.int .i64)), boxE b5 #[.int .i64 n, u] 38, rowE 82 3 u gs.length (gs.flatMap arcC), rowE 47 2 ua pa.length (pa.flatMap pntC), rowE 47 2 ub pb.length (pb.flatMap pntC), rowE 72 3 ue pe.length (pe.flatMap excC)]) (sub_cons (d := 78) (congrArg some e11.1) (sub_cons (d := 89) (congrArg some e22.1) (sub_nil _))) (List.sublist_append_right _ _) ?_
            exact rq_v (rv_ev rfl)
        ·
          intro vf pf hR
          have e23 : (vf 23) = .bool false ∧ (pf 23) = [] := hR 23 (by decide)
          refine hl_less (l' := [rowE 3 1 v13 yhR15.length (yhR15.map (Value.int .i64)), rowE 3 1 v10 yhR12.length (yhR12.map (Value.int .i64)), rowE 3 1 v7 yhR9.length (yhR9.map (Value.int .i64)), boxE b5 #[.int .i64 n, u] 38, rowE 82 3 u gs.length (gs.flatMap arcC), rowE 47 2 ua pa.length (pa.flatMap pntC), rowE 47 2 ub pb.length (pb.flatMap pntC), rowE 72 3 ue pe.length (pe.flatMap excC)]) (sub_cons (d := 0) rfl (sub_cons (d := 2) rfl (sub_cons (d := 3) rfl (sub_cons (d := 4) rfl (sub_cons (d := 5) rfl (sub_cons (d := 6) rfl (sub_cons (d := 7) rfl (sub_cons (d := 8) rfl (sub_cons (d := 9) rfl (sub_cons (d := 10) rfl (sub_cons (d := 11) rfl (sub_cons (d := 13) rfl (sub_cons (d := 60) rfl (sub_cons (d := 64) rfl (sub_cons (d := 90) (congrArg some e23.1) (sub_nil _)))))))))))))))) (List.sublist_append_right _ _) ?_
          simp only [List.drop_succ_cons, List.drop_zero]
          refine hl_less (sub_cons (d := 0) rfl (sub_cons (d := 2) rfl (sub_cons (d := 3) rfl (sub_cons (d := 4) rfl (sub_cons (d := 5) rfl (sub_cons (d := 6) rfl (sub_cons (d := 7) rfl (sub_cons (d := 8) rfl (sub_cons (d := 9) rfl (sub_cons (d := 10) rfl (sub_cons (d := 11) rfl (sub_cons (d := 13) rfl (sub_cons (d := 60) rfl (sub_cons (d := 64) rfl (sub_cons (d := 90) rfl (sub_nil _)))))))))))))))) (.refl _) ?_
          refine hl_nil ?_
          refine hq_then ?_
          refine hc_false rfl ?_
          refine hc_skip ?_
          refine hq_then ?_
          refine hc_seq ?_
          have hb29 : ((yhR9.getD j 0) != 1000000) = true := bne_iff_ne.2 (by omega)
          have hb30 : (decide (yhR12.getD j 0 < (yhR9.getD j 0) + 1)) = false := decide_eq_false (by omega)
          refine hc_draw (by kernel_rfl) 17 [0, 1, 2, 3, 4, 5, 6, 7, 8, 9, 10, 11, 12, 13, 14, 15, 16] (List.take 17 _) (List.drop 17 _) [[], [], [0, 1], [2], [3], [4], [5], [5], [5, 6, 7], [5, 8], [5], [5], [5, 10, 11], [5, 12], [5, 13], [5, 9, 14], [5, 15]] [91, 92, 93, 94, 95, 96, 97, 98, 99, 100, 101, 102, 103, 104, 105, 106, 107] (fun i_ vs_ v_ p_ => match i_ with | 0 => v_ = v7 ∧ p_ = [] | 1 => v_ = .int .i64 (j : Int) ∧ p_ = [] | 2 => v_ = elP v7 (((j : Int)).toNat * 1) ∧ p_ = [] | 3 => v_ = .int .i64 (yhR9.getD j 0) ∧ p_ = [] | 4 => v_ = .bool true ∧ p_ = [] | 5 => v_ = .bool true ∧ p_ = [] | 6 => v_ = v10 ∧ p_ = [] | 7 => v_ = .int .i64 (j : Int) ∧ p_ = [] | 8 => v_ = elP v10 (((j : Int)).toNat * 1) ∧ p_ = [] | 9 => v_ = .int .i64 (yhR12.getD j 0) ∧ p_ = [] | 10 => v_ = v7 ∧ p_ = [] | 11 => v_ = .int .i64 (j : Int) ∧ p_ = [] | 12 => v_ = elP v7 (((j : Int)).toNat * 1) ∧ p_ = [] | 13 => v_ = .int .i64 (yhR9.getD j 0) ∧ p_ = [] | 14 => v_ = .int .i64 ((yhR9.getD j 0) + 1) ∧ p_ = [] | 15 => v_ = .bool false ∧ p_ = [] | 16 => v_ = .bool false ∧ p_ = [] | _ => True) (List.take_append_drop 17 _).symm (by kernel_rfl) (by kernel_rfl) rfl rfl ?_ ?_
          ·
            refine ⟨?_, ?_, ?_, ?_, ?_, ?_, ?_, ?_, ?_, ?_, ?_, ?_, ?_, ?_, ?_, ?_, ?_, trivial⟩
            ·
              intro vf pf hR
              refine Or.inl ⟨rfl, ?_⟩
              refine rq_less (l' := [rowE 3 1 v13 yhR15.length (yhR15.map (Value.int .i64)), rowE 3 1 v10 yhR12.length (yhR12.map (Value.int .i64)), rowE 3 1 v7 yhR9.length (yhR9.map (Value.int .i64)), boxE b5 #[.int .i64 n, u] 38, rowE 82 3 u gs.length (gs.flatMap arcC), rowE 47 2 ua pa.length (pa.flatMap pntC), rowE 47 2 ub pb.length (pb.flatMap pntC), rowE 72 3 ue pe.length (pe.flatMap excC)]) (sub_cons (d := 8) rfl (sub_nil _)) (List.sublist_append_right _ _) ?_
              exact rq_v (rv_ev rfl)
            ·
              intro vf pf hR
              refine Or.inl ⟨rfl, ?_⟩
              refine rq_less (l' := [rowE 3 1 v13 yhR15.length (yhR15.map (Value.int .i64)), rowE 3 1 v10 yhR12.length (yhR12.map (Value.int .i64)), rowE 3 1 v7 yhR9.length (yhR9.map (Value.int .i64)), boxE b5 #[.int .i64 n, u] 38, rowE 82 3 u gs.length (gs.flatMap arcC), rowE 47 2 ua pa.length (pa.flatMap pntC), rowE 47 2 ub pb.length (pb.flatMap pntC), rowE 72 3 ue pe.length (pe.flatMap excC)]) (sub_cons (d := 11) rfl (sub_nil _)) (List.sublist_append_right _ _) ?_
              exact rq_v (rv_ev rfl)
            ·
              intro vf pf hR
              have e0 : (vf 0) = v7 ∧ (pf 0) = [] := hR 0 (by decide)
              have e1 : (vf 1) = .int .i64 (j : Int) ∧ (pf 1) = [] := hR 1 (by decide)
              refine Or.inl ⟨rfl, ?_⟩
              refine rq_less (l' := [rowE 3 1 v13 yhR15.length (yhR15.map (Value.int .i64)), rowE 3 1 v10 yhR12.length (yhR12.map (Value.int .i64)), rowE 3 1 v7 yhR9.length (yhR9.map (Value.int .i64)), boxE b5 #[.int .i64 n, u] 38, rowE 82 3 u gs.length (gs.flatMap arcC), rowE 47 2 ua pa.length (pa.flatMap pntC), rowE 47 2 ub pb.length (pb.flatMap pntC), rowE 72 3 ue pe.length (pe.flatMap excC)]) (sub_cons (d := 91) (congrArg some e0.1) (sub_cons (d := 92) (congrArg some e1.1) (sub_nil _))) (List.sublist_append_right _ _) ?_
              exact rq_v (rv_index (s := 1) rfl Try.underlying43 (by kernel_rfl) rfl rfl (rd_row 2 rfl) (by omega) (by first | omega | (simp only [List.length_set]; omega)))
            ·
              intro vf pf hR
              have e2 : (vf 2) = elP v7 (((j : Int)).toNat * 1) ∧ (pf 2) = [] := hR 2 (by decide)
              refine Or.inl ⟨rfl, ?_⟩
              refine rq_less (l' := [rowE 3 1 v13 yhR15.length (yhR15.map (Value.int .i64)), rowE 3 1 v10 yhR12.length (yhR12.map (Value.int .i64)), rowE 3 1 v7 yhR9.length (yhR9.map (Value.int .i64)), boxE b5 #[.int .i64 n, u] 38, rowE 82 3 u gs.length (gs.flatMap arcC), rowE 47 2 ua pa.length (pa.flatMap pntC), rowE 47 2 ub pb.length (pb.flatMap pntC), rowE 72 3 ue pe.length (pe.flatMap excC)]) (sub_cons (d := 93) (congrArg some e2.1) (sub_nil _)) (List.sublist_append_right _ _) ?_
              exact rq_v (rv_loadEl (u := .int .i64 (yhR9.getD j 0)) rfl (by kernel_rfl) rfl (rd_row 2 rfl) (ints_at1 (show _ < yhR9.length by first | omega | (simp only [List.length_set]; omega))))
            ·
              intro vf pf hR
              have e3 : (vf 3) = .int .i64 (yhR9.getD j 0) ∧ (pf 3) = [] := hR 3 (by decide)
              refine Or.inl ⟨rfl, ?_⟩
              refine rq_less (l' := [rowE 3 1 v13 yhR15.length (yhR15.map (Value.int .i64)), rowE 3 1 v10 yhR12.length (yhR12.map (Value.int .i64)), rowE 3 1 v7 yhR9.length (yhR9.map (Value.int .i64)), boxE b5 #[.int .i64 n, u] 38, rowE 82 3 u gs.length (gs.flatMap arcC), rowE 47 2 ua pa.length (pa.flatMap pntC), rowE 47 2 ub pb.length (pb.flatMap pntC), rowE 72 3 ue pe.length (pe.flatMap excC)]) (sub_cons (d := 94) (congrArg some e3.1) (sub_nil _)) (List.sublist_append_right _ _) ?_
              exact rq_mono (rq_v (rv_cmp rfl rfl rfl rfl)) (fun _ _ h => ⟨h.1.trans (congrArg Value.bool hb29), h.2⟩)
            ·
              intro vf pf hR
              have e4 : (vf 4) = .bool true ∧ (pf 4) = [] := hR 4 (by decide)
              refine Or.inl ⟨rfl, ?_⟩
              refine rq_less (l' := [rowE 3 1 v13 yhR15.length (yhR15.map (Value.int .i64)), rowE 3 1 v10 yhR12.length (yhR12.map (Value.int .i64)), rowE 3 1 v7 yhR9.length (yhR9.map (Value.int .i64)), boxE b5 #[.int .i64 n, u] 38, rowE 82 3 u gs.length (gs.flatMap arcC), rowE 47 2 ua pa.length (pa.flatMap pntC), rowE 47 2 ub pb.length (pb.flatMap pntC), rowE 72 3 ue pe.length (pe.flatMap excC)]) (sub_cons (d := 95) (congrArg some e4.1) (sub_nil _)) (List.sublist_append_right _ _) ?_
              exact rq_v (rv_ev rfl)
            ·
              intro vf pf hR
              have e5 : (vf 5) = .bool true ∧ (pf 5) = [] := hR 5 (by decide)
              refine Or.inl ⟨want_of (congrArg some e5.1) rfl, ?_⟩
              refine rq_less (l' := [rowE 3 1 v13 yhR15.length (yhR15.map (Value.int .i64)), rowE 3 1 v10 yhR12.length (yhR12.map (Value.int .i64)), rowE 3 1 v7 yhR9.length (yhR9.map (Value.int .i64)), boxE b5 #[.int .i64 n, u] 38, rowE 82 3 u gs.length (gs.flatMap arcC), rowE 47 2 ua pa.length (pa.flatMap pntC), rowE 47 2 ub pb.length (pb.flatMap pntC), rowE 72 3 ue pe.length (pe.flatMap excC)]) (sub_cons (d := 9) rfl (sub_nil _)) (List.sublist_append_right _ _) ?_
              exact rq_v (rv_ev rfl)
            ·
              intro vf pf hR
              have e5 : (vf 5) = .bool true ∧ (pf 5) = [] := hR 5 (by decide)
              refine Or.inl ⟨want_of (congrArg some e5.1) rfl, ?_⟩
              refine rq_less (l' := [rowE 3 1 v13 yhR15.length (yhR15.map (Value.int .i64)), rowE 3 1 v10 yhR12.length (yhR12.map (Value.int .i64)), rowE 3 1 v7 yhR9.length (yhR9.map (Value.int .i64)), boxE b5 #[.int .i64 n, u] 38, rowE 82 3 u gs.length (gs.flatMap arcC), rowE 47 2 ua pa.length (pa.flatMap pntC), rowE 47 2 ub pb.length (pb.flatMap pntC), rowE 72 3 ue pe.length (pe.flatMap excC)]) (sub_cons (d := 11) rfl (sub_nil _)) (List.sublist_append_right _ _) ?_
              exact rq_v (rv_ev rfl)
            ·
              intro vf pf hR
              have e5 : (vf 5) = .bool true ∧ (pf 5) = [] := hR 5 (by decide)
              have e6 : (vf 6) = v10 ∧ (pf 6) = [] := hR 6 (by decide)
              have e7 : (vf 7) = .int .i64 (j : Int) ∧ (pf 7) = [] := hR 7 (by decide)
              refine Or.inl ⟨want_of (congrArg some e5.1) rfl, ?_⟩
              refine rq_less (l' := [rowE 3 1 v13 yhR15.length (yhR15.map (Value.int .i64)), rowE 3 1 v10 yhR12.length (yhR12.map (Value.int .i64)), rowE 3 1 v7 yhR9.length (yhR9.map (Value.int .i64)), boxE b5 #[.int .i64 n, u] 38, rowE 82 3 u gs.length (gs.flatMap arcC), rowE 47 2 ua pa.length (pa.flatMap pntC), rowE 47 2 ub pb.length (pb.flatMap pntC), rowE 72 3 ue pe.length (pe.flatMap excC)]) (sub_cons (d := 97) (congrArg some e6.1) (sub_cons (d := 98) (congrArg some e7.1) (sub_nil _))) (List.sublist_append_right _ _) ?_
              exact rq_v (rv_index (s := 1) rfl Try.underlying43 (by kernel_rfl) rfl rfl (rd_row 1 rfl) (by omega) (by first | omega | (simp only [List.length_set]; omega)))
            ·
              intro vf pf hR
              have e5 : (vf 5) = .bool true ∧ (pf 5) = [] := hR 5 (by decide)
              have e8 : (vf 8) = elP v10 (((j : Int)).toNat * 1) ∧ (pf 8) = [] := hR 8 (by decide)
              refine Or.inl ⟨want_of (congrArg some e5.1) rfl, ?_⟩
              refine rq_less (l' := [rowE 3 1 v13 yhR15.length (yhR15.map (Value.int .i64)), rowE 3 1 v10 yhR12.length (yhR12.map (Value.int .i64)), rowE 3 1 v7 yhR9.length (yhR9.map (Value.int .i64)), boxE b5 #[.int .i64 n, u] 38, rowE 82 3 u gs.length (gs.flatMap arcC), rowE 47 2 ua pa.length (pa.flatMap pntC), rowE 47 2 ub pb.length (pb.flatMap pntC), rowE 72 3 ue pe.length (pe.flatMap excC)]) (sub_cons (d := 99) (congrArg some e8.1) (sub_nil _)) (List.sublist_append_right _ _) ?_
              exact rq_v (rv_loadEl (u := .int .i64 (yhR12.getD j 0)) rfl (by kernel_rfl) rfl (rd_row 1 rfl) (ints_at1 (show _ < yhR12.length by first | omega | (simp only [List.length_set]; omega))))
            ·
              intro vf pf hR
              have e5 : (vf 5) = .bool true ∧ (pf 5) = [] := hR 5 (by decide)
              refine Or.inl ⟨want_of (congrArg some e5.1) rfl, ?_⟩
              refine rq_less (l' := [rowE 3 1 v13 yhR15.length (yhR15.map (Value.int .i64)), rowE 3 1 v10 yhR12.length (yhR12.map (Value.int .i64)), rowE 3 1 v7 yhR9.length (yhR9.map (Value.int .i64)), boxE b5 #[.int .i64 n, u] 38, rowE 82 3 u gs.length (gs.flatMap arcC), rowE 47 2 ua pa.length (pa.flatMap pntC), rowE 47 2 ub pb.length (pb.flatMap pntC), rowE 72 3 ue pe.length (pe.flatMap excC)]) (sub_cons (d := 8) rfl (sub_nil _)) (List.sublist_append_right _ _) ?_
              exact rq_v (rv_ev rfl)
            ·
              intro vf pf hR
              have e5 : (vf 5) = .bool true ∧ (pf 5) = [] := hR 5 (by decide)
              refine Or.inl ⟨want_of (congrArg some e5.1) rfl, ?_⟩
              refine rq_less (l' := [rowE 3 1 v13 yhR15.length (yhR15.map (Value.int .i64)), rowE 3 1 v10 yhR12.length (yhR12.map (Value.int .i64)), rowE 3 1 v7 yhR9.length (yhR9.map (Value.int .i64)), boxE b5 #[.int .i64 n, u] 38, rowE 82 3 u gs.length (gs.flatMap arcC), rowE 47 2 ua pa.length (pa.flatMap pntC), rowE 47 2 ub pb.length (pb.flatMap pntC), rowE 72 3 ue pe.length (pe.flatMap excC)]) (sub_cons (d := 11) rfl (sub_nil _)) (List.sublist_append_right _ _) ?_
              exact rq_v (rv_ev rfl)
            ·
              intro vf pf hR
              have e5 : (vf 5) = .bool true ∧ (pf 5) = [] := hR 5 (by decide)
              have e10 : (vf 10) = v7 ∧ (pf 10) = [] := hR 10 (by decide)
              have e11 : (vf 11) = .int .i64 (j : Int) ∧ (pf 11) = [] := hR 11 (by decide)
              refine Or.inl ⟨want_of (congrArg some e5.1) rfl, ?_⟩
              refine rq_less (l' := [rowE 3 1 v13 yhR15.length (yhR15.map (Value.int .i64)), rowE 3 1 v10 yhR12.length (yhR12.map (Value.int .i64)), rowE 3 1 v7 yhR9.length (yhR9.map (Value.int .i64)), boxE b5 #[.int .i64 n, u] 38, rowE 82 3 u gs.length (gs.flatMap arcC), rowE 47 2 ua pa.length (pa.flatMap pntC), rowE 47 2 ub pb.length (pb.flatMap pntC), rowE 72 3 ue pe.length (pe.flatMap excC)]) (sub_cons (d := 101) (congrArg some e10.1) (sub_cons (d := 102) (congrArg some e11.1) (sub_nil _))) (List.sublist_append_right _ _) ?_
              exact rq_v (rv_index (s := 1) rfl Try.underlying43 (by kernel_rfl) rfl rfl (rd_row 2 rfl) (by omega) (by first | omega | (simp only [List.length_set]; omega)))
            ·
              intro vf pf hR
              have e5 : (vf 5) = .bool true ∧ (pf 5) = [] := hR 5 (by decide)
              have e12 : (vf 12) = elP v7 (((j : Int)).toNat * 1) ∧ (pf 12) = [] := hR 12 (by decide)
              refine Or.inl ⟨want_of (congrArg some e5.1) rfl, ?_⟩
              refine rq_less (l' := [rowE 3 1 v13 yhR15.length (yhR15.map (Value.int .i64)), rowE 3 1 v10 yhR12.length (yhR12.map (Value.int .i64)), rowE 3 1 v7 yhR9.length (yhR9.map (Value.int .i64)), boxE b5 #[.int .i64 n, u] 38, rowE 82 3 u gs.length (gs.flatMap arcC), rowE 47 2 ua pa.length (pa.flatMap pntC), rowE 47 2 ub pb.length (pb.flatMap pntC), rowE 72 3 ue pe.length (pe.flatMap excC)]) (sub_cons (d := 103) (congrArg some e12.1) (sub_nil _)) (List.sublist_append_right _ _) ?_
              exact rq_v (rv_loadEl (u := .int .i64 (yhR9.getD j 0)) rfl (by kernel_rfl) rfl (rd_row 2 rfl) (ints_at1 (show _ < yhR9.length by first | omega | (simp only [List.length_set]; omega))))
            ·
              intro vf pf hR
              have e5 : (vf 5) = .bool true ∧ (pf 5) = [] := hR 5 (by decide)
              have e13 : (vf 13) = .int .i64 (yhR9.getD j 0) ∧ (pf 13) = [] := hR 13 (by decide)
              refine Or.inl ⟨want_of (congrArg some e5.1) rfl, ?_⟩
              refine rq_less (l' := [rowE 3 1 v13 yhR15.length (yhR15.map (Value.int .i64)), rowE 3 1 v10 yhR12.length (yhR12.map (Value.int .i64)), rowE 3 1 v7 yhR9.length (yhR9.map (Value.int .i64)), boxE b5 #[.int .i64 n, u] 38, rowE 82 3 u gs.length (gs.flatMap arcC), rowE 47 2 ua pa.length (pa.flatMap pntC), rowE 47 2 ub pb.length (pb.flatMap pntC), rowE 72 3 ue pe.length (pe.flatMap excC)]) (sub_cons (d := 104) (congrArg some e13.1) (sub_nil _)) (List.sublist_append_right _ _) ?_
              exact rq_v (rv_add rfl rfl rfl (by constructor <;> omega))
            ·
              intro vf pf hR
              have e5 : (vf 5) = .bool true ∧ (pf 5) = [] := hR 5 (by decide)
              have e9 : (vf 9) = .int .i64 (yhR12.getD j 0) ∧ (pf 9) = [] := hR 9 (by decide)
              have e14 : (vf 14) = .int .i64 ((yhR9.getD j 0) + 1) ∧ (pf 14) = [] := hR 14 (by decide)
              refine Or.inl ⟨want_of (congrArg some e5.1) rfl, ?_⟩
              refine rq_less (l' := [rowE 3 1 v13 yhR15.length (yhR15.map (Value.int .i64)), rowE 3 1 v10 yhR12.length (yhR12.map (Value.int .i64)), rowE 3 1 v7 yhR9.length (yhR9.map (Value.int .i64)), boxE b5 #[.int .i64 n, u] 38, rowE 82 3 u gs.length (gs.flatMap arcC), rowE 47 2 ua pa.length (pa.flatMap pntC), rowE 47 2 ub pb.length (pb.flatMap pntC), rowE 72 3 ue pe.length (pe.flatMap excC)]) (sub_cons (d := 100) (congrArg some e9.1) (sub_cons (d := 105) (congrArg some e14.1) (sub_nil _))) (List.sublist_append_right _ _) ?_
              exact rq_mono (rq_v (rv_cmp rfl rfl rfl rfl)) (fun _ _ h => ⟨h.1.trans (congrArg Value.bool hb30), h.2⟩)
            ·
              intro vf pf hR
              have e5 : (vf 5) = .bool true ∧ (pf 5) = [] := hR 5 (by decide)
              have e15 : (vf 15) = .bool false ∧ (pf 15) = [] := hR 15 (by decide)
              refine Or.inl ⟨rfl, ?_⟩
              refine rq_less (l' := [rowE 3 1 v13 yhR15.length (yhR15.map (Value.int .i64)), rowE 3 1 v10 yhR12.length (yhR12.map (Value.int .i64)), rowE 3 1 v7 yhR9.length (yhR9.map (Value.int .i64)), boxE b5 #[.int .i64 n, u] 38, rowE 82 3 u gs.length (gs.flatMap arcC), rowE 47 2 ua pa.length (pa.flatMap pntC), rowE 47 2 ub pb.length (pb.flatMap pntC), rowE 72 3 ue pe.length (pe.flatMap excC)]) (sub_cons (d := 96) (congrArg some e5.1) (sub_cons (d := 106) (congrArg some e15.1) (sub_nil _))) (List.sublist_append_right _ _) ?_
              exact rq_v (rv_ev rfl)
          ·
            intro vf pf hR
            have e16 : (vf 16) = .bool false ∧ (pf 16) = [] := hR 16 (by decide)
            refine hl_less (l' := [rowE 3 1 v13 yhR15.length (yhR15.map (Value.int .i64)), rowE 3 1 v10 yhR12.length (yhR12.map (Value.int .i64)), rowE 3 1 v7 yhR9.length (yhR9.map (Value.int .i64)), boxE b5 #[.int .i64 n, u] 38, rowE 82 3 u gs.length (gs.flatMap arcC), rowE 47 2 ua pa.length (pa.flatMap pntC), rowE 47 2 ub pb.length (pb.flatMap pntC), rowE 72 3 ue pe.length (pe.flatMap excC)]) (sub_cons (d := 0) rfl (sub_cons (d := 2) rfl (sub_cons (d := 3) rfl (sub_cons (d := 4) rfl (sub_cons (d := 5) rfl (sub_cons (d := 6) rfl (sub_cons (d := 7) rfl (sub_cons (d := 8) rfl (sub_cons (d := 9) rfl (sub_cons (d := 10) rfl (sub_cons (d := 11) rfl (sub_cons (d := 13) rfl (sub_cons (d := 60) rfl (sub_cons (d := 64) rfl (sub_cons (d := 90) rfl (sub_cons (d := 107) (congrArg some e16.1) (sub_nil _))))))))))))))))) (List.sublist_append_right _ _) ?_
            simp only [List.drop_succ_cons, List.drop_zero]
            refine hl_less (sub_cons (d := 0) rfl (sub_cons (d := 2) rfl (sub_cons (d := 3) rfl (sub_cons (d := 4) rfl (sub_cons (d := 5) rfl (sub_cons (d := 6) rfl (sub_cons (d := 7) rfl (sub_cons (d := 8) rfl (sub_cons (d := 9) rfl (sub_cons (d := 10) rfl (sub_cons (d := 11) rfl (sub_cons (d := 13) rfl (sub_cons (d := 60) rfl (sub_cons (d := 64) rfl (sub_cons (d := 90) rfl (sub_cons (d := 107) rfl (sub_nil _))))))))))))))))) (.refl _) ?_
            refine hl_nil ?_
            refine hq_then ?_
            refine hc_false rfl ?_
            refine hc_skip ?_
            refine hq_block_normal ?_
            refine hq_then ?_
            refine hc_region ?_
            refine hl_v rfl rfl rfl (rv_ev rfl) ?_
            refine hl_v rfl rfl rfl (rv_add rfl rfl rfl (by constructor <;> omega)) ?_
            refine hl_v rfl rfl rfl (rv_ev rfl) ?_
            refine hl_less (sub_cons (d := 0) rfl (sub_cons (d := 2) rfl (sub_cons (d := 3) rfl (sub_cons (d := 4) rfl (sub_cons (d := 5) rfl (sub_cons (d := 6) rfl (sub_cons (d := 7) rfl (sub_cons (d := 8) rfl (sub_cons (d := 9) rfl (sub_cons (d := 10) rfl (sub_cons (d := 11) rfl (sub_cons (d := 13) rfl (sub_cons (d := 60) rfl (sub_cons (d := 64) rfl (sub_cons (d := 90) rfl (sub_cons (d := 107) rfl (sub_nil _))))))))))))))))) (.refl _) ?_
            refine hl_nil ?_
            exact hq_round1 (j + 1) (by omega) (by omega) (sub_cons (d := 0) rfl (sub_cons (d := 2) rfl (sub_cons (d := 3) rfl (sub_cons (d := 4) rfl (sub_cons (d := 5) rfl (sub_cons (d := 6) rfl (sub_cons (d := 7) rfl (sub_cons (d := 8) rfl (sub_cons (d := 9) rfl (sub_cons (d := 10) rfl (sub_cons (d := 11) rfl (sub_cons (d := 13) rfl (sub_cons (d := 60) rfl (sub_nil _)))))))))))))) ((.cons_cons _ (.cons_cons _ (.cons_cons _ (.cons_cons _ (.cons_cons _ (.cons_cons _ (.cons_cons _ (.cons_cons _ .slnil)))))))))
    ·
      refine hl_less (sub_cons (d := 0) rfl (sub_cons (d := 2) rfl (sub_cons (d := 3) rfl (sub_cons (d := 4) rfl (sub_cons (d := 5) rfl (sub_cons (d := 6) rfl (sub_cons (d := 7) rfl (sub_cons (d := 8) rfl (sub_cons (d := 9) rfl (sub_cons (d := 10) rfl (sub_cons (d := 11) rfl (sub_cons (d := 13) rfl (sub_cons (d := 60) rfl (sub_cons (d := 64) rfl (sub_nil _))))))))))))))) (.refl _) ?_
      refine hl_nil ?_
      refine hq_then ?_
      refine hc_false rfl ?_
      refine hc_exit ?_
      refine hq_then_exit ?_
      refine hq_then_exit ?_
      refine hq_block_exit ?_
      refine hq_then ?_
      refine hc_seq ?_
      refine hc_region ?_
      refine hl_v rfl rfl rfl (rv_ev rfl) ?_
      refine hl_less (sub_cons (d := 0) rfl (sub_cons (d := 2) rfl (sub_cons (d := 3) rfl (sub_cons (d := 4) rfl (sub_cons (d := 5) rfl (sub_cons (d := 6) rfl (sub_cons (d := 7) rfl (sub_cons (d := 8) rfl (sub_cons (d := 9) rfl (sub_cons (d := 10) rfl (sub_cons (d := 11) rfl (sub_cons (d := 13) rfl (sub_cons (d := 60) rfl (sub_cons (d := 64) rfl (sub_nil _))))))))))))))) (.refl _) ?_
      refine hl_nil ?_
      refine hq_then ?_
      refine hc_ret ?_
      exact hq_ans rfl rfl rfl
end Go.Proofs.Yteccnnpcigkmhaa
