/- Timing graphs: the walks. -/
import Derived.Test.YteccnnpcigkmhaaTimP
import Derived.Test.YteccnnpcigkmhaaLog10
set_option linter.unusedVariables false
set_option linter.unusedSimpArgs false
namespace Go.Proofs.Yteccnnpcigkmhaa
open Go.RowKit

theorem inr_yes2 {a b c : Int} (h1 : b ≤ a) (h2 : a ≤ c) (w : World) : Calls Try.prog 34 #[.int .i64 a, .int .i64 b, .int .i64 c] w (Ans w (.bool true)) := by
  rw [← inR_true h1 h2]; exact ans_of (inRange_any _ _ _ w)
theorem l01In_yes2 {a b c : Int} (h1 : b ≤ a) (h2 : a ≤ c) (w : World) : Calls Try.prog 30 #[.int .i64 a, .int .i64 b, .int .i64 c] w (Ans w (.bool true)) := by
  rw [← inR_true h1 h2]; exact ans_of (l01In_any _ _ _ w)
set_option maxHeartbeats 4000000 in
set_option maxRecDepth 100000 in
theorem implTimingOk_yes (n : Int) (gs : List Arc) (v : Value) (w : World) (hg : GOk n gs) (hv : RdsW w v 3 gs.length (gs.flatMap arcC)) :
    Calls Try.prog 41 #[.agg #[.int .i64 n, v]] w (Ans w (.bool true)) := by
  obtain ⟨hn0, hn1, hgl, -⟩ := id hg
  refine calls_hc (N := 45) (args := [.agg #[.int .i64 n, v]]) Try.func41 rfl rfl ?_
  refine hc_less _ (sub_cons (d := 0) rfl (sub_nil _)) (.refl _) ?_
  refine hc_seq ?_
  refine hc_region ?_
  refine hl_box rfl rfl rfl (rq_box rfl rfl) ?_
  intro b1
  refine hl_v rfl rfl rfl (rv_ev rfl) ?_
  refine hl_less (sub_cons (d := 0) rfl (sub_cons (d := 1) rfl (sub_cons (d := 2) rfl (sub_nil _)))) (.refl _) ?_
  refine hl_nil ?_
  refine hq_then ?_
  refine hc_seq ?_
  refine hc_seq ?_
  refine hc_region ?_
  refine hl_v rfl rfl rfl (rv_field (k0 := 0) rfl (by kernel_rfl) rfl) ?_
  refine hl_v rfl rfl rfl (rv_load rfl (by kernel_rfl) rfl (box_cell 0 rfl rfl)) ?_
  refine hl_callV rfl rfl rfl (rq_call (by kernel_rfl) rfl (fun w hm => ret_ans (inr_yes2 (by omega) (by omega) w))) ?_
  refine hl_v rfl rfl rfl (rv_ev rfl) ?_
  refine hl_v rfl rfl rfl (rv_ev rfl) ?_
  refine hl_v rfl rfl rfl (rv_field (k0 := 1) rfl (by kernel_rfl) rfl) ?_
  refine hl_v rfl rfl rfl (rv_load rfl (by kernel_rfl) rfl (box_cell 0 rfl rfl)) ?_
  refine hl_v rfl rfl rfl (rv_len rfl Try.underlying36 rfl (rd_old hv)) ?_
  refine hl_gtr rfl rfl rfl rfl rfl rfl (fun h2 => absurd h2 (by omega)) (fun h2 => ?_)
  refine hl_v rfl rfl rfl (rv_ev rfl) ?_
  refine hl_less (sub_cons (d := 0) rfl (sub_cons (d := 1) rfl (sub_cons (d := 2) rfl (sub_cons (d := 14) rfl (sub_nil _))))) (.refl _) ?_
  refine hl_nil ?_
  refine hq_then ?_
  refine hc_false rfl ?_
  refine hc_skip ?_
  refine hq_then ?_
  refine hc_seq ?_
  refine hc_seq ?_
  refine hc_region ?_
  refine hl_v rfl rfl rfl (rv_field (k0 := 1) rfl (by kernel_rfl) rfl) ?_
  refine hl_v rfl rfl rfl (rv_load rfl (by kernel_rfl) rfl (box_cell 0 rfl rfl)) ?_
  refine hl_v rfl rfl rfl (rv_len rfl Try.underlying36 rfl (rd_old hv)) ?_
  refine hl_v rfl rfl rfl (rv_ev rfl) ?_
  refine hl_less (sub_cons (d := 0) rfl (sub_cons (d := 1) rfl (sub_cons (d := 2) rfl (sub_cons (d := 14) rfl (sub_cons (d := 16) rfl (sub_cons (d := 17) rfl (sub_cons (d := 18) rfl (sub_nil _)))))))) (.refl _) ?_
  refine hl_nil ?_
  refine hq_then ?_
  refine hc_block ?_
  refine hc_loop1 (α := Nat) (fun j => [boxE b1 #[.int .i64 n, v] 38]) (fun j => [(0, .agg #[.int .i64 n, v]), (1, .pointer (some ⟨b1, 0, none⟩)), (2, .bool false), (14, .bool false), (16, v), (17, .int .i64 (gs.length : Int)), (18, .int .i64 (j : Int))]) (fun j => j ≤ gs.length) (fun j => gs.length - j) 0 (Nat.zero_le _) (sub_cons (d := 0) rfl (sub_cons (d := 1) rfl (sub_cons (d := 2) rfl (sub_cons (d := 14) rfl (sub_cons (d := 16) rfl (sub_cons (d := 17) rfl (sub_cons (d := 18) rfl (sub_nil _)))))))) ((.cons_cons _ .slnil)) ?_
  intro j hi3
  have hj := hi3
  refine hc_seq ?_
  refine hc_region ?_
  refine hl_lss rfl rfl rfl rfl rfl rfl (fun h4 => ?_) (fun h4 => ?_)
  ·
    refine hl_less (sub_cons (d := 0) rfl (sub_cons (d := 1) rfl (sub_cons (d := 2) rfl (sub_cons (d := 14) rfl (sub_cons (d := 16) rfl (sub_cons (d := 17) rfl (sub_cons (d := 18) rfl (sub_cons (d := 19) rfl (sub_nil _))))))))) (.refl _) ?_
    refine hl_nil ?_
    refine hq_then ?_
    refine hc_seq ?_
    refine hc_true rfl ?_
    refine hc_skip ?_
    refine hq_then ?_
    refine hc_seq ?_
    refine hc_block ?_
    refine hc_seq ?_
    refine hc_region ?_
    refine hl_v rfl rfl rfl (rv_index (s := 3) rfl Try.underlying36 (by kernel_rfl) rfl rfl (rd_old hv) (by omega) (by first | omega | (simp only [List.length_set]; omega))) ?_
    refine hl_v rfl rfl rfl (rv_loadElN (us := [.int .i64 ((gs.getD j arc0).f), .int .i64 ((gs.getD j arc0).t), .int .i64 ((gs.getD j arc0).d)]) rfl (by kernel_rfl) (by kernel_rfl) rfl (rd_old hv) (by omega) rfl (flat_atN arcC 3 (fun _ => rfl) gs arc0 (show j < _ by first | omega | (simp only [List.length_set]; omega)) rfl)) ?_
    refine hl_box rfl rfl rfl (rq_alloc (z := .agg #[.int .i64 0, .int .i64 0, .int .i64 0]) rfl (by kernel_rfl)) ?_
    intro b5
    refine hl_storeBoxN (i := 0) (off := 0) (us := [.int .i64 ((gs.getD j arc0).f), .int .i64 ((gs.getD j arc0).t), .int .i64 ((gs.getD j arc0).d)]) (l' := [boxE b5 #[.int .i64 ((gs.getD j arc0).f), .int .i64 ((gs.getD j arc0).t), .int .i64 ((gs.getD j arc0).d)] 82, boxE b1 #[.int .i64 n, v] 38]) rfl rfl rfl (by kernel_rfl) rfl rfl rfl (all_cons rfl (all_cons rfl (all_cons rfl all_nil))) rfl rfl rfl ?_
    refine hl_less (sub_cons (d := 0) rfl (sub_cons (d := 1) rfl (sub_cons (d := 2) rfl (sub_cons (d := 4) rfl (sub_cons (d := 14) rfl (sub_cons (d := 16) rfl (sub_cons (d := 17) rfl (sub_cons (d := 18) rfl (sub_cons (d := 19) rfl (sub_nil _)))))))))) (.refl _) ?_
    refine hl_nil ?_
    refine hq_then ?_
    refine hc_seq ?_
    refine hc_region ?_
    have haj := hg.at (i := j) (by omega)
    refine hl_v rfl rfl rfl (rv_field (k0 := 1) rfl (by kernel_rfl) rfl) ?_
    refine hl_v rfl rfl rfl (rv_load rfl (by kernel_rfl) rfl (box_cell 0 rfl rfl)) ?_
    refine hl_v rfl rfl rfl (rv_field (k0 := 0) rfl (by kernel_rfl) rfl) ?_
    refine hl_v rfl rfl rfl (rv_load rfl (by kernel_rfl) rfl (box_cell 1 rfl rfl)) ?_
    refine hl_v rfl rfl rfl (rv_sub rfl rfl rfl (by constructor <;> omega)) ?_
    refine hl_callV rfl rfl rfl (rq_call (by kernel_rfl) rfl (fun w hm => ret_ans (inr_yes2 (by omega) (by omega) w))) ?_
    refine hl_v rfl rfl rfl (rv_ev rfl) ?_
    refine hl_v rfl rfl rfl (rv_ev rfl) ?_
    refine hl_v rfl rfl rfl (rv_field (k0 := 0) rfl (by kernel_rfl) rfl) ?_
    refine hl_v rfl rfl rfl (rv_load rfl (by kernel_rfl) rfl (box_cell 0 rfl rfl)) ?_
    refine hl_v rfl rfl rfl (rv_field (k0 := 1) rfl (by kernel_rfl) rfl) ?_
    refine hl_v rfl rfl rfl (rv_load rfl (by kernel_rfl) rfl (box_cell 0 rfl rfl)) ?_
    refine hl_v rfl rfl rfl (rv_sub rfl rfl rfl (by constructor <;> omega)) ?_
    refine hl_callV rfl rfl rfl (rq_call (by kernel_rfl) rfl (fun w hm => ret_ans (inr_yes2 (by omega) (by omega) w))) ?_
    refine hl_v rfl rfl rfl (rv_ev rfl) ?_
    refine hl_v rfl rfl rfl (rv_ev rfl) ?_
    refine hl_v rfl rfl rfl (rv_ev rfl) ?_
    refine hl_v rfl rfl rfl (rv_field (k0 := 2) rfl (by kernel_rfl) rfl) ?_
    refine hl_v rfl rfl rfl (rv_load rfl (by kernel_rfl) rfl (box_cell 0 rfl rfl)) ?_
    refine hl_callV rfl rfl rfl (rq_call (by kernel_rfl) rfl (fun w hm => ret_ans (inr_yes2 (by omega) (by omega) w))) ?_
    refine hl_v rfl rfl rfl (rv_ev rfl) ?_
    refine hl_v rfl rfl rfl (rv_ev rfl) ?_
    refine hl_less (sub_cons (d := 0) rfl (sub_cons (d := 1) rfl (sub_cons (d := 2) rfl (sub_cons (d := 4) rfl (sub_cons (d := 14) rfl (sub_cons (d := 16) rfl (sub_cons (d := 17) rfl (sub_cons (d := 18) rfl (sub_cons (d := 19) rfl (sub_cons (d := 43) rfl (sub_nil _))))))))))) (.refl _) ?_
    refine hl_nil ?_
    refine hq_then ?_
    refine hc_false rfl ?_
    refine hc_skip ?_
    refine hq_block_normal ?_
    refine hq_then ?_
    refine hc_region ?_
    refine hl_v rfl rfl rfl (rv_add rfl rfl rfl (by constructor <;> omega)) ?_
    refine hl_v rfl rfl rfl (rv_ev rfl) ?_
    refine hl_less (sub_cons (d := 0) rfl (sub_cons (d := 1) rfl (sub_cons (d := 2) rfl (sub_cons (d := 4) rfl (sub_cons (d := 14) rfl (sub_cons (d := 16) rfl (sub_cons (d := 17) rfl (sub_cons (d := 18) rfl (sub_cons (d := 19) rfl (sub_cons (d := 43) rfl (sub_nil _))))))))))) (.refl _) ?_
    refine hl_nil ?_
    exact hq_round1 (j + 1) (by omega) (by omega) (sub_cons (d := 0) rfl (sub_cons (d := 1) rfl (sub_cons (d := 2) rfl (sub_cons (d := 14) rfl (sub_cons (d := 16) rfl (sub_cons (d := 17) rfl (sub_cons (d := 18) rfl (sub_nil _)))))))) ((.cons _ (.cons_cons _ .slnil)))
  ·
    refine hl_less (sub_cons (d := 0) rfl (sub_cons (d := 1) rfl (sub_cons (d := 2) rfl (sub_cons (d := 14) rfl (sub_cons (d := 16) rfl (sub_cons (d := 17) rfl (sub_cons (d := 18) rfl (sub_cons (d := 19) rfl (sub_nil _))))))))) (.refl _) ?_
    refine hl_nil ?_
    refine hq_then ?_
    refine hc_seq ?_
    refine hc_false rfl ?_
    refine hc_exit ?_
    refine hq_then_exit ?_
    refine hq_then_exit ?_
    refine hq_block_exit ?_
    refine hq_then ?_
    refine hc_seq ?_
    refine hc_region ?_
    refine hl_v rfl rfl rfl (rv_ev rfl) ?_
    refine hl_less (sub_cons (d := 0) rfl (sub_cons (d := 1) rfl (sub_cons (d := 2) rfl (sub_cons (d := 14) rfl (sub_cons (d := 16) rfl (sub_cons (d := 17) rfl (sub_cons (d := 18) rfl (sub_cons (d := 19) rfl (sub_nil _))))))))) (.refl _) ?_
    refine hl_nil ?_
    refine hq_then ?_
    refine hc_ret ?_
    exact hq_ans rfl rfl rfl
set_option maxHeartbeats 4000000 in
set_option maxRecDepth 100000 in
theorem specTimingOk_yes (n : Int) (gs : List Arc) (v : Value) (w : World) (hg : GOk n gs) (hv : RdsW w v 3 gs.length (gs.flatMap arcC)) :
    Calls Try.prog 61 #[.agg #[.int .i64 n, v]] w (Ans w (.bool true)) := by
  obtain ⟨hn0, hn1, hgl, -⟩ := id hg
  refine calls_hc (N := 50) (args := [.agg #[.int .i64 n, v]]) Try.func61 rfl rfl ?_
  refine hc_less _ (sub_cons (d := 0) rfl (sub_nil _)) (.refl _) ?_
  refine hc_seq ?_
  refine hc_region ?_
  refine hl_box rfl rfl rfl (rq_box rfl rfl) ?_
  intro b1
  refine hl_v rfl rfl rfl (rv_ev rfl) ?_
  refine hl_less (sub_cons (d := 0) rfl (sub_cons (d := 1) rfl (sub_cons (d := 2) rfl (sub_nil _)))) (.refl _) ?_
  refine hl_nil ?_
  refine hq_then ?_
  refine hc_seq ?_
  refine hc_seq ?_
  refine hc_region ?_
  refine hl_v rfl rfl rfl (rv_field (k0 := 0) rfl (by kernel_rfl) rfl) ?_
  refine hl_v rfl rfl rfl (rv_load rfl (by kernel_rfl) rfl (box_cell 0 rfl rfl)) ?_
  refine hl_callV rfl rfl rfl (rq_call (by kernel_rfl) rfl (fun w hm => ret_ans (l01In_yes2 (by omega) (by omega) w))) ?_
  refine hl_v rfl rfl rfl (rv_ev rfl) ?_
  refine hl_v rfl rfl rfl (rv_ev rfl) ?_
  refine hl_v rfl rfl rfl (rv_field (k0 := 1) rfl (by kernel_rfl) rfl) ?_
  refine hl_v rfl rfl rfl (rv_load rfl (by kernel_rfl) rfl (box_cell 0 rfl rfl)) ?_
  refine hl_v rfl rfl rfl (rv_len rfl Try.underlying36 rfl (rd_old hv)) ?_
  refine hl_gtr rfl rfl rfl rfl rfl rfl (fun h2 => absurd h2 (by omega)) (fun h2 => ?_)
  refine hl_v rfl rfl rfl (rv_ev rfl) ?_
  refine hl_less (sub_cons (d := 0) rfl (sub_cons (d := 1) rfl (sub_cons (d := 2) rfl (sub_cons (d := 14) rfl (sub_nil _))))) (.refl _) ?_
  refine hl_nil ?_
  refine hq_then ?_
  refine hc_false rfl ?_
  refine hc_skip ?_
  refine hq_then ?_
  refine hc_seq ?_
  refine hc_seq ?_
  refine hc_region ?_
  refine hl_v rfl rfl rfl (rv_ev rfl) ?_
  refine hl_less (sub_cons (d := 0) rfl (sub_cons (d := 1) rfl (sub_cons (d := 2) rfl (sub_cons (d := 3) rfl (sub_cons (d := 14) rfl (sub_nil _)))))) (.refl _) ?_
  refine hl_nil ?_
  refine hq_then ?_
  refine hc_block ?_
  refine hc_loop1 (α := Nat) (fun j => [boxE b1 #[.int .i64 n, v] 38]) (fun j => [(0, .agg #[.int .i64 n, v]), (1, .pointer (some ⟨b1, 0, none⟩)), (2, .bool false), (3, .int .i64 (j : Int)), (14, .bool false)]) (fun j => j ≤ gs.length) (fun j => gs.length - j) 0 (Nat.zero_le _) (sub_cons (d := 0) rfl (sub_cons (d := 1) rfl (sub_cons (d := 2) rfl (sub_cons (d := 3) rfl (sub_cons (d := 14) rfl (sub_nil _)))))) ((.cons_cons _ .slnil)) ?_
  intro j hi3
  have hj := hi3
  refine hc_seq ?_
  refine hc_seq ?_
  refine hc_region ?_
  refine hl_v rfl rfl rfl (rv_ev rfl) ?_
  refine hl_v rfl rfl rfl (rv_field (k0 := 1) rfl (by kernel_rfl) rfl) ?_
  refine hl_v rfl rfl rfl (rv_load rfl (by kernel_rfl) rfl (box_cell 0 rfl rfl)) ?_
  refine hl_v rfl rfl rfl (rv_len rfl Try.underlying36 rfl (rd_old hv)) ?_
  refine hl_lss rfl rfl rfl rfl rfl rfl (fun h4 => ?_) (fun h4 => ?_)
  ·
    refine hl_less (sub_cons (d := 0) rfl (sub_cons (d := 1) rfl (sub_cons (d := 2) rfl (sub_cons (d := 3) rfl (sub_cons (d := 14) rfl (sub_cons (d := 19) rfl (sub_nil _))))))) (.refl _) ?_
    refine hl_nil ?_
    refine hq_then ?_
    refine hc_true rfl ?_
    refine hc_skip ?_
    refine hq_then ?_
    refine hc_seq ?_
    refine hc_block ?_
    refine hc_seq ?_
    refine hc_region ?_
    refine hl_v rfl rfl rfl (rv_field (k0 := 1) rfl (by kernel_rfl) rfl) ?_
    refine hl_v rfl rfl rfl (rv_load rfl (by kernel_rfl) rfl (box_cell 0 rfl rfl)) ?_
    refine hl_v rfl rfl rfl (rv_ev rfl) ?_
    refine hl_v rfl rfl rfl (rv_index (s := 3) rfl Try.underlying36 (by kernel_rfl) rfl rfl (rd_old hv) (by omega) (by first | omega | (simp only [List.length_set]; omega))) ?_
    refine hl_v rfl rfl rfl (rv_loadElN (us := [.int .i64 ((gs.getD j arc0).f), .int .i64 ((gs.getD j arc0).t), .int .i64 ((gs.getD j arc0).d)]) rfl (by kernel_rfl) (by kernel_rfl) rfl (rd_old hv) (by omega) rfl (flat_atN arcC 3 (fun _ => rfl) gs arc0 (show j < _ by first | omega | (simp only [List.length_set]; omega)) rfl)) ?_
    refine hl_box rfl rfl rfl (rq_alloc (z := .agg #[.int .i64 0, .int .i64 0, .int .i64 0]) rfl (by kernel_rfl)) ?_
    intro b5
    refine hl_storeBoxN (i := 0) (off := 0) (us := [.int .i64 ((gs.getD j arc0).f), .int .i64 ((gs.getD j arc0).t), .int .i64 ((gs.getD j arc0).d)]) (l' := [boxE b5 #[.int .i64 ((gs.getD j arc0).f), .int .i64 ((gs.getD j arc0).t), .int .i64 ((gs.getD j arc0).d)] 82, boxE b1 #[.int .i64 n, v] 38]) rfl rfl rfl (by kernel_rfl) rfl rfl rfl (all_cons rfl (all_cons rfl (all_cons rfl all_nil))) rfl rfl rfl ?_
    refine hl_less (sub_cons (d := 0) rfl (sub_cons (d := 1) rfl (sub_cons (d := 2) rfl (sub_cons (d := 3) rfl (sub_cons (d := 4) rfl (sub_cons (d := 14) rfl (sub_cons (d := 19) rfl (sub_nil _)))))))) (.refl _) ?_
    refine hl_nil ?_
    refine hq_then ?_
    refine hc_seq ?_
    refine hc_region ?_
    have haj := hg.at (i := j) (by omega)
    refine hl_v rfl rfl rfl (rv_field (k0 := 0) rfl (by kernel_rfl) rfl) ?_
    refine hl_v rfl rfl rfl (rv_load rfl (by kernel_rfl) rfl (box_cell 0 rfl rfl)) ?_
    refine hl_lss rfl rfl rfl rfl rfl rfl (fun h6 => absurd h6 (by omega)) (fun h6 => ?_)
    refine hl_v rfl rfl rfl (rv_ev rfl) ?_
    refine hl_v rfl rfl rfl (rv_field (k0 := 0) rfl (by kernel_rfl) rfl) ?_
    refine hl_v rfl rfl rfl (rv_load rfl (by kernel_rfl) rfl (box_cell 0 rfl rfl)) ?_
    refine hl_v rfl rfl rfl (rv_field (k0 := 1) rfl (by kernel_rfl) rfl) ?_
    refine hl_v rfl rfl rfl (rv_load rfl (by kernel_rfl) rfl (box_cell 0 rfl rfl)) ?_
    refine hl_geq rfl rfl rfl rfl rfl rfl (fun h7 => absurd h7 (by omega)) (fun h7 => ?_)
    refine hl_v rfl rfl rfl (rv_ev rfl) ?_
    refine hl_v rfl rfl rfl (rv_ev rfl) ?_
    refine hl_v rfl rfl rfl (rv_field (k0 := 1) rfl (by kernel_rfl) rfl) ?_
    refine hl_v rfl rfl rfl (rv_load rfl (by kernel_rfl) rfl (box_cell 0 rfl rfl)) ?_
    refine hl_v rfl rfl rfl (rv_field (k0 := 0) rfl (by kernel_rfl) rfl) ?_
    refine hl_v rfl rfl rfl (rv_load rfl (by kernel_rfl) rfl (box_cell 1 rfl rfl)) ?_
    refine hl_geq rfl rfl rfl rfl rfl rfl (fun h8 => absurd h8 (by omega)) (fun h8 => ?_)
    refine hl_v rfl rfl rfl (rv_ev rfl) ?_
    refine hl_v rfl rfl rfl (rv_ev rfl) ?_
    refine hl_v rfl rfl rfl (rv_field (k0 := 2) rfl (by kernel_rfl) rfl) ?_
    refine hl_v rfl rfl rfl (rv_load rfl (by kernel_rfl) rfl (box_cell 0 rfl rfl)) ?_
    refine hl_callV rfl rfl rfl (rq_call (by kernel_rfl) rfl (fun w hm => ret_ans (l01In_yes2 (by omega) (by omega) w))) ?_
    refine hl_v rfl rfl rfl (rv_ev rfl) ?_
    refine hl_v rfl rfl rfl (rv_ev rfl) ?_
    refine hl_less (sub_cons (d := 0) rfl (sub_cons (d := 1) rfl (sub_cons (d := 2) rfl (sub_cons (d := 3) rfl (sub_cons (d := 4) rfl (sub_cons (d := 14) rfl (sub_cons (d := 19) rfl (sub_cons (d := 49) rfl (sub_nil _))))))))) (.refl _) ?_
    refine hl_nil ?_
    refine hq_then ?_
    refine hc_false rfl ?_
    refine hc_skip ?_
    refine hq_block_normal ?_
    refine hq_then ?_
    refine hc_region ?_
    refine hl_v rfl rfl rfl (rv_ev rfl) ?_
    refine hl_v rfl rfl rfl (rv_add rfl rfl rfl (by constructor <;> omega)) ?_
    refine hl_v rfl rfl rfl (rv_ev rfl) ?_
    refine hl_less (sub_cons (d := 0) rfl (sub_cons (d := 1) rfl (sub_cons (d := 2) rfl (sub_cons (d := 3) rfl (sub_cons (d := 4) rfl (sub_cons (d := 14) rfl (sub_cons (d := 19) rfl (sub_cons (d := 49) rfl (sub_nil _))))))))) (.refl _) ?_
    refine hl_nil ?_
    exact hq_round1 (j + 1) (by omega) (by omega) (sub_cons (d := 0) rfl (sub_cons (d := 1) rfl (sub_cons (d := 2) rfl (sub_cons (d := 3) rfl (sub_cons (d := 14) rfl (sub_nil _)))))) ((.cons _ (.cons_cons _ .slnil)))
  ·
    refine hl_less (sub_cons (d := 0) rfl (sub_cons (d := 1) rfl (sub_cons (d := 2) rfl (sub_cons (d := 3) rfl (sub_cons (d := 14) rfl (sub_cons (d := 19) rfl (sub_nil _))))))) (.refl _) ?_
    refine hl_nil ?_
    refine hq_then ?_
    refine hc_false rfl ?_
    refine hc_exit ?_
    refine hq_then_exit ?_
    refine hq_then_exit ?_
    refine hq_block_exit ?_
    refine hq_then ?_
    refine hc_seq ?_
    refine hc_region ?_
    refine hl_v rfl rfl rfl (rv_ev rfl) ?_
    refine hl_less (sub_cons (d := 0) rfl (sub_cons (d := 1) rfl (sub_cons (d := 2) rfl (sub_cons (d := 3) rfl (sub_cons (d := 14) rfl (sub_cons (d := 19) rfl (sub_nil _))))))) (.refl _) ?_
    refine hl_nil ?_
    refine hq_then ?_
    refine hc_ret ?_
    exact hq_ans rfl rfl rfl
set_option maxHeartbeats 4000000 in
set_option maxRecDepth 100000 in
theorem arcsInto_ret (n : Int) (gs : List Arc) (v : Value) (w : World) (hg : GOk n gs) (hv : RdsW w v 3 gs.length (gs.flatMap arcC)) :
    Calls Try.prog 42 #[.agg #[.int .i64 n, v]] w (Ret w (fun v' post => ∃ rs : List ARow, post = [intoE v' rs] ∧ IntoOk gs n rs)) := by
  obtain ⟨hn0, hn1, hgl, -⟩ := id hg
  refine calls_hc (N := 30) (args := [.agg #[.int .i64 n, v]]) Try.func42 rfl rfl ?_
  refine hc_less _ (sub_cons (d := 0) rfl (sub_nil _)) (.refl _) ?_
  refine hc_seq ?_
  refine hc_region ?_
  refine hl_box rfl rfl rfl (rq_box rfl rfl) ?_
  intro b1
  refine hl_v rfl rfl rfl (rv_ev rfl) ?_
  refine hl_less (sub_cons (d := 0) rfl (sub_cons (d := 1) rfl (sub_cons (d := 2) rfl (sub_nil _)))) (.refl _) ?_
  refine hl_nil ?_
  refine hq_then ?_
  refine hc_seq ?_
  refine hc_region ?_
  refine hl_v rfl rfl rfl (rv_field (k0 := 0) rfl (by kernel_rfl) rfl) ?_
  refine hl_v rfl rfl rfl (rv_load rfl (by kernel_rfl) rfl (box_cell 0 rfl rfl)) ?_
  refine hl_row rfl rfl rfl (rq_make (z := .slice none 0 0) (s := 1) (bytes := 24) (n := (List.replicate (n).toNat row0).length) (cs := ((List.replicate (n).toNat row0).flatMap rowC)) rfl Try.underlying78 (by kernel_rfl) (by decide) rfl rfl (by first | (rw [List.length_replicate]; done) | (rw [List.length_replicate]; omega)) (by first | (rw [List.length_replicate]; done) | (rw [List.length_replicate]; omega)) (by rw [List.length_replicate]; omega) (made_flat rowC 1 (fun _ => rfl) row0 _ rfl (n).toNat)) ?_
  intro g2
  refine hl_v rfl rfl rfl (rv_ev rfl) ?_
  refine hl_less (sub_cons (d := 0) rfl (sub_cons (d := 1) rfl (sub_cons (d := 2) rfl (sub_cons (d := 3) rfl (sub_nil _))))) (.refl _) ?_
  refine hl_nil ?_
  refine hq_then ?_
  refine hc_seq ?_
  refine hc_seq ?_
  refine hc_region ?_
  refine hl_v rfl rfl rfl (rv_field (k0 := 1) rfl (by kernel_rfl) rfl) ?_
  refine hl_v rfl rfl rfl (rv_load rfl (by kernel_rfl) rfl (box_cell 1 rfl rfl)) ?_
  refine hl_v rfl rfl rfl (rv_len rfl Try.underlying36 rfl (rd_old hv)) ?_
  refine hl_v rfl rfl rfl (rv_ev rfl) ?_
  refine hl_less (sub_cons (d := 0) rfl (sub_cons (d := 1) rfl (sub_cons (d := 2) rfl (sub_cons (d := 3) rfl (sub_cons (d := 10) rfl (sub_cons (d := 11) rfl (sub_cons (d := 12) rfl (sub_nil _)))))))) (.refl _) ?_
  refine hl_nil ?_
  refine hq_then ?_
  refine hc_block ?_
  refine hc_conv [bigE ((List.replicate n.toNat row0).map aPart), rowE 36 1 (.slice (some ⟨g2, 0, none⟩) ((List.replicate (n).toNat row0).length) ((List.replicate (n).toNat row0).length)) ((List.replicate (n).toNat row0).length) ((List.replicate (n).toNat row0).flatMap rowC), boxE b1 #[.int .i64 n, v] 38] (fun w hm => by have h2 := (hm.bigNil 82 3 n.toNat).big; rw [show List.replicate n.toNat (rowE 82 3 (.slice none 0 0) 0 []) = (List.replicate n.toNat row0).map aPart by rw [List.map_replicate]; rfl] at h2; exact h2) ?_
  refine hc_loop2 (α := Nat) (β := List ARow) (fun j rs => [bigE (rs.map aPart), rowE 36 1 (.slice (some ⟨g2, 0, none⟩) ((List.replicate (n).toNat row0).length) ((List.replicate (n).toNat row0).length)) rs.length (rs.flatMap rowC), boxE b1 #[.int .i64 n, v] 38]) (fun j rs => [(0, .agg #[.int .i64 n, v]), (1, .pointer (some ⟨b1, 0, none⟩)), (2, .slice none 0 0), (3, .slice (some ⟨g2, 0, none⟩) ((List.replicate (n).toNat row0).length) ((List.replicate (n).toNat row0).length)), (10, v), (11, .int .i64 (gs.length : Int)), (12, .int .i64 (j : Int))]) (fun j rs => j ≤ gs.length ∧ IntoOk (gs.take j) n rs) (fun j rs => gs.length - j) 0 _ ⟨by omega, by simp, fun k hk => by rw [List.getD_eq_getElem?_getD, List.getElem?_replicate]; simp only [List.length_replicate] at hk; rw [if_pos hk]; rfl⟩ (sub_cons (d := 0) rfl (sub_cons (d := 1) rfl (sub_cons (d := 2) rfl (sub_cons (d := 3) rfl (sub_cons (d := 10) rfl (sub_cons (d := 11) rfl (sub_cons (d := 12) rfl (sub_nil _)))))))) ((.cons_cons _ (.cons_cons _ (.cons_cons _ .slnil)))) ?_
  intro j rs hi3
  obtain ⟨hj, hri⟩ := hi3
  have hrl := hri.1
  refine hc_seq ?_
  refine hc_region ?_
  refine hl_lss rfl rfl rfl rfl rfl rfl (fun h4 => ?_) (fun h4 => ?_)
  ·
    refine hl_less (sub_cons (d := 0) rfl (sub_cons (d := 1) rfl (sub_cons (d := 2) rfl (sub_cons (d := 3) rfl (sub_cons (d := 10) rfl (sub_cons (d := 11) rfl (sub_cons (d := 12) rfl (sub_cons (d := 13) rfl (sub_nil _))))))))) (.refl _) ?_
    refine hl_nil ?_
    refine hq_then ?_
    refine hc_seq ?_
    refine hc_true rfl ?_
    refine hc_skip ?_
    refine hq_then ?_
    refine hc_seq ?_
    refine hc_block ?_
    refine hc_seq ?_
    refine hc_region ?_
    have haj := hg.at (i := j) (by omega)
    have hfl : (rs.getD (((gs.getD j arc0).t).toNat) row0).ar.length ≤ 2000 := by rw [hri.2 (((gs.getD j arc0).t).toNat) (by omega)]; have := into_len (gs.take j) (((gs.getD j arc0).t).toNat); rw [List.length_take] at this; omega
    refine hl_conv [rowE 82 3 ((rs.getD (((gs.getD j arc0).t).toNat) row0).v) (((rs.getD (((gs.getD j arc0).t).toNat) row0).ar).length) (((rs.getD (((gs.getD j arc0).t).toNat) row0).ar).flatMap arcC), bigE ((rs.map aPart).eraseIdx (((gs.getD j arc0).t).toNat)), rowE 36 1 (.slice (some ⟨g2, 0, none⟩) ((List.replicate (n).toNat row0).length) ((List.replicate (n).toNat row0).length)) rs.length (rs.flatMap rowC), boxE b1 #[.int .i64 n, v] 38] (conv_focus (j := (((gs.getD j arc0).t).toNat)) (by rw [List.getElem?_map, getD_at (d := row0) (by rw [hri.1]; omega)]; rfl)) ?_
    refine hl_v rfl rfl rfl (rv_index (s := 3) rfl Try.underlying36 (by kernel_rfl) rfl rfl (rd_old hv) (by omega) (by first | omega | (simp only [List.length_set]; omega))) ?_
    refine hl_v rfl rfl rfl (rv_loadElN (us := [.int .i64 ((gs.getD j arc0).f), .int .i64 ((gs.getD j arc0).t), .int .i64 ((gs.getD j arc0).d)]) rfl (by kernel_rfl) (by kernel_rfl) rfl (rd_old hv) (by omega) rfl (flat_atN arcC 3 (fun _ => rfl) gs arc0 (show j < _ by first | omega | (simp only [List.length_set]; omega)) rfl)) ?_
    refine hl_box rfl rfl rfl (rq_alloc (z := .agg #[.int .i64 0, .int .i64 0, .int .i64 0]) rfl (by kernel_rfl)) ?_
    intro b5
    refine hl_storeBoxN (i := 0) (off := 0) (us := [.int .i64 ((gs.getD j arc0).f), .int .i64 ((gs.getD j arc0).t), .int .i64 ((gs.getD j arc0).d)]) (l' := [boxE b5 #[.int .i64 ((gs.getD j arc0).f), .int .i64 ((gs.getD j arc0).t), .int .i64 ((gs.getD j arc0).d)] 82, rowE 82 3 ((rs.getD (((gs.getD j arc0).t).toNat) row0).v) (((rs.getD (((gs.getD j arc0).t).toNat) row0).ar).length) (((rs.getD (((gs.getD j arc0).t).toNat) row0).ar).flatMap arcC), bigE ((rs.map aPart).eraseIdx (((gs.getD j arc0).t).toNat)), rowE 36 1 (.slice (some ⟨g2, 0, none⟩) ((List.replicate (n).toNat row0).length) ((List.replicate (n).toNat row0).length)) rs.length (rs.flatMap rowC), boxE b1 #[.int .i64 n, v] 38]) rfl rfl rfl (by kernel_rfl) rfl rfl rfl (all_cons rfl (all_cons rfl (all_cons rfl all_nil))) rfl rfl rfl ?_
    refine hl_less (sub_cons (d := 0) rfl (sub_cons (d := 1) rfl (sub_cons (d := 2) rfl (sub_cons (d := 3) rfl (sub_cons (d := 5) rfl (sub_cons (d := 10) rfl (sub_cons (d := 11) rfl (sub_cons (d := 12) rfl (sub_cons (d := 13) rfl (sub_nil _)))))))))) (.refl _) ?_
    refine hl_nil ?_
    refine hq_then ?_
    refine hc_conv [rowE 82 3 ((rs.getD (((gs.getD j arc0).t).toNat) row0).v) (((rs.getD (((gs.getD j arc0).t).toNat) row0).ar).length) (((rs.getD (((gs.getD j arc0).t).toNat) row0).ar).flatMap arcC), boxE b5 #[.int .i64 ((gs.getD j arc0).f), .int .i64 ((gs.getD j arc0).t), .int .i64 ((gs.getD j arc0).d)] 82, bigE ((rs.map aPart).eraseIdx (((gs.getD j arc0).t).toNat)), rowE 36 1 (.slice (some ⟨g2, 0, none⟩) ((List.replicate (n).toNat row0).length) ((List.replicate (n).toNat row0).length)) rs.length (rs.flatMap rowC), boxE b1 #[.int .i64 n, v] 38] (conv_pick (src := [boxE b5 #[.int .i64 ((gs.getD j arc0).f), .int .i64 ((gs.getD j arc0).t), .int .i64 ((gs.getD j arc0).d)] 82, rowE 82 3 ((rs.getD (((gs.getD j arc0).t).toNat) row0).v) (((rs.getD (((gs.getD j arc0).t).toNat) row0).ar).length) (((rs.getD (((gs.getD j arc0).t).toNat) row0).ar).flatMap arcC), bigE ((rs.map aPart).eraseIdx (((gs.getD j arc0).t).toNat)), rowE 36 1 (.slice (some ⟨g2, 0, none⟩) ((List.replicate (n).toNat row0).length) ((List.replicate (n).toNat row0).length)) rs.length (rs.flatMap rowC), boxE b1 #[.int .i64 n, v] 38]) (dst := [rowE 82 3 ((rs.getD (((gs.getD j arc0).t).toNat) row0).v) (((rs.getD (((gs.getD j arc0).t).toNat) row0).ar).length) (((rs.getD (((gs.getD j arc0).t).toNat) row0).ar).flatMap arcC), boxE b5 #[.int .i64 ((gs.getD j arc0).f), .int .i64 ((gs.getD j arc0).t), .int .i64 ((gs.getD j arc0).d)] 82, bigE ((rs.map aPart).eraseIdx (((gs.getD j arc0).t).toNat)), rowE 36 1 (.slice (some ⟨g2, 0, none⟩) ((List.replicate (n).toNat row0).length) ((List.replicate (n).toNat row0).length)) rs.length (rs.flatMap rowC), boxE b1 #[.int .i64 n, v] 38]) (l := []) [1, 0, 2, 3, 4] (by decide) rfl) ?_
    refine hc_draw3 (l := [boxE b5 #[.int .i64 ((gs.getD j arc0).f), .int .i64 ((gs.getD j arc0).t), .int .i64 ((gs.getD j arc0).d)] 82, bigE ((rs.map aPart).eraseIdx (((gs.getD j arc0).t).toNat)), rowE 36 1 (.slice (some ⟨g2, 0, none⟩) ((List.replicate (n).toNat row0).length) ((List.replicate (n).toNat row0).length)) rs.length (rs.flatMap rowC), boxE b1 #[.int .i64 n, v] 38]) (by kernel_rfl) 11 [0, 1, 2, 3, 4, 5, 6, 7, 8, 9, 10] (List.take 11 _) (List.drop 11 _) [[], [], [1], [], [], [4], [3, 5], [6], [], [8], [7, 9]] [some 16, some 17, some 18, some 19, some 20, some 21, some 22, some 23, some 24, some 25, some 26] (fun i vs_ v_ p_ => match i with | 0 => v_ = .slice (some ⟨g2, 0, none⟩) ((List.replicate (n).toNat row0).length) ((List.replicate (n).toNat row0).length) ∧ p_ = [] | 1 => v_ = .pointer (some ⟨b5, 0 + 1, none⟩) ∧ p_ = [] | 2 => v_ = .int .i64 ((gs.getD j arc0).t) ∧ p_ = [] | 3 => v_ = .slice (some ⟨g2, 0, none⟩) ((List.replicate (n).toNat row0).length) ((List.replicate (n).toNat row0).length) ∧ p_ = [] | 4 => v_ = .pointer (some ⟨b5, 0 + 1, none⟩) ∧ p_ = [] | 5 => v_ = .int .i64 ((gs.getD j arc0).t) ∧ p_ = [] | 6 => v_ = elP (.slice (some ⟨g2, 0, none⟩) ((List.replicate (n).toNat row0).length) ((List.replicate (n).toNat row0).length)) (((gs.getD j arc0).t).toNat * 1) ∧ p_ = [] | 7 => v_ = (rs.getD (((gs.getD j arc0).t).toNat) row0).v ∧ p_ = [] | 8 => v_ = .agg #[.int .i64 ((gs.getD j arc0).f), .int .i64 ((gs.getD j arc0).t), .int .i64 ((gs.getD j arc0).d)] ∧ p_ = [] | 9 => IsRow 82 3 1 ([(gs.getD j arc0).f, (gs.getD j arc0).t, (gs.getD j arc0).d].map (Value.int .i64)) v_ p_ | 10 => (∃ pm_, p_ = [pm_] ∧ (fun u_ p_ => p_ = rowE 82 3 u_ ((((rs.getD (((gs.getD j arc0).t).toNat) row0).ar) ++ [gs.getD j arc0]).length) ((((rs.getD (((gs.getD j arc0).t).toNat) row0).ar) ++ [gs.getD j arc0]).flatMap arcC)) v_ pm_) | _ => True) [[], [], [1], [], [], [4], [3, 5], [6], [], [8], [7, 9]] [none, none, none, none, none, none, none, none, none, none, some 13] [[rowE 82 3 ((rs.getD (((gs.getD j arc0).t).toNat) row0).v) (((rs.getD (((gs.getD j arc0).t).toNat) row0).ar).length) (((rs.getD (((gs.getD j arc0).t).toNat) row0).ar).flatMap arcC)]] [0, 1, 2, 3, 4, 5, 6, 7, 8, 9, 10] 13 (List.take_append_drop 11 _).symm (by kernel_rfl) (by kernel_rfl) (by kernel_rfl) rfl rfl ?_ ?_
    ·
      refine ⟨?_, ?_, ?_, ?_, ?_, ?_, ?_, ?_, ?_, ?_, ?_, trivial⟩
      ·
        intro vf pf hmu hR
        refine Or.inl ⟨rfl, ?_⟩
        show RunQ _ _ _ (([] : List Nat).flatMap pf ++ _) (envOf3 _ vf [] ++ _) _ _
        refine rq_less (l' := [boxE b5 #[.int .i64 ((gs.getD j arc0).f), .int .i64 ((gs.getD j arc0).t), .int .i64 ((gs.getD j arc0).d)] 82, bigE ((rs.map aPart).eraseIdx (((gs.getD j arc0).t).toNat)), rowE 36 1 (.slice (some ⟨g2, 0, none⟩) ((List.replicate (n).toNat row0).length) ((List.replicate (n).toNat row0).length)) rs.length (rs.flatMap rowC), boxE b1 #[.int .i64 n, v] 38]) (sub_cons (d := 3) rfl (sub_nil _)) (List.sublist_append_right _ _) ?_
        exact rq_v (rv_ev rfl)
      ·
        intro vf pf hmu hR
        refine Or.inl ⟨rfl, ?_⟩
        show RunQ _ _ _ (([] : List Nat).flatMap pf ++ _) (envOf3 _ vf [] ++ _) _ _
        refine rq_less (l' := [boxE b5 #[.int .i64 ((gs.getD j arc0).f), .int .i64 ((gs.getD j arc0).t), .int .i64 ((gs.getD j arc0).d)] 82, bigE ((rs.map aPart).eraseIdx (((gs.getD j arc0).t).toNat)), rowE 36 1 (.slice (some ⟨g2, 0, none⟩) ((List.replicate (n).toNat row0).length) ((List.replicate (n).toNat row0).length)) rs.length (rs.flatMap rowC), boxE b1 #[.int .i64 n, v] 38]) (sub_cons (d := 5) rfl (sub_nil _)) (List.sublist_append_right _ _) ?_
        exact rq_v (rv_field (k0 := 1) rfl (by kernel_rfl) rfl)
      ·
        intro vf pf hmu hR
        have e1 : (vf 1) = .pointer (some ⟨b5, 0 + 1, none⟩) ∧ (pf 1) = [] := hR 1 (by decide)
        refine Or.inl ⟨rfl, ?_⟩
        show RunQ _ _ _ (([1] : List Nat).flatMap pf ++ _) (envOf3 _ vf [1] ++ _) _ _
        refine rq_less (l' := [boxE b5 #[.int .i64 ((gs.getD j arc0).f), .int .i64 ((gs.getD j arc0).t), .int .i64 ((gs.getD j arc0).d)] 82, bigE ((rs.map aPart).eraseIdx (((gs.getD j arc0).t).toNat)), rowE 36 1 (.slice (some ⟨g2, 0, none⟩) ((List.replicate (n).toNat row0).length) ((List.replicate (n).toNat row0).length)) rs.length (rs.flatMap rowC), boxE b1 #[.int .i64 n, v] 38]) (sub_cons (d := 17) (congrArg some e1.1) (sub_nil _)) (List.sublist_append_right _ _) ?_
        exact rq_v (rv_load rfl (by kernel_rfl) rfl (box_cell 0 rfl rfl))
      ·
        intro vf pf hmu hR
        refine Or.inl ⟨rfl, ?_⟩
        show RunQ _ _ _ (([] : List Nat).flatMap pf ++ _) (envOf3 _ vf [] ++ _) _ _
        refine rq_less (l' := [boxE b5 #[.int .i64 ((gs.getD j arc0).f), .int .i64 ((gs.getD j arc0).t), .int .i64 ((gs.getD j arc0).d)] 82, bigE ((rs.map aPart).eraseIdx (((gs.getD j arc0).t).toNat)), rowE 36 1 (.slice (some ⟨g2, 0, none⟩) ((List.replicate (n).toNat row0).length) ((List.replicate (n).toNat row0).length)) rs.length (rs.flatMap rowC), boxE b1 #[.int .i64 n, v] 38]) (sub_cons (d := 3) rfl (sub_nil _)) (List.sublist_append_right _ _) ?_
        exact rq_v (rv_ev rfl)
      ·
        intro vf pf hmu hR
        refine Or.inl ⟨rfl, ?_⟩
        show RunQ _ _ _ (([] : List Nat).flatMap pf ++ _) (envOf3 _ vf [] ++ _) _ _
        refine rq_less (l' := [boxE b5 #[.int .i64 ((gs.getD j arc0).f), .int .i64 ((gs.getD j arc0).t), .int .i64 ((gs.getD j arc0).d)] 82, bigE ((rs.map aPart).eraseIdx (((gs.getD j arc0).t).toNat)), rowE 36 1 (.slice (some ⟨g2, 0, none⟩) ((List.replicate (n).toNat row0).length) ((List.replicate (n).toNat row0).length)) rs.length (rs.flatMap rowC), boxE b1 #[.int .i64 n, v] 38]) (sub_cons (d := 5) rfl (sub_nil _)) (List.sublist_append_right _ _) ?_
        exact rq_v (rv_field (k0 := 1) rfl (by kernel_rfl) rfl)
      ·
        intro vf pf hmu hR
        have e4 : (vf 4) = .pointer (some ⟨b5, 0 + 1, none⟩) ∧ (pf 4) = [] := hR 4 (by decide)
        refine Or.inl ⟨rfl, ?_⟩
        show RunQ _ _ _ (([4] : List Nat).flatMap pf ++ _) (envOf3 _ vf [4] ++ _) _ _
        refine rq_less (l' := [boxE b5 #[.int .i64 ((gs.getD j arc0).f), .int .i64 ((gs.getD j arc0).t), .int .i64 ((gs.getD j arc0).d)] 82, bigE ((rs.map aPart).eraseIdx (((gs.getD j arc0).t).toNat)), rowE 36 1 (.slice (some ⟨g2, 0, none⟩) ((List.replicate (n).toNat row0).length) ((List.replicate (n).toNat row0).length)) rs.length (rs.flatMap rowC), boxE b1 #[.int .i64 n, v] 38]) (sub_cons (d := 20) (congrArg some e4.1) (sub_nil _)) (List.sublist_append_right _ _) ?_
        exact rq_v (rv_load rfl (by kernel_rfl) rfl (box_cell 0 rfl rfl))
      ·
        intro vf pf hmu hR
        have e3 : (vf 3) = .slice (some ⟨g2, 0, none⟩) ((List.replicate (n).toNat row0).length) ((List.replicate (n).toNat row0).length) ∧ (pf 3) = [] := hR 3 (by decide)
        have e5 : (vf 5) = .int .i64 ((gs.getD j arc0).t) ∧ (pf 5) = [] := hR 5 (by decide)
        refine Or.inl ⟨rfl, ?_⟩
        show RunQ _ _ _ (([3, 5] : List Nat).flatMap pf ++ _) (envOf3 _ vf [3, 5] ++ _) _ _
        refine rq_less (l' := [boxE b5 #[.int .i64 ((gs.getD j arc0).f), .int .i64 ((gs.getD j arc0).t), .int .i64 ((gs.getD j arc0).d)] 82, bigE ((rs.map aPart).eraseIdx (((gs.getD j arc0).t).toNat)), rowE 36 1 (.slice (some ⟨g2, 0, none⟩) ((List.replicate (n).toNat row0).length) ((List.replicate (n).toNat row0).length)) rs.length (rs.flatMap rowC), boxE b1 #[.int .i64 n, v] 38]) (sub_cons (d := 19) (congrArg some e3.1) (sub_cons (d := 21) (congrArg some e5.1) (sub_nil _))) (List.sublist_append_right _ _) ?_
        exact rq_v (rv_index (s := 1) rfl Try.underlying78 (by kernel_rfl) rfl rfl (rd_row 2 rfl) (by omega) (by first | omega | (simp only [List.length_set]; omega)))
      ·
        intro vf pf hmu hR
        have e6 : (vf 6) = elP (.slice (some ⟨g2, 0, none⟩) ((List.replicate (n).toNat row0).length) ((List.replicate (n).toNat row0).length)) (((gs.getD j arc0).t).toNat * 1) ∧ (pf 6) = [] := hR 6 (by decide)
        refine Or.inl ⟨rfl, ?_⟩
        show RunQ _ _ _ (([6] : List Nat).flatMap pf ++ _) (envOf3 _ vf [6] ++ _) _ _
        refine rq_less (l' := [boxE b5 #[.int .i64 ((gs.getD j arc0).f), .int .i64 ((gs.getD j arc0).t), .int .i64 ((gs.getD j arc0).d)] 82, bigE ((rs.map aPart).eraseIdx (((gs.getD j arc0).t).toNat)), rowE 36 1 (.slice (some ⟨g2, 0, none⟩) ((List.replicate (n).toNat row0).length) ((List.replicate (n).toNat row0).length)) rs.length (rs.flatMap rowC), boxE b1 #[.int .i64 n, v] 38]) (sub_cons (d := 22) (congrArg some e6.1) (sub_nil _)) (List.sublist_append_right _ _) ?_
        exact rq_v (rv_loadEl (u := (rs.getD (((gs.getD j arc0).t).toNat) row0).v) rfl (by kernel_rfl) rfl (rd_row 2 rfl) (flat_one rowC (fun r => r.v) (fun _ => rfl) rs row0 (show ((gs.getD j arc0).t).toNat < _ by first | omega | (simp only [List.length_set]; omega))))
      ·
        intro vf pf hmu hR
        refine Or.inl ⟨rfl, ?_⟩
        show RunQ _ _ _ (([] : List Nat).flatMap pf ++ _) (envOf3 _ vf [] ++ _) _ _
        refine rq_less (l' := [boxE b5 #[.int .i64 ((gs.getD j arc0).f), .int .i64 ((gs.getD j arc0).t), .int .i64 ((gs.getD j arc0).d)] 82, bigE ((rs.map aPart).eraseIdx (((gs.getD j arc0).t).toNat)), rowE 36 1 (.slice (some ⟨g2, 0, none⟩) ((List.replicate (n).toNat row0).length) ((List.replicate (n).toNat row0).length)) rs.length (rs.flatMap rowC), boxE b1 #[.int .i64 n, v] 38]) (sub_cons (d := 5) rfl (sub_nil _)) (List.sublist_append_right _ _) ?_
        exact rq_v (rv_loadN (cs := [.int .i64 ((gs.getD j arc0).f), .int .i64 ((gs.getD j arc0).t), .int .i64 ((gs.getD j arc0).d)]) rfl (by kernel_rfl) (by kernel_rfl) rfl rfl (box_part 0 rfl 0 rfl))
      ·
        intro vf pf hmu hR
        have e8 : (vf 8) = .agg #[.int .i64 ((gs.getD j arc0).f), .int .i64 ((gs.getD j arc0).t), .int .i64 ((gs.getD j arc0).d)] ∧ (pf 8) = [] := hR 8 (by decide)
        refine Or.inl ⟨rfl, ?_⟩
        show RunQ _ _ _ (([8] : List Nat).flatMap pf ++ _) (envOf3 _ vf [8] ++ _) _ _
        refine rq_less (l' := [boxE b5 #[.int .i64 ((gs.getD j arc0).f), .int .i64 ((gs.getD j arc0).t), .int .i64 ((gs.getD j arc0).d)] 82, bigE ((rs.map aPart).eraseIdx (((gs.getD j arc0).t).toNat)), rowE 36 1 (.slice (some ⟨g2, 0, none⟩) ((List.replicate (n).toNat row0).length) ((List.replicate (n).toNat row0).length)) rs.length (rs.flatMap rowC), boxE b1 #[.int .i64 n, v] 38]) (sub_cons (d := 24) (congrArg some e8.1) (sub_nil _)) (List.sublist_append_right _ _) ?_
        exact rq_buildSlice (z := .agg #[.int .i64 0, .int .i64 0, .int .i64 0]) (s := 3) (cs := ([(gs.getD j arc0).f, (gs.getD j arc0).t, (gs.getD j arc0).d].map (Value.int .i64))) rfl Try.underlying36 (by kernel_rfl) (by decide) rfl (by kernel_rfl) rfl
      ·
        intro vf pf hmu hR
        have e7 : (vf 7) = (rs.getD (((gs.getD j arc0).t).toNat) row0).v ∧ (pf 7) = [] := hR 7 (by decide)
        have e9 : IsRow 82 3 1 ([(gs.getD j arc0).f, (gs.getD j arc0).t, (gs.getD j arc0).d].map (Value.int .i64)) (vf 9) (pf 9) := hR 9 (by decide)
        obtain ⟨g6, v9, p9⟩ := e9
        refine Or.inl ⟨rfl, ?_⟩
        show RunM _ _ _ (pf 13) (([7, 9] : List Nat).flatMap pf ++ _) (envOf3 _ vf [7, 9] ++ _) _ _
        have hmu0 : pf 13 = [rowE 82 3 ((rs.getD (((gs.getD j arc0).t).toNat) row0).v) (((rs.getD (((gs.getD j arc0).t).toNat) row0).ar).length) (((rs.getD (((gs.getD j arc0).t).toNat) row0).ar).flatMap arcC)] := hmu 0 (show 0 < 1 by omega)
        rw [hmu0]
        refine rm_less (X' := [rowE 82 3 (.slice (some ⟨g6, 0, none⟩) 1 1) 1 ([(gs.getD j arc0).f, (gs.getD j arc0).t, (gs.getD j arc0).d].map (Value.int .i64)), boxE b5 #[.int .i64 ((gs.getD j arc0).f), .int .i64 ((gs.getD j arc0).t), .int .i64 ((gs.getD j arc0).d)] 82, bigE ((rs.map aPart).eraseIdx (((gs.getD j arc0).t).toNat)), rowE 36 1 (.slice (some ⟨g2, 0, none⟩) ((List.replicate (n).toNat row0).length) ((List.replicate (n).toNat row0).length)) rs.length (rs.flatMap rowC), boxE b1 #[.int .i64 n, v] 38]) (sub_cons (d := 23) (congrArg some e7.1) (sub_cons (d := 25) (congrArg some v9) (sub_nil _))) (by first | (simp only [p9, v9, e7.2, List.flatMap_cons, List.flatMap_nil, List.append_nil, List.nil_append, List.cons_append]; exact List.Sublist.refl _) | simp [p9, v9, e7.2]) ?_
        exact rm_append (d := 0) (z := .agg #[.int .i64 0, .int .i64 0, .int .i64 0]) (bytes := 24) (n' := (((rs.getD (((gs.getD j arc0).t).toNat) row0).ar) ++ [gs.getD j arc0]).length) (xs' := ((((rs.getD (((gs.getD j arc0).t).toNat) row0).ar) ++ [gs.getD j arc0]).flatMap arcC)) rfl Try.underlying36 (by kernel_rfl) (by kernel_rfl) rfl rfl (rd_row 0 rfl) (ints_one _) (by first | omega | (simp only [List.length_append, List.length_cons, List.length_nil]; omega)) (len_app ((rs.getD (((gs.getD j arc0).t).toNat) row0).ar) [gs.getD j arc0]) (flat_app1 arcC ((rs.getD (((gs.getD j arc0).t).toNat) row0).ar) (gs.getD j arc0) _ rfl)
    ·
      intro vf pf hmu hR
      have e0 : (vf 0) = .slice (some ⟨g2, 0, none⟩) ((List.replicate (n).toNat row0).length) ((List.replicate (n).toNat row0).length) ∧ (pf 0) = [] := hR 0 (by decide)
      have e2 : (vf 2) = .int .i64 ((gs.getD j arc0).t) ∧ (pf 2) = [] := hR 2 (by decide)
      have e9 : IsRow 82 3 1 ([(gs.getD j arc0).f, (gs.getD j arc0).t, (gs.getD j arc0).d].map (Value.int .i64)) (vf 9) (pf 9) := hR 9 (by decide)
      obtain ⟨g6, v9, p9⟩ := e9
      have e10 : (∃ pm_, (pf 10) = [pm_] ∧ (fun u_ p_ => p_ = rowE 82 3 u_ ((((rs.getD (((gs.getD j arc0).t).toNat) row0).ar) ++ [gs.getD j arc0]).length) ((((rs.getD (((gs.getD j arc0).t).toNat) row0).ar) ++ [gs.getD j arc0]).flatMap arcC)) (vf 10) pm_) := hR 10 (by decide)
      obtain ⟨p8, p10, hR9⟩ := e10
      obtain ⟨v7, v10⟩ : ∃ x, vf 10 = x := ⟨_, rfl⟩
      rw [v10] at hR9
      subst hR9
      have q0 : (vf 0) = .slice (some ⟨g2, 0, none⟩) ((List.replicate (n).toNat row0).length) ((List.replicate (n).toNat row0).length) ∧ (pf 0) = [] := hR 0 (by decide)
      have q1 : (vf 1) = .pointer (some ⟨b5, 0 + 1, none⟩) ∧ (pf 1) = [] := hR 1 (by decide)
      have q2 : (vf 2) = .int .i64 ((gs.getD j arc0).t) ∧ (pf 2) = [] := hR 2 (by decide)
      have q3 : (vf 3) = .slice (some ⟨g2, 0, none⟩) ((List.replicate (n).toNat row0).length) ((List.replicate (n).toNat row0).length) ∧ (pf 3) = [] := hR 3 (by decide)
      have q4 : (vf 4) = .pointer (some ⟨b5, 0 + 1, none⟩) ∧ (pf 4) = [] := hR 4 (by decide)
      have q5 : (vf 5) = .int .i64 ((gs.getD j arc0).t) ∧ (pf 5) = [] := hR 5 (by decide)
      have q6 : (vf 6) = elP (.slice (some ⟨g2, 0, none⟩) ((List.replicate (n).toNat row0).length) ((List.replicate (n).toNat row0).length)) (((gs.getD j arc0).t).toNat * 1) ∧ (pf 6) = [] := hR 6 (by decide)
      have q7 : (vf 7) = (rs.getD (((gs.getD j arc0).t).toNat) row0).v ∧ (pf 7) = [] := hR 7 (by decide)
      have q8 : (vf 8) = .agg #[.int .i64 ((gs.getD j arc0).f), .int .i64 ((gs.getD j arc0).t), .int .i64 ((gs.getD j arc0).d)] ∧ (pf 8) = [] := hR 8 (by decide)
      refine hl_less (l' := [rowE 82 3 (.slice (some ⟨g6, 0, none⟩) 1 1) 1 ([(gs.getD j arc0).f, (gs.getD j arc0).t, (gs.getD j arc0).d].map (Value.int .i64)), rowE 82 3 v7 ((((rs.getD (((gs.getD j arc0).t).toNat) row0).ar) ++ [gs.getD j arc0]).length) ((((rs.getD (((gs.getD j arc0).t).toNat) row0).ar) ++ [gs.getD j arc0]).flatMap arcC), boxE b5 #[.int .i64 ((gs.getD j arc0).f), .int .i64 ((gs.getD j arc0).t), .int .i64 ((gs.getD j arc0).d)] 82, bigE ((rs.map aPart).eraseIdx (((gs.getD j arc0).t).toNat)), rowE 36 1 (.slice (some ⟨g2, 0, none⟩) ((List.replicate (n).toNat row0).length) ((List.replicate (n).toNat row0).length)) rs.length (rs.flatMap rowC), boxE b1 #[.int .i64 n, v] 38]) (sub_cons (d := 0) rfl (sub_cons (d := 1) rfl (sub_cons (d := 2) rfl (sub_cons (d := 3) rfl (sub_cons (d := 5) rfl (sub_cons (d := 10) rfl (sub_cons (d := 11) rfl (sub_cons (d := 12) rfl (sub_cons (d := 13) rfl (sub_cons (d := 16) (congrArg some e0.1) (sub_cons (d := 18) (congrArg some e2.1) (sub_cons (d := 26) (congrArg some v10) (sub_nil _))))))))))))) (by first | (simp only [p9, v9, p10, v10, q0.2, q1.2, q2.2, q3.2, q4.2, q5.2, q6.2, q7.2, q8.2, List.flatMap_cons, List.flatMap_nil, List.append_nil, List.nil_append, List.cons_append]; exact List.Sublist.refl _) | simp [p9, v9, p10, v10, q0.2, q1.2, q2.2, q3.2, q4.2, q5.2, q6.2, q7.2, q8.2]) ?_
      simp only [List.drop_succ_cons, List.drop_zero]
      refine hl_v rfl rfl rfl (rv_index (s := 1) rfl Try.underlying78 (by kernel_rfl) rfl rfl (rd_row 4 rfl) (by omega) (by first | omega | (simp only [List.length_set]; omega))) ?_
      refine hl_one (i := 1) rfl (fun ho10 => ?_)
      refine hl_storeEl (i := 4) (n' := (rs.set (((gs.getD j arc0).t).toNat) { rs.getD (((gs.getD j arc0).t).toNat) row0 with v := v7 }).length) (xs' := ((rs.set (((gs.getD j arc0).t).toNat) { rs.getD (((gs.getD j arc0).t).toNat) row0 with v := v7 }).flatMap rowC)) (l' := [rowE 82 3 (.slice (some ⟨g6, 0, none⟩) 1 1) 1 ([(gs.getD j arc0).f, (gs.getD j arc0).t, (gs.getD j arc0).d].map (Value.int .i64)), rowE 82 3 v7 ((((rs.getD (((gs.getD j arc0).t).toNat) row0).ar) ++ [gs.getD j arc0]).length) ((((rs.getD (((gs.getD j arc0).t).toNat) row0).ar) ++ [gs.getD j arc0]).flatMap arcC), boxE b5 #[.int .i64 ((gs.getD j arc0).f), .int .i64 ((gs.getD j arc0).t), .int .i64 ((gs.getD j arc0).d)] 82, bigE ((rs.map aPart).eraseIdx (((gs.getD j arc0).t).toNat)), rowE 36 1 (.slice (some ⟨g2, 0, none⟩) ((List.replicate (n).toNat row0).length) ((List.replicate (n).toNat row0).length)) ((rs.set (((gs.getD j arc0).t).toNat) { rs.getD (((gs.getD j arc0).t).toNat) row0 with v := v7 }).length) ((rs.set (((gs.getD j arc0).t).toNat) { rs.getD (((gs.getD j arc0).t).toNat) row0 with v := v7 }).flatMap rowC), boxE b1 #[.int .i64 n, v] 38]) rfl rfl rfl (by kernel_rfl) rfl rfl ho10 rfl (by first | omega | (simp only [List.length_set]; omega)) List.length_set.symm (flat_set1 rowC (fun r => r.v) (fun _ => rfl) _ ({ rs.getD (((gs.getD j arc0).t).toNat) row0 with v := v7 }) rfl) rfl ?_
      refine hl_less (sub_cons (d := 0) rfl (sub_cons (d := 1) rfl (sub_cons (d := 2) rfl (sub_cons (d := 3) rfl (sub_cons (d := 5) rfl (sub_cons (d := 10) rfl (sub_cons (d := 11) rfl (sub_cons (d := 12) rfl (sub_cons (d := 13) rfl (sub_nil _)))))))))) (.refl _) ?_
      refine hl_nil ?_
      refine hq_block_normal ?_
      refine hq_then ?_
      refine hc_region ?_
      refine hl_v rfl rfl rfl (rv_add rfl rfl rfl (by constructor <;> omega)) ?_
      refine hl_v rfl rfl rfl (rv_ev rfl) ?_
      refine hl_less (sub_cons (d := 0) rfl (sub_cons (d := 1) rfl (sub_cons (d := 2) rfl (sub_cons (d := 3) rfl (sub_cons (d := 5) rfl (sub_cons (d := 10) rfl (sub_cons (d := 11) rfl (sub_cons (d := 12) rfl (sub_cons (d := 13) rfl (sub_nil _)))))))))) (.refl _) ?_
      refine hl_nil ?_
      have hs2 : (rs.set (((gs.getD j arc0).t).toNat) { rs.getD (((gs.getD j arc0).t).toNat) row0 with v := v7 }).flatMap rowC = (rs.set (((gs.getD j arc0).t).toNat) (ARow.mk v7 ((rs.getD (((gs.getD j arc0).t).toNat) row0).ar ++ [gs.getD j arc0]))).flatMap rowC := set_flat _ _ _ _ _ rfl
      have hs3 : (rs.set (((gs.getD j arc0).t).toNat) { rs.getD (((gs.getD j arc0).t).toNat) row0 with v := v7 }).length = (rs.set (((gs.getD j arc0).t).toNat) (ARow.mk v7 ((rs.getD (((gs.getD j arc0).t).toNat) row0).ar ++ [gs.getD j arc0]))).length := by simp only [List.length_set]
      refine hq_conv [rowE 82 3 v7 ((((rs.getD (((gs.getD j arc0).t).toNat) row0).ar) ++ [gs.getD j arc0]).length) ((((rs.getD (((gs.getD j arc0).t).toNat) row0).ar) ++ [gs.getD j arc0]).flatMap arcC), bigE ((rs.map aPart).eraseIdx (((gs.getD j arc0).t).toNat)), rowE 82 3 (.slice (some ⟨g6, 0, none⟩) 1 1) 1 ([(gs.getD j arc0).f, (gs.getD j arc0).t, (gs.getD j arc0).d].map (Value.int .i64)), boxE b5 #[.int .i64 ((gs.getD j arc0).f), .int .i64 ((gs.getD j arc0).t), .int .i64 ((gs.getD j arc0).d)] 82, rowE 36 1 (.slice (some ⟨g2, 0, none⟩) ((List.replicate (n).toNat row0).length) ((List.replicate (n).toNat row0).length)) ((rs.set (((gs.getD j arc0).t).toNat) { rs.getD (((gs.getD j arc0).t).toNat) row0 with v := v7 }).length) ((rs.set (((gs.getD j arc0).t).toNat) { rs.getD (((gs.getD j arc0).t).toNat) row0 with v := v7 }).flatMap rowC), boxE b1 #[.int .i64 n, v] 38] (conv_pick (src := [rowE 82 3 (.slice (some ⟨g6, 0, none⟩) 1 1) 1 ([(gs.getD j arc0).f, (gs.getD j arc0).t, (gs.getD j arc0).d].map (Value.int .i64)), rowE 82 3 v7 ((((rs.getD (((gs.getD j arc0).t).toNat) row0).ar) ++ [gs.getD j arc0]).length) ((((rs.getD (((gs.getD j arc0).t).toNat) row0).ar) ++ [gs.getD j arc0]).flatMap arcC), boxE b5 #[.int .i64 ((gs.getD j arc0).f), .int .i64 ((gs.getD j arc0).t), .int .i64 ((gs.getD j arc0).d)] 82, bigE ((rs.map aPart).eraseIdx (((gs.getD j arc0).t).toNat)), rowE 36 1 (.slice (some ⟨g2, 0, none⟩) ((List.replicate (n).toNat row0).length) ((List.replicate (n).toNat row0).length)) ((rs.set (((gs.getD j arc0).t).toNat) { rs.getD (((gs.getD j arc0).t).toNat) row0 with v := v7 }).length) ((rs.set (((gs.getD j arc0).t).toNat) { rs.getD (((gs.getD j arc0).t).toNat) row0 with v := v7 }).flatMap rowC), boxE b1 #[.int .i64 n, v] 38]) (dst := [rowE 82 3 v7 ((((rs.getD (((gs.getD j arc0).t).toNat) row0).ar) ++ [gs.getD j arc0]).length) ((((rs.getD (((gs.getD j arc0).t).toNat) row0).ar) ++ [gs.getD j arc0]).flatMap arcC), bigE ((rs.map aPart).eraseIdx (((gs.getD j arc0).t).toNat)), rowE 82 3 (.slice (some ⟨g6, 0, none⟩) 1 1) 1 ([(gs.getD j arc0).f, (gs.getD j arc0).t, (gs.getD j arc0).d].map (Value.int .i64)), boxE b5 #[.int .i64 ((gs.getD j arc0).f), .int .i64 ((gs.getD j arc0).t), .int .i64 ((gs.getD j arc0).d)] 82, rowE 36 1 (.slice (some ⟨g2, 0, none⟩) ((List.replicate (n).toNat row0).length) ((List.replicate (n).toNat row0).length)) ((rs.set (((gs.getD j arc0).t).toNat) { rs.getD (((gs.getD j arc0).t).toNat) row0 with v := v7 }).length) ((rs.set (((gs.getD j arc0).t).toNat) { rs.getD (((gs.getD j arc0).t).toNat) row0 with v := v7 }).flatMap rowC), boxE b1 #[.int .i64 n, v] 38]) (l := []) [1, 3, 0, 2, 4, 5] (by decide) rfl) ?_
      refine hq_conv [bigE ((rs.set (((gs.getD j arc0).t).toNat) (ARow.mk v7 ((rs.getD (((gs.getD j arc0).t).toNat) row0).ar ++ [gs.getD j arc0]))).map aPart), rowE 82 3 (.slice (some ⟨g6, 0, none⟩) 1 1) 1 ([(gs.getD j arc0).f, (gs.getD j arc0).t, (gs.getD j arc0).d].map (Value.int .i64)), boxE b5 #[.int .i64 ((gs.getD j arc0).f), .int .i64 ((gs.getD j arc0).t), .int .i64 ((gs.getD j arc0).d)] 82, rowE 36 1 (.slice (some ⟨g2, 0, none⟩) ((List.replicate (n).toNat row0).length) ((List.replicate (n).toNat row0).length)) ((rs.set (((gs.getD j arc0).t).toNat) { rs.getD (((gs.getD j arc0).t).toNat) row0 with v := v7 }).length) ((rs.set (((gs.getD j arc0).t).toNat) { rs.getD (((gs.getD j arc0).t).toNat) row0 with v := v7 }).flatMap rowC), boxE b1 #[.int .i64 n, v] 38] (fun w hm => by have h2 := conv_unfocus (p' := aPart (ARow.mk v7 ((rs.getD (((gs.getD j arc0).t).toNat) row0).ar ++ [gs.getD j arc0]))) (ps := rs.map aPart) (j := (((gs.getD j arc0).t).toNat)) (by rw [List.length_map, hri.1]; omega) w hm; rw [← List.map_set] at h2; exact h2) ?_
      refine hq_conv [bigE ((rs.set (((gs.getD j arc0).t).toNat) (ARow.mk v7 ((rs.getD (((gs.getD j arc0).t).toNat) row0).ar ++ [gs.getD j arc0]))).map aPart), rowE 82 3 (.slice (some ⟨g6, 0, none⟩) 1 1) 1 ([(gs.getD j arc0).f, (gs.getD j arc0).t, (gs.getD j arc0).d].map (Value.int .i64)), boxE b5 #[.int .i64 ((gs.getD j arc0).f), .int .i64 ((gs.getD j arc0).t), .int .i64 ((gs.getD j arc0).d)] 82, rowE 36 1 (.slice (some ⟨g2, 0, none⟩) ((List.replicate (n).toNat row0).length) ((List.replicate (n).toNat row0).length)) ((rs.set (((gs.getD j arc0).t).toNat) (ARow.mk v7 ((rs.getD (((gs.getD j arc0).t).toNat) row0).ar ++ [gs.getD j arc0]))).length) ((rs.set (((gs.getD j arc0).t).toNat) (ARow.mk v7 ((rs.getD (((gs.getD j arc0).t).toNat) row0).ar ++ [gs.getD j arc0]))).flatMap rowC), boxE b1 #[.int .i64 n, v] 38] (fun w hm => by rw [← hs2, ← hs3]; exact hm) ?_
      exact hq_round2 (j + 1) (rs.set (((gs.getD j arc0).t).toNat) (ARow.mk v7 ((rs.getD (((gs.getD j arc0).t).toNat) row0).ar ++ [gs.getD j arc0]))) ⟨by omega, into_step hg (by omega) hri⟩ (by omega) (sub_cons (d := 0) rfl (sub_cons (d := 1) rfl (sub_cons (d := 2) rfl (sub_cons (d := 3) rfl (sub_cons (d := 10) rfl (sub_cons (d := 11) rfl (sub_cons (d := 12) rfl (sub_nil _)))))))) ((.cons_cons _ (.cons _ (.cons _ (.cons_cons _ (.cons_cons _ .slnil))))))
  ·
    refine hl_less (sub_cons (d := 0) rfl (sub_cons (d := 1) rfl (sub_cons (d := 2) rfl (sub_cons (d := 3) rfl (sub_cons (d := 10) rfl (sub_cons (d := 11) rfl (sub_cons (d := 12) rfl (sub_cons (d := 13) rfl (sub_nil _))))))))) (.refl _) ?_
    refine hl_nil ?_
    refine hq_then ?_
    refine hc_seq ?_
    refine hc_false rfl ?_
    refine hc_exit ?_
    refine hq_then_exit ?_
    refine hq_then_exit ?_
    refine hq_block_exit ?_
    refine hq_then ?_
    refine hc_seq ?_
    refine hc_region ?_
    refine hl_v rfl rfl rfl (rv_ev rfl) ?_
    refine hl_v rfl rfl rfl (rv_ev rfl) ?_
    refine hl_less (sub_cons (d := 0) rfl (sub_cons (d := 1) rfl (sub_cons (d := 2) rfl (sub_cons (d := 3) rfl (sub_cons (d := 10) rfl (sub_cons (d := 11) rfl (sub_cons (d := 12) rfl (sub_cons (d := 13) rfl (sub_nil _))))))))) (.refl _) ?_
    refine hl_nil ?_
    refine hq_then ?_
    refine hc_ret ?_
    refine hq_conv [bigE (rs.map aPart), rowE 36 1 (.slice (some ⟨g2, 0, none⟩) ((List.replicate (n).toNat row0).length) ((List.replicate (n).toNat row0).length)) rs.length (rs.flatMap rowC), boxE b1 #[.int .i64 n, v] 38] (conv_pick (src := [bigE (rs.map aPart), rowE 36 1 (.slice (some ⟨g2, 0, none⟩) ((List.replicate (n).toNat row0).length) ((List.replicate (n).toNat row0).length)) rs.length (rs.flatMap rowC), boxE b1 #[.int .i64 n, v] 38]) (dst := [bigE (rs.map aPart), rowE 36 1 (.slice (some ⟨g2, 0, none⟩) ((List.replicate (n).toNat row0).length) ((List.replicate (n).toNat row0).length)) rs.length (rs.flatMap rowC), boxE b1 #[.int .i64 n, v] 38]) (l := []) [0, 1, 2] (by decide) rfl) ?_
    refine hq_conv [intoE (.slice (some ⟨g2, 0, none⟩) ((List.replicate (n).toNat row0).length) ((List.replicate (n).toNat row0).length)) rs, boxE b1 #[.int .i64 n, v] 38] (conv_big (ps := [bigE (rs.map aPart), rowE 36 1 (.slice (some ⟨g2, 0, none⟩) ((List.replicate (n).toNat row0).length) ((List.replicate (n).toNat row0).length)) rs.length (rs.flatMap rowC)])) ?_
    have hjn : j = gs.length := by omega
    exact hq_retR (post := [intoE (.slice (some ⟨g2, 0, none⟩) ((List.replicate (n).toNat row0).length) ((List.replicate (n).toNat row0).length)) rs]) rfl rfl ((.cons_cons _ (.cons _ .slnil))) ⟨rs, rfl, by rw [hjn, List.take_length] at hri; exact hri⟩
set_option maxHeartbeats 4000000 in
set_option maxRecDepth 100000 in
theorem delaysFrom_ret (n : Int) (gs : List Arc) (rs : List ARow) (v : Value) (s : Int) (lg : Bool) (w : World) (hg : GOk n gs) (hv : RdsInto w v rs) (hri : IntoOk gs n rs) :
    Calls Try.prog 43 #[v, .int .i64 s, .bool lg] w (Ret w (fun v' post => post = [rowE 3 1 v' (delL lg gs s rs.length).length ((delL lg gs s rs.length).map (Value.int .i64))])) := by
  obtain ⟨hn0, hn1, hgl, -⟩ := id hg
  have hrep : (List.replicate rs.length (0 : Int)).length = rs.length := List.length_replicate
  have hrl := hri.1
  have hlen2 : ∀ k, k < rs.length → (rs.getD k row0).ar.length ≤ 2000 := fun k hk => by rw [hri.2 k hk]; have := into_len gs k; omega
  refine calls_hc (N := 87) (args := [v, .int .i64 s, .bool lg]) Try.func43 rfl rfl ?_
  refine hc_less _ (sub_cons (d := 0) rfl (sub_cons (d := 1) rfl (sub_cons (d := 2) rfl (sub_nil _)))) (.refl _) ?_
  refine hc_seq ?_
  refine hc_region ?_
  refine hl_v rfl rfl rfl (rv_ev rfl) ?_
  refine hl_less (sub_cons (d := 0) rfl (sub_cons (d := 1) rfl (sub_cons (d := 2) rfl (sub_cons (d := 6) rfl (sub_nil _))))) (.refl _) ?_
  refine hl_nil ?_
  refine hq_then ?_
  refine hc_seq ?_
  refine hc_region ?_
  refine hl_v rfl rfl rfl (rv_ev rfl) ?_
  refine hl_v rfl rfl rfl (rv_len rfl Try.underlying78 rfl (rd_old hv.row)) ?_
  refine hl_row rfl rfl rfl (rq_make (z := .int .i64 0) (s := 1) (bytes := 8) (n := (List.replicate rs.length (0 : Int)).length) (cs := ((List.replicate rs.length (0 : Int)).map (Value.int .i64))) rfl Try.underlying43 (by kernel_rfl) (by decide) rfl rfl (by first | (rw [List.length_replicate]; done) | (rw [List.length_replicate]; omega)) (by first | (rw [List.length_replicate]; done) | (rw [List.length_replicate]; omega)) (by rw [List.length_replicate]; omega) (ints_make _)) ?_
  intro g1
  refine hl_v rfl rfl rfl (rv_ev rfl) ?_
  refine hl_less (sub_cons (d := 0) rfl (sub_cons (d := 1) rfl (sub_cons (d := 2) rfl (sub_cons (d := 6) rfl (sub_cons (d := 7) rfl (sub_nil _)))))) (.refl _) ?_
  refine hl_nil ?_
  refine hq_then ?_
  refine hc_seq ?_
  refine hc_seq ?_
  refine hc_region ?_
  refine hl_v rfl rfl rfl (rv_ev rfl) ?_
  refine hl_v rfl rfl rfl (rv_len rfl Try.underlying43 rfl (rd_row 0 rfl)) ?_
  refine hl_v rfl rfl rfl (rv_ev rfl) ?_
  refine hl_less (sub_cons (d := 0) rfl (sub_cons (d := 1) rfl (sub_cons (d := 2) rfl (sub_cons (d := 6) rfl (sub_cons (d := 7) rfl (sub_cons (d := 16) rfl (sub_cons (d := 17) rfl (sub_nil _)))))))) (.refl _) ?_
  refine hl_nil ?_
  refine hq_then ?_
  refine hc_block ?_
  refine hc_loop2 (α := Nat) (β := List Int) (fun k zs => [rowE 3 1 (.slice (some ⟨g1, 0, none⟩) ((List.replicate rs.length (0 : Int)).length) ((List.replicate rs.length (0 : Int)).length)) zs.length (zs.map (Value.int .i64))]) (fun k zs => [(0, v), (1, .int .i64 s), (2, .bool lg), (6, .slice none 0 0), (7, .slice (some ⟨g1, 0, none⟩) ((List.replicate rs.length (0 : Int)).length) ((List.replicate rs.length (0 : Int)).length)), (16, .int .i64 ((List.replicate rs.length (0 : Int)).length : Int)), (17, .int .i64 (k : Int))]) (fun k zs => k ≤ rs.length ∧ zs = delL lg gs s k ++ List.replicate (rs.length - k) 0) (fun k zs => rs.length - k) 0 _ ⟨by omega, by simp [delL]⟩ (sub_cons (d := 0) rfl (sub_cons (d := 1) rfl (sub_cons (d := 2) rfl (sub_cons (d := 6) rfl (sub_cons (d := 7) rfl (sub_cons (d := 16) rfl (sub_cons (d := 17) rfl (sub_nil _)))))))) ((.cons_cons _ .slnil)) ?_
  intro k zs hi2
  obtain ⟨hk, hz⟩ := hi2
  have hzl : zs.length = rs.length := by rw [hz, List.length_append, del_len, List.length_replicate]; omega
  refine hc_seq ?_
  refine hc_region ?_
  refine hl_lss rfl rfl rfl rfl rfl rfl (fun h3 => ?_) (fun h3 => ?_)
  ·
    refine hl_less (sub_cons (d := 0) rfl (sub_cons (d := 1) rfl (sub_cons (d := 2) rfl (sub_cons (d := 6) rfl (sub_cons (d := 7) rfl (sub_cons (d := 16) rfl (sub_cons (d := 17) rfl (sub_cons (d := 18) rfl (sub_nil _))))))))) (.refl _) ?_
    refine hl_nil ?_
    refine hq_then ?_
    refine hc_seq ?_
    refine hc_true rfl ?_
    refine hc_skip ?_
    refine hq_then ?_
    refine hc_seq ?_
    refine hc_block ?_
    refine hc_seq ?_
    refine hc_region ?_
    refine hl_v rfl rfl rfl (rv_ev rfl) ?_
    refine hl_v rfl rfl rfl (rv_ev rfl) ?_
    refine hl_less (sub_cons (d := 0) rfl (sub_cons (d := 1) rfl (sub_cons (d := 2) rfl (sub_cons (d := 6) rfl (sub_cons (d := 7) rfl (sub_cons (d := 8) rfl (sub_cons (d := 16) rfl (sub_cons (d := 17) rfl (sub_cons (d := 18) rfl (sub_nil _)))))))))) (.refl _) ?_
    refine hl_nil ?_
    refine hq_then ?_
    refine hc_seq ?_
    refine hc_region ?_
    refine hl_v rfl rfl rfl (rv_ev rfl) ?_
    refine hl_v rfl rfl rfl (rv_ev rfl) ?_
    refine hl_v rfl rfl rfl (rv_index (s := 1) rfl Try.underlying43 (by kernel_rfl) rfl rfl (rd_row 0 rfl) (by omega) (by first | omega | (simp only [List.length_set]; omega))) ?_
    refine hl_storeEl (i := 0) (n' := (zs.set k (-1)).length) (xs' := ((zs.set k (-1)).map (Value.int .i64))) (l' := [rowE 3 1 (.slice (some ⟨g1, 0, none⟩) ((List.replicate rs.length (0 : Int)).length) ((List.replicate rs.length (0 : Int)).length)) ((zs.set k (-1)).length) ((zs.set k (-1)).map (Value.int .i64))]) rfl rfl rfl (by kernel_rfl) rfl rfl rfl rfl (by first | omega | (simp only [List.length_set]; omega)) List.length_set.symm (ints_set _ _ _) rfl ?_
    refine hl_less (sub_cons (d := 0) rfl (sub_cons (d := 1) rfl (sub_cons (d := 2) rfl (sub_cons (d := 6) rfl (sub_cons (d := 7) rfl (sub_cons (d := 8) rfl (sub_cons (d := 16) rfl (sub_cons (d := 17) rfl (sub_cons (d := 18) rfl (sub_nil _)))))))))) (.refl _) ?_
    refine hl_nil ?_
    refine hq_then ?_
    refine hc_seq ?_
    refine hc_seq ?_
    refine hc_region ?_
    refine hl_v rfl rfl rfl (rv_ev rfl) ?_
    refine hl_v rfl rfl rfl (rv_ev rfl) ?_
    refine hl_eql rfl rfl rfl rfl rfl rfl (fun h4 => ?_) (fun h4 => ?_)
    ·
      refine hl_less (sub_cons (d := 0) rfl (sub_cons (d := 1) rfl (sub_cons (d := 2) rfl (sub_cons (d := 6) rfl (sub_cons (d := 7) rfl (sub_cons (d := 8) rfl (sub_cons (d := 16) rfl (sub_cons (d := 17) rfl (sub_cons (d := 18) rfl (sub_cons (d := 25) rfl (sub_nil _))))))))))) (.refl _) ?_
      refine hl_nil ?_
      refine hq_then ?_
      refine hc_true rfl ?_
      refine hc_seq ?_
      refine hc_region ?_
      refine hl_v rfl rfl rfl (rv_ev rfl) ?_
      refine hl_v rfl rfl rfl (rv_ev rfl) ?_
      refine hl_v rfl rfl rfl (rv_index (s := 1) rfl Try.underlying43 (by kernel_rfl) rfl rfl (rd_row 0 rfl) (by omega) (by first | omega | (simp only [List.length_set]; omega))) ?_
      refine hl_storeEl (i := 0) (n' := ((zs.set k (-1)).set k 0).length) (xs' := (((zs.set k (-1)).set k 0).map (Value.int .i64))) (l' := [rowE 3 1 (.slice (some ⟨g1, 0, none⟩) ((List.replicate rs.length (0 : Int)).length) ((List.replicate rs.length (0 : Int)).length)) (((zs.set k (-1)).set k 0).length) (((zs.set k (-1)).set k 0).map (Value.int .i64))]) rfl rfl rfl (by kernel_rfl) rfl rfl rfl rfl (by first | omega | (simp only [List.length_set]; omega)) List.length_set.symm (ints_set _ _ _) rfl ?_
      refine hl_less (sub_cons (d := 0) rfl (sub_cons (d := 1) rfl (sub_cons (d := 2) rfl (sub_cons (d := 6) rfl (sub_cons (d := 7) rfl (sub_cons (d := 8) rfl (sub_cons (d := 16) rfl (sub_cons (d := 17) rfl (sub_cons (d := 18) rfl (sub_cons (d := 25) rfl (sub_nil _))))))))))) (.refl _) ?_
      refine hl_nil ?_
      refine hq_then ?_
      refine hc_exit ?_
      refine hq_then_exit ?_
      refine hq_block_exit ?_
      refine hq_then ?_
      refine hc_region ?_
      refine hl_v rfl rfl rfl (rv_add rfl rfl rfl (by constructor <;> omega)) ?_
      refine hl_v rfl rfl rfl (rv_ev rfl) ?_
      refine hl_less (sub_cons (d := 0) rfl (sub_cons (d := 1) rfl (sub_cons (d := 2) rfl (sub_cons (d := 6) rfl (sub_cons (d := 7) rfl (sub_cons (d := 8) rfl (sub_cons (d := 16) rfl (sub_cons (d := 17) rfl (sub_cons (d := 18) rfl (sub_cons (d := 25) rfl (sub_nil _))))))))))) (.refl _) ?_
      refine hl_nil ?_
      exact hq_round2 (k + 1) ((zs.set k (-1)).set k 0) ⟨by omega, by first | (rw [hz, List.set_set]; exact del_next lg gs s k _ (by omega) (Dl_start lg gs s k (by omega)).symm) | (rw [hy]; exact del_next lg gs s k _ (by omega) (by rw [Dl_def, if_neg (by omega), hb, show m = (rs.getD k row0).ar.length by omega, List.take_length, hri.2 k (by omega)]))⟩ (by omega) (sub_cons (d := 0) rfl (sub_cons (d := 1) rfl (sub_cons (d := 2) rfl (sub_cons (d := 6) rfl (sub_cons (d := 7) rfl (sub_cons (d := 16) rfl (sub_cons (d := 17) rfl (sub_nil _)))))))) ((.cons_cons _ .slnil))
    ·
      refine hl_less (sub_cons (d := 0) rfl (sub_cons (d := 1) rfl (sub_cons (d := 2) rfl (sub_cons (d := 6) rfl (sub_cons (d := 7) rfl (sub_cons (d := 8) rfl (sub_cons (d := 16) rfl (sub_cons (d := 17) rfl (sub_cons (d := 18) rfl (sub_cons (d := 25) rfl (sub_nil _))))))))))) (.refl _) ?_
      refine hl_nil ?_
      refine hq_then ?_
      refine hc_false rfl ?_
      refine hc_skip ?_
      refine hq_then ?_
      refine hc_seq ?_
      refine hc_region ?_
      refine hl_v rfl rfl rfl (rv_ev rfl) ?_
      refine hl_v rfl rfl rfl (rv_ev rfl) ?_
      have hl2 := hlen2 k (by omega)
      refine hl_v rfl rfl rfl (rv_index (s := 1) rfl Try.underlying78 (by kernel_rfl) rfl rfl (rd_old hv.row) (by omega) (by first | omega | (simp only [List.length_set]; omega))) ?_
      refine hl_v rfl rfl rfl (rv_loadEl (u := (rs.getD k row0).v) rfl (by kernel_rfl) rfl (rd_old hv.row) (flat_one rowC (fun r => r.v) (fun _ => rfl) rs row0 (show k < _ by first | omega | (simp only [List.length_set]; omega)))) ?_
      refine hl_v rfl rfl rfl (rv_len rfl Try.underlying36 rfl (rd_old (hv.at (by omega)))) ?_
      refine hl_v rfl rfl rfl (rv_ev rfl) ?_
      refine hl_less (sub_cons (d := 0) rfl (sub_cons (d := 1) rfl (sub_cons (d := 2) rfl (sub_cons (d := 6) rfl (sub_cons (d := 7) rfl (sub_cons (d := 8) rfl (sub_cons (d := 16) rfl (sub_cons (d := 17) rfl (sub_cons (d := 18) rfl (sub_cons (d := 25) rfl (sub_cons (d := 32) rfl (sub_cons (d := 33) rfl (sub_cons (d := 34) rfl (sub_nil _)))))))))))))) (.refl _) ?_
      refine hl_nil ?_
      refine hq_then ?_
      refine hc_block ?_
      refine hc_loop3 (α := Nat) (β := Int) (γ := List Int) (fun m b ys => [rowE 3 1 (.slice (some ⟨g1, 0, none⟩) ((List.replicate rs.length (0 : Int)).length) ((List.replicate rs.length (0 : Int)).length)) ys.length (ys.map (Value.int .i64))]) (fun m b ys => [(0, v), (1, .int .i64 s), (2, .bool lg), (6, .slice none 0 0), (7, .slice (some ⟨g1, 0, none⟩) ((List.replicate rs.length (0 : Int)).length) ((List.replicate rs.length (0 : Int)).length)), (8, .int .i64 (k : Int)), (16, .int .i64 ((List.replicate rs.length (0 : Int)).length : Int)), (17, .int .i64 (k : Int)), (18, .bool true), (25, .bool false), (32, (rs.getD k row0).v), (33, .int .i64 (((rs.getD k row0).ar).length : Int)), (34, .int .i64 (m : Int))]) (fun m b ys => m ≤ (rs.getD k row0).ar.length ∧ b = ((rs.getD k row0).ar.take m).foldl (stepD lg (delL lg gs s k)) (-1) ∧ -1 ≤ b ∧ b ≤ 100 * (k : Int) ∧ ys = (delL lg gs s k ++ List.replicate (rs.length - k) 0).set k b) (fun m b ys => (rs.getD k row0).ar.length - m) 0 (-1) _ ⟨by omega, rfl, by omega, by omega, by rw [hz]⟩ (sub_cons (d := 0) rfl (sub_cons (d := 1) rfl (sub_cons (d := 2) rfl (sub_cons (d := 6) rfl (sub_cons (d := 7) rfl (sub_cons (d := 8) rfl (sub_cons (d := 16) rfl (sub_cons (d := 17) rfl (sub_cons (d := 18) rfl (sub_cons (d := 25) rfl (sub_cons (d := 32) rfl (sub_cons (d := 33) rfl (sub_cons (d := 34) rfl (sub_nil _)))))))))))))) ((.cons_cons _ .slnil)) ?_
      intro m b ys hi5
      obtain ⟨hm, hb, hb0, hb1, hy⟩ := hi5
      have hyl : ys.length = rs.length := by rw [hy, List.length_set, List.length_append, del_len, List.length_replicate]; omega
      have hmid : ys.getD k 0 = b := by rw [hy]; exact del_mid lg gs s k _ (by omega) b
      refine hc_seq ?_
      refine hc_region ?_
      refine hl_lss rfl rfl rfl rfl rfl rfl (fun h6 => ?_) (fun h6 => ?_)
      ·
        refine hl_less (sub_cons (d := 0) rfl (sub_cons (d := 1) rfl (sub_cons (d := 2) rfl (sub_cons (d := 6) rfl (sub_cons (d := 7) rfl (sub_cons (d := 8) rfl (sub_cons (d := 16) rfl (sub_cons (d := 17) rfl (sub_cons (d := 18) rfl (sub_cons (d := 25) rfl (sub_cons (d := 32) rfl (sub_cons (d := 33) rfl (sub_cons (d := 34) rfl (sub_cons (d := 35) rfl (sub_nil _))))))))))))))) (.refl _) ?_
        refine hl_nil ?_
        refine hq_then ?_
        refine hc_seq ?_
        refine hc_true rfl ?_
        refine hc_skip ?_
        refine hq_then ?_
        refine hc_seq ?_
        refine hc_block ?_
        refine hc_seq ?_
        refine hc_region ?_
        refine hl_v rfl rfl rfl (rv_index (s := 3) rfl Try.underlying36 (by kernel_rfl) rfl rfl (rd_old (hv.at (by omega))) (by omega) (by first | omega | (simp only [List.length_set]; omega))) ?_
        refine hl_v rfl rfl rfl (rv_loadElN (us := [.int .i64 ((((rs.getD k row0).ar).getD m arc0).f), .int .i64 ((((rs.getD k row0).ar).getD m arc0).t), .int .i64 ((((rs.getD k row0).ar).getD m arc0).d)]) rfl (by kernel_rfl) (by kernel_rfl) rfl (rd_old (hv.at (by omega))) (by omega) rfl (flat_atN arcC 3 (fun _ => rfl) ((rs.getD k row0).ar) arc0 (show m < _ by first | omega | (simp only [List.length_set]; omega)) rfl)) ?_
        refine hl_box rfl rfl rfl (rq_alloc (z := .agg #[.int .i64 0, .int .i64 0, .int .i64 0]) rfl (by kernel_rfl)) ?_
        intro b7
        refine hl_storeBoxN (i := 0) (off := 0) (us := [.int .i64 ((((rs.getD k row0).ar).getD m arc0).f), .int .i64 ((((rs.getD k row0).ar).getD m arc0).t), .int .i64 ((((rs.getD k row0).ar).getD m arc0).d)]) (l' := [boxE b7 #[.int .i64 ((((rs.getD k row0).ar).getD m arc0).f), .int .i64 ((((rs.getD k row0).ar).getD m arc0).t), .int .i64 ((((rs.getD k row0).ar).getD m arc0).d)] 82, rowE 3 1 (.slice (some ⟨g1, 0, none⟩) ((List.replicate rs.length (0 : Int)).length) ((List.replicate rs.length (0 : Int)).length)) ys.length (ys.map (Value.int .i64))]) rfl rfl rfl (by kernel_rfl) rfl rfl rfl (all_cons rfl (all_cons rfl (all_cons rfl all_nil))) rfl rfl rfl ?_
        refine hl_less (sub_cons (d := 0) rfl (sub_cons (d := 1) rfl (sub_cons (d := 2) rfl (sub_cons (d := 6) rfl (sub_cons (d := 7) rfl (sub_cons (d := 8) rfl (sub_cons (d := 10) rfl (sub_cons (d := 16) rfl (sub_cons (d := 17) rfl (sub_cons (d := 18) rfl (sub_cons (d := 25) rfl (sub_cons (d := 32) rfl (sub_cons (d := 33) rfl (sub_cons (d := 34) rfl (sub_cons (d := 35) rfl (sub_nil _)))))))))))))))) (.refl _) ?_
        refine hl_nil ?_
        refine hq_then ?_
        refine hc_seq ?_
        refine hc_seq ?_
        refine hc_region ?_
        have hin : (rs.getD k row0).ar = intoL gs k := hri.2 k (by omega)
        have hea : 0 ≤ ((rs.getD k row0).ar.getD m arc0).f ∧ ((rs.getD k row0).ar.getD m arc0).f < k ∧ 0 ≤ ((rs.getD k row0).ar.getD m arc0).d ∧ ((rs.getD k row0).ar.getD m arc0).d ≤ 100 := by rw [hin]; exact into_at hg (by rw [← hin]; omega)
        have hlow : ys.getD (((rs.getD k row0).ar.getD m arc0).f).toNat 0 = Dl lg gs s (((rs.getD k row0).ar.getD m arc0).f).toNat := by rw [hy]; exact del_low lg gs s k _ _ (by omega) b (by omega)
        have hlow2 : (delL lg gs s k).getD (((rs.getD k row0).ar.getD m arc0).f).toNat 0 = Dl lg gs s (((rs.getD k row0).ar.getD m arc0).f).toNat := del_at lg gs s k _ (by omega)
        have hdb := Dl_bnd hg lg s (((rs.getD k row0).ar.getD m arc0).f).toNat
        refine hl_v rfl rfl rfl (rv_ev rfl) ?_
        refine hl_v rfl rfl rfl (rv_field (k0 := 0) rfl (by kernel_rfl) rfl) ?_
        refine hl_v rfl rfl rfl (rv_load rfl (by kernel_rfl) rfl (box_cell 0 rfl rfl)) ?_
        refine hl_v rfl rfl rfl (rv_index (s := 1) rfl Try.underlying43 (by kernel_rfl) rfl rfl (rd_row 1 rfl) (by omega) (by first | omega | (simp only [List.length_set]; omega))) ?_
        refine hl_v rfl rfl rfl (rv_loadEl (u := .int .i64 (ys.getD (((((rs.getD k row0).ar).getD m arc0).f).toNat) 0)) rfl (by kernel_rfl) rfl (rd_row 1 rfl) (ints_at1 (show _ < ys.length by first | omega | (simp only [List.length_set]; omega)))) ?_
        refine hl_lss rfl rfl rfl rfl rfl rfl (fun h8 => ?_) (fun h8 => ?_)
        ·
          refine hl_less (sub_cons (d := 0) rfl (sub_cons (d := 1) rfl (sub_cons (d := 2) rfl (sub_cons (d := 6) rfl (sub_cons (d := 7) rfl (sub_cons (d := 8) rfl (sub_cons (d := 10) rfl (sub_cons (d := 16) rfl (sub_cons (d := 17) rfl (sub_cons (d := 18) rfl (sub_cons (d := 25) rfl (sub_cons (d := 32) rfl (sub_cons (d := 33) rfl (sub_cons (d := 34) rfl (sub_cons (d := 35) rfl (sub_cons (d := 43) rfl (sub_nil _))))))))))))))))) (.refl _) ?_
          refine hl_nil ?_
          refine hq_then ?_
          refine hc_true rfl ?_
          refine hc_exit ?_
          refine hq_then_exit ?_
          refine hq_block_exit ?_
          refine hq_then ?_
          refine hc_region ?_
          refine hl_v rfl rfl rfl (rv_add rfl rfl rfl (by constructor <;> omega)) ?_
          refine hl_v rfl rfl rfl (rv_ev rfl) ?_
          refine hl_less (sub_cons (d := 0) rfl (sub_cons (d := 1) rfl (sub_cons (d := 2) rfl (sub_cons (d := 6) rfl (sub_cons (d := 7) rfl (sub_cons (d := 8) rfl (sub_cons (d := 10) rfl (sub_cons (d := 16) rfl (sub_cons (d := 17) rfl (sub_cons (d := 18) rfl (sub_cons (d := 25) rfl (sub_cons (d := 32) rfl (sub_cons (d := 33) rfl (sub_cons (d := 34) rfl (sub_cons (d := 35) rfl (sub_cons (d := 43) rfl (sub_nil _))))))))))))))))) (.refl _) ?_
          refine hl_nil ?_
          exact hq_round3 (m + 1) b ys ⟨by omega, by rw [take_snoc arc0 (by omega), List.foldl_append, ← hb]; show _ = stepD lg (delL lg gs s k) b ((rs.getD k row0).ar.getD m arc0); first | rw [st_skip (by rw [hlow2]; omega)] | (subst hlg; rw [st_noT (by rw [hlow2]; omega) (by omega) (by rw [hlow2]; omega)]) | (subst hlg; rw [st_noF (by rw [hlow2]; omega) (by omega) (by rw [hlow2]; omega)]), by omega, by omega, hy⟩ (by omega) (sub_cons (d := 0) rfl (sub_cons (d := 1) rfl (sub_cons (d := 2) rfl (sub_cons (d := 6) rfl (sub_cons (d := 7) rfl (sub_cons (d := 8) rfl (sub_cons (d := 16) rfl (sub_cons (d := 17) rfl (sub_cons (d := 18) rfl (sub_cons (d := 25) rfl (sub_cons (d := 32) rfl (sub_cons (d := 33) rfl (sub_cons (d := 34) rfl (sub_nil _)))))))))))))) ((.cons _ (.cons_cons _ .slnil)))
        ·
          refine hl_less (sub_cons (d := 0) rfl (sub_cons (d := 1) rfl (sub_cons (d := 2) rfl (sub_cons (d := 6) rfl (sub_cons (d := 7) rfl (sub_cons (d := 8) rfl (sub_cons (d := 10) rfl (sub_cons (d := 16) rfl (sub_cons (d := 17) rfl (sub_cons (d := 18) rfl (sub_cons (d := 25) rfl (sub_cons (d := 32) rfl (sub_cons (d := 33) rfl (sub_cons (d := 34) rfl (sub_cons (d := 35) rfl (sub_cons (d := 43) rfl (sub_nil _))))))))))))))))) (.refl _) ?_
          refine hl_nil ?_
          refine hq_then ?_
          refine hc_false rfl ?_
          refine hc_skip ?_
          refine hq_then ?_
          refine hc_seq ?_
          refine hc_draw (by kernel_rfl) 8 [0, 1, 2, 3, 4, 5, 6, 7] (List.take 8 _) (List.drop 8 _) [[], [], [1], [0, 2], [3], [], [5], [4, 6]] [44, 45, 46, 47, 48, 49, 50, 51] (fun i vs_ v_ p_ => match i with | 0 => v_ = .slice (some ⟨g1, 0, none⟩) ((List.replicate rs.length (0 : Int)).length) ((List.replicate rs.length (0 : Int)).length) ∧ p_ = [] | 1 => v_ = .pointer (some ⟨b7, 0 + 0, none⟩) ∧ p_ = [] | 2 => v_ = .int .i64 ((((rs.getD k row0).ar).getD m arc0).f) ∧ p_ = [] | 3 => v_ = elP (.slice (some ⟨g1, 0, none⟩) ((List.replicate rs.length (0 : Int)).length) ((List.replicate rs.length (0 : Int)).length)) (((((rs.getD k row0).ar).getD m arc0).f).toNat * 1) ∧ p_ = [] | 4 => v_ = .int .i64 (ys.getD (((((rs.getD k row0).ar).getD m arc0).f).toNat) 0) ∧ p_ = [] | 5 => v_ = .pointer (some ⟨b7, 0 + 2, none⟩) ∧ p_ = [] | 6 => v_ = .int .i64 ((((rs.getD k row0).ar).getD m arc0).d) ∧ p_ = [] | 7 => v_ = .int .i64 ((ys.getD (((((rs.getD k row0).ar).getD m arc0).f).toNat) 0) + ((((rs.getD k row0).ar).getD m arc0).d)) ∧ p_ = [] | _ => True) (List.take_append_drop 8 _).symm (by kernel_rfl) (by kernel_rfl) rfl rfl ?_ ?_
          ·
            refine ⟨?_, ?_, ?_, ?_, ?_, ?_, ?_, ?_, trivial⟩
            ·
              intro vf pf hR
              refine Or.inl ⟨rfl, ?_⟩
              refine rq_less (l' := [boxE b7 #[.int .i64 ((((rs.getD k row0).ar).getD m arc0).f), .int .i64 ((((rs.getD k row0).ar).getD m arc0).t), .int .i64 ((((rs.getD k row0).ar).getD m arc0).d)] 82, rowE 3 1 (.slice (some ⟨g1, 0, none⟩) ((List.replicate rs.length (0 : Int)).length) ((List.replicate rs.length (0 : Int)).length)) ys.length (ys.map (Value.int .i64))]) (sub_cons (d := 7) rfl (sub_nil _)) (List.sublist_append_right _ _) ?_
              exact rq_v (rv_ev rfl)
            ·
              intro vf pf hR
              refine Or.inl ⟨rfl, ?_⟩
              refine rq_less (l' := [boxE b7 #[.int .i64 ((((rs.getD k row0).ar).getD m arc0).f), .int .i64 ((((rs.getD k row0).ar).getD m arc0).t), .int .i64 ((((rs.getD k row0).ar).getD m arc0).d)] 82, rowE 3 1 (.slice (some ⟨g1, 0, none⟩) ((List.replicate rs.length (0 : Int)).length) ((List.replicate rs.length (0 : Int)).length)) ys.length (ys.map (Value.int .i64))]) (sub_cons (d := 10) rfl (sub_nil _)) (List.sublist_append_right _ _) ?_
              exact rq_v (rv_field (k0 := 0) rfl (by kernel_rfl) rfl)
            ·
              intro vf pf hR
              have e1 : (vf 1) = .pointer (some ⟨b7, 0 + 0, none⟩) ∧ (pf 1) = [] := hR 1 (by decide)
              refine Or.inl ⟨rfl, ?_⟩
              refine rq_less (l' := [boxE b7 #[.int .i64 ((((rs.getD k row0).ar).getD m arc0).f), .int .i64 ((((rs.getD k row0).ar).getD m arc0).t), .int .i64 ((((rs.getD k row0).ar).getD m arc0).d)] 82, rowE 3 1 (.slice (some ⟨g1, 0, none⟩) ((List.replicate rs.length (0 : Int)).length) ((List.replicate rs.length (0 : Int)).length)) ys.length (ys.map (Value.int .i64))]) (sub_cons (d := 45) (congrArg some e1.1) (sub_nil _)) (List.sublist_append_right _ _) ?_
              exact rq_v (rv_load rfl (by kernel_rfl) rfl (box_cell 0 rfl rfl))
            ·
              intro vf pf hR
              have e0 : (vf 0) = .slice (some ⟨g1, 0, none⟩) ((List.replicate rs.length (0 : Int)).length) ((List.replicate rs.length (0 : Int)).length) ∧ (pf 0) = [] := hR 0 (by decide)
              have e2 : (vf 2) = .int .i64 ((((rs.getD k row0).ar).getD m arc0).f) ∧ (pf 2) = [] := hR 2 (by decide)
              refine Or.inl ⟨rfl, ?_⟩
              refine rq_less (l' := [boxE b7 #[.int .i64 ((((rs.getD k row0).ar).getD m arc0).f), .int .i64 ((((rs.getD k row0).ar).getD m arc0).t), .int .i64 ((((rs.getD k row0).ar).getD m arc0).d)] 82, rowE 3 1 (.slice (some ⟨g1, 0, none⟩) ((List.replicate rs.length (0 : Int)).length) ((List.replicate rs.length (0 : Int)).length)) ys.length (ys.map (Value.int .i64))]) (sub_cons (d := 44) (congrArg some e0.1) (sub_cons (d := 46) (congrArg some e2.1) (sub_nil _))) (List.sublist_append_right _ _) ?_
              exact rq_v (rv_index (s := 1) rfl Try.underlying43 (by kernel_rfl) rfl rfl (rd_row 1 rfl) (by omega) (by first | omega | (simp only [List.length_set]; omega)))
            ·
              intro vf pf hR
              have e3 : (vf 3) = elP (.slice (some ⟨g1, 0, none⟩) ((List.replicate rs.length (0 : Int)).length) ((List.replicate rs.length (0 : Int)).length)) (((((rs.getD k row0).ar).getD m arc0).f).toNat * 1) ∧ (pf 3) = [] := hR 3 (by decide)
              refine Or.inl ⟨rfl, ?_⟩
              refine rq_less (l' := [boxE b7 #[.int .i64 ((((rs.getD k row0).ar).getD m arc0).f), .int .i64 ((((rs.getD k row0).ar).getD m arc0).t), .int .i64 ((((rs.getD k row0).ar).getD m arc0).d)] 82, rowE 3 1 (.slice (some ⟨g1, 0, none⟩) ((List.replicate rs.length (0 : Int)).length) ((List.replicate rs.length (0 : Int)).length)) ys.length (ys.map (Value.int .i64))]) (sub_cons (d := 47) (congrArg some e3.1) (sub_nil _)) (List.sublist_append_right _ _) ?_
              exact rq_v (rv_loadEl (u := .int .i64 (ys.getD (((((rs.getD k row0).ar).getD m arc0).f).toNat) 0)) rfl (by kernel_rfl) rfl (rd_row 1 rfl) (ints_at1 (show _ < ys.length by first | omega | (simp only [List.length_set]; omega))))
            ·
              intro vf pf hR
              refine Or.inl ⟨rfl, ?_⟩
              refine rq_less (l' := [boxE b7 #[.int .i64 ((((rs.getD k row0).ar).getD m arc0).f), .int .i64 ((((rs.getD k row0).ar).getD m arc0).t), .int .i64 ((((rs.getD k row0).ar).getD m arc0).d)] 82, rowE 3 1 (.slice (some ⟨g1, 0, none⟩) ((List.replicate rs.length (0 : Int)).length) ((List.replicate rs.length (0 : Int)).length)) ys.length (ys.map (Value.int .i64))]) (sub_cons (d := 10) rfl (sub_nil _)) (List.sublist_append_right _ _) ?_
              exact rq_v (rv_field (k0 := 2) rfl (by kernel_rfl) rfl)
            ·
              intro vf pf hR
              have e5 : (vf 5) = .pointer (some ⟨b7, 0 + 2, none⟩) ∧ (pf 5) = [] := hR 5 (by decide)
              refine Or.inl ⟨rfl, ?_⟩
              refine rq_less (l' := [boxE b7 #[.int .i64 ((((rs.getD k row0).ar).getD m arc0).f), .int .i64 ((((rs.getD k row0).ar).getD m arc0).t), .int .i64 ((((rs.getD k row0).ar).getD m arc0).d)] 82, rowE 3 1 (.slice (some ⟨g1, 0, none⟩) ((List.replicate rs.length (0 : Int)).length) ((List.replicate rs.length (0 : Int)).length)) ys.length (ys.map (Value.int .i64))]) (sub_cons (d := 49) (congrArg some e5.1) (sub_nil _)) (List.sublist_append_right _ _) ?_
              exact rq_v (rv_load rfl (by kernel_rfl) rfl (box_cell 0 rfl rfl))
            ·
              intro vf pf hR
              have e4 : (vf 4) = .int .i64 (ys.getD (((((rs.getD k row0).ar).getD m arc0).f).toNat) 0) ∧ (pf 4) = [] := hR 4 (by decide)
              have e6 : (vf 6) = .int .i64 ((((rs.getD k row0).ar).getD m arc0).d) ∧ (pf 6) = [] := hR 6 (by decide)
              refine Or.inl ⟨rfl, ?_⟩
              refine rq_less (l' := [boxE b7 #[.int .i64 ((((rs.getD k row0).ar).getD m arc0).f), .int .i64 ((((rs.getD k row0).ar).getD m arc0).t), .int .i64 ((((rs.getD k row0).ar).getD m arc0).d)] 82, rowE 3 1 (.slice (some ⟨g1, 0, none⟩) ((List.replicate rs.length (0 : Int)).length) ((List.replicate rs.length (0 : Int)).length)) ys.length (ys.map (Value.int .i64))]) (sub_cons (d := 48) (congrArg some e4.1) (sub_cons (d := 50) (congrArg some e6.1) (sub_nil _))) (List.sublist_append_right _ _) ?_
              exact rq_v (rv_add rfl rfl rfl (by constructor <;> omega))
          ·
            intro vf pf hR
            have e7 : (vf 7) = .int .i64 ((ys.getD (((((rs.getD k row0).ar).getD m arc0).f).toNat) 0) + ((((rs.getD k row0).ar).getD m arc0).d)) ∧ (pf 7) = [] := hR 7 (by decide)
            refine hl_less (l' := [boxE b7 #[.int .i64 ((((rs.getD k row0).ar).getD m arc0).f), .int .i64 ((((rs.getD k row0).ar).getD m arc0).t), .int .i64 ((((rs.getD k row0).ar).getD m arc0).d)] 82, rowE 3 1 (.slice (some ⟨g1, 0, none⟩) ((List.replicate rs.length (0 : Int)).length) ((List.replicate rs.length (0 : Int)).length)) ys.length (ys.map (Value.int .i64))]) (sub_cons (d := 0) rfl (sub_cons (d := 1) rfl (sub_cons (d := 2) rfl (sub_cons (d := 6) rfl (sub_cons (d := 7) rfl (sub_cons (d := 8) rfl (sub_cons (d := 10) rfl (sub_cons (d := 16) rfl (sub_cons (d := 17) rfl (sub_cons (d := 18) rfl (sub_cons (d := 25) rfl (sub_cons (d := 32) rfl (sub_cons (d := 33) rfl (sub_cons (d := 34) rfl (sub_cons (d := 35) rfl (sub_cons (d := 43) rfl (sub_cons (d := 51) (congrArg some e7.1) (sub_nil _)))))))))))))))))) (List.sublist_append_right _ _) ?_
            simp only [List.drop_succ_cons, List.drop_zero]
            refine hl_v rfl rfl rfl (rv_ev rfl) ?_
            refine hl_less (sub_cons (d := 0) rfl (sub_cons (d := 1) rfl (sub_cons (d := 2) rfl (sub_cons (d := 6) rfl (sub_cons (d := 7) rfl (sub_cons (d := 8) rfl (sub_cons (d := 10) rfl (sub_cons (d := 11) rfl (sub_cons (d := 16) rfl (sub_cons (d := 17) rfl (sub_cons (d := 18) rfl (sub_cons (d := 25) rfl (sub_cons (d := 32) rfl (sub_cons (d := 33) rfl (sub_cons (d := 34) rfl (sub_cons (d := 35) rfl (sub_cons (d := 43) rfl (sub_nil _)))))))))))))))))) (.refl _) ?_
            refine hl_nil ?_
            refine hq_then ?_
            refine hc_seq ?_
            refine hc_region ?_
            refine hl_v rfl rfl rfl (rv_ev rfl) ?_
            refine hl_v rfl rfl rfl (rv_ev rfl) ?_
            refine hl_v rfl rfl rfl (rv_index (s := 1) rfl Try.underlying43 (by kernel_rfl) rfl rfl (rd_row 1 rfl) (by omega) (by first | omega | (simp only [List.length_set]; omega))) ?_
            refine hl_v rfl rfl rfl (rv_loadEl (u := .int .i64 (ys.getD k 0)) rfl (by kernel_rfl) rfl (rd_row 1 rfl) (ints_at1 (show _ < ys.length by first | omega | (simp only [List.length_set]; omega)))) ?_
            refine hl_lss rfl rfl rfl rfl rfl rfl (fun h9 => ?_) (fun h9 => ?_)
            ·
              refine hl_v rfl rfl rfl (rv_ev rfl) ?_
              refine hl_skip rfl rfl rfl ?_
              refine hl_skip rfl rfl rfl ?_
              refine hl_skip rfl rfl rfl ?_
              refine hl_skip rfl rfl rfl ?_
              refine hl_skip rfl rfl rfl ?_
              refine hl_skip rfl rfl rfl ?_
              refine hl_skip rfl rfl rfl ?_
              refine hl_skip rfl rfl rfl ?_
              refine hl_skip rfl rfl rfl ?_
              refine hl_v rfl rfl rfl (rv_ev rfl) ?_
              refine hl_v rfl rfl rfl (rv_ev rfl) ?_
              refine hl_skip rfl rfl rfl ?_
              refine hl_skip rfl rfl rfl ?_
              refine hl_skip rfl rfl rfl ?_
              refine hl_skip rfl rfl rfl ?_
              refine hl_skip rfl rfl rfl ?_
              refine hl_skip rfl rfl rfl ?_
              refine hl_skip rfl rfl rfl ?_
              refine hl_skip rfl rfl rfl ?_
              refine hl_skip rfl rfl rfl ?_
              refine hl_skip rfl rfl rfl ?_
              refine hl_v rfl rfl rfl (rv_ev rfl) ?_
              refine hl_less (sub_cons (d := 0) rfl (sub_cons (d := 1) rfl (sub_cons (d := 2) rfl (sub_cons (d := 6) rfl (sub_cons (d := 7) rfl (sub_cons (d := 8) rfl (sub_cons (d := 10) rfl (sub_cons (d := 11) rfl (sub_cons (d := 16) rfl (sub_cons (d := 17) rfl (sub_cons (d := 18) rfl (sub_cons (d := 25) rfl (sub_cons (d := 32) rfl (sub_cons (d := 33) rfl (sub_cons (d := 34) rfl (sub_cons (d := 35) rfl (sub_cons (d := 43) rfl (sub_cons (d := 79) rfl (sub_nil _))))))))))))))))))) (.refl _) ?_
              refine hl_nil ?_
              refine hq_then ?_
              refine hc_true rfl ?_
              refine hc_region ?_
              refine hl_v rfl rfl rfl (rv_ev rfl) ?_
              refine hl_v rfl rfl rfl (rv_ev rfl) ?_
              refine hl_v rfl rfl rfl (rv_ev rfl) ?_
              refine hl_v rfl rfl rfl (rv_index (s := 1) rfl Try.underlying43 (by kernel_rfl) rfl rfl (rd_row 1 rfl) (by omega) (by first | omega | (simp only [List.length_set]; omega))) ?_
              refine hl_storeEl (i := 1) (n' := (ys.set k ((ys.getD (((((rs.getD k row0).ar).getD m arc0).f).toNat) 0) + ((((rs.getD k row0).ar).getD m arc0).d))).length) (xs' := ((ys.set k ((ys.getD (((((rs.getD k row0).ar).getD m arc0).f).toNat) 0) + ((((rs.getD k row0).ar).getD m arc0).d))).map (Value.int .i64))) (l' := [boxE b7 #[.int .i64 ((((rs.getD k row0).ar).getD m arc0).f), .int .i64 ((((rs.getD k row0).ar).getD m arc0).t), .int .i64 ((((rs.getD k row0).ar).getD m arc0).d)] 82, rowE 3 1 (.slice (some ⟨g1, 0, none⟩) ((List.replicate rs.length (0 : Int)).length) ((List.replicate rs.length (0 : Int)).length)) ((ys.set k ((ys.getD (((((rs.getD k row0).ar).getD m arc0).f).toNat) 0) + ((((rs.getD k row0).ar).getD m arc0).d))).length) ((ys.set k ((ys.getD (((((rs.getD k row0).ar).getD m arc0).f).toNat) 0) + ((((rs.getD k row0).ar).getD m arc0).d))).map (Value.int .i64))]) rfl rfl rfl (by kernel_rfl) rfl rfl rfl rfl (by first | omega | (simp only [List.length_set]; omega)) List.length_set.symm (ints_set _ _ _) rfl ?_
              refine hl_less (sub_cons (d := 0) rfl (sub_cons (d := 1) rfl (sub_cons (d := 2) rfl (sub_cons (d := 6) rfl (sub_cons (d := 7) rfl (sub_cons (d := 8) rfl (sub_cons (d := 10) rfl (sub_cons (d := 11) rfl (sub_cons (d := 16) rfl (sub_cons (d := 17) rfl (sub_cons (d := 18) rfl (sub_cons (d := 25) rfl (sub_cons (d := 32) rfl (sub_cons (d := 33) rfl (sub_cons (d := 34) rfl (sub_cons (d := 35) rfl (sub_cons (d := 43) rfl (sub_cons (d := 79) rfl (sub_nil _))))))))))))))))))) (.refl _) ?_
              refine hl_nil ?_
              refine hq_block_normal ?_
              refine hq_then ?_
              refine hc_region ?_
              refine hl_v rfl rfl rfl (rv_add rfl rfl rfl (by constructor <;> omega)) ?_
              refine hl_v rfl rfl rfl (rv_ev rfl) ?_
              refine hl_less (sub_cons (d := 0) rfl (sub_cons (d := 1) rfl (sub_cons (d := 2) rfl (sub_cons (d := 6) rfl (sub_cons (d := 7) rfl (sub_cons (d := 8) rfl (sub_cons (d := 10) rfl (sub_cons (d := 11) rfl (sub_cons (d := 16) rfl (sub_cons (d := 17) rfl (sub_cons (d := 18) rfl (sub_cons (d := 25) rfl (sub_cons (d := 32) rfl (sub_cons (d := 33) rfl (sub_cons (d := 34) rfl (sub_cons (d := 35) rfl (sub_cons (d := 43) rfl (sub_cons (d := 79) rfl (sub_nil _))))))))))))))))))) (.refl _) ?_
              refine hl_nil ?_
              exact hq_round3 (m + 1) (Dl lg gs s (((rs.getD k row0).ar.getD m arc0).f).toNat + ((rs.getD k row0).ar.getD m arc0).d) (ys.set k ((ys.getD (((((rs.getD k row0).ar).getD m arc0).f).toNat) 0) + ((((rs.getD k row0).ar).getD m arc0).d))) ⟨by omega, by rw [take_snoc arc0 (by omega), List.foldl_append, ← hb]; show _ = stepD lg (delL lg gs s k) b ((rs.getD k row0).ar.getD m arc0); rw [st_set (by rw [hlow2]; omega) (by rw [hlow2]; first | exact .inl (by omega) | exact .inr (.inl ⟨by assumption, by omega⟩) | exact .inr (.inr ⟨by assumption, by omega⟩)), hlow2], by omega, by omega, by rw [hlow, hy, List.set_set]⟩ (by omega) (sub_cons (d := 0) rfl (sub_cons (d := 1) rfl (sub_cons (d := 2) rfl (sub_cons (d := 6) rfl (sub_cons (d := 7) rfl (sub_cons (d := 8) rfl (sub_cons (d := 16) rfl (sub_cons (d := 17) rfl (sub_cons (d := 18) rfl (sub_cons (d := 25) rfl (sub_cons (d := 32) rfl (sub_cons (d := 33) rfl (sub_cons (d := 34) rfl (sub_nil _)))))))))))))) ((.cons _ (.cons_cons _ .slnil)))
            ·
              refine hl_v rfl rfl rfl (rv_ev rfl) ?_
              refine hl_v rfl rfl rfl (rv_ev rfl) ?_
              refine hl_bool (fun h10 => ?_) (fun h10 => ?_)
              ·
                have hlg := h10
                refine hl_v rfl rfl rfl (rv_ev rfl) ?_
                refine hl_v rfl rfl rfl (rv_ev rfl) ?_
                refine hl_v rfl rfl rfl (rv_ev rfl) ?_
                refine hl_v rfl rfl rfl (rv_ev rfl) ?_
                refine hl_v rfl rfl rfl (rv_index (s := 1) rfl Try.underlying43 (by kernel_rfl) rfl rfl (rd_row 1 rfl) (by omega) (by first | omega | (simp only [List.length_set]; omega))) ?_
                refine hl_v rfl rfl rfl (rv_loadEl (u := .int .i64 (ys.getD k 0)) rfl (by kernel_rfl) rfl (rd_row 1 rfl) (ints_at1 (show _ < ys.length by first | omega | (simp only [List.length_set]; omega)))) ?_
                refine hl_gtr rfl rfl rfl rfl rfl rfl (fun h11 => ?_) (fun h11 => ?_)
                ·
                  refine hl_v rfl rfl rfl (rv_ev rfl) ?_
                  refine hl_v rfl rfl rfl (rv_ev rfl) ?_
                  refine hl_v rfl rfl rfl (rv_ev rfl) ?_
                  refine hl_skip rfl rfl rfl ?_
                  refine hl_skip rfl rfl rfl ?_
                  refine hl_skip rfl rfl rfl ?_
                  refine hl_skip rfl rfl rfl ?_
                  refine hl_skip rfl rfl rfl ?_
                  refine hl_skip rfl rfl rfl ?_
                  refine hl_skip rfl rfl rfl ?_
                  refine hl_skip rfl rfl rfl ?_
                  refine hl_skip rfl rfl rfl ?_
                  refine hl_skip rfl rfl rfl ?_
                  refine hl_v rfl rfl rfl (rv_ev rfl) ?_
                  refine hl_less (sub_cons (d := 0) rfl (sub_cons (d := 1) rfl (sub_cons (d := 2) rfl (sub_cons (d := 6) rfl (sub_cons (d := 7) rfl (sub_cons (d := 8) rfl (sub_cons (d := 10) rfl (sub_cons (d := 11) rfl (sub_cons (d := 16) rfl (sub_cons (d := 17) rfl (sub_cons (d := 18) rfl (sub_cons (d := 25) rfl (sub_cons (d := 32) rfl (sub_cons (d := 33) rfl (sub_cons (d := 34) rfl (sub_cons (d := 35) rfl (sub_cons (d := 43) rfl (sub_cons (d := 79) rfl (sub_nil _))))))))))))))))))) (.refl _) ?_
                  refine hl_nil ?_
                  refine hq_then ?_
                  refine hc_true rfl ?_
                  refine hc_region ?_
                  refine hl_v rfl rfl rfl (rv_ev rfl) ?_
                  refine hl_v rfl rfl rfl (rv_ev rfl) ?_
                  refine hl_v rfl rfl rfl (rv_ev rfl) ?_
                  refine hl_v rfl rfl rfl (rv_index (s := 1) rfl Try.underlying43 (by kernel_rfl) rfl rfl (rd_row 1 rfl) (by omega) (by first | omega | (simp only [List.length_set]; omega))) ?_
                  refine hl_storeEl (i := 1) (n' := (ys.set k ((ys.getD (((((rs.getD k row0).ar).getD m arc0).f).toNat) 0) + ((((rs.getD k row0).ar).getD m arc0).d))).length) (xs' := ((ys.set k ((ys.getD (((((rs.getD k row0).ar).getD m arc0).f).toNat) 0) + ((((rs.getD k row0).ar).getD m arc0).d))).map (Value.int .i64))) (l' := [boxE b7 #[.int .i64 ((((rs.getD k row0).ar).getD m arc0).f), .int .i64 ((((rs.getD k row0).ar).getD m arc0).t), .int .i64 ((((rs.getD k row0).ar).getD m arc0).d)] 82, rowE 3 1 (.slice (some ⟨g1, 0, none⟩) ((List.replicate rs.length (0 : Int)).length) ((List.replicate rs.length (0 : Int)).length)) ((ys.set k ((ys.getD (((((rs.getD k row0).ar).getD m arc0).f).toNat) 0) + ((((rs.getD k row0).ar).getD m arc0).d))).length) ((ys.set k ((ys.getD (((((rs.getD k row0).ar).getD m arc0).f).toNat) 0) + ((((rs.getD k row0).ar).getD m arc0).d))).map (Value.int .i64))]) rfl rfl rfl (by kernel_rfl) rfl rfl rfl rfl (by first | omega | (simp only [List.length_set]; omega)) List.length_set.symm (ints_set _ _ _) rfl ?_
                  refine hl_less (sub_cons (d := 0) rfl (sub_cons (d := 1) rfl (sub_cons (d := 2) rfl (sub_cons (d := 6) rfl (sub_cons (d := 7) rfl (sub_cons (d := 8) rfl (sub_cons (d := 10) rfl (sub_cons (d := 11) rfl (sub_cons (d := 16) rfl (sub_cons (d := 17) rfl (sub_cons (d := 18) rfl (sub_cons (d := 25) rfl (sub_cons (d := 32) rfl (sub_cons (d := 33) rfl (sub_cons (d := 34) rfl (sub_cons (d := 35) rfl (sub_cons (d := 43) rfl (sub_cons (d := 79) rfl (sub_nil _))))))))))))))))))) (.refl _) ?_
                  refine hl_nil ?_
                  refine hq_block_normal ?_
                  refine hq_then ?_
                  refine hc_region ?_
                  refine hl_v rfl rfl rfl (rv_add rfl rfl rfl (by constructor <;> omega)) ?_
                  refine hl_v rfl rfl rfl (rv_ev rfl) ?_
                  refine hl_less (sub_cons (d := 0) rfl (sub_cons (d := 1) rfl (sub_cons (d := 2) rfl (sub_cons (d := 6) rfl (sub_cons (d := 7) rfl (sub_cons (d := 8) rfl (sub_cons (d := 10) rfl (sub_cons (d := 11) rfl (sub_cons (d := 16) rfl (sub_cons (d := 17) rfl (sub_cons (d := 18) rfl (sub_cons (d := 25) rfl (sub_cons (d := 32) rfl (sub_cons (d := 33) rfl (sub_cons (d := 34) rfl (sub_cons (d := 35) rfl (sub_cons (d := 43) rfl (sub_cons (d := 79) rfl (sub_nil _))))))))))))))))))) (.refl _) ?_
                  refine hl_nil ?_
                  exact hq_round3 (m + 1) (Dl lg gs s (((rs.getD k row0).ar.getD m arc0).f).toNat + ((rs.getD k row0).ar.getD m arc0).d) (ys.set k ((ys.getD (((((rs.getD k row0).ar).getD m arc0).f).toNat) 0) + ((((rs.getD k row0).ar).getD m arc0).d))) ⟨by omega, by rw [take_snoc arc0 (by omega), List.foldl_append, ← hb]; show _ = stepD lg (delL lg gs s k) b ((rs.getD k row0).ar.getD m arc0); rw [st_set (by rw [hlow2]; omega) (by rw [hlow2]; first | exact .inl (by omega) | exact .inr (.inl ⟨by assumption, by omega⟩) | exact .inr (.inr ⟨by assumption, by omega⟩)), hlow2], by omega, by omega, by rw [hlow, hy, List.set_set]⟩ (by omega) (sub_cons (d := 0) rfl (sub_cons (d := 1) rfl (sub_cons (d := 2) rfl (sub_cons (d := 6) rfl (sub_cons (d := 7) rfl (sub_cons (d := 8) rfl (sub_cons (d := 16) rfl (sub_cons (d := 17) rfl (sub_cons (d := 18) rfl (sub_cons (d := 25) rfl (sub_cons (d := 32) rfl (sub_cons (d := 33) rfl (sub_cons (d := 34) rfl (sub_nil _)))))))))))))) ((.cons _ (.cons_cons _ .slnil)))
                ·
                  refine hl_v rfl rfl rfl (rv_ev rfl) ?_
                  refine hl_v rfl rfl rfl (rv_ev rfl) ?_
                  refine hl_v rfl rfl rfl (rv_ev rfl) ?_
                  refine hl_v rfl rfl rfl (rv_ev rfl) ?_
                  refine hl_bool (fun h12 => ?_) (fun h12 => absurd ((h10).symm.trans h12) (by decide))
                  have hlg := h12
                  refine hl_v rfl rfl rfl (rv_ev rfl) ?_
                  refine hl_v rfl rfl rfl (rv_ev rfl) ?_
                  refine hl_skip rfl rfl rfl ?_
                  refine hl_skip rfl rfl rfl ?_
                  refine hl_skip rfl rfl rfl ?_
                  refine hl_skip rfl rfl rfl ?_
                  refine hl_skip rfl rfl rfl ?_
                  refine hl_skip rfl rfl rfl ?_
                  refine hl_v rfl rfl rfl (rv_ev rfl) ?_
                  refine hl_v rfl rfl rfl (rv_ev rfl) ?_
                  refine hl_less (sub_cons (d := 0) rfl (sub_cons (d := 1) rfl (sub_cons (d := 2) rfl (sub_cons (d := 6) rfl (sub_cons (d := 7) rfl (sub_cons (d := 8) rfl (sub_cons (d := 10) rfl (sub_cons (d := 11) rfl (sub_cons (d := 16) rfl (sub_cons (d := 17) rfl (sub_cons (d := 18) rfl (sub_cons (d := 25) rfl (sub_cons (d := 32) rfl (sub_cons (d := 33) rfl (sub_cons (d := 34) rfl (sub_cons (d := 35) rfl (sub_cons (d := 43) rfl (sub_cons (d := 79) rfl (sub_nil _))))))))))))))))))) (.refl _) ?_
                  refine hl_nil ?_
                  refine hq_then ?_
                  refine hc_false rfl ?_
                  refine hc_skip ?_
                  refine hq_block_normal ?_
                  refine hq_then ?_
                  refine hc_region ?_
                  refine hl_v rfl rfl rfl (rv_add rfl rfl rfl (by constructor <;> omega)) ?_
                  refine hl_v rfl rfl rfl (rv_ev rfl) ?_
                  refine hl_less (sub_cons (d := 0) rfl (sub_cons (d := 1) rfl (sub_cons (d := 2) rfl (sub_cons (d := 6) rfl (sub_cons (d := 7) rfl (sub_cons (d := 8) rfl (sub_cons (d := 10) rfl (sub_cons (d := 11) rfl (sub_cons (d := 16) rfl (sub_cons (d := 17) rfl (sub_cons (d := 18) rfl (sub_cons (d := 25) rfl (sub_cons (d := 32) rfl (sub_cons (d := 33) rfl (sub_cons (d := 34) rfl (sub_cons (d := 35) rfl (sub_cons (d := 43) rfl (sub_cons (d := 79) rfl (sub_nil _))))))))))))))))))) (.refl _) ?_
                  refine hl_nil ?_
                  exact hq_round3 (m + 1) b ys ⟨by omega, by rw [take_snoc arc0 (by omega), List.foldl_append, ← hb]; show _ = stepD lg (delL lg gs s k) b ((rs.getD k row0).ar.getD m arc0); first | rw [st_skip (by rw [hlow2]; omega)] | (subst hlg; rw [st_noT (by rw [hlow2]; omega) (by omega) (by rw [hlow2]; omega)]) | (subst hlg; rw [st_noF (by rw [hlow2]; omega) (by omega) (by rw [hlow2]; omega)]), by omega, by omega, hy⟩ (by omega) (sub_cons (d := 0) rfl (sub_cons (d := 1) rfl (sub_cons (d := 2) rfl (sub_cons (d := 6) rfl (sub_cons (d := 7) rfl (sub_cons (d := 8) rfl (sub_cons (d := 16) rfl (sub_cons (d := 17) rfl (sub_cons (d := 18) rfl (sub_cons (d := 25) rfl (sub_cons (d := 32) rfl (sub_cons (d := 33) rfl (sub_cons (d := 34) rfl (sub_nil _)))))))))))))) ((.cons _ (.cons_cons _ .slnil)))
              ·
                have hlg := h10
                refine hl_v rfl rfl rfl (rv_ev rfl) ?_
                refine hl_skip rfl rfl rfl ?_
                refine hl_skip rfl rfl rfl ?_
                refine hl_skip rfl rfl rfl ?_
                refine hl_skip rfl rfl rfl ?_
                refine hl_skip rfl rfl rfl ?_
                refine hl_skip rfl rfl rfl ?_
                refine hl_v rfl rfl rfl (rv_ev rfl) ?_
                refine hl_v rfl rfl rfl (rv_ev rfl) ?_
                refine hl_v rfl rfl rfl (rv_ev rfl) ?_
                refine hl_v rfl rfl rfl (rv_ev rfl) ?_
                refine hl_bool (fun h13 => absurd ((h10).symm.trans h13) (by decide)) (fun h13 => ?_)
                have hlg := h13
                refine hl_v rfl rfl rfl (rv_ev rfl) ?_
                refine hl_v rfl rfl rfl (rv_ev rfl) ?_
                refine hl_v rfl rfl rfl (rv_ev rfl) ?_
                refine hl_v rfl rfl rfl (rv_ev rfl) ?_
                refine hl_v rfl rfl rfl (rv_ev rfl) ?_
                refine hl_v rfl rfl rfl (rv_index (s := 1) rfl Try.underlying43 (by kernel_rfl) rfl rfl (rd_row 1 rfl) (by omega) (by first | omega | (simp only [List.length_set]; omega))) ?_
                refine hl_v rfl rfl rfl (rv_loadEl (u := .int .i64 (ys.getD k 0)) rfl (by kernel_rfl) rfl (rd_row 1 rfl) (ints_at1 (show _ < ys.length by first | omega | (simp only [List.length_set]; omega)))) ?_
                refine hl_lss rfl rfl rfl rfl rfl rfl (fun h14 => ?_) (fun h14 => ?_)
                ·
                  refine hl_v rfl rfl rfl (rv_ev rfl) ?_
                  refine hl_v rfl rfl rfl (rv_ev rfl) ?_
                  refine hl_less (sub_cons (d := 0) rfl (sub_cons (d := 1) rfl (sub_cons (d := 2) rfl (sub_cons (d := 6) rfl (sub_cons (d := 7) rfl (sub_cons (d := 8) rfl (sub_cons (d := 10) rfl (sub_cons (d := 11) rfl (sub_cons (d := 16) rfl (sub_cons (d := 17) rfl (sub_cons (d := 18) rfl (sub_cons (d := 25) rfl (sub_cons (d := 32) rfl (sub_cons (d := 33) rfl (sub_cons (d := 34) rfl (sub_cons (d := 35) rfl (sub_cons (d := 43) rfl (sub_cons (d := 79) rfl (sub_nil _))))))))))))))))))) (.refl _) ?_
                  refine hl_nil ?_
                  refine hq_then ?_
                  refine hc_true rfl ?_
                  refine hc_region ?_
                  refine hl_v rfl rfl rfl (rv_ev rfl) ?_
                  refine hl_v rfl rfl rfl (rv_ev rfl) ?_
                  refine hl_v rfl rfl rfl (rv_ev rfl) ?_
                  refine hl_v rfl rfl rfl (rv_index (s := 1) rfl Try.underlying43 (by kernel_rfl) rfl rfl (rd_row 1 rfl) (by omega) (by first | omega | (simp only [List.length_set]; omega))) ?_
                  refine hl_storeEl (i := 1) (n' := (ys.set k ((ys.getD (((((rs.getD k row0).ar).getD m arc0).f).toNat) 0) + ((((rs.getD k row0).ar).getD m arc0).d))).length) (xs' := ((ys.set k ((ys.getD (((((rs.getD k row0).ar).getD m arc0).f).toNat) 0) + ((((rs.getD k row0).ar).getD m arc0).d))).map (Value.int .i64))) (l' := [boxE b7 #[.int .i64 ((((rs.getD k row0).ar).getD m arc0).f), .int .i64 ((((rs.getD k row0).ar).getD m arc0).t), .int .i64 ((((rs.getD k row0).ar).getD m arc0).d)] 82, rowE 3 1 (.slice (some ⟨g1, 0, none⟩) ((List.replicate rs.length (0 : Int)).length) ((List.replicate rs.length (0 : Int)).length)) ((ys.set k ((ys.getD (((((rs.getD k row0).ar).getD m arc0).f).toNat) 0) + ((((rs.getD k row0).ar).getD m arc0).d))).length) ((ys.set k ((ys.getD (((((rs.getD k row0).ar).getD m arc0).f).toNat) 0) + ((((rs.getD k row0).ar).getD m arc0).d))).map (Value.int .i64))]) rfl rfl rfl (by kernel_rfl) rfl rfl rfl rfl (by first | omega | (simp only [List.length_set]; omega)) List.length_set.symm (ints_set _ _ _) rfl ?_
                  refine hl_less (sub_cons (d := 0) rfl (sub_cons (d := 1) rfl (sub_cons (d := 2) rfl (sub_cons (d := 6) rfl (sub_cons (d := 7) rfl (sub_cons (d := 8) rfl (sub_cons (d := 10) rfl (sub_cons (d := 11) rfl (sub_cons (d := 16) rfl (sub_cons (d := 17) rfl (sub_cons (d := 18) rfl (sub_cons (d := 25) rfl (sub_cons (d := 32) rfl (sub_cons (d := 33) rfl (sub_cons (d := 34) rfl (sub_cons (d := 35) rfl (sub_cons (d := 43) rfl (sub_cons (d := 79) rfl (sub_nil _))))))))))))))))))) (.refl _) ?_
                  refine hl_nil ?_
                  refine hq_block_normal ?_
                  refine hq_then ?_
                  refine hc_region ?_
                  refine hl_v rfl rfl rfl (rv_add rfl rfl rfl (by constructor <;> omega)) ?_
                  refine hl_v rfl rfl rfl (rv_ev rfl) ?_
                  refine hl_less (sub_cons (d := 0) rfl (sub_cons (d := 1) rfl (sub_cons (d := 2) rfl (sub_cons (d := 6) rfl (sub_cons (d := 7) rfl (sub_cons (d := 8) rfl (sub_cons (d := 10) rfl (sub_cons (d := 11) rfl (sub_cons (d := 16) rfl (sub_cons (d := 17) rfl (sub_cons (d := 18) rfl (sub_cons (d := 25) rfl (sub_cons (d := 32) rfl (sub_cons (d := 33) rfl (sub_cons (d := 34) rfl (sub_cons (d := 35) rfl (sub_cons (d := 43) rfl (sub_cons (d := 79) rfl (sub_nil _))))))))))))))))))) (.refl _) ?_
                  refine hl_nil ?_
                  exact hq_round3 (m + 1) (Dl lg gs s (((rs.getD k row0).ar.getD m arc0).f).toNat + ((rs.getD k row0).ar.getD m arc0).d) (ys.set k ((ys.getD (((((rs.getD k row0).ar).getD m arc0).f).toNat) 0) + ((((rs.getD k row0).ar).getD m arc0).d))) ⟨by omega, by rw [take_snoc arc0 (by omega), List.foldl_append, ← hb]; show _ = stepD lg (delL lg gs s k) b ((rs.getD k row0).ar.getD m arc0); rw [st_set (by rw [hlow2]; omega) (by rw [hlow2]; first | exact .inl (by omega) | exact .inr (.inl ⟨by assumption, by omega⟩) | exact .inr (.inr ⟨by assumption, by omega⟩)), hlow2], by omega, by omega, by rw [hlow, hy, List.set_set]⟩ (by omega) (sub_cons (d := 0) rfl (sub_cons (d := 1) rfl (sub_cons (d := 2) rfl (sub_cons (d := 6) rfl (sub_cons (d := 7) rfl (sub_cons (d := 8) rfl (sub_cons (d := 16) rfl (sub_cons (d := 17) rfl (sub_cons (d := 18) rfl (sub_cons (d := 25) rfl (sub_cons (d := 32) rfl (sub_cons (d := 33) rfl (sub_cons (d := 34) rfl (sub_nil _)))))))))))))) ((.cons _ (.cons_cons _ .slnil)))
                ·
                  refine hl_v rfl rfl rfl (rv_ev rfl) ?_
                  refine hl_v rfl rfl rfl (rv_ev rfl) ?_
                  refine hl_less (sub_cons (d := 0) rfl (sub_cons (d := 1) rfl (sub_cons (d := 2) rfl (sub_cons (d := 6) rfl (sub_cons (d := 7) rfl (sub_cons (d := 8) rfl (sub_cons (d := 10) rfl (sub_cons (d := 11) rfl (sub_cons (d := 16) rfl (sub_cons (d := 17) rfl (sub_cons (d := 18) rfl (sub_cons (d := 25) rfl (sub_cons (d := 32) rfl (sub_cons (d := 33) rfl (sub_cons (d := 34) rfl (sub_cons (d := 35) rfl (sub_cons (d := 43) rfl (sub_cons (d := 79) rfl (sub_nil _))))))))))))))))))) (.refl _) ?_
                  refine hl_nil ?_
                  refine hq_then ?_
                  refine hc_false rfl ?_
                  refine hc_skip ?_
                  refine hq_block_normal ?_
                  refine hq_then ?_
                  refine hc_region ?_
                  refine hl_v rfl rfl rfl (rv_add rfl rfl rfl (by constructor <;> omega)) ?_
                  refine hl_v rfl rfl rfl (rv_ev rfl) ?_
                  refine hl_less (sub_cons (d := 0) rfl (sub_cons (d := 1) rfl (sub_cons (d := 2) rfl (sub_cons (d := 6) rfl (sub_cons (d := 7) rfl (sub_cons (d := 8) rfl (sub_cons (d := 10) rfl (sub_cons (d := 11) rfl (sub_cons (d := 16) rfl (sub_cons (d := 17) rfl (sub_cons (d := 18) rfl (sub_cons (d := 25) rfl (sub_cons (d := 32) rfl (sub_cons (d := 33) rfl (sub_cons (d := 34) rfl (sub_cons (d := 35) rfl (sub_cons (d := 43) rfl (sub_cons (d := 79) rfl (sub_nil _))))))))))))))))))) (.refl _) ?_
                  refine hl_nil ?_
                  exact hq_round3 (m + 1) b ys ⟨by omega, by rw [take_snoc arc0 (by omega), List.foldl_append, ← hb]; show _ = stepD lg (delL lg gs s k) b ((rs.getD k row0).ar.getD m arc0); first | rw [st_skip (by rw [hlow2]; omega)] | (subst hlg; rw [st_noT (by rw [hlow2]; omega) (by omega) (by rw [hlow2]; omega)]) | (subst hlg; rw [st_noF (by rw [hlow2]; omega) (by omega) (by rw [hlow2]; omega)]), by omega, by omega, hy⟩ (by omega) (sub_cons (d := 0) rfl (sub_cons (d := 1) rfl (sub_cons (d := 2) rfl (sub_cons (d := 6) rfl (sub_cons (d := 7) rfl (sub_cons (d := 8) rfl (sub_cons (d := 16) rfl (sub_cons (d := 17) rfl (sub_cons (d := 18) rfl (sub_cons (d := 25) rfl (sub_cons (d := 32) rfl (sub_cons (d := 33) rfl (sub_cons (d := 34) rfl (sub_nil _)))))))))))))) ((.cons _ (.cons_cons _ .slnil)))
      ·
        refine hl_less (sub_cons (d := 0) rfl (sub_cons (d := 1) rfl (sub_cons (d := 2) rfl (sub_cons (d := 6) rfl (sub_cons (d := 7) rfl (sub_cons (d := 8) rfl (sub_cons (d := 16) rfl (sub_cons (d := 17) rfl (sub_cons (d := 18) rfl (sub_cons (d := 25) rfl (sub_cons (d := 32) rfl (sub_cons (d := 33) rfl (sub_cons (d := 34) rfl (sub_cons (d := 35) rfl (sub_nil _))))))))))))))) (.refl _) ?_
        refine hl_nil ?_
        refine hq_then ?_
        refine hc_seq ?_
        refine hc_false rfl ?_
        refine hc_exit ?_
        refine hq_then_exit ?_
        refine hq_then_exit ?_
        refine hq_block_exit ?_
        refine hq_block_normal ?_
        refine hq_then ?_
        refine hc_region ?_
        refine hl_v rfl rfl rfl (rv_add rfl rfl rfl (by constructor <;> omega)) ?_
        refine hl_v rfl rfl rfl (rv_ev rfl) ?_
        refine hl_less (sub_cons (d := 0) rfl (sub_cons (d := 1) rfl (sub_cons (d := 2) rfl (sub_cons (d := 6) rfl (sub_cons (d := 7) rfl (sub_cons (d := 8) rfl (sub_cons (d := 16) rfl (sub_cons (d := 17) rfl (sub_cons (d := 18) rfl (sub_cons (d := 25) rfl (sub_cons (d := 32) rfl (sub_cons (d := 33) rfl (sub_cons (d := 34) rfl (sub_cons (d := 35) rfl (sub_nil _))))))))))))))) (.refl _) ?_
        refine hl_nil ?_
        exact hq_round2 (k + 1) ys ⟨by omega, by first | (rw [hz, List.set_set]; exact del_next lg gs s k _ (by omega) (Dl_start lg gs s k (by omega)).symm) | (rw [hy]; exact del_next lg gs s k _ (by omega) (by rw [Dl_def, if_neg (by omega), hb, show m = (rs.getD k row0).ar.length by omega, List.take_length, hri.2 k (by omega)]))⟩ (by omega) (sub_cons (d := 0) rfl (sub_cons (d := 1) rfl (sub_cons (d := 2) rfl (sub_cons (d := 6) rfl (sub_cons (d := 7) rfl (sub_cons (d := 16) rfl (sub_cons (d := 17) rfl (sub_nil _)))))))) ((.cons_cons _ .slnil))
  ·
    refine hl_less (sub_cons (d := 0) rfl (sub_cons (d := 1) rfl (sub_cons (d := 2) rfl (sub_cons (d := 6) rfl (sub_cons (d := 7) rfl (sub_cons (d := 16) rfl (sub_cons (d := 17) rfl (sub_cons (d := 18) rfl (sub_nil _))))))))) (.refl _) ?_
    refine hl_nil ?_
    refine hq_then ?_
    refine hc_seq ?_
    refine hc_false rfl ?_
    refine hc_exit ?_
    refine hq_then_exit ?_
    refine hq_then_exit ?_
    refine hq_block_exit ?_
    refine hq_then ?_
    refine hc_seq ?_
    refine hc_region ?_
    refine hl_v rfl rfl rfl (rv_ev rfl) ?_
    refine hl_v rfl rfl rfl (rv_ev rfl) ?_
    refine hl_less (sub_cons (d := 0) rfl (sub_cons (d := 1) rfl (sub_cons (d := 2) rfl (sub_cons (d := 6) rfl (sub_cons (d := 7) rfl (sub_cons (d := 16) rfl (sub_cons (d := 17) rfl (sub_cons (d := 18) rfl (sub_nil _))))))))) (.refl _) ?_
    refine hl_nil ?_
    refine hq_then ?_
    refine hc_ret ?_
    have hke : k = rs.length := by omega
    exact hq_retR (post := [rowE 3 1 (.slice (some ⟨g1, 0, none⟩) ((List.replicate rs.length (0 : Int)).length) ((List.replicate rs.length (0 : Int)).length)) zs.length (zs.map (Value.int .i64))]) rfl rfl ((.cons_cons _ .slnil)) (by rw [hz, hke, Nat.sub_self]; simp)
end Go.Proofs.Yteccnnpcigkmhaa
