/- The law FnPropagates: the walk. -/
import Derived.Test.YteccnnpcigkmhaaCnf4
set_option linter.unusedVariables false
set_option linter.unusedSimpArgs false
namespace Go.Proofs.Yteccnnpcigkmhaa
open Go.RowKit
set_option maxHeartbeats 4000000 in
set_option maxRecDepth 100000 in
theorem walk_FnPropagates (a0 : Option Addr) (len0 cap0 : Nat) (z0 : List Int) (w : World) (hbr : BRow .u8 w a0 len0 cap0 z0) :
    Calls Try.prog 6 #[.slice a0 len0 cap0] w (Ans w (.bool true)) := by
  refine calls_hc (N := 109) (args := [.slice a0 len0 cap0]) Try.func6 rfl rfl ?_
  refine hc_less _ (sub_cons (d := 0) rfl (sub_nil _)) (.refl _) ?_
  refine hc_seq ?_
  refine hc_region ?_
  refine hl_v rfl rfl rfl (rv_ev rfl) ?_
  refine hl_less (sub_cons (d := 0) rfl (sub_cons (d := 2) rfl (sub_nil _))) (.refl _) ?_
  refine hl_nil ?_
  refine hq_then ?_
  refine hc_seq ?_
  refine hc_seq ?_
  refine hc_region ?_
  refine hl_v rfl rfl rfl (rv_ev rfl) ?_
  refine hl_callV rfl rfl rfl (rq_call (by kernel_rfl) rfl (fun w hm => ret_ans (ans_of (big_any a0 len0 cap0 w (hbr.len_le))))) ?_
  refine hl_bool (fun h1 => ?_) (fun h1 => ?_)
  ·
    have h1p := of_decide_eq_true h1
    refine hl_less (sub_cons (d := 0) rfl (sub_cons (d := 2) rfl (sub_cons (d := 15) rfl (sub_nil _)))) (.refl _) ?_
    refine hl_nil ?_
    refine hq_then ?_
    refine hc_true rfl ?_
    refine hc_seq ?_
    refine hc_region ?_
    refine hl_v rfl rfl rfl (rv_ev rfl) ?_
    refine hl_less (sub_cons (d := 0) rfl (sub_cons (d := 2) rfl (sub_cons (d := 15) rfl (sub_nil _)))) (.refl _) ?_
    refine hl_nil ?_
    refine hq_then ?_
    refine hc_ret ?_
    refine hq_then_ret ?_
    exact hq_ans rfl rfl rfl
  ·
    have h1p := of_decide_eq_false h1
    refine hl_less (sub_cons (d := 0) rfl (sub_cons (d := 2) rfl (sub_cons (d := 15) rfl (sub_nil _)))) (.refl _) ?_
    refine hl_nil ?_
    refine hq_then ?_
    refine hc_false rfl ?_
    refine hc_skip ?_
    refine hq_then ?_
    refine hc_seq ?_
    refine hc_region ?_
    refine hl_v rfl rfl rfl (rv_ev rfl) ?_
    refine hl_q rfl rfl rfl (rq_call (by kernel_rfl) rfl (fun w hm => DrawCnf_ret _ _ _ z0 w (hbr.below hm.bel) (by omega))) ?_
    intro v2 p3 hR4
    obtain ⟨n, cv, av, rs, bs, rfl, rfl, hr, hn, hrl, hbl⟩ := hR4
    refine hl_v rfl rfl rfl (rv_ev rfl) ?_
    refine hl_v rfl rfl rfl (rv_ev rfl) ?_
    refine hl_v rfl rfl rfl (rv_ev rfl) ?_
    refine hl_box rfl rfl rfl (rq_alloc (z := .agg #[.int .i64 0, .slice none 0 0]) rfl (by kernel_rfl)) ?_
    intro b5
    refine hl_know (fun w hm => (cl_rds (v := cv) (rs := rs) 1 rfl w hm).row.one) (fun hcv => ?_)
    refine hl_storeBoxN (i := 0) (off := 0) (us := [.int .i64 n, cv]) (l' := [boxE b5 #[.int .i64 n, cv] 54, clE cv rs, rowE 4 1 av bs.length (bs.flatMap blC)]) rfl rfl rfl (by kernel_rfl) rfl rfl rfl (all_cons rfl (all_cons hcv all_nil)) rfl rfl rfl ?_
    refine hl_v rfl rfl rfl (rv_ev rfl) ?_
    refine hl_less (sub_cons (d := 0) rfl (sub_cons (d := 2) rfl (sub_cons (d := 3) rfl (sub_cons (d := 4) rfl (sub_cons (d := 15) rfl (sub_nil _)))))) (.refl _) ?_
    refine hl_nil ?_
    refine hq_then ?_
    refine hc_seq ?_
    refine hc_region ?_
    refine hl_row rfl rfl rfl (rq_slice0 (s := 1) rfl Try.underlying43 (by kernel_rfl)) ?_
    intro g6
    refine hl_v rfl rfl rfl (rv_ev rfl) ?_
    refine hl_less (sub_cons (d := 0) rfl (sub_cons (d := 2) rfl (sub_cons (d := 3) rfl (sub_cons (d := 4) rfl (sub_cons (d := 5) rfl (sub_cons (d := 15) rfl (sub_nil _))))))) (.refl _) ?_
    refine hl_nil ?_
    refine hq_then ?_
    refine hc_seq ?_
    refine hc_region ?_
    refine hl_row rfl rfl rfl (rq_slice0 (s := 1) rfl Try.underlying43 (by kernel_rfl)) ?_
    intro g7
    refine hl_v rfl rfl rfl (rv_ev rfl) ?_
    refine hl_less (sub_cons (d := 0) rfl (sub_cons (d := 2) rfl (sub_cons (d := 3) rfl (sub_cons (d := 4) rfl (sub_cons (d := 5) rfl (sub_cons (d := 6) rfl (sub_cons (d := 15) rfl (sub_nil _)))))))) (.refl _) ?_
    refine hl_nil ?_
    refine hq_then ?_
    refine hc_seq ?_
    refine hc_seq ?_
    refine hc_region ?_
    refine hl_v rfl rfl rfl (rv_ev rfl) ?_
    refine hl_less (sub_cons (d := 0) rfl (sub_cons (d := 2) rfl (sub_cons (d := 3) rfl (sub_cons (d := 4) rfl (sub_cons (d := 5) rfl (sub_cons (d := 6) rfl (sub_cons (d := 7) rfl (sub_cons (d := 15) rfl (sub_nil _))))))))) (.refl _) ?_
    refine hl_nil ?_
    refine hq_then ?_
    refine hc_block ?_
    refine hc_loop4 (α := Nat) (β := Value × Value) (γ := List Int) (δ := List Int) (fun k U fs pp => [rowE 3 1 U.2 pp.length (pp.map (Value.int .i64)), rowE 3 1 U.1 fs.length (fs.map (Value.int .i64)), boxE b5 #[.int .i64 n, cv] 54, clE cv rs, rowE 4 1 av bs.length (bs.flatMap blC)]) (fun k U fs pp => [(0, .slice a0 len0 cap0), (2, .bool false), (3, .pointer (some ⟨b5, 0, none⟩)), (4, av), (5, U.1), (6, U.2), (7, .int .i64 (k : Int)), (15, .bool false)]) (fun k U fs pp => k ≤ bs.length ∧ fs = (fullL bs).take k ∧ pp.length = k ∧ Part bs pp) (fun k U fs pp => bs.length - k) 0 (_, _) [] [] ⟨by omega, by simp, rfl, ⟨fun i hi => absurd hi (by simp)⟩⟩ (sub_cons (d := 0) rfl (sub_cons (d := 2) rfl (sub_cons (d := 3) rfl (sub_cons (d := 4) rfl (sub_cons (d := 5) rfl (sub_cons (d := 6) rfl (sub_cons (d := 7) rfl (sub_cons (d := 15) rfl (sub_nil _))))))))) ((.cons_cons _ (.cons_cons _ (.cons_cons _ (.cons_cons _ (.cons_cons _ .slnil)))))) ?_
    intro k U fs pp hi8
    obtain ⟨hk, hfs, hpl, hpp⟩ := hi8
    have hfl : fs.length = k := by rw [hfs, List.length_take, full_len]; omega
    refine hc_seq ?_
    refine hc_seq ?_
    refine hc_region ?_
    refine hl_v rfl rfl rfl (rv_ev rfl) ?_
    refine hl_v rfl rfl rfl (rv_ev rfl) ?_
    refine hl_v rfl rfl rfl (rv_len rfl Try.underlying55 rfl (rd_row 4 rfl)) ?_
    refine hl_lss rfl rfl rfl rfl rfl rfl (fun h9 => ?_) (fun h9 => ?_)
    ·
      refine hl_less (sub_cons (d := 0) rfl (sub_cons (d := 2) rfl (sub_cons (d := 3) rfl (sub_cons (d := 4) rfl (sub_cons (d := 5) rfl (sub_cons (d := 6) rfl (sub_cons (d := 7) rfl (sub_cons (d := 15) rfl (sub_cons (d := 26) rfl (sub_nil _)))))))))) (.refl _) ?_
      refine hl_nil ?_
      refine hq_then ?_
      refine hc_true rfl ?_
      refine hc_skip ?_
      refine hq_then ?_
      refine hc_seq ?_
      refine hc_block ?_
      refine hc_seq ?_
      refine hc_region ?_
      refine hl_v rfl rfl rfl (rv_ev rfl) ?_
      refine hl_v rfl rfl rfl (rv_ev rfl) ?_
      refine hl_v rfl rfl rfl (rv_index (s := 1) rfl Try.underlying55 (by kernel_rfl) rfl rfl (rd_row 4 rfl) (by omega) (by first | omega | (simp only [List.length_set]; omega))) ?_
      refine hl_v rfl rfl rfl (rv_loadEl (u := .bool ((bs.getD k bl0).b)) rfl (by kernel_rfl) rfl (rd_row 4 rfl) (flat_one blC (fun r => .bool r.b) (fun _ => rfl) bs bl0 (show k < _ by first | omega | (simp only [List.length_set]; omega)))) ?_
      refine hl_bool (fun h10 => ?_) (fun h10 => ?_)
      ·
        refine hl_callV rfl rfl rfl (rq_call (by kernel_rfl) rfl (fun w hm => ret_ans (btoi_t w))) ?_
        refine hl_v rfl rfl rfl (rv_mul rfl rfl rfl (by constructor <;> omega)) ?_
        refine hl_v rfl rfl rfl (rv_sub rfl rfl rfl (by constructor <;> omega)) ?_
        refine hl_v rfl rfl rfl (rv_ev rfl) ?_
        refine hl_less (sub_cons (d := 0) rfl (sub_cons (d := 2) rfl (sub_cons (d := 3) rfl (sub_cons (d := 4) rfl (sub_cons (d := 5) rfl (sub_cons (d := 6) rfl (sub_cons (d := 7) rfl (sub_cons (d := 8) rfl (sub_cons (d := 15) rfl (sub_cons (d := 26) rfl (sub_nil _))))))))))) (.refl _) ?_
        refine hl_nil ?_
        refine hq_then ?_
        refine hc_seq ?_
        refine hc_region ?_
        refine hl_v rfl rfl rfl (rv_ev rfl) ?_
        refine hl_v rfl rfl rfl (rv_ev rfl) ?_
        refine hl_row rfl rfl rfl (rq_buildSlice (z := .int .i64 0) (s := 1) (cs := ([(2 * 1) - 1].map (Value.int .i64))) rfl Try.underlying43 (by kernel_rfl) (by decide) rfl (by kernel_rfl) rfl) ?_
        intro g11
        refine hl_append (i := 2) (z := .int .i64 0) (bytes := 8) (n' := (fs ++ ([(2 * 1) - 1])).length) (xs' := ((fs ++ ([(2 * 1) - 1])).map (Value.int .i64))) (L := fun v12 => [rowE 3 1 (.slice (some ⟨g11, 0, none⟩) 1 1) 1 ([(2 * 1) - 1].map (Value.int .i64)), rowE 3 1 U.2 pp.length (pp.map (Value.int .i64)), rowE 3 1 v12 ((fs ++ ([(2 * 1) - 1])).length) ((fs ++ ([(2 * 1) - 1])).map (Value.int .i64)), boxE b5 #[.int .i64 n, cv] 54, clE cv rs, rowE 4 1 av bs.length (bs.flatMap blC)]) rfl rfl rfl rfl Try.underlying43 (by kernel_rfl) (by kernel_rfl) rfl rfl rfl (rd_row 0 rfl) (ints_one _) (by first | omega | (simp; omega)) (len_app fs ([(2 * 1) - 1])) (ints_app fs ([(2 * 1) - 1])) (fun _ => rfl) ?_
        intro v12
        refine hl_v rfl rfl rfl (rv_ev rfl) ?_
        refine hl_less (sub_cons (d := 0) rfl (sub_cons (d := 2) rfl (sub_cons (d := 3) rfl (sub_cons (d := 4) rfl (sub_cons (d := 5) rfl (sub_cons (d := 6) rfl (sub_cons (d := 7) rfl (sub_cons (d := 8) rfl (sub_cons (d := 15) rfl (sub_cons (d := 26) rfl (sub_nil _))))))))))) (.refl _) ?_
        refine hl_nil ?_
        refine hq_then ?_
        refine hc_region ?_
        refine hl_v rfl rfl rfl (rv_ev rfl) ?_
        have hcdk := cod_le hbr k
        refine hl_v rfl rfl rfl (rv_ev rfl) ?_
        refine hl_v rfl rfl rfl (rv_ev rfl) ?_
        refine hl_v rfl rfl rfl (rv_ev rfl) ?_
        refine hl_callV rfl rfl rfl (rq_call (by kernel_rfl) rfl (fun w hm => ret_ans (at_ans hbr k (by omega) w hm))) ?_
        refine hl_v rfl rfl rfl (rv_rem rfl rfl rfl (by constructor <;> omega)) ?_
        refine hl_v rfl rfl rfl (rv_mul rfl rfl rfl (by constructor <;> omega)) ?_
        refine hl_row rfl rfl rfl (rq_buildSlice (z := .int .i64 0) (s := 1) (cs := ([((2 * 1) - 1) * ((cod z0 len0 k : Int) % 2)].map (Value.int .i64))) rfl Try.underlying43 (by kernel_rfl) (by decide) rfl (by kernel_rfl) rfl) ?_
        intro g13
        refine hl_append (i := 2) (z := .int .i64 0) (bytes := 8) (n' := (pp ++ ([((2 * 1) - 1) * ((cod z0 len0 k : Int) % 2)])).length) (xs' := ((pp ++ ([((2 * 1) - 1) * ((cod z0 len0 k : Int) % 2)])).map (Value.int .i64))) (L := fun v14 => [rowE 3 1 (.slice (some ⟨g13, 0, none⟩) 1 1) 1 ([((2 * 1) - 1) * ((cod z0 len0 k : Int) % 2)].map (Value.int .i64)), rowE 3 1 (.slice (some ⟨g11, 0, none⟩) 1 1) 1 ([(2 * 1) - 1].map (Value.int .i64)), rowE 3 1 v14 ((pp ++ ([((2 * 1) - 1) * ((cod z0 len0 k : Int) % 2)])).length) ((pp ++ ([((2 * 1) - 1) * ((cod z0 len0 k : Int) % 2)])).map (Value.int .i64)), rowE 3 1 v12 ((fs ++ ([(2 * 1) - 1])).length) ((fs ++ ([(2 * 1) - 1])).map (Value.int .i64)), boxE b5 #[.int .i64 n, cv] 54, clE cv rs, rowE 4 1 av bs.length (bs.flatMap blC)]) rfl rfl rfl rfl Try.underlying43 (by kernel_rfl) (by kernel_rfl) rfl rfl rfl (rd_row 0 rfl) (ints_one _) (by first | omega | (simp; omega)) (len_app pp ([((2 * 1) - 1) * ((cod z0 len0 k : Int) % 2)])) (ints_app pp ([((2 * 1) - 1) * ((cod z0 len0 k : Int) % 2)])) (fun _ => rfl) ?_
        intro v14
        refine hl_v rfl rfl rfl (rv_ev rfl) ?_
        refine hl_less (sub_cons (d := 0) rfl (sub_cons (d := 2) rfl (sub_cons (d := 3) rfl (sub_cons (d := 4) rfl (sub_cons (d := 5) rfl (sub_cons (d := 6) rfl (sub_cons (d := 7) rfl (sub_cons (d := 8) rfl (sub_cons (d := 15) rfl (sub_cons (d := 26) rfl (sub_nil _))))))))))) (.refl _) ?_
        refine hl_nil ?_
        refine hq_block_normal ?_
        refine hq_then ?_
        refine hc_region ?_
        refine hl_v rfl rfl rfl (rv_ev rfl) ?_
        refine hl_v rfl rfl rfl (rv_add rfl rfl rfl (by constructor <;> omega)) ?_
        refine hl_v rfl rfl rfl (rv_ev rfl) ?_
        refine hl_less (sub_cons (d := 0) rfl (sub_cons (d := 2) rfl (sub_cons (d := 3) rfl (sub_cons (d := 4) rfl (sub_cons (d := 5) rfl (sub_cons (d := 6) rfl (sub_cons (d := 7) rfl (sub_cons (d := 8) rfl (sub_cons (d := 15) rfl (sub_cons (d := 26) rfl (sub_nil _))))))))))) (.refl _) ?_
        refine hl_nil ?_
        exact hq_round4 (k + 1) (v12, v14) (fs ++ ([(2 * 1) - 1])) (pp ++ ([((2 * 1) - 1) * ((cod z0 len0 k : Int) % 2)])) ⟨by omega, full_step (by omega) hfs (by first | (rw [if_pos (by assumption)]; omega) | (rw [if_neg (by rw [show (bs.getD k bl0).b = false by assumption]; decide)]; omega)), by rw [List.length_append, List.length_singleton]; omega, part_app hpp (by rw [hpl, full_at bs k (by omega)]; first | (rw [if_pos (by assumption)]; omega) | (rw [if_neg (by rw [show (bs.getD k bl0).b = false by assumption]; decide)]; omega))⟩ (by omega) (sub_cons (d := 0) rfl (sub_cons (d := 2) rfl (sub_cons (d := 3) rfl (sub_cons (d := 4) rfl (sub_cons (d := 5) rfl (sub_cons (d := 6) rfl (sub_cons (d := 7) rfl (sub_cons (d := 15) rfl (sub_nil _))))))))) ((.cons _ (.cons _ (.cons_cons _ (.cons_cons _ (.cons_cons _ (.cons_cons _ (.cons_cons _ .slnil))))))))
      ·
        refine hl_callV rfl rfl rfl (rq_call (by kernel_rfl) rfl (fun w hm => ret_ans (btoi_f w))) ?_
        refine hl_v rfl rfl rfl (rv_mul rfl rfl rfl (by constructor <;> omega)) ?_
        refine hl_v rfl rfl rfl (rv_sub rfl rfl rfl (by constructor <;> omega)) ?_
        refine hl_v rfl rfl rfl (rv_ev rfl) ?_
        refine hl_less (sub_cons (d := 0) rfl (sub_cons (d := 2) rfl (sub_cons (d := 3) rfl (sub_cons (d := 4) rfl (sub_cons (d := 5) rfl (sub_cons (d := 6) rfl (sub_cons (d := 7) rfl (sub_cons (d := 8) rfl (sub_cons (d := 15) rfl (sub_cons (d := 26) rfl (sub_nil _))))))))))) (.refl _) ?_
        refine hl_nil ?_
        refine hq_then ?_
        refine hc_seq ?_
        refine hc_region ?_
        refine hl_v rfl rfl rfl (rv_ev rfl) ?_
        refine hl_v rfl rfl rfl (rv_ev rfl) ?_
        refine hl_row rfl rfl rfl (rq_buildSlice (z := .int .i64 0) (s := 1) (cs := ([(2 * 0) - 1].map (Value.int .i64))) rfl Try.underlying43 (by kernel_rfl) (by decide) rfl (by kernel_rfl) rfl) ?_
        intro g15
        refine hl_append (i := 2) (z := .int .i64 0) (bytes := 8) (n' := (fs ++ ([(2 * 0) - 1])).length) (xs' := ((fs ++ ([(2 * 0) - 1])).map (Value.int .i64))) (L := fun v16 => [rowE 3 1 (.slice (some ⟨g15, 0, none⟩) 1 1) 1 ([(2 * 0) - 1].map (Value.int .i64)), rowE 3 1 U.2 pp.length (pp.map (Value.int .i64)), rowE 3 1 v16 ((fs ++ ([(2 * 0) - 1])).length) ((fs ++ ([(2 * 0) - 1])).map (Value.int .i64)), boxE b5 #[.int .i64 n, cv] 54, clE cv rs, rowE 4 1 av bs.length (bs.flatMap blC)]) rfl rfl rfl rfl Try.underlying43 (by kernel_rfl) (by kernel_rfl) rfl rfl rfl (rd_row 0 rfl) (ints_one _) (by first | omega | (simp; omega)) (len_app fs ([(2 * 0) - 1])) (ints_app fs ([(2 * 0) - 1])) (fun _ => rfl) ?_
        intro v16
        refine hl_v rfl rfl rfl (rv_ev rfl) ?_
        refine hl_less (sub_cons (d := 0) rfl (sub_cons (d := 2) rfl (sub_cons (d := 3) rfl (sub_cons (d := 4) rfl (sub_cons (d := 5) rfl (sub_cons (d := 6) rfl (sub_cons (d := 7) rfl (sub_cons (d := 8) rfl (sub_cons (d := 15) rfl (sub_cons (d := 26) rfl (sub_nil _))))))))))) (.refl _) ?_
        refine hl_nil ?_
        refine hq_then ?_
        refine hc_region ?_
        refine hl_v rfl rfl rfl (rv_ev rfl) ?_
        have hcdk := cod_le hbr k
        refine hl_v rfl rfl rfl (rv_ev rfl) ?_
        refine hl_v rfl rfl rfl (rv_ev rfl) ?_
        refine hl_v rfl rfl rfl (rv_ev rfl) ?_
        refine hl_callV rfl rfl rfl (rq_call (by kernel_rfl) rfl (fun w hm => ret_ans (at_ans hbr k (by omega) w hm))) ?_
        refine hl_v rfl rfl rfl (rv_rem rfl rfl rfl (by constructor <;> omega)) ?_
        refine hl_v rfl rfl rfl (rv_mul rfl rfl rfl (by constructor <;> omega)) ?_
        refine hl_row rfl rfl rfl (rq_buildSlice (z := .int .i64 0) (s := 1) (cs := ([((2 * 0) - 1) * ((cod z0 len0 k : Int) % 2)].map (Value.int .i64))) rfl Try.underlying43 (by kernel_rfl) (by decide) rfl (by kernel_rfl) rfl) ?_
        intro g17
        refine hl_append (i := 2) (z := .int .i64 0) (bytes := 8) (n' := (pp ++ ([((2 * 0) - 1) * ((cod z0 len0 k : Int) % 2)])).length) (xs' := ((pp ++ ([((2 * 0) - 1) * ((cod z0 len0 k : Int) % 2)])).map (Value.int .i64))) (L := fun v18 => [rowE 3 1 (.slice (some ⟨g17, 0, none⟩) 1 1) 1 ([((2 * 0) - 1) * ((cod z0 len0 k : Int) % 2)].map (Value.int .i64)), rowE 3 1 (.slice (some ⟨g15, 0, none⟩) 1 1) 1 ([(2 * 0) - 1].map (Value.int .i64)), rowE 3 1 v18 ((pp ++ ([((2 * 0) - 1) * ((cod z0 len0 k : Int) % 2)])).length) ((pp ++ ([((2 * 0) - 1) * ((cod z0 len0 k : Int) % 2)])).map (Value.int .i64)), rowE 3 1 v16 ((fs ++ ([(2 * 0) - 1])).length) ((fs ++ ([(2 * 0) - 1])).map (Value.int .i64)), boxE b5 #[.int .i64 n, cv] 54, clE cv rs, rowE 4 1 av bs.length (bs.flatMap blC)]) rfl rfl rfl rfl Try.underlying43 (by kernel_rfl) (by kernel_rfl) rfl rfl rfl (rd_row 0 rfl) (ints_one _) (by first | omega | (simp; omega)) (len_app pp ([((2 * 0) - 1) * ((cod z0 len0 k : Int) % 2)])) (ints_app pp ([((2 * 0) - 1) * ((cod z0 len0 k : Int) % 2)])) (fun _ => rfl) ?_
        intro v18
        refine hl_v rfl rfl rfl (rv_ev rfl) ?_
        refine hl_less (sub_cons (d := 0) rfl (sub_cons (d := 2) rfl (sub_cons (d := 3) rfl (sub_cons (d := 4) rfl (sub_cons (d := 5) rfl (sub_cons (d := 6) rfl (sub_cons (d := 7) rfl (sub_cons (d := 8) rfl (sub_cons (d := 15) rfl (sub_cons (d := 26) rfl (sub_nil _))))))))))) (.refl _) ?_
        refine hl_nil ?_
        refine hq_block_normal ?_
        refine hq_then ?_
        refine hc_region ?_
        refine hl_v rfl rfl rfl (rv_ev rfl) ?_
        refine hl_v rfl rfl rfl (rv_add rfl rfl rfl (by constructor <;> omega)) ?_
        refine hl_v rfl rfl rfl (rv_ev rfl) ?_
        refine hl_less (sub_cons (d := 0) rfl (sub_cons (d := 2) rfl (sub_cons (d := 3) rfl (sub_cons (d := 4) rfl (sub_cons (d := 5) rfl (sub_cons (d := 6) rfl (sub_cons (d := 7) rfl (sub_cons (d := 8) rfl (sub_cons (d := 15) rfl (sub_cons (d := 26) rfl (sub_nil _))))))))))) (.refl _) ?_
        refine hl_nil ?_
        exact hq_round4 (k + 1) (v16, v18) (fs ++ ([(2 * 0) - 1])) (pp ++ ([((2 * 0) - 1) * ((cod z0 len0 k : Int) % 2)])) ⟨by omega, full_step (by omega) hfs (by first | (rw [if_pos (by assumption)]; omega) | (rw [if_neg (by rw [show (bs.getD k bl0).b = false by assumption]; decide)]; omega)), by rw [List.length_append, List.length_singleton]; omega, part_app hpp (by rw [hpl, full_at bs k (by omega)]; first | (rw [if_pos (by assumption)]; omega) | (rw [if_neg (by rw [show (bs.getD k bl0).b = false by assumption]; decide)]; omega))⟩ (by omega) (sub_cons (d := 0) rfl (sub_cons (d := 2) rfl (sub_cons (d := 3) rfl (sub_cons (d := 4) rfl (sub_cons (d := 5) rfl (sub_cons (d := 6) rfl (sub_cons (d := 7) rfl (sub_cons (d := 15) rfl (sub_nil _))))))))) ((.cons _ (.cons _ (.cons_cons _ (.cons_cons _ (.cons_cons _ (.cons_cons _ (.cons_cons _ .slnil))))))))
    ·
      refine hl_less (sub_cons (d := 0) rfl (sub_cons (d := 2) rfl (sub_cons (d := 3) rfl (sub_cons (d := 4) rfl (sub_cons (d := 5) rfl (sub_cons (d := 6) rfl (sub_cons (d := 7) rfl (sub_cons (d := 15) rfl (sub_cons (d := 26) rfl (sub_nil _)))))))))) (.refl _) ?_
      refine hl_nil ?_
      refine hq_then ?_
      refine hc_false rfl ?_
      refine hc_exit ?_
      refine hq_then_exit ?_
      refine hq_then_exit ?_
      refine hq_block_exit ?_
      refine hq_then ?_
      refine hc_seq ?_
      refine hc_region ?_
      have hkb : k = bs.length := by omega
      have hff : fs = fullL bs := by rw [hfs, hkb, ← full_len bs, List.take_length]
      have hpa := part_ok hpp hbl (by omega)
      refine hl_v rfl rfl rfl (rv_loadN (cs := [.int .i64 n, cv]) rfl (by kernel_rfl) (by kernel_rfl) rfl rfl (box_part 2 rfl 0 rfl)) ?_
      refine hl_v rfl rfl rfl (rv_ev rfl) ?_
      refine hl_q rfl rfl rfl (rq_call (by kernel_rfl) rfl (fun w hm => prop_full n rs cv bs _ w hr (cl_rds 3 rfl w hm) hbl (by have h9 := rd_row 1 rfl w hm; rw [hff] at h9; exact h9))) ?_
      intro v19 p20 hR21
      obtain ⟨pu1, o1, rfl, rfl⟩ := hR21
      refine hl_v rfl rfl rfl (rv_ev rfl) ?_
      refine hl_v rfl rfl rfl (rv_ev rfl) ?_
      refine hl_v rfl rfl rfl (rv_ev rfl) ?_
      refine hl_bool (fun h22 => ?_) (fun h22 => ?_)
      ·
        refine hl_v rfl rfl rfl (rv_ev rfl) ?_
        refine hl_v rfl rfl rfl (rv_ev rfl) ?_
        refine hl_less (sub_cons (d := 0) rfl (sub_cons (d := 2) rfl (sub_cons (d := 3) rfl (sub_cons (d := 4) rfl (sub_cons (d := 5) rfl (sub_cons (d := 6) rfl (sub_cons (d := 7) rfl (sub_cons (d := 10) rfl (sub_cons (d := 15) rfl (sub_cons (d := 26) rfl (sub_nil _))))))))))) (.refl _) ?_
        refine hl_nil ?_
        refine hq_then ?_
        refine hc_seq ?_
        refine hc_seq ?_
        refine hc_region ?_
        refine hl_v rfl rfl rfl (rv_ev rfl) ?_
        refine hl_v rfl rfl rfl (rv_loadN (cs := [.int .i64 n, cv]) rfl (by kernel_rfl) (by kernel_rfl) rfl rfl (box_part 3 rfl 0 rfl)) ?_
        refine hl_v rfl rfl rfl (rv_ev rfl) ?_
        refine hl_callV rfl rfl rfl (rq_call (by kernel_rfl) rfl (fun w hm => ret_ans (CnfTrue_ans n rs cv bs av w hr (cl_rds 4 rfl w hm) (rd_row 5 rfl w hm) hbl))) ?_
        refine hl_bool (fun h23 => ?_) (fun h23 => absurd ((h22).symm.trans h23) (by decide))
        refine hl_v rfl rfl rfl (rv_bneq (m := true) (n := true) rfl Try.underlying4 rfl rfl) ?_
        refine hl_less (sub_cons (d := 0) rfl (sub_cons (d := 2) rfl (sub_cons (d := 3) rfl (sub_cons (d := 4) rfl (sub_cons (d := 5) rfl (sub_cons (d := 6) rfl (sub_cons (d := 7) rfl (sub_cons (d := 10) rfl (sub_cons (d := 15) rfl (sub_cons (d := 26) rfl (sub_cons (d := 59) rfl (sub_nil _)))))))))))) (.refl _) ?_
        refine hl_nil ?_
        refine hq_then ?_
        refine hc_false rfl ?_
        refine hc_skip ?_
        refine hq_then ?_
        refine hc_seq ?_
        refine hc_region ?_
        refine hl_v rfl rfl rfl (rv_loadN (cs := [.int .i64 n, cv]) rfl (by kernel_rfl) (by kernel_rfl) rfl rfl (box_part 3 rfl 0 rfl)) ?_
        refine hl_v rfl rfl rfl (rv_ev rfl) ?_
        refine hl_q rfl rfl rfl (rq_call (by kernel_rfl) rfl (fun w hm => Propagate_ret n rs cv pp _ w hr (cl_rds 4 rfl w hm) hpa.1 (rd_row 1 rfl w hm))) ?_
        intro v24 p25 hR26
        obtain ⟨pu2, o2, can, rfl, rfl, hpk⟩ := hR26
        have hyes : cnfB bs rs = true → can = true ∧ Agree o2 (fullL bs) ∧ (∀ k, k < pp.length → pp.getD k 0 ≠ 0 → o2.getD k 0 = pp.getD k 0) ∧ o2.length = pp.length := fun h => by
              obtain ⟨y1, y2, y3⟩ := hpk.yes (fullL bs) (full_ok hbl) ((full_sat hbl hr).2 h) hpa.2
              exact ⟨y1, y2, y3, hpk.len y1⟩
        refine hl_v rfl rfl rfl (rv_ev rfl) ?_
        refine hl_v rfl rfl rfl (rv_ev rfl) ?_
        refine hl_v rfl rfl rfl (rv_ev rfl) ?_
        refine hl_v rfl rfl rfl (rv_ev rfl) ?_
        refine hl_v rfl rfl rfl (rv_ev rfl) ?_
        refine hl_less (sub_cons (d := 0) rfl (sub_cons (d := 2) rfl (sub_cons (d := 3) rfl (sub_cons (d := 4) rfl (sub_cons (d := 5) rfl (sub_cons (d := 6) rfl (sub_cons (d := 7) rfl (sub_cons (d := 10) rfl (sub_cons (d := 11) rfl (sub_cons (d := 12) rfl (sub_cons (d := 15) rfl (sub_cons (d := 26) rfl (sub_cons (d := 59) rfl (sub_nil _)))))))))))))) (.refl _) ?_
        refine hl_nil ?_
        refine hq_then ?_
        refine hc_seq ?_
        refine hc_seq ?_
        refine hc_region ?_
        refine hl_v rfl rfl rfl (rv_ev rfl) ?_
        refine hl_less (sub_cons (d := 0) rfl (sub_cons (d := 2) rfl (sub_cons (d := 3) rfl (sub_cons (d := 4) rfl (sub_cons (d := 5) rfl (sub_cons (d := 6) rfl (sub_cons (d := 7) rfl (sub_cons (d := 10) rfl (sub_cons (d := 11) rfl (sub_cons (d := 12) rfl (sub_cons (d := 15) rfl (sub_cons (d := 26) rfl (sub_cons (d := 59) rfl (sub_cons (d := 66) rfl (sub_nil _))))))))))))))) (.refl _) ?_
        refine hl_nil ?_
        refine hq_then ?_
        refine hc_true rfl ?_
        refine hc_seq ?_
        refine hc_region ?_
        refine hl_v rfl rfl rfl (rv_ev rfl) ?_
        refine hl_less (sub_cons (d := 0) rfl (sub_cons (d := 2) rfl (sub_cons (d := 3) rfl (sub_cons (d := 4) rfl (sub_cons (d := 5) rfl (sub_cons (d := 6) rfl (sub_cons (d := 7) rfl (sub_cons (d := 10) rfl (sub_cons (d := 11) rfl (sub_cons (d := 12) rfl (sub_cons (d := 13) rfl (sub_cons (d := 15) rfl (sub_cons (d := 26) rfl (sub_cons (d := 59) rfl (sub_cons (d := 66) rfl (sub_nil _)))))))))))))))) (.refl _) ?_
        refine hl_nil ?_
        refine hq_then ?_
        refine hc_block ?_
        refine hc_loop1 (α := Nat) (fun q => [rowE 3 1 pu2 o2.length (o2.map (Value.int .i64)), rowE 3 1 pu1 o1.length (o1.map (Value.int .i64)), rowE 3 1 U.2 pp.length (pp.map (Value.int .i64)), rowE 3 1 U.1 fs.length (fs.map (Value.int .i64)), boxE b5 #[.int .i64 n, cv] 54, clE cv rs, rowE 4 1 av bs.length (bs.flatMap blC)]) (fun q => [(0, .slice a0 len0 cap0), (2, .bool false), (3, .pointer (some ⟨b5, 0, none⟩)), (4, av), (5, U.1), (6, U.2), (7, .int .i64 (k : Int)), (10, .bool true), (11, pu2), (12, .bool can), (13, .int .i64 (q : Int)), (15, .bool false), (26, .bool false), (59, .bool false), (66, .bool true)]) (fun q => q ≤ bs.length) (fun q => bs.length - q) 0 (Nat.zero_le _) (sub_cons (d := 0) rfl (sub_cons (d := 2) rfl (sub_cons (d := 3) rfl (sub_cons (d := 4) rfl (sub_cons (d := 5) rfl (sub_cons (d := 6) rfl (sub_cons (d := 7) rfl (sub_cons (d := 10) rfl (sub_cons (d := 11) rfl (sub_cons (d := 12) rfl (sub_cons (d := 13) rfl (sub_cons (d := 15) rfl (sub_cons (d := 26) rfl (sub_cons (d := 59) rfl (sub_cons (d := 66) rfl (sub_nil _)))))))))))))))) ((.cons_cons _ (.cons_cons _ (.cons_cons _ (.cons_cons _ (.cons_cons _ (.cons_cons _ (.cons_cons _ .slnil)))))))) ?_
        intro q hi27
        have hq := hi27
        refine hc_seq ?_
        refine hc_seq ?_
        refine hc_region ?_
        refine hl_v rfl rfl rfl (rv_ev rfl) ?_
        refine hl_v rfl rfl rfl (rv_ev rfl) ?_
        refine hl_v rfl rfl rfl (rv_len rfl Try.underlying55 rfl (rd_row 6 rfl)) ?_
        refine hl_lss rfl rfl rfl rfl rfl rfl (fun h28 => ?_) (fun h28 => ?_)
        ·
          refine hl_less (sub_cons (d := 0) rfl (sub_cons (d := 2) rfl (sub_cons (d := 3) rfl (sub_cons (d := 4) rfl (sub_cons (d := 5) rfl (sub_cons (d := 6) rfl (sub_cons (d := 7) rfl (sub_cons (d := 10) rfl (sub_cons (d := 11) rfl (sub_cons (d := 12) rfl (sub_cons (d := 13) rfl (sub_cons (d := 15) rfl (sub_cons (d := 26) rfl (sub_cons (d := 59) rfl (sub_cons (d := 66) rfl (sub_cons (d := 70) rfl (sub_nil _))))))))))))))))) (.refl _) ?_
          refine hl_nil ?_
          refine hq_then ?_
          refine hc_true rfl ?_
          refine hc_skip ?_
          refine hq_then ?_
          refine hc_seq ?_
          refine hc_block ?_
          refine hc_seq ?_
          obtain ⟨hcan, hag, hex, hol⟩ := hyes (by assumption)
          have hgk : getI o2 (q : Int) = o2.getD q 0 := by unfold getI; rw [if_pos (by omega)]; rfl
          have hag1 := hag q (by omega)
          rw [← hff] at hag1
          have hex1 := hex q (by omega)
          obtain ⟨hcan, hag, hex, hol⟩ := hyes (by assumption)
          have hgk : getI o2 (q : Int) = o2.getD q 0 := by unfold getI; rw [if_pos (by omega)]; rfl
          have hag1 := hag q (by omega)
          rw [← hff] at hag1
          have hex1 := hex q (by omega)
          rcases Bool.eq_false_or_eq_true ((o2.getD q 0) != 0) with hb29 | hb29
          ·
            have hb29p : o2.getD q 0 ≠ 0 := bne_iff_ne.1 hb29
            obtain ⟨hcan, hag, hex, hol⟩ := hyes (by assumption)
            have hgk : getI o2 (q : Int) = o2.getD q 0 := by unfold getI; rw [if_pos (by omega)]; rfl
            have hag1 := hag q (by omega)
            rw [← hff] at hag1
            have hex1 := hex q (by omega)
            obtain ⟨hcan, hag, hex, hol⟩ := hyes (by assumption)
            have hgk : getI o2 (q : Int) = o2.getD q 0 := by unfold getI; rw [if_pos (by omega)]; rfl
            have hag1 := hag q (by omega)
            rw [← hff] at hag1
            have hex1 := hex q (by omega)
            obtain ⟨hcan, hag, hex, hol⟩ := hyes (by assumption)
            have hgk : getI o2 (q : Int) = o2.getD q 0 := by unfold getI; rw [if_pos (by omega)]; rfl
            have hag1 := hag q (by omega)
            rw [← hff] at hag1
            have hex1 := hex q (by omega)
            obtain ⟨hcan, hag, hex, hol⟩ := hyes (by assumption)
            have hgk : getI o2 (q : Int) = o2.getD q 0 := by unfold getI; rw [if_pos (by omega)]; rfl
            have hag1 := hag q (by omega)
            rw [← hff] at hag1
            have hex1 := hex q (by omega)
            obtain ⟨hcan, hag, hex, hol⟩ := hyes (by assumption)
            have hgk : getI o2 (q : Int) = o2.getD q 0 := by unfold getI; rw [if_pos (by omega)]; rfl
            have hag1 := hag q (by omega)
            rw [← hff] at hag1
            have hex1 := hex q (by omega)
            obtain ⟨hcan, hag, hex, hol⟩ := hyes (by assumption)
            have hgk : getI o2 (q : Int) = o2.getD q 0 := by unfold getI; rw [if_pos (by omega)]; rfl
            have hag1 := hag q (by omega)
            rw [← hff] at hag1
            have hex1 := hex q (by omega)
            obtain ⟨hcan, hag, hex, hol⟩ := hyes (by assumption)
            have hgk : getI o2 (q : Int) = o2.getD q 0 := by unfold getI; rw [if_pos (by omega)]; rfl
            have hag1 := hag q (by omega)
            rw [← hff] at hag1
            have hex1 := hex q (by omega)
            have hb30 : ((o2.getD q 0) != (fs.getD q 0)) = false := Bool.eq_false_iff.2 (fun h => bne_iff_ne.1 h (by omega))
            obtain ⟨hcan, hag, hex, hol⟩ := hyes (by assumption)
            have hgk : getI o2 (q : Int) = o2.getD q 0 := by unfold getI; rw [if_pos (by omega)]; rfl
            have hag1 := hag q (by omega)
            rw [← hff] at hag1
            have hex1 := hex q (by omega)
            obtain ⟨hcan, hag, hex, hol⟩ := hyes (by assumption)
            have hgk : getI o2 (q : Int) = o2.getD q 0 := by unfold getI; rw [if_pos (by omega)]; rfl
            have hag1 := hag q (by omega)
            rw [← hff] at hag1
            have hex1 := hex q (by omega)
            obtain ⟨hcan, hag, hex, hol⟩ := hyes (by assumption)
            have hgk : getI o2 (q : Int) = o2.getD q 0 := by unfold getI; rw [if_pos (by omega)]; rfl
            have hag1 := hag q (by omega)
            rw [← hff] at hag1
            have hex1 := hex q (by omega)
            rcases Bool.eq_false_or_eq_true ((pp.getD q 0) != 0) with hb31 | hb31
            ·
              have hb31p : pp.getD q 0 ≠ 0 := bne_iff_ne.1 hb31
              obtain ⟨hcan, hag, hex, hol⟩ := hyes (by assumption)
              have hgk : getI o2 (q : Int) = o2.getD q 0 := by unfold getI; rw [if_pos (by omega)]; rfl
              have hag1 := hag q (by omega)
              rw [← hff] at hag1
              have hex1 := hex q (by omega)
              obtain ⟨hcan, hag, hex, hol⟩ := hyes (by assumption)
              have hgk : getI o2 (q : Int) = o2.getD q 0 := by unfold getI; rw [if_pos (by omega)]; rfl
              have hag1 := hag q (by omega)
              rw [← hff] at hag1
              have hex1 := hex q (by omega)
              obtain ⟨hcan, hag, hex, hol⟩ := hyes (by assumption)
              have hgk : getI o2 (q : Int) = o2.getD q 0 := by unfold getI; rw [if_pos (by omega)]; rfl
              have hag1 := hag q (by omega)
              rw [← hff] at hag1
              have hex1 := hex q (by omega)
              obtain ⟨hcan, hag, hex, hol⟩ := hyes (by assumption)
              have hgk : getI o2 (q : Int) = o2.getD q 0 := by unfold getI; rw [if_pos (by omega)]; rfl
              have hag1 := hag q (by omega)
              rw [← hff] at hag1
              have hex1 := hex q (by omega)
              obtain ⟨hcan, hag, hex, hol⟩ := hyes (by assumption)
              have hgk : getI o2 (q : Int) = o2.getD q 0 := by unfold getI; rw [if_pos (by omega)]; rfl
              have hag1 := hag q (by omega)
              rw [← hff] at hag1
              have hex1 := hex q (by omega)
              obtain ⟨hcan, hag, hex, hol⟩ := hyes (by assumption)
              have hgk : getI o2 (q : Int) = o2.getD q 0 := by unfold getI; rw [if_pos (by omega)]; rfl
              have hag1 := hag q (by omega)
              rw [← hff] at hag1
              have hex1 := hex q (by omega)
              obtain ⟨hcan, hag, hex, hol⟩ := hyes (by assumption)
              have hgk : getI o2 (q : Int) = o2.getD q 0 := by unfold getI; rw [if_pos (by omega)]; rfl
              have hag1 := hag q (by omega)
              rw [← hff] at hag1
              have hex1 := hex q (by omega)
              obtain ⟨hcan, hag, hex, hol⟩ := hyes (by assumption)
              have hgk : getI o2 (q : Int) = o2.getD q 0 := by unfold getI; rw [if_pos (by omega)]; rfl
              have hag1 := hag q (by omega)
              rw [← hff] at hag1
              have hex1 := hex q (by omega)
              obtain ⟨hcan, hag, hex, hol⟩ := hyes (by assumption)
              have hgk : getI o2 (q : Int) = o2.getD q 0 := by unfold getI; rw [if_pos (by omega)]; rfl
              have hag1 := hag q (by omega)
              rw [← hff] at hag1
              have hex1 := hex q (by omega)
              obtain ⟨hcan, hag, hex, hol⟩ := hyes (by assumption)
              have hgk : getI o2 (q : Int) = o2.getD q 0 := by unfold getI; rw [if_pos (by omega)]; rfl
              have hag1 := hag q (by omega)
              rw [← hff] at hag1
              have hex1 := hex q (by omega)
              obtain ⟨hcan, hag, hex, hol⟩ := hyes (by assumption)
              have hgk : getI o2 (q : Int) = o2.getD q 0 := by unfold getI; rw [if_pos (by omega)]; rfl
              have hag1 := hag q (by omega)
              rw [← hff] at hag1
              have hex1 := hex q (by omega)
              obtain ⟨hcan, hag, hex, hol⟩ := hyes (by assumption)
              have hgk : getI o2 (q : Int) = o2.getD q 0 := by unfold getI; rw [if_pos (by omega)]; rfl
              have hag1 := hag q (by omega)
              rw [← hff] at hag1
              have hex1 := hex q (by omega)
              obtain ⟨hcan, hag, hex, hol⟩ := hyes (by assumption)
              have hgk : getI o2 (q : Int) = o2.getD q 0 := by unfold getI; rw [if_pos (by omega)]; rfl
              have hag1 := hag q (by omega)
              rw [← hff] at hag1
              have hex1 := hex q (by omega)
              obtain ⟨hcan, hag, hex, hol⟩ := hyes (by assumption)
              have hgk : getI o2 (q : Int) = o2.getD q 0 := by unfold getI; rw [if_pos (by omega)]; rfl
              have hag1 := hag q (by omega)
              rw [← hff] at hag1
              have hex1 := hex q (by omega)
              obtain ⟨hcan, hag, hex, hol⟩ := hyes (by assumption)
              have hgk : getI o2 (q : Int) = o2.getD q 0 := by unfold getI; rw [if_pos (by omega)]; rfl
              have hag1 := hag q (by omega)
              rw [← hff] at hag1
              have hex1 := hex q (by omega)
              have hb32 : ((o2.getD q 0) != (pp.getD q 0)) = false := Bool.eq_false_iff.2 (fun h => bne_iff_ne.1 h (by omega))
              refine hc_draw (by kernel_rfl) 31 [0, 1, 2, 3, 4, 5, 6, 7, 8, 9, 10, 11, 12, 13, 14, 15, 16, 17, 18, 19, 20, 21, 22, 23, 24, 25, 26, 27, 28, 29, 30] (List.take 31 _) (List.drop 31 _) [[], [], [0, 1], [2], [3], [4], [4], [4, 5, 6], [4], [4], [4, 8, 9], [4, 10], [4, 7, 11], [4, 12], [13], [14], [14], [14, 15, 16], [14, 17], [14, 18], [14, 19], [20], [20], [20, 21, 22], [20], [20], [20, 24, 25], [20, 26], [20, 23, 27], [14, 20, 28], [14, 29]] [73, 74, 75, 76, 77, 78, 79, 80, 81, 82, 83, 84, 85, 86, 87, 88, 89, 90, 91, 92, 93, 94, 95, 96, 97, 98, 99, 100, 101, 102, 103] (fun i_ vs_ v_ p_ => match i_ with | 0 => v_ = pu2 ∧ p_ = [] | 1 => v_ = .int .i64 (q : Int) ∧ p_ = [] | 2 => v_ = .int .i64 (o2.getD q 0) ∧ p_ = [] | 3 => v_ = .bool true ∧ p_ = [] | 4 => v_ = .bool true ∧ p_ = [] | 5 => v_ = pu2 ∧ p_ = [] | 6 => v_ = .int .i64 (q : Int) ∧ p_ = [] | 7 => v_ = .int .i64 (o2.getD q 0) ∧ p_ = [] | 8 => v_ = U.1 ∧ p_ = [] | 9 => v_ = .int .i64 (q : Int) ∧ p_ = [] | 10 => v_ = elP U.1 (((q : Int)).toNat * 1) ∧ p_ = [] | 11 => v_ = .int .i64 (fs.getD q 0) ∧ p_ = [] | 12 => v_ = .bool false ∧ p_ = [] | 13 => v_ = .bool false ∧ p_ = [] | 14 => v_ = .bool false ∧ p_ = [] | 15 => v_ = U.2 ∧ p_ = [] | 16 => v_ = .int .i64 (q : Int) ∧ p_ = [] | 17 => v_ = elP U.2 (((q : Int)).toNat * 1) ∧ p_ = [] | 18 => v_ = .int .i64 (pp.getD q 0) ∧ p_ = [] | 19 => v_ = .bool true ∧ p_ = [] | 20 => v_ = .bool true ∧ p_ = [] | 21 => v_ = pu2 ∧ p_ = [] | 22 => v_ = .int .i64 (q : Int) ∧ p_ = [] | 23 => v_ = .int .i64 (o2.getD q 0) ∧ p_ = [] | 24 => v_ = U.2 ∧ p_ = [] | 25 => v_ = .int .i64 (q : Int) ∧ p_ = [] | 26 => v_ = elP U.2 (((q : Int)).toNat * 1) ∧ p_ = [] | 27 => v_ = .int .i64 (pp.getD q 0) ∧ p_ = [] | 28 => v_ = .bool false ∧ p_ = [] | 29 => v_ = .bool false ∧ p_ = [] | 30 => v_ = .bool false ∧ p_ = [] | _ => True) (List.take_append_drop 31 _).symm (by kernel_rfl) (by kernel_rfl) rfl rfl ?_ ?_
              ·
                refine ⟨?_, ?_, ?_, ?_, ?_, ?_, ?_, ?_, ?_, ?_, ?_, ?_, ?_, ?_, ?_, ?_, ?_, ?_, ?_, ?_, ?_, ?_, ?_, ?_, ?_, ?_, ?_, ?_, ?_, ?_, ?_, trivial⟩
                ·
                  intro vf pf hR
                  refine Or.inl ⟨rfl, ?_⟩
                  refine rq_less (l' := [rowE 3 1 pu2 o2.length (o2.map (Value.int .i64)), rowE 3 1 pu1 o1.length (o1.map (Value.int .i64)), rowE 3 1 U.2 pp.length (pp.map (Value.int .i64)), rowE 3 1 U.1 fs.length (fs.map (Value.int .i64)), boxE b5 #[.int .i64 n, cv] 54, clE cv rs, rowE 4 1 av bs.length (bs.flatMap blC)]) (sub_cons (d := 11) rfl (sub_nil _)) (List.sublist_append_right _ _) ?_
                  exact rq_v (rv_ev rfl)
                ·
                  intro vf pf hR
                  refine Or.inl ⟨rfl, ?_⟩
                  refine rq_less (l' := [rowE 3 1 pu2 o2.length (o2.map (Value.int .i64)), rowE 3 1 pu1 o1.length (o1.map (Value.int .i64)), rowE 3 1 U.2 pp.length (pp.map (Value.int .i64)), rowE 3 1 U.1 fs.length (fs.map (Value.int .i64)), boxE b5 #[.int .i64 n, cv] 54, clE cv rs, rowE 4 1 av bs.length (bs.flatMap blC)]) (sub_cons (d := 13) rfl (sub_nil _)) (List.sublist_append_right _ _) ?_
                  exact rq_v (rv_ev rfl)
                ·
                  intro vf pf hR
                  have e0 : (vf 0) = pu2 ∧ (pf 0) = [] := hR 0 (by decide)
                  have e1 : (vf 1) = .int .i64 (q : Int) ∧ (pf 1) = [] := hR 1 (by decide)
                  refine Or.inl ⟨rfl, ?_⟩
                  refine rq_less (l' := [rowE 3 1 pu2 o2.length (o2.map (Value.int .i64)), rowE 3 1 pu1 o1.length (o1.map (Value.int .i64)), rowE 3 1 U.2 pp.length (pp.map (Value.int .i64)), rowE 3 1 U.1 fs.length (fs.map (Value.int .i64)), boxE b5 #[.int .i64 n, cv] 54, clE cv rs, rowE 4 1 av bs.length (bs.flatMap blC)]) (sub_cons (d := 73) (congrArg some e0.1) (sub_cons (d := 74) (congrArg some e1.1) (sub_nil _))) (List.sublist_append_right _ _) ?_
                  exact (rq_call (by kernel_rfl) rfl (fun w hm => ret_ans (by have h9 := lawsGet_ans o2 (q : Int) _ w ((rd_row 0 rfl) w hm) (by omega); rw [hgk] at h9; exact h9)))
                ·
                  intro vf pf hR
                  have e2 : (vf 2) = .int .i64 (o2.getD q 0) ∧ (pf 2) = [] := hR 2 (by decide)
                  refine Or.inl ⟨rfl, ?_⟩
                  refine rq_less (l' := [rowE 3 1 pu2 o2.length (o2.map (Value.int .i64)), rowE 3 1 pu1 o1.length (o1.map (Value.int .i64)), rowE 3 1 U.2 pp.length (pp.map (Value.int .i64)), rowE 3 1 U.1 fs.length (fs.map (Value.int .i64)), boxE b5 #[.int .i64 n, cv] 54, clE cv rs, rowE 4 1 av bs.length (bs.flatMap blC)]) (sub_cons (d := 75) (congrArg some e2.1) (sub_nil _)) (List.sublist_append_right _ _) ?_
                  exact rq_mono (rq_v (rv_cmp rfl rfl rfl rfl)) (fun _ _ h => ⟨h.1.trans (congrArg Value.bool hb29), h.2⟩)
                ·
                  intro vf pf hR
                  have e3 : (vf 3) = .bool true ∧ (pf 3) = [] := hR 3 (by decide)
                  refine Or.inl ⟨rfl, ?_⟩
                  refine rq_less (l' := [rowE 3 1 pu2 o2.length (o2.map (Value.int .i64)), rowE 3 1 pu1 o1.length (o1.map (Value.int .i64)), rowE 3 1 U.2 pp.length (pp.map (Value.int .i64)), rowE 3 1 U.1 fs.length (fs.map (Value.int .i64)), boxE b5 #[.int .i64 n, cv] 54, clE cv rs, rowE 4 1 av bs.length (bs.flatMap blC)]) (sub_cons (d := 76) (congrArg some e3.1) (sub_nil _)) (List.sublist_append_right _ _) ?_
                  exact rq_v (rv_ev rfl)
                ·
                  intro vf pf hR
                  have e4 : (vf 4) = .bool true ∧ (pf 4) = [] := hR 4 (by decide)
                  refine Or.inl ⟨want_of (congrArg some e4.1) rfl, ?_⟩
                  refine rq_less (l' := [rowE 3 1 pu2 o2.length (o2.map (Value.int .i64)), rowE 3 1 pu1 o1.length (o1.map (Value.int .i64)), rowE 3 1 U.2 pp.length (pp.map (Value.int .i64)), rowE 3 1 U.1 fs.length (fs.map (Value.int .i64)), boxE b5 #[.int .i64 n, cv] 54, clE cv rs, rowE 4 1 av bs.length (bs.flatMap blC)]) (sub_cons (d := 11) rfl (sub_nil _)) (List.sublist_append_right _ _) ?_
                  exact rq_v (rv_ev rfl)
                ·
                  intro vf pf hR
                  have e4 : (vf 4) = .bool true ∧ (pf 4) = [] := hR 4 (by decide)
                  refine Or.inl ⟨want_of (congrArg some e4.1) rfl, ?_⟩
                  refine rq_less (l' := [rowE 3 1 pu2 o2.length (o2.map (Value.int .i64)), rowE 3 1 pu1 o1.length (o1.map (Value.int .i64)), rowE 3 1 U.2 pp.length (pp.map (Value.int .i64)), rowE 3 1 U.1 fs.length (fs.map (Value.int .i64)), boxE b5 #[.int .i64 n, cv] 54, clE cv rs, rowE 4 1 av bs.length (bs.flatMap blC)]) (sub_cons (d := 13) rfl (sub_nil _)) (List.sublist_append_right _ _) ?_
                  exact rq_v (rv_ev rfl)
                ·
                  intro vf pf hR
                  have e4 : (vf 4) = .bool true ∧ (pf 4) = [] := hR 4 (by decide)
                  have e5 : (vf 5) = pu2 ∧ (pf 5) = [] := hR 5 (by decide)
                  have e6 : (vf 6) = .int .i64 (q : Int) ∧ (pf 6) = [] := hR 6 (by decide)
                  refine Or.inl ⟨want_of (congrArg some e4.1) rfl, ?_⟩
                  refine rq_less (l' := [rowE 3 1 pu2 o2.length (o2.map (Value.int .i64)), rowE 3 1 pu1 o1.length (o1.map (Value.int .i64)), rowE 3 1 U.2 pp.length (pp.map (Value.int .i64)), rowE 3 1 U.1 fs.length (fs.map (Value.int .i64)), boxE b5 #[.int .i64 n, cv] 54, clE cv rs, rowE 4 1 av bs.length (bs.flatMap blC)]) (sub_cons (d := 78) (congrArg some e5.1) (sub_cons (d := 79) (congrArg some e6.1) (sub_nil _))) (List.sublist_append_right _ _) ?_
                  exact (rq_call (by kernel_rfl) rfl (fun w hm => ret_ans (by have h9 := lawsGet_ans o2 (q : Int) _ w ((rd_row 0 rfl) w hm) (by omega); rw [hgk] at h9; exact h9)))
                ·
                  intro vf pf hR
                  have e4 : (vf 4) = .bool true ∧ (pf 4) = [] := hR 4 (by decide)
                  refine Or.inl ⟨want_of (congrArg some e4.1) rfl, ?_⟩
                  refine rq_less (l' := [rowE 3 1 pu2 o2.length (o2.map (Value.int .i64)), rowE 3 1 pu1 o1.length (o1.map (Value.int .i64)), rowE 3 1 U.2 pp.length (pp.map (Value.int .i64)), rowE 3 1 U.1 fs.length (fs.map (Value.int .i64)), boxE b5 #[.int .i64 n, cv] 54, clE cv rs, rowE 4 1 av bs.length (bs.flatMap blC)]) (sub_cons (d := 5) rfl (sub_nil _)) (List.sublist_append_right _ _) ?_
                  exact rq_v (rv_ev rfl)
                ·
                  intro vf pf hR
                  have e4 : (vf 4) = .bool true ∧ (pf 4) = [] := hR 4 (by decide)
                  refine Or.inl ⟨want_of (congrArg some e4.1) rfl, ?_⟩
                  refine rq_less (l' := [rowE 3 1 pu2 o2.length (o2.map (Value.int .i64)), rowE 3 1 pu1 o1.length (o1.map (Value.int .i64)), rowE 3 1 U.2 pp.length (pp.map (Value.int .i64)), rowE 3 1 U.1 fs.length (fs.map (Value.int .i64)), boxE b5 #[.int .i64 n, cv] 54, clE cv rs, rowE 4 1 av bs.length (bs.flatMap blC)]) (sub_cons (d := 13) rfl (sub_nil _)) (List.sublist_append_right _ _) ?_
                  exact rq_v (rv_ev rfl)
                ·
                  intro vf pf hR
                  have e4 : (vf 4) = .bool true ∧ (pf 4) = [] := hR 4 (by decide)
                  have e8 : (vf 8) = U.1 ∧ (pf 8) = [] := hR 8 (by decide)
                  have e9 : (vf 9) = .int .i64 (q : Int) ∧ (pf 9) = [] := hR 9 (by decide)
                  refine Or.inl ⟨want_of (congrArg some e4.1) rfl, ?_⟩
                  refine rq_less (l' := [rowE 3 1 pu2 o2.length (o2.map (Value.int .i64)), rowE 3 1 pu1 o1.length (o1.map (Value.int .i64)), rowE 3 1 U.2 pp.length (pp.map (Value.int .i64)), rowE 3 1 U.1 fs.length (fs.map (Value.int .i64)), boxE b5 #[.int .i64 n, cv] 54, clE cv rs, rowE 4 1 av bs.length (bs.flatMap blC)]) (sub_cons (d := 81) (congrArg some e8.1) (sub_cons (d := 82) (congrArg some e9.1) (sub_nil _))) (List.sublist_append_right _ _) ?_
                  exact rq_v (rv_index (s := 1) rfl Try.underlying43 (by kernel_rfl) rfl rfl (rd_row 3 rfl) (by omega) (by first | omega | (simp only [List.length_set]; omega)))
                ·
                  intro vf pf hR
                  have e4 : (vf 4) = .bool true ∧ (pf 4) = [] := hR 4 (by decide)
                  have e10 : (vf 10) = elP U.1 (((q : Int)).toNat * 1) ∧ (pf 10) = [] := hR 10 (by decide)
                  refine Or.inl ⟨want_of (congrArg some e4.1) rfl, ?_⟩
                  refine rq_less (l' := [rowE 3 1 pu2 o2.length (o2.map (Value.int .i64)), rowE 3 1 pu1 o1.length (o1.map (Value.int .i64)), rowE 3 1 U.2 pp.length (pp.map (Value.int .i64)), rowE 3 1 U.1 fs.length (fs.map (Value.int .i64)), boxE b5 #[.int .i64 n, cv] 54, clE cv rs, rowE 4 1 av bs.length (bs.flatMap blC)]) (sub_cons (d := 83) (congrArg some e10.1) (sub_nil _)) (List.sublist_append_right _ _) ?_
                  exact rq_v (rv_loadEl (u := .int .i64 (fs.getD q 0)) rfl (by kernel_rfl) rfl (rd_row 3 rfl) (ints_at1 (show _ < fs.length by first | omega | (simp only [List.length_set]; omega))))
                ·
                  intro vf pf hR
                  have e4 : (vf 4) = .bool true ∧ (pf 4) = [] := hR 4 (by decide)
                  have e7 : (vf 7) = .int .i64 (o2.getD q 0) ∧ (pf 7) = [] := hR 7 (by decide)
                  have e11 : (vf 11) = .int .i64 (fs.getD q 0) ∧ (pf 11) = [] := hR 11 (by decide)
                  refine Or.inl ⟨want_of (congrArg some e4.1) rfl, ?_⟩
                  refine rq_less (l' := [rowE 3 1 pu2 o2.length (o2.map (Value.int .i64)), rowE 3 1 pu1 o1.length (o1.map (Value.int .i64)), rowE 3 1 U.2 pp.length (pp.map (Value.int .i64)), rowE 3 1 U.1 fs.length (fs.map (Value.int .i64)), boxE b5 #[.int .i64 n, cv] 54, clE cv rs, rowE 4 1 av bs.length (bs.flatMap blC)]) (sub_cons (d := 80) (congrArg some e7.1) (sub_cons (d := 84) (congrArg some e11.1) (sub_nil _))) (List.sublist_append_right _ _) ?_
                  exact rq_mono (rq_v (rv_cmp rfl rfl rfl rfl)) (fun _ _ h => ⟨h.1.trans (congrArg Value.bool hb30), h.2⟩)
                ·
                  intro vf pf hR
                  have e4 : (vf 4) = .bool true ∧ (pf 4) = [] := hR 4 (by decide)
                  have e12 : (vf 12) = .bool false ∧ (pf 12) = [] := hR 12 (by decide)
                  refine Or.inl ⟨rfl, ?_⟩
                  refine rq_less (l' := [rowE 3 1 pu2 o2.length (o2.map (Value.int .i64)), rowE 3 1 pu1 o1.length (o1.map (Value.int .i64)), rowE 3 1 U.2 pp.length (pp.map (Value.int .i64)), rowE 3 1 U.1 fs.length (fs.map (Value.int .i64)), boxE b5 #[.int .i64 n, cv] 54, clE cv rs, rowE 4 1 av bs.length (bs.flatMap blC)]) (sub_cons (d := 77) (congrArg some e4.1) (sub_cons (d := 85) (congrArg some e12.1) (sub_nil _))) (List.sublist_append_right _ _) ?_
                  exact rq_v (rv_ev rfl)
                ·
                  intro vf pf hR
                  have e13 : (vf 13) = .bool false ∧ (pf 13) = [] := hR 13 (by decide)
                  refine Or.inl ⟨rfl, ?_⟩
                  refine rq_less (l' := [rowE 3 1 pu2 o2.length (o2.map (Value.int .i64)), rowE 3 1 pu1 o1.length (o1.map (Value.int .i64)), rowE 3 1 U.2 pp.length (pp.map (Value.int .i64)), rowE 3 1 U.1 fs.length (fs.map (Value.int .i64)), boxE b5 #[.int .i64 n, cv] 54, clE cv rs, rowE 4 1 av bs.length (bs.flatMap blC)]) (sub_cons (d := 86) (congrArg some e13.1) (sub_nil _)) (List.sublist_append_right _ _) ?_
                  exact rq_v (rv_ev rfl)
                ·
                  intro vf pf hR
                  have e14 : (vf 14) = .bool false ∧ (pf 14) = [] := hR 14 (by decide)
                  refine Or.inl ⟨want_of (congrArg some e14.1) rfl, ?_⟩
                  refine rq_less (l' := [rowE 3 1 pu2 o2.length (o2.map (Value.int .i64)), rowE 3 1 pu1 o1.length (o1.map (Value.int .i64)), rowE 3 1 U.2 pp.length (pp.map (Value.int .i64)), rowE 3 1 U.1 fs.length (fs.map (Value.int .i64)), boxE b5 #[.int .i64 n, cv] 54, clE cv rs, rowE 4 1 av bs.length (bs.flatMap blC)]) (sub_cons (d := 6) rfl (sub_nil _)) (List.sublist_append_right _ _) ?_
                  exact rq_v (rv_ev rfl)
                ·
                  intro vf pf hR
                  have e14 : (vf 14) = .bool false ∧ (pf 14) = [] := hR 14 (by decide)
                  refine Or.inl ⟨want_of (congrArg some e14.1) rfl, ?_⟩
                  refine rq_less (l' := [rowE 3 1 pu2 o2.length (o2.map (Value.int .i64)), rowE 3 1 pu1 o1.length (o1.map (Value.int .i64)), rowE 3 1 U.2 pp.length (pp.map (Value.int .i64)), rowE 3 1 U.1 fs.length (fs.map (Value.int .i64)), boxE b5 #[.int .i64 n, cv] 54, clE cv rs, rowE 4 1 av bs.length (bs.flatMap blC)]) (sub_cons (d := 13) rfl (sub_nil _)) (List.sublist_append_right _ _) ?_
                  exact rq_v (rv_ev rfl)
                ·
                  intro vf pf hR
                  have e14 : (vf 14) = .bool false ∧ (pf 14) = [] := hR 14 (by decide)
                  have e15 : (vf 15) = U.2 ∧ (pf 15) = [] := hR 15 (by decide)
                  have e16 : (vf 16) = .int .i64 (q : Int) ∧ (pf 16) = [] := hR 16 (by decide)
                  refine Or.inl ⟨want_of (congrArg some e14.1) rfl, ?_⟩
                  refine rq_less (l' := [rowE 3 1 pu2 o2.length (o2.map (Value.int .i64)), rowE 3 1 pu1 o1.length (o1.map (Value.int .i64)), rowE 3 1 U.2 pp.length (pp.map (Value.int .i64)), rowE 3 1 U.1 fs.length (fs.map (Value.int .i64)), boxE b5 #[.int .i64 n, cv] 54, clE cv rs, rowE 4 1 av bs.length (bs.flatMap blC)]) (sub_cons (d := 88) (congrArg some e15.1) (sub_cons (d := 89) (congrArg some e16.1) (sub_nil _))) (List.sublist_append_right _ _) ?_
                  exact rq_v (rv_index (s := 1) rfl Try.underlying43 (by kernel_rfl) rfl rfl (rd_row 2 rfl) (by omega) (by first | omega | (simp only [List.length_set]; omega)))
                ·
                  intro vf pf hR
                  have e14 : (vf 14) = .bool false ∧ (pf 14) = [] := hR 14 (by decide)
                  have e17 : (vf 17) = elP U.2 (((q : Int)).toNat * 1) ∧ (pf 17) = [] := hR 17 (by decide)
                  refine Or.inl ⟨want_of (congrArg some e14.1) rfl, ?_⟩
                  refine rq_less (l' := [rowE 3 1 pu2 o2.length (o2.map (Value.int .i64)), rowE 3 1 pu1 o1.length (o1.map (Value.int .i64)), rowE 3 1 U.2 pp.length (pp.map (Value.int .i64)), rowE 3 1 U.1 fs.length (fs.map (Value.int .i64)), boxE b5 #[.int .i64 n, cv] 54, clE cv rs, rowE 4 1 av bs.length (bs.flatMap blC)]) (sub_cons (d := 90) (congrArg some e17.1) (sub_nil _)) (List.sublist_append_right _ _) ?_
                  exact rq_v (rv_loadEl (u := .int .i64 (pp.getD q 0)) rfl (by kernel_rfl) rfl (rd_row 2 rfl) (ints_at1 (show _ < pp.length by first | omega | (simp only [List.length_set]; omega))))
                ·
                  intro vf pf hR
                  have e14 : (vf 14) = .bool false ∧ (pf 14) = [] := hR 14 (by decide)
                  have e18 : (vf 18) = .int .i64 (pp.getD q 0) ∧ (pf 18) = [] := hR 18 (by decide)
                  refine Or.inl ⟨want_of (congrArg some e14.1) rfl, ?_⟩
                  refine rq_less (l' := [rowE 3 1 pu2 o2.length (o2.map (Value.int .i64)), rowE 3 1 pu1 o1.length (o1.map (Value.int .i64)), rowE 3 1 U.2 pp.length (pp.map (Value.int .i64)), rowE 3 1 U.1 fs.length (fs.map (Value.int .i64)), boxE b5 #[.int .i64 n, cv] 54, clE cv rs, rowE 4 1 av bs.length (bs.flatMap blC)]) (sub_cons (d := 91) (congrArg some e18.1) (sub_nil _)) (List.sublist_append_right _ _) ?_
                  exact rq_mono (rq_v (rv_cmp rfl rfl rfl rfl)) (fun _ _ h => ⟨h.1.trans (congrArg Value.bool hb31), h.2⟩)
                ·
                  intro vf pf hR
                  have e14 : (vf 14) = .bool false ∧ (pf 14) = [] := hR 14 (by decide)
                  have e19 : (vf 19) = .bool true ∧ (pf 19) = [] := hR 19 (by decide)
                  refine Or.inl ⟨want_of (congrArg some e14.1) rfl, ?_⟩
                  refine rq_less (l' := [rowE 3 1 pu2 o2.length (o2.map (Value.int .i64)), rowE 3 1 pu1 o1.length (o1.map (Value.int .i64)), rowE 3 1 U.2 pp.length (pp.map (Value.int .i64)), rowE 3 1 U.1 fs.length (fs.map (Value.int .i64)), boxE b5 #[.int .i64 n, cv] 54, clE cv rs, rowE 4 1 av bs.length (bs.flatMap blC)]) (sub_cons (d := 92) (congrArg some e19.1) (sub_nil _)) (List.sublist_append_right _ _) ?_
                  exact rq_v (rv_ev rfl)
                ·
                  intro vf pf hR
                  have e20 : (vf 20) = .bool true ∧ (pf 20) = [] := hR 20 (by decide)
                  refine Or.inl ⟨want_of (congrArg some e20.1) rfl, ?_⟩
                  refine rq_less (l' := [rowE 3 1 pu2 o2.length (o2.map (Value.int .i64)), rowE 3 1 pu1 o1.length (o1.map (Value.int .i64)), rowE 3 1 U.2 pp.length (pp.map (Value.int .i64)), rowE 3 1 U.1 fs.length (fs.map (Value.int .i64)), boxE b5 #[.int .i64 n, cv] 54, clE cv rs, rowE 4 1 av bs.length (bs.flatMap blC)]) (sub_cons (d := 11) rfl (sub_nil _)) (List.sublist_append_right _ _) ?_
                  exact rq_v (rv_ev rfl)
                ·
                  intro vf pf hR
                  have e20 : (vf 20) = .bool true ∧ (pf 20) = [] := hR 20 (by decide)
                  refine Or.inl ⟨want_of (congrArg some e20.1) rfl, ?_⟩
                  refine rq_less (l' := [rowE 3 1 pu2 o2.length (o2.map (Value.int .i64)), rowE 3 1 pu1 o1.length (o1.map (Value.int .i64)), rowE 3 1 U.2 pp.length (pp.map (Value.int .i64)), rowE 3 1 U.1 fs.length (fs.map (Value.int .i64)), boxE b5 #[.int .i64 n, cv] 54, clE cv rs, rowE 4 1 av bs.length (bs.flatMap blC)]) (sub_cons (d := 13) rfl (sub_nil _)) (List.sublist_append_right _ _) ?_
                  exact rq_v (rv_ev rfl)
                ·
                  intro vf pf hR
                  have e20 : (vf 20) = .bool true ∧ (pf 20) = [] := hR 20 (by decide)
                  have e21 : (vf 21) = pu2 ∧ (pf 21) = [] := hR 21 (by decide)
                  have e22 : (vf 22) = .int .i64 (q : Int) ∧ (pf 22) = [] := hR 22 (by decide)
                  refine Or.inl ⟨want_of (congrArg some e20.1) rfl, ?_⟩
                  refine rq_less (l' := [rowE 3 1 pu2 o2.length (o2.map (Value.int .i64)), rowE 3 1 pu1 o1.length (o1.map (Value.int .i64)), rowE 3 1 U.2 pp.length (pp.map (Value.int .i64)), rowE 3 1 U.1 fs.length (fs.map (Value.int .i64)), boxE b5 #[.int .i64 n, cv] 54, clE cv rs, rowE 4 1 av bs.length (bs.flatMap blC)]) (sub_cons (d := 94) (congrArg some e21.1) (sub_cons (d := 95) (congrArg some e22.1) (sub_nil _))) (List.sublist_append_right _ _) ?_
                  exact (rq_call (by kernel_rfl) rfl (fun w hm => ret_ans (by have h9 := lawsGet_ans o2 (q : Int) _ w ((rd_row 0 rfl) w hm) (by omega); rw [hgk] at h9; exact h9)))
                ·
                  intro vf pf hR
                  have e20 : (vf 20) = .bool true ∧ (pf 20) = [] := hR 20 (by decide)
                  refine Or.inl ⟨want_of (congrArg some e20.1) rfl, ?_⟩
                  refine rq_less (l' := [rowE 3 1 pu2 o2.length (o2.map (Value.int .i64)), rowE 3 1 pu1 o1.length (o1.map (Value.int .i64)), rowE 3 1 U.2 pp.length (pp.map (Value.int .i64)), rowE 3 1 U.1 fs.length (fs.map (Value.int .i64)), boxE b5 #[.int .i64 n, cv] 54, clE cv rs, rowE 4 1 av bs.length (bs.flatMap blC)]) (sub_cons (d := 6) rfl (sub_nil _)) (List.sublist_append_right _ _) ?_
                  exact rq_v (rv_ev rfl)
                ·
                  intro vf pf hR
                  have e20 : (vf 20) = .bool true ∧ (pf 20) = [] := hR 20 (by decide)
                  refine Or.inl ⟨want_of (congrArg some e20.1) rfl, ?_⟩
                  refine rq_less (l' := [rowE 3 1 pu2 o2.length (o2.map (Value.int .i64)), rowE 3 1 pu1 o1.length (o1.map (Value.int .i64)), rowE 3 1 U.2 pp.length (pp.map (Value.int .i64)), rowE 3 1 U.1 fs.length (fs.map (Value.int .i64)), boxE b5 #[.int .i64 n, cv] 54, clE cv rs, rowE 4 1 av bs.length (bs.flatMap blC)]) (sub_cons (d := 13) rfl (sub_nil _)) (List.sublist_append_right _ _) ?_
                  exact rq_v (rv_ev rfl)
                ·
                  intro vf pf hR
                  have e20 : (vf 20) = .bool true ∧ (pf 20) = [] := hR 20 (by decide)
                  have e24 : (vf 24) = U.2 ∧ (pf 24) = [] := hR 24 (by decide)
                  have e25 : (vf 25) = .int .i64 (q : Int) ∧ (pf 25) = [] := hR 25 (by decide)
                  refine Or.inl ⟨want_of (congrArg some e20.1) rfl, ?_⟩
                  refine rq_less (l' := [rowE 3 1 pu2 o2.length (o2.map (Value.int .i64)), rowE 3 1 pu1 o1.length (o1.map (Value.int .i64)), rowE 3 1 U.2 pp.length (pp.map (Value.int .i64)), rowE 3 1 U.1 fs.length (fs.map (Value.int .i64)), boxE b5 #[.int .i64 n, cv] 54, clE cv rs, rowE 4 1 av bs.length (bs.flatMap blC)]) (sub_cons (d := 97) (congrArg some e24.1) (sub_cons (d := 98) (congrArg some e25.1) (sub_nil _))) (List.sublist_append_right _ _) ?_
                  exact rq_v (rv_index (s := 1) rfl Try.underlying43 (by kernel_rfl) rfl rfl (rd_row 2 rfl) (by omega) (by first | omega | (simp only [List.length_set]; omega)))
                ·
                  intro vf pf hR
                  have e20 : (vf 20) = .bool true ∧ (pf 20) = [] := hR 20 (by decide)
                  have e26 : (vf 26) = elP U.2 (((q : Int)).toNat * 1) ∧ (pf 26) = [] := hR 26 (by decide)
                  refine Or.inl ⟨want_of (congrArg some e20.1) rfl, ?_⟩
                  refine rq_less (l' := [rowE 3 1 pu2 o2.length (o2.map (Value.int .i64)), rowE 3 1 pu1 o1.length (o1.map (Value.int .i64)), rowE 3 1 U.2 pp.length (pp.map (Value.int .i64)), rowE 3 1 U.1 fs.length (fs.map (Value.int .i64)), boxE b5 #[.int .i64 n, cv] 54, clE cv rs, rowE 4 1 av bs.length (bs.flatMap blC)]) (sub_cons (d := 99) (congrArg some e26.1) (sub_nil _)) (List.sublist_append_right _ _) ?_
                  exact rq_v (rv_loadEl (u := .int .i64 (pp.getD q 0)) rfl (by kernel_rfl) rfl (rd_row 2 rfl) (ints_at1 (show _ < pp.length by first | omega | (simp only [List.length_set]; omega))))
                ·
                  intro vf pf hR
                  have e20 : (vf 20) = .bool true ∧ (pf 20) = [] := hR 20 (by decide)
                  have e23 : (vf 23) = .int .i64 (o2.getD q 0) ∧ (pf 23) = [] := hR 23 (by decide)
                  have e27 : (vf 27) = .int .i64 (pp.getD q 0) ∧ (pf 27) = [] := hR 27 (by decide)
                  refine Or.inl ⟨want_of (congrArg some e20.1) rfl, ?_⟩
                  refine rq_less (l' := [rowE 3 1 pu2 o2.length (o2.map (Value.int .i64)), rowE 3 1 pu1 o1.length (o1.map (Value.int .i64)), rowE 3 1 U.2 pp.length (pp.map (Value.int .i64)), rowE 3 1 U.1 fs.length (fs.map (Value.int .i64)), boxE b5 #[.int .i64 n, cv] 54, clE cv rs, rowE 4 1 av bs.length (bs.flatMap blC)]) (sub_cons (d := 96) (congrArg some e23.1) (sub_cons (d := 100) (congrArg some e27.1) (sub_nil _))) (List.sublist_append_right _ _) ?_
                  exact rq_mono (rq_v (rv_cmp rfl rfl rfl rfl)) (fun _ _ h => ⟨h.1.trans (congrArg Value.bool hb32), h.2⟩)
                ·
                  intro vf pf hR
                  have e14 : (vf 14) = .bool false ∧ (pf 14) = [] := hR 14 (by decide)
                  have e20 : (vf 20) = .bool true ∧ (pf 20) = [] := hR 20 (by decide)
                  have e28 : (vf 28) = .bool false ∧ (pf 28) = [] := hR 28 (by decide)
                  refine Or.inl ⟨want_of (congrArg some e14.1) rfl, ?_⟩
                  refine rq_less (l' := [rowE 3 1 pu2 o2.length (o2.map (Value.int .i64)), rowE 3 1 pu1 o1.length (o1.map (Value.int .i64)), rowE 3 1 U.2 pp.length (pp.map (Value.int .i64)), rowE 3 1 U.1 fs.length (fs.map (Value.int .i64)), boxE b5 #[.int .i64 n, cv] 54, clE cv rs, rowE 4 1 av bs.length (bs.flatMap blC)]) (sub_cons (d := 93) (congrArg some e20.1) (sub_cons (d := 101) (congrArg some e28.1) (sub_nil _))) (List.sublist_append_right _ _) ?_
                  exact rq_v (rv_ev rfl)
                ·
                  intro vf pf hR
                  have e14 : (vf 14) = .bool false ∧ (pf 14) = [] := hR 14 (by decide)
                  have e29 : (vf 29) = .bool false ∧ (pf 29) = [] := hR 29 (by decide)
                  refine Or.inl ⟨rfl, ?_⟩
                  refine rq_less (l' := [rowE 3 1 pu2 o2.length (o2.map (Value.int .i64)), rowE 3 1 pu1 o1.length (o1.map (Value.int .i64)), rowE 3 1 U.2 pp.length (pp.map (Value.int .i64)), rowE 3 1 U.1 fs.length (fs.map (Value.int .i64)), boxE b5 #[.int .i64 n, cv] 54, clE cv rs, rowE 4 1 av bs.length (bs.flatMap blC)]) (sub_cons (d := 87) (congrArg some e14.1) (sub_cons (d := 102) (congrArg some e29.1) (sub_nil _))) (List.sublist_append_right _ _) ?_
                  exact rq_v (rv_ev rfl)
              ·
                intro vf pf hR
                have e30 : (vf 30) = .bool false ∧ (pf 30) = [] := hR 30 (by decide)
                refine hl_less (l' := [rowE 3 1 pu2 o2.length (o2.map (Value.int .i64)), rowE 3 1 pu1 o1.length (o1.map (Value.int .i64)), rowE 3 1 U.2 pp.length (pp.map (Value.int .i64)), rowE 3 1 U.1 fs.length (fs.map (Value.int .i64)), boxE b5 #[.int .i64 n, cv] 54, clE cv rs, rowE 4 1 av bs.length (bs.flatMap blC)]) (sub_cons (d := 0) rfl (sub_cons (d := 2) rfl (sub_cons (d := 3) rfl (sub_cons (d := 4) rfl (sub_cons (d := 5) rfl (sub_cons (d := 6) rfl (sub_cons (d := 7) rfl (sub_cons (d := 10) rfl (sub_cons (d := 11) rfl (sub_cons (d := 12) rfl (sub_cons (d := 13) rfl (sub_cons (d := 15) rfl (sub_cons (d := 26) rfl (sub_cons (d := 59) rfl (sub_cons (d := 66) rfl (sub_cons (d := 70) rfl (sub_cons (d := 103) (congrArg some e30.1) (sub_nil _)))))))))))))))))) (List.sublist_append_right _ _) ?_
                simp only [List.drop_succ_cons, List.drop_zero]
                refine hl_less (sub_cons (d := 0) rfl (sub_cons (d := 2) rfl (sub_cons (d := 3) rfl (sub_cons (d := 4) rfl (sub_cons (d := 5) rfl (sub_cons (d := 6) rfl (sub_cons (d := 7) rfl (sub_cons (d := 10) rfl (sub_cons (d := 11) rfl (sub_cons (d := 12) rfl (sub_cons (d := 13) rfl (sub_cons (d := 15) rfl (sub_cons (d := 26) rfl (sub_cons (d := 59) rfl (sub_cons (d := 66) rfl (sub_cons (d := 70) rfl (sub_cons (d := 103) rfl (sub_nil _)))))))))))))))))) (.refl _) ?_
                refine hl_nil ?_
                refine hq_then ?_
                refine hc_false rfl ?_
                refine hc_skip ?_
                refine hq_block_normal ?_
                refine hq_then ?_
                refine hc_region ?_
                refine hl_v rfl rfl rfl (rv_ev rfl) ?_
                refine hl_v rfl rfl rfl (rv_add rfl rfl rfl (by constructor <;> omega)) ?_
                refine hl_v rfl rfl rfl (rv_ev rfl) ?_
                refine hl_less (sub_cons (d := 0) rfl (sub_cons (d := 2) rfl (sub_cons (d := 3) rfl (sub_cons (d := 4) rfl (sub_cons (d := 5) rfl (sub_cons (d := 6) rfl (sub_cons (d := 7) rfl (sub_cons (d := 10) rfl (sub_cons (d := 11) rfl (sub_cons (d := 12) rfl (sub_cons (d := 13) rfl (sub_cons (d := 15) rfl (sub_cons (d := 26) rfl (sub_cons (d := 59) rfl (sub_cons (d := 66) rfl (sub_cons (d := 70) rfl (sub_cons (d := 103) rfl (sub_nil _)))))))))))))))))) (.refl _) ?_
                refine hl_nil ?_
                exact hq_round1 (q + 1) (by omega) (by omega) (sub_cons (d := 0) rfl (sub_cons (d := 2) rfl (sub_cons (d := 3) rfl (sub_cons (d := 4) rfl (sub_cons (d := 5) rfl (sub_cons (d := 6) rfl (sub_cons (d := 7) rfl (sub_cons (d := 10) rfl (sub_cons (d := 11) rfl (sub_cons (d := 12) rfl (sub_cons (d := 13) rfl (sub_cons (d := 15) rfl (sub_cons (d := 26) rfl (sub_cons (d := 59) rfl (sub_cons (d := 66) rfl (sub_nil _)))))))))))))))) ((.cons_cons _ (.cons_cons _ (.cons_cons _ (.cons_cons _ (.cons_cons _ (.cons_cons _ (.cons_cons _ .slnil))))))))
            ·
              have hb31p : pp.getD q 0 = 0 := by simpa using hb31
              obtain ⟨hcan, hag, hex, hol⟩ := hyes (by assumption)
              have hgk : getI o2 (q : Int) = o2.getD q 0 := by unfold getI; rw [if_pos (by omega)]; rfl
              have hag1 := hag q (by omega)
              rw [← hff] at hag1
              have hex1 := hex q (by omega)
              obtain ⟨hcan, hag, hex, hol⟩ := hyes (by assumption)
              have hgk : getI o2 (q : Int) = o2.getD q 0 := by unfold getI; rw [if_pos (by omega)]; rfl
              have hag1 := hag q (by omega)
              rw [← hff] at hag1
              have hex1 := hex q (by omega)
              obtain ⟨hcan, hag, hex, hol⟩ := hyes (by assumption)
              have hgk : getI o2 (q : Int) = o2.getD q 0 := by unfold getI; rw [if_pos (by omega)]; rfl
              have hag1 := hag q (by omega)
              rw [← hff] at hag1
              have hex1 := hex q (by omega)
              obtain ⟨hcan, hag, hex, hol⟩ := hyes (by assumption)
              have hgk : getI o2 (q : Int) = o2.getD q 0 := by unfold getI; rw [if_pos (by omega)]; rfl
              have hag1 := hag q (by omega)
              rw [← hff] at hag1
              have hex1 := hex q (by omega)
              obtain ⟨hcan, hag, hex, hol⟩ := hyes (by assumption)
              have hgk : getI o2 (q : Int) = o2.getD q 0 := by unfold getI; rw [if_pos (by omega)]; rfl
              have hag1 := hag q (by omega)
              rw [← hff] at hag1
              have hex1 := hex q (by omega)
              obtain ⟨hcan, hag, hex, hol⟩ := hyes (by assumption)
              have hgk : getI o2 (q : Int) = o2.getD q 0 := by unfold getI; rw [if_pos (by omega)]; rfl
              have hag1 := hag q (by omega)
              rw [← hff] at hag1
              have hex1 := hex q (by omega)
              obtain ⟨hcan, hag, hex, hol⟩ := hyes (by assumption)
              have hgk : getI o2 (q : Int) = o2.getD q 0 := by unfold getI; rw [if_pos (by omega)]; rfl
              have hag1 := hag q (by omega)
              rw [← hff] at hag1
              have hex1 := hex q (by omega)
              obtain ⟨hcan, hag, hex, hol⟩ := hyes (by assumption)
              have hgk : getI o2 (q : Int) = o2.getD q 0 := by unfold getI; rw [if_pos (by omega)]; rfl
              have hag1 := hag q (by omega)
              rw [← hff] at hag1
              have hex1 := hex q (by omega)
              obtain ⟨hcan, hag, hex, hol⟩ := hyes (by assumption)
              have hgk : getI o2 (q : Int) = o2.getD q 0 := by unfold getI; rw [if_pos (by omega)]; rfl
              have hag1 := hag q (by omega)
              rw [← hff] at hag1
              have hex1 := hex q (by omega)
              obtain ⟨hcan, hag, hex, hol⟩ := hyes (by assumption)
              have hgk : getI o2 (q : Int) = o2.getD q 0 := by unfold getI; rw [if_pos (by omega)]; rfl
              have hag1 := hag q (by omega)
              rw [← hff] at hag1
              have hex1 := hex q (by omega)
              obtain ⟨hcan, hag, hex, hol⟩ := hyes (by assumption)
              have hgk : getI o2 (q : Int) = o2.getD q 0 := by unfold getI; rw [if_pos (by omega)]; rfl
              have hag1 := hag q (by omega)
              rw [← hff] at hag1
              have hex1 := hex q (by omega)
              refine hc_draw (by kernel_rfl) 31 [0, 1, 2, 3, 4, 5, 6, 7, 8, 9, 10, 11, 12, 13, 14, 15, 16, 17, 18, 19, 20, 21, 22, 23, 24, 25, 26, 27, 28, 29, 30] (List.take 31 _) (List.drop 31 _) [[], [], [0, 1], [2], [3], [4], [4], [4, 5, 6], [4], [4], [4, 8, 9], [4, 10], [4, 7, 11], [4, 12], [13], [14], [14], [14, 15, 16], [14, 17], [14, 18], [14, 19], [20], [20], [20], [20], [20], [20], [20], [20], [14, 20, 28], [14, 29]] [73, 74, 75, 76, 77, 78, 79, 80, 81, 82, 83, 84, 85, 86, 87, 88, 89, 90, 91, 92, 93, 94, 95, 96, 97, 98, 99, 100, 101, 102, 103] (fun i_ vs_ v_ p_ => match i_ with | 0 => v_ = pu2 ∧ p_ = [] | 1 => v_ = .int .i64 (q : Int) ∧ p_ = [] | 2 => v_ = .int .i64 (o2.getD q 0) ∧ p_ = [] | 3 => v_ = .bool true ∧ p_ = [] | 4 => v_ = .bool true ∧ p_ = [] | 5 => v_ = pu2 ∧ p_ = [] | 6 => v_ = .int .i64 (q : Int) ∧ p_ = [] | 7 => v_ = .int .i64 (o2.getD q 0) ∧ p_ = [] | 8 => v_ = U.1 ∧ p_ = [] | 9 => v_ = .int .i64 (q : Int) ∧ p_ = [] | 10 => v_ = elP U.1 (((q : Int)).toNat * 1) ∧ p_ = [] | 11 => v_ = .int .i64 (fs.getD q 0) ∧ p_ = [] | 12 => v_ = .bool false ∧ p_ = [] | 13 => v_ = .bool false ∧ p_ = [] | 14 => v_ = .bool false ∧ p_ = [] | 15 => v_ = U.2 ∧ p_ = [] | 16 => v_ = .int .i64 (q : Int) ∧ p_ = [] | 17 => v_ = elP U.2 (((q : Int)).toNat * 1) ∧ p_ = [] | 18 => v_ = .int .i64 (pp.getD q 0) ∧ p_ = [] | 19 => v_ = .bool false ∧ p_ = [] | 20 => v_ = .bool false ∧ p_ = [] | 21 => v_ = undef ∧ p_ = [] | 22 => v_ = undef ∧ p_ = [] | 23 => v_ = undef ∧ p_ = [] | 24 => v_ = undef ∧ p_ = [] | 25 => v_ = undef ∧ p_ = [] | 26 => v_ = undef ∧ p_ = [] | 27 => v_ = undef ∧ p_ = [] | 28 => v_ = undef ∧ p_ = [] | 29 => v_ = .bool false ∧ p_ = [] | 30 => v_ = .bool false ∧ p_ = [] | _ => True) (List.take_append_drop 31 _).symm (by kernel_rfl) (by kernel_rfl) rfl rfl ?_ ?_
              ·
                refine ⟨?_, ?_, ?_, ?_, ?_, ?_, ?_, ?_, ?_, ?_, ?_, ?_, ?_, ?_, ?_, ?_, ?_, ?_, ?_, ?_, ?_, ?_, ?_, ?_, ?_, ?_, ?_, ?_, ?_, ?_, ?_, trivial⟩
                ·
                  intro vf pf hR
                  refine Or.inl ⟨rfl, ?_⟩
                  refine rq_less (l' := [rowE 3 1 pu2 o2.length (o2.map (Value.int .i64)), rowE 3 1 pu1 o1.length (o1.map (Value.int .i64)), rowE 3 1 U.2 pp.length (pp.map (Value.int .i64)), rowE 3 1 U.1 fs.length (fs.map (Value.int .i64)), boxE b5 #[.int .i64 n, cv] 54, clE cv rs, rowE 4 1 av bs.length (bs.flatMap blC)]) (sub_cons (d := 11) rfl (sub_nil _)) (List.sublist_append_right _ _) ?_
                  exact rq_v (rv_ev rfl)
                ·
                  intro vf pf hR
                  refine Or.inl ⟨rfl, ?_⟩
                  refine rq_less (l' := [rowE 3 1 pu2 o2.length (o2.map (Value.int .i64)), rowE 3 1 pu1 o1.length (o1.map (Value.int .i64)), rowE 3 1 U.2 pp.length (pp.map (Value.int .i64)), rowE 3 1 U.1 fs.length (fs.map (Value.int .i64)), boxE b5 #[.int .i64 n, cv] 54, clE cv rs, rowE 4 1 av bs.length (bs.flatMap blC)]) (sub_cons (d := 13) rfl (sub_nil _)) (List.sublist_append_right _ _) ?_
                  exact rq_v (rv_ev rfl)
                ·
                  intro vf pf hR
                  have e0 : (vf 0) = pu2 ∧ (pf 0) = [] := hR 0 (by decide)
                  have e1 : (vf 1) = .int .i64 (q : Int) ∧ (pf 1) = [] := hR 1 (by decide)
                  refine Or.inl ⟨rfl, ?_⟩
                  refine rq_less (l' := [rowE 3 1 pu2 o2.length (o2.map (Value.int .i64)), rowE 3 1 pu1 o1.length (o1.map (Value.int .i64)), rowE 3 1 U.2 pp.length (pp.map (Value.int .i64)), rowE 3 1 U.1 fs.length (fs.map (Value.int .i64)), boxE b5 #[.int .i64 n, cv] 54, clE cv rs, rowE 4 1 av bs.length (bs.flatMap blC)]) (sub_cons (d := 73) (congrArg some e0.1) (sub_cons (d := 74) (congrArg some e1.1) (sub_nil _))) (List.sublist_append_right _ _) ?_
                  exact (rq_call (by kernel_rfl) rfl (fun w hm => ret_ans (by have h9 := lawsGet_ans o2 (q : Int) _ w ((rd_row 0 rfl) w hm) (by omega); rw [hgk] at h9; exact h9)))
                ·
                  intro vf pf hR
                  have e2 : (vf 2) = .int .i64 (o2.getD q 0) ∧ (pf 2) = [] := hR 2 (by decide)
                  refine Or.inl ⟨rfl, ?_⟩
                  refine rq_less (l' := [rowE 3 1 pu2 o2.length (o2.map (Value.int .i64)), rowE 3 1 pu1 o1.length (o1.map (Value.int .i64)), rowE 3 1 U.2 pp.length (pp.map (Value.int .i64)), rowE 3 1 U.1 fs.length (fs.map (Value.int .i64)), boxE b5 #[.int .i64 n, cv] 54, clE cv rs, rowE 4 1 av bs.length (bs.flatMap blC)]) (sub_cons (d := 75) (congrArg some e2.1) (sub_nil _)) (List.sublist_append_right _ _) ?_
                  exact rq_mono (rq_v (rv_cmp rfl rfl rfl rfl)) (fun _ _ h => ⟨h.1.trans (congrArg Value.bool hb29), h.2⟩)
                ·
                  intro vf pf hR
                  have e3 : (vf 3) = .bool true ∧ (pf 3) = [] := hR 3 (by decide)
                  refine Or.inl ⟨rfl, ?_⟩
                  refine rq_less (l' := [rowE 3 1 pu2 o2.length (o2.map (Value.int .i64)), rowE 3 1 pu1 o1.length (o1.map (Value.int .i64)), rowE 3 1 U.2 pp.length (pp.map (Value.int .i64)), rowE 3 1 U.1 fs.length (fs.map (Value.int .i64)), boxE b5 #[.int .i64 n, cv] 54, clE cv rs, rowE 4 1 av bs.length (bs.flatMap blC)]) (sub_cons (d := 76) (congrArg some e3.1) (sub_nil _)) (List.sublist_append_right _ _) ?_
                  exact rq_v (rv_ev rfl)
                ·
                  intro vf pf hR
                  have e4 : (vf 4) = .bool true ∧ (pf 4) = [] := hR 4 (by decide)
                  refine Or.inl ⟨want_of (congrArg some e4.1) rfl, ?_⟩
                  refine rq_less (l' := [rowE 3 1 pu2 o2.length (o2.map (Value.int .i64)), rowE 3 1 pu1 o1.length (o1.map (Value.int .i64)), rowE 3 1 U.2 pp.length (pp.map (Value.int .i64)), rowE 3 1 U.1 fs.length (fs.map (Value.int .i64)), boxE b5 #[.int .i64 n, cv] 54, clE cv rs, rowE 4 1 av bs.length (bs.flatMap blC)]) (sub_cons (d := 11) rfl (sub_nil _)) (List.sublist_append_right _ _) ?_
                  exact rq_v (rv_ev rfl)
                ·
                  intro vf pf hR
                  have e4 : (vf 4) = .bool true ∧ (pf 4) = [] := hR 4 (by decide)
                  refine Or.inl ⟨want_of (congrArg some e4.1) rfl, ?_⟩
                  refine rq_less (l' := [rowE 3 1 pu2 o2.length (o2.map (Value.int .i64)), rowE 3 1 pu1 o1.length (o1.map (Value.int .i64)), rowE 3 1 U.2 pp.length (pp.map (Value.int .i64)), rowE 3 1 U.1 fs.length (fs.map (Value.int .i64)), boxE b5 #[.int .i64 n, cv] 54, clE cv rs, rowE 4 1 av bs.length (bs.flatMap blC)]) (sub_cons (d := 13) rfl (sub_nil _)) (List.sublist_append_right _ _) ?_
                  exact rq_v (rv_ev rfl)
                ·
                  intro vf pf hR
                  have e4 : (vf 4) = .bool true ∧ (pf 4) = [] := hR 4 (by decide)
                  have e5 : (vf 5) = pu2 ∧ (pf 5) = [] := hR 5 (by decide)
                  have e6 : (vf 6) = .int .i64 (q : Int) ∧ (pf 6) = [] := hR 6 (by decide)
                  refine Or.inl ⟨want_of (congrArg some e4.1) rfl, ?_⟩
                  refine rq_less (l' := [rowE 3 1 pu2 o2.length (o2.map (Value.int .i64)), rowE 3 1 pu1 o1.length (o1.map (Value.int .i64)), rowE 3 1 U.2 pp.length (pp.map (Value.int .i64)), rowE 3 1 U.1 fs.length (fs.map (Value.int .i64)), boxE b5 #[.int .i64 n, cv] 54, clE cv rs, rowE 4 1 av bs.length (bs.flatMap blC)]) (sub_cons (d := 78) (congrArg some e5.1) (sub_cons (d := 79) (congrArg some e6.1) (sub_nil _))) (List.sublist_append_right _ _) ?_
                  exact (rq_call (by kernel_rfl) rfl (fun w hm => ret_ans (by have h9 := lawsGet_ans o2 (q : Int) _ w ((rd_row 0 rfl) w hm) (by omega); rw [hgk] at h9; exact h9)))
                ·
                  intro vf pf hR
                  have e4 : (vf 4) = .bool true ∧ (pf 4) = [] := hR 4 (by decide)
                  refine Or.inl ⟨want_of (congrArg some e4.1) rfl, ?_⟩
                  refine rq_less (l' := [rowE 3 1 pu2 o2.length (o2.map (Value.int .i64)), rowE 3 1 pu1 o1.length (o1.map (Value.int .i64)), rowE 3 1 U.2 pp.length (pp.map (Value.int .i64)), rowE 3 1 U.1 fs.length (fs.map (Value.int .i64)), boxE b5 #[.int .i64 n, cv] 54, clE cv rs, rowE 4 1 av bs.length (bs.flatMap blC)]) (sub_cons (d := 5) rfl (sub_nil _)) (List.sublist_append_right _ _) ?_
                  exact rq_v (rv_ev rfl)
                ·
                  intro vf pf hR
                  have e4 : (vf 4) = .bool true ∧ (pf 4) = [] := hR 4 (by decide)
                  refine Or.inl ⟨want_of (congrArg some e4.1) rfl, ?_⟩
                  refine rq_less (l' := [rowE 3 1 pu2 o2.length (o2.map (Value.int .i64)), rowE 3 1 pu1 o1.length (o1.map (Value.int .i64)), rowE 3 1 U.2 pp.length (pp.map (Value.int .i64)), rowE 3 1 U.1 fs.length (fs.map (Value.int .i64)), boxE b5 #[.int .i64 n, cv] 54, clE cv rs, rowE 4 1 av bs.length (bs.flatMap blC)]) (sub_cons (d := 13) rfl (sub_nil _)) (List.sublist_append_right _ _) ?_
                  exact rq_v (rv_ev rfl)
                ·
                  intro vf pf hR
                  have e4 : (vf 4) = .bool true ∧ (pf 4) = [] := hR 4 (by decide)
                  have e8 : (vf 8) = U.1 ∧ (pf 8) = [] := hR 8 (by decide)
                  have e9 : (vf 9) = .int .i64 (q : Int) ∧ (pf 9) = [] := hR 9 (by decide)
                  refine Or.inl ⟨want_of (congrArg some e4.1) rfl, ?_⟩
                  refine rq_less (l' := [rowE 3 1 pu2 o2.length (o2.map (Value.int .i64)), rowE 3 1 pu1 o1.length (o1.map (Value.int .i64)), rowE 3 1 U.2 pp.length (pp.map (Value.int .i64)), rowE 3 1 U.1 fs.length (fs.map (Value.int .i64)), boxE b5 #[.int .i64 n, cv] 54, clE cv rs, rowE 4 1 av bs.length (bs.flatMap blC)]) (sub_cons (d := 81) (congrArg some e8.1) (sub_cons (d := 82) (congrArg some e9.1) (sub_nil _))) (List.sublist_append_right _ _) ?_
                  exact rq_v (rv_index (s := 1) rfl Try.underlying43 (by kernel_rfl) rfl rfl (rd_row 3 rfl) (by omega) (by first | omega | (simp only [List.length_set]; omega)))
                ·
                  intro vf pf hR
                  have e4 : (vf 4) = .bool true ∧ (pf 4) = [] := hR 4 (by decide)
                  have e10 : (vf 10) = elP U.1 (((q : Int)).toNat * 1) ∧ (pf 10) = [] := hR 10 (by decide)
                  refine Or.inl ⟨want_of (congrArg some e4.1) rfl, ?_⟩
                  refine rq_less (l' := [rowE 3 1 pu2 o2.length (o2.map (Value.int .i64)), rowE 3 1 pu1 o1.length (o1.map (Value.int .i64)), rowE 3 1 U.2 pp.length (pp.map (Value.int .i64)), rowE 3 1 U.1 fs.length (fs.map (Value.int .i64)), boxE b5 #[.int .i64 n, cv] 54, clE cv rs, rowE 4 1 av bs.length (bs.flatMap blC)]) (sub_cons (d := 83) (congrArg some e10.1) (sub_nil _)) (List.sublist_append_right _ _) ?_
                  exact rq_v (rv_loadEl (u := .int .i64 (fs.getD q 0)) rfl (by kernel_rfl) rfl (rd_row 3 rfl) (ints_at1 (show _ < fs.length by first | omega | (simp only [List.length_set]; omega))))
                ·
                  intro vf pf hR
                  have e4 : (vf 4) = .bool true ∧ (pf 4) = [] := hR 4 (by decide)
                  have e7 : (vf 7) = .int .i64 (o2.getD q 0) ∧ (pf 7) = [] := hR 7 (by decide)
                  have e11 : (vf 11) = .int .i64 (fs.getD q 0) ∧ (pf 11) = [] := hR 11 (by decide)
                  refine Or.inl ⟨want_of (congrArg some e4.1) rfl, ?_⟩
                  refine rq_less (l' := [rowE 3 1 pu2 o2.length (o2.map (Value.int .i64)), rowE 3 1 pu1 o1.length (o1.map (Value.int .i64)), rowE 3 1 U.2 pp.length (pp.map (Value.int .i64)), rowE 3 1 U.1 fs.length (fs.map (Value.int .i64)), boxE b5 #[.int .i64 n, cv] 54, clE cv rs, rowE 4 1 av bs.length (bs.flatMap blC)]) (sub_cons (d := 80) (congrArg some e7.1) (sub_cons (d := 84) (congrArg some e11.1) (sub_nil _))) (List.sublist_append_right _ _) ?_
                  exact rq_mono (rq_v (rv_cmp rfl rfl rfl rfl)) (fun _ _ h => ⟨h.1.trans (congrArg Value.bool hb30), h.2⟩)
                ·
                  intro vf pf hR
                  have e4 : (vf 4) = .bool true ∧ (pf 4) = [] := hR 4 (by decide)
                  have e12 : (vf 12) = .bool false ∧ (pf 12) = [] := hR 12 (by decide)
                  refine Or.inl ⟨rfl, ?_⟩
                  refine rq_less (l' := [rowE 3 1 pu2 o2.length (o2.map (Value.int .i64)), rowE 3 1 pu1 o1.length (o1.map (Value.int .i64)), rowE 3 1 U.2 pp.length (pp.map (Value.int .i64)), rowE 3 1 U.1 fs.length (fs.map (Value.int .i64)), boxE b5 #[.int .i64 n, cv] 54, clE cv rs, rowE 4 1 av bs.length (bs.flatMap blC)]) (sub_cons (d := 77) (congrArg some e4.1) (sub_cons (d := 85) (congrArg some e12.1) (sub_nil _))) (List.sublist_append_right _ _) ?_
                  exact rq_v (rv_ev rfl)
                ·
                  intro vf pf hR
                  have e13 : (vf 13) = .bool false ∧ (pf 13) = [] := hR 13 (by decide)
                  refine Or.inl ⟨rfl, ?_⟩
                  refine rq_less (l' := [rowE 3 1 pu2 o2.length (o2.map (Value.int .i64)), rowE 3 1 pu1 o1.length (o1.map (Value.int .i64)), rowE 3 1 U.2 pp.length (pp.map (Value.int .i64)), rowE 3 1 U.1 fs.length (fs.map (Value.int .i64)), boxE b5 #[.int .i64 n, cv] 54, clE cv rs, rowE 4 1 av bs.length (bs.flatMap blC)]) (sub_cons (d := 86) (congrArg some e13.1) (sub_nil _)) (List.sublist_append_right _ _) ?_
                  exact rq_v (rv_ev rfl)
                ·
                  intro vf pf hR
                  have e14 : (vf 14) = .bool false ∧ (pf 14) = [] := hR 14 (by decide)
                  refine Or.inl ⟨want_of (congrArg some e14.1) rfl, ?_⟩
                  refine rq_less (l' := [rowE 3 1 pu2 o2.length (o2.map (Value.int .i64)), rowE 3 1 pu1 o1.length (o1.map (Value.int .i64)), rowE 3 1 U.2 pp.length (pp.map (Value.int .i64)), rowE 3 1 U.1 fs.length (fs.map (Value.int .i64)), boxE b5 #[.int .i64 n, cv] 54, clE cv rs, rowE 4 1 av bs.length (bs.flatMap blC)]) (sub_cons (d := 6) rfl (sub_nil _)) (List.sublist_append_right _ _) ?_
                  exact rq_v (rv_ev rfl)
                ·
                  intro vf pf hR
                  have e14 : (vf 14) = .bool false ∧ (pf 14) = [] := hR 14 (by decide)
                  refine Or.inl ⟨want_of (congrArg some e14.1) rfl, ?_⟩
                  refine rq_less (l' := [rowE 3 1 pu2 o2.length (o2.map (Value.int .i64)), rowE 3 1 pu1 o1.length (o1.map (Value.int .i64)), rowE 3 1 U.2 pp.length (pp.map (Value.int .i64)), rowE 3 1 U.1 fs.length (fs.map (Value.int .i64)), boxE b5 #[.int .i64 n, cv] 54, clE cv rs, rowE 4 1 av bs.length (bs.flatMap blC)]) (sub_cons (d := 13) rfl (sub_nil _)) (List.sublist_append_right _ _) ?_
                  exact rq_v (rv_ev rfl)
                ·
                  intro vf pf hR
                  have e14 : (vf 14) = .bool false ∧ (pf 14) = [] := hR 14 (by decide)
                  have e15 : (vf 15) = U.2 ∧ (pf 15) = [] := hR 15 (by decide)
                  have e16 : (vf 16) = .int .i64 (q : Int) ∧ (pf 16) = [] := hR 16 (by decide)
                  refine Or.inl ⟨want_of (congrArg some e14.1) rfl, ?_⟩
                  refine rq_less (l' := [rowE 3 1 pu2 o2.length (o2.map (Value.int .i64)), rowE 3 1 pu1 o1.length (o1.map (Value.int .i64)), rowE 3 1 U.2 pp.length (pp.map (Value.int .i64)), rowE 3 1 U.1 fs.length (fs.map (Value.int .i64)), boxE b5 #[.int .i64 n, cv] 54, clE cv rs, rowE 4 1 av bs.length (bs.flatMap blC)]) (sub_cons (d := 88) (congrArg some e15.1) (sub_cons (d := 89) (congrArg some e16.1) (sub_nil _))) (List.sublist_append_right _ _) ?_
                  exact rq_v (rv_index (s := 1) rfl Try.underlying43 (by kernel_rfl) rfl rfl (rd_row 2 rfl) (by omega) (by first | omega | (simp only [List.length_set]; omega)))
                ·
                  intro vf pf hR
                  have e14 : (vf 14) = .bool false ∧ (pf 14) = [] := hR 14 (by decide)
                  have e17 : (vf 17) = elP U.2 (((q : Int)).toNat * 1) ∧ (pf 17) = [] := hR 17 (by decide)
                  refine Or.inl ⟨want_of (congrArg some e14.1) rfl, ?_⟩
                  refine rq_less (l' := [rowE 3 1 pu2 o2.length (o2.map (Value.int .i64)), rowE 3 1 pu1 o1.length (o1.map (Value.int .i64)), rowE 3 1 U.2 pp.length (pp.map (Value.int .i64)), rowE 3 1 U.1 fs.length (fs.map (Value.int .i64)), boxE b5 #[.int .i64 n, cv] 54, clE cv rs, rowE 4 1 av bs.length (bs.flatMap blC)]) (sub_cons (d := 90) (congrArg some e17.1) (sub_nil _)) (List.sublist_append_right _ _) ?_
                  exact rq_v (rv_loadEl (u := .int .i64 (pp.getD q 0)) rfl (by kernel_rfl) rfl (rd_row 2 rfl) (ints_at1 (show _ < pp.length by first | omega | (simp only [List.length_set]; omega))))
                ·
                  intro vf pf hR
                  have e14 : (vf 14) = .bool false ∧ (pf 14) = [] := hR 14 (by decide)
                  have e18 : (vf 18) = .int .i64 (pp.getD q 0) ∧ (pf 18) = [] := hR 18 (by decide)
                  refine Or.inl ⟨want_of (congrArg some e14.1) rfl, ?_⟩
                  refine rq_less (l' := [rowE 3 1 pu2 o2.length (o2.map (Value.int .i64)), rowE 3 1 pu1 o1.length (o1.map (Value.int .i64)), rowE 3 1 U.2 pp.length (pp.map (Value.int .i64)), rowE 3 1 U.1 fs.length (fs.map (Value.int .i64)), boxE b5 #[.int .i64 n, cv] 54, clE cv rs, rowE 4 1 av bs.length (bs.flatMap blC)]) (sub_cons (d := 91) (congrArg some e18.1) (sub_nil _)) (List.sublist_append_right _ _) ?_
                  exact rq_mono (rq_v (rv_cmp rfl rfl rfl rfl)) (fun _ _ h => ⟨h.1.trans (congrArg Value.bool hb31), h.2⟩)
                ·
                  intro vf pf hR
                  have e14 : (vf 14) = .bool false ∧ (pf 14) = [] := hR 14 (by decide)
                  have e19 : (vf 19) = .bool false ∧ (pf 19) = [] := hR 19 (by decide)
                  refine Or.inl ⟨want_of (congrArg some e14.1) rfl, ?_⟩
                  refine rq_less (l' := [rowE 3 1 pu2 o2.length (o2.map (Value.int .i64)), rowE 3 1 pu1 o1.length (o1.map (Value.int .i64)), rowE 3 1 U.2 pp.length (pp.map (Value.int .i64)), rowE 3 1 U.1 fs.length (fs.map (Value.int .i64)), boxE b5 #[.int .i64 n, cv] 54, clE cv rs, rowE 4 1 av bs.length (bs.flatMap blC)]) (sub_cons (d := 92) (congrArg some e19.1) (sub_nil _)) (List.sublist_append_right _ _) ?_
                  exact rq_v (rv_ev rfl)
                ·
                  intro vf pf hR
                  have e20 : (vf 20) = .bool false ∧ (pf 20) = [] := hR 20 (by decide)
                  exact Or.inr ⟨want_of (congrArg some e20.1) rfl, rfl, rfl⟩
                ·
                  intro vf pf hR
                  have e20 : (vf 20) = .bool false ∧ (pf 20) = [] := hR 20 (by decide)
                  exact Or.inr ⟨want_of (congrArg some e20.1) rfl, rfl, rfl⟩
                ·
                  intro vf pf hR
                  have e20 : (vf 20) = .bool false ∧ (pf 20) = [] := hR 20 (by decide)
                  exact Or.inr ⟨want_of (congrArg some e20.1) rfl, rfl, rfl⟩
                ·
                  intro vf pf hR
                  have e20 : (vf 20) = .bool false ∧ (pf 20) = [] := hR 20 (by decide)
                  exact Or.inr ⟨want_of (congrArg some e20.1) rfl, rfl, rfl⟩
                ·
                  intro vf pf hR
                  have e20 : (vf 20) = .bool false ∧ (pf 20) = [] := hR 20 (by decide)
                  exact Or.inr ⟨want_of (congrArg some e20.1) rfl, rfl, rfl⟩
                ·
                  intro vf pf hR
                  have e20 : (vf 20) = .bool false ∧ (pf 20) = [] := hR 20 (by decide)
                  exact Or.inr ⟨want_of (congrArg some e20.1) rfl, rfl, rfl⟩
                ·
                  intro vf pf hR
                  have e20 : (vf 20) = .bool false ∧ (pf 20) = [] := hR 20 (by decide)
                  exact Or.inr ⟨want_of (congrArg some e20.1) rfl, rfl, rfl⟩
                ·
                  intro vf pf hR
                  have e20 : (vf 20) = .bool false ∧ (pf 20) = [] := hR 20 (by decide)
                  exact Or.inr ⟨want_of (congrArg some e20.1) rfl, rfl, rfl⟩
                ·
                  intro vf pf hR
                  have e14 : (vf 14) = .bool false ∧ (pf 14) = [] := hR 14 (by decide)
                  have e20 : (vf 20) = .bool false ∧ (pf 20) = [] := hR 20 (by decide)
                  have e28 : (vf 28) = undef ∧ (pf 28) = [] := hR 28 (by decide)
                  refine Or.inl ⟨want_of (congrArg some e14.1) rfl, ?_⟩
                  refine rq_less (l' := [rowE 3 1 pu2 o2.length (o2.map (Value.int .i64)), rowE 3 1 pu1 o1.length (o1.map (Value.int .i64)), rowE 3 1 U.2 pp.length (pp.map (Value.int .i64)), rowE 3 1 U.1 fs.length (fs.map (Value.int .i64)), boxE b5 #[.int .i64 n, cv] 54, clE cv rs, rowE 4 1 av bs.length (bs.flatMap blC)]) (sub_cons (d := 93) (congrArg some e20.1) (sub_cons (d := 101) (congrArg some e28.1) (sub_nil _))) (List.sublist_append_right _ _) ?_
                  exact rq_v (rv_ev rfl)
                ·
                  intro vf pf hR
                  have e14 : (vf 14) = .bool false ∧ (pf 14) = [] := hR 14 (by decide)
                  have e29 : (vf 29) = .bool false ∧ (pf 29) = [] := hR 29 (by decide)
                  refine Or.inl ⟨rfl, ?_⟩
                  refine rq_less (l' := [rowE 3 1 pu2 o2.length (o2.map (Value.int .i64)), rowE 3 1 pu1 o1.length (o1.map (Value.int .i64)), rowE 3 1 U.2 pp.length (pp.map (Value.int .i64)), rowE 3 1 U.1 fs.length (fs.map (Value.int .i64)), boxE b5 #[.int .i64 n, cv] 54, clE cv rs, rowE 4 1 av bs.length (bs.flatMap blC)]) (sub_cons (d := 87) (congrArg some e14.1) (sub_cons (d := 102) (congrArg some e29.1) (sub_nil _))) (List.sublist_append_right _ _) ?_
                  exact rq_v (rv_ev rfl)
              ·
                intro vf pf hR
                have e30 : (vf 30) = .bool false ∧ (pf 30) = [] := hR 30 (by decide)
                refine hl_less (l' := [rowE 3 1 pu2 o2.length (o2.map (Value.int .i64)), rowE 3 1 pu1 o1.length (o1.map (Value.int .i64)), rowE 3 1 U.2 pp.length (pp.map (Value.int .i64)), rowE 3 1 U.1 fs.length (fs.map (Value.int .i64)), boxE b5 #[.int .i64 n, cv] 54, clE cv rs, rowE 4 1 av bs.length (bs.flatMap blC)]) (sub_cons (d := 0) rfl (sub_cons (d := 2) rfl (sub_cons (d := 3) rfl (sub_cons (d := 4) rfl (sub_cons (d := 5) rfl (sub_cons (d := 6) rfl (sub_cons (d := 7) rfl (sub_cons (d := 10) rfl (sub_cons (d := 11) rfl (sub_cons (d := 12) rfl (sub_cons (d := 13) rfl (sub_cons (d := 15) rfl (sub_cons (d := 26) rfl (sub_cons (d := 59) rfl (sub_cons (d := 66) rfl (sub_cons (d := 70) rfl (sub_cons (d := 103) (congrArg some e30.1) (sub_nil _)))))))))))))))))) (List.sublist_append_right _ _) ?_
                simp only [List.drop_succ_cons, List.drop_zero]
                refine hl_less (sub_cons (d := 0) rfl (sub_cons (d := 2) rfl (sub_cons (d := 3) rfl (sub_cons (d := 4) rfl (sub_cons (d := 5) rfl (sub_cons (d := 6) rfl (sub_cons (d := 7) rfl (sub_cons (d := 10) rfl (sub_cons (d := 11) rfl (sub_cons (d := 12) rfl (sub_cons (d := 13) rfl (sub_cons (d := 15) rfl (sub_cons (d := 26) rfl (sub_cons (d := 59) rfl (sub_cons (d := 66) rfl (sub_cons (d := 70) rfl (sub_cons (d := 103) rfl (sub_nil _)))))))))))))))))) (.refl _) ?_
                refine hl_nil ?_
                refine hq_then ?_
                refine hc_false rfl ?_
                refine hc_skip ?_
                refine hq_block_normal ?_
                refine hq_then ?_
                refine hc_region ?_
                refine hl_v rfl rfl rfl (rv_ev rfl) ?_
                refine hl_v rfl rfl rfl (rv_add rfl rfl rfl (by constructor <;> omega)) ?_
                refine hl_v rfl rfl rfl (rv_ev rfl) ?_
                refine hl_less (sub_cons (d := 0) rfl (sub_cons (d := 2) rfl (sub_cons (d := 3) rfl (sub_cons (d := 4) rfl (sub_cons (d := 5) rfl (sub_cons (d := 6) rfl (sub_cons (d := 7) rfl (sub_cons (d := 10) rfl (sub_cons (d := 11) rfl (sub_cons (d := 12) rfl (sub_cons (d := 13) rfl (sub_cons (d := 15) rfl (sub_cons (d := 26) rfl (sub_cons (d := 59) rfl (sub_cons (d := 66) rfl (sub_cons (d := 70) rfl (sub_cons (d := 103) rfl (sub_nil _)))))))))))))))))) (.refl _) ?_
                refine hl_nil ?_
                exact hq_round1 (q + 1) (by omega) (by omega) (sub_cons (d := 0) rfl (sub_cons (d := 2) rfl (sub_cons (d := 3) rfl (sub_cons (d := 4) rfl (sub_cons (d := 5) rfl (sub_cons (d := 6) rfl (sub_cons (d := 7) rfl (sub_cons (d := 10) rfl (sub_cons (d := 11) rfl (sub_cons (d := 12) rfl (sub_cons (d := 13) rfl (sub_cons (d := 15) rfl (sub_cons (d := 26) rfl (sub_cons (d := 59) rfl (sub_cons (d := 66) rfl (sub_nil _)))))))))))))))) ((.cons_cons _ (.cons_cons _ (.cons_cons _ (.cons_cons _ (.cons_cons _ (.cons_cons _ (.cons_cons _ .slnil))))))))
          ·
            have hb29p : o2.getD q 0 = 0 := by simpa using hb29
            obtain ⟨hcan, hag, hex, hol⟩ := hyes (by assumption)
            have hgk : getI o2 (q : Int) = o2.getD q 0 := by unfold getI; rw [if_pos (by omega)]; rfl
            have hag1 := hag q (by omega)
            rw [← hff] at hag1
            have hex1 := hex q (by omega)
            obtain ⟨hcan, hag, hex, hol⟩ := hyes (by assumption)
            have hgk : getI o2 (q : Int) = o2.getD q 0 := by unfold getI; rw [if_pos (by omega)]; rfl
            have hag1 := hag q (by omega)
            rw [← hff] at hag1
            have hex1 := hex q (by omega)
            obtain ⟨hcan, hag, hex, hol⟩ := hyes (by assumption)
            have hgk : getI o2 (q : Int) = o2.getD q 0 := by unfold getI; rw [if_pos (by omega)]; rfl
            have hag1 := hag q (by omega)
            rw [← hff] at hag1
            have hex1 := hex q (by omega)
            obtain ⟨hcan, hag, hex, hol⟩ := hyes (by assumption)
            have hgk : getI o2 (q : Int) = o2.getD q 0 := by unfold getI; rw [if_pos (by omega)]; rfl
            have hag1 := hag q (by omega)
            rw [← hff] at hag1
            have hex1 := hex q (by omega)
            obtain ⟨hcan, hag, hex, hol⟩ := hyes (by assumption)
            have hgk : getI o2 (q : Int) = o2.getD q 0 := by unfold getI; rw [if_pos (by omega)]; rfl
            have hag1 := hag q (by omega)
            rw [← hff] at hag1
            have hex1 := hex q (by omega)
            obtain ⟨hcan, hag, hex, hol⟩ := hyes (by assumption)
            have hgk : getI o2 (q : Int) = o2.getD q 0 := by unfold getI; rw [if_pos (by omega)]; rfl
            have hag1 := hag q (by omega)
            rw [← hff] at hag1
            have hex1 := hex q (by omega)
            rcases Bool.eq_false_or_eq_true ((pp.getD q 0) != 0) with hb33 | hb33
            ·
              have hb33p : pp.getD q 0 ≠ 0 := bne_iff_ne.1 hb33
              obtain ⟨hcan, hag, hex, hol⟩ := hyes (by assumption)
              have hgk : getI o2 (q : Int) = o2.getD q 0 := by unfold getI; rw [if_pos (by omega)]; rfl
              have hag1 := hag q (by omega)
              rw [← hff] at hag1
              have hex1 := hex q (by omega)
              obtain ⟨hcan, hag, hex, hol⟩ := hyes (by assumption)
              have hgk : getI o2 (q : Int) = o2.getD q 0 := by unfold getI; rw [if_pos (by omega)]; rfl
              have hag1 := hag q (by omega)
              rw [← hff] at hag1
              have hex1 := hex q (by omega)
              obtain ⟨hcan, hag, hex, hol⟩ := hyes (by assumption)
              have hgk : getI o2 (q : Int) = o2.getD q 0 := by unfold getI; rw [if_pos (by omega)]; rfl
              have hag1 := hag q (by omega)
              rw [← hff] at hag1
              have hex1 := hex q (by omega)
              obtain ⟨hcan, hag, hex, hol⟩ := hyes (by assumption)
              have hgk : getI o2 (q : Int) = o2.getD q 0 := by unfold getI; rw [if_pos (by omega)]; rfl
              have hag1 := hag q (by omega)
              rw [← hff] at hag1
              have hex1 := hex q (by omega)
              obtain ⟨hcan, hag, hex, hol⟩ := hyes (by assumption)
              have hgk : getI o2 (q : Int) = o2.getD q 0 := by unfold getI; rw [if_pos (by omega)]; rfl
              have hag1 := hag q (by omega)
              rw [← hff] at hag1
              have hex1 := hex q (by omega)
              obtain ⟨hcan, hag, hex, hol⟩ := hyes (by assumption)
              have hgk : getI o2 (q : Int) = o2.getD q 0 := by unfold getI; rw [if_pos (by omega)]; rfl
              have hag1 := hag q (by omega)
              rw [← hff] at hag1
              have hex1 := hex q (by omega)
              obtain ⟨hcan, hag, hex, hol⟩ := hyes (by assumption)
              have hgk : getI o2 (q : Int) = o2.getD q 0 := by unfold getI; rw [if_pos (by omega)]; rfl
              have hag1 := hag q (by omega)
              rw [← hff] at hag1
              have hex1 := hex q (by omega)
              obtain ⟨hcan, hag, hex, hol⟩ := hyes (by assumption)
              have hgk : getI o2 (q : Int) = o2.getD q 0 := by unfold getI; rw [if_pos (by omega)]; rfl
              have hag1 := hag q (by omega)
              rw [← hff] at hag1
              have hex1 := hex q (by omega)
              obtain ⟨hcan, hag, hex, hol⟩ := hyes (by assumption)
              have hgk : getI o2 (q : Int) = o2.getD q 0 := by unfold getI; rw [if_pos (by omega)]; rfl
              have hag1 := hag q (by omega)
              rw [← hff] at hag1
              have hex1 := hex q (by omega)
              obtain ⟨hcan, hag, hex, hol⟩ := hyes (by assumption)
              have hgk : getI o2 (q : Int) = o2.getD q 0 := by unfold getI; rw [if_pos (by omega)]; rfl
              have hag1 := hag q (by omega)
              rw [← hff] at hag1
              have hex1 := hex q (by omega)
              obtain ⟨hcan, hag, hex, hol⟩ := hyes (by assumption)
              have hgk : getI o2 (q : Int) = o2.getD q 0 := by unfold getI; rw [if_pos (by omega)]; rfl
              have hag1 := hag q (by omega)
              rw [← hff] at hag1
              have hex1 := hex q (by omega)
              have hb34 : ((o2.getD q 0) != (pp.getD q 0)) = false := Bool.eq_false_iff.2 (fun h => bne_iff_ne.1 h (by omega))
              refine hc_draw (by kernel_rfl) 31 [0, 1, 2, 3, 4, 5, 6, 7, 8, 9, 10, 11, 12, 13, 14, 15, 16, 17, 18, 19, 20, 21, 22, 23, 24, 25, 26, 27, 28, 29, 30] (List.take 31 _) (List.drop 31 _) [[], [], [0, 1], [2], [3], [4], [4], [4], [4], [4], [4], [4], [4], [4, 12], [13], [14], [14], [14, 15, 16], [14, 17], [14, 18], [14, 19], [20], [20], [20, 21, 22], [20], [20], [20, 24, 25], [20, 26], [20, 23, 27], [14, 20, 28], [14, 29]] [73, 74, 75, 76, 77, 78, 79, 80, 81, 82, 83, 84, 85, 86, 87, 88, 89, 90, 91, 92, 93, 94, 95, 96, 97, 98, 99, 100, 101, 102, 103] (fun i_ vs_ v_ p_ => match i_ with | 0 => v_ = pu2 ∧ p_ = [] | 1 => v_ = .int .i64 (q : Int) ∧ p_ = [] | 2 => v_ = .int .i64 (o2.getD q 0) ∧ p_ = [] | 3 => v_ = .bool false ∧ p_ = [] | 4 => v_ = .bool false ∧ p_ = [] | 5 => v_ = undef ∧ p_ = [] | 6 => v_ = undef ∧ p_ = [] | 7 => v_ = undef ∧ p_ = [] | 8 => v_ = undef ∧ p_ = [] | 9 => v_ = undef ∧ p_ = [] | 10 => v_ = undef ∧ p_ = [] | 11 => v_ = undef ∧ p_ = [] | 12 => v_ = undef ∧ p_ = [] | 13 => v_ = .bool false ∧ p_ = [] | 14 => v_ = .bool false ∧ p_ = [] | 15 => v_ = U.2 ∧ p_ = [] | 16 => v_ = .int .i64 (q : Int) ∧ p_ = [] | 17 => v_ = elP U.2 (((q : Int)).toNat * 1) ∧ p_ = [] | 18 => v_ = .int .i64 (pp.getD q 0) ∧ p_ = [] | 19 => v_ = .bool true ∧ p_ = [] | 20 => v_ = .bool true ∧ p_ = [] | 21 => v_ = pu2 ∧ p_ = [] | 22 => v_ = .int .i64 (q : Int) ∧ p_ = [] | 23 => v_ = .int .i64 (o2.getD q 0) ∧ p_ = [] | 24 => v_ = U.2 ∧ p_ = [] | 25 => v_ = .int .i64 (q : Int) ∧ p_ = [] | 26 => v_ = elP U.2 (((q : Int)).toNat * 1) ∧ p_ = [] | 27 => v_ = .int .i64 (pp.getD q 0) ∧ p_ = [] | 28 => v_ = .bool false ∧ p_ = [] | 29 => v_ = .bool false ∧ p_ = [] | 30 => v_ = .bool false ∧ p_ = [] | _ => True) (List.take_append_drop 31 _).symm (by kernel_rfl) (by kernel_rfl) rfl rfl ?_ ?_
              ·
                refine ⟨?_, ?_, ?_, ?_, ?_, ?_, ?_, ?_, ?_, ?_, ?_, ?_, ?_, ?_, ?_, ?_, ?_, ?_, ?_, ?_, ?_, ?_, ?_, ?_, ?_, ?_, ?_, ?_, ?_, ?_, ?_, trivial⟩
                ·
                  intro vf pf hR
                  refine Or.inl ⟨rfl, ?_⟩
                  refine rq_less (l' := [rowE 3 1 pu2 o2.length (o2.map (Value.int .i64)), rowE 3 1 pu1 o1.length (o1.map (Value.int .i64)), rowE 3 1 U.2 pp.length (pp.map (Value.int .i64)), rowE 3 1 U.1 fs.length (fs.map (Value.int .i64)), boxE b5 #[.int .i64 n, cv] 54, clE cv rs, rowE 4 1 av bs.length (bs.flatMap blC)]) (sub_cons (d := 11) rfl (sub_nil _)) (List.sublist_append_right _ _) ?_
                  exact rq_v (rv_ev rfl)
                ·
                  intro vf pf hR
                  refine Or.inl ⟨rfl, ?_⟩
                  refine rq_less (l' := [rowE 3 1 pu2 o2.length (o2.map (Value.int .i64)), rowE 3 1 pu1 o1.length (o1.map (Value.int .i64)), rowE 3 1 U.2 pp.length (pp.map (Value.int .i64)), rowE 3 1 U.1 fs.length (fs.map (Value.int .i64)), boxE b5 #[.int .i64 n, cv] 54, clE cv rs, rowE 4 1 av bs.length (bs.flatMap blC)]) (sub_cons (d := 13) rfl (sub_nil _)) (List.sublist_append_right _ _) ?_
                  exact rq_v (rv_ev rfl)
                ·
                  intro vf pf hR
                  have e0 : (vf 0) = pu2 ∧ (pf 0) = [] := hR 0 (by decide)
                  have e1 : (vf 1) = .int .i64 (q : Int) ∧ (pf 1) = [] := hR 1 (by decide)
                  refine Or.inl ⟨rfl, ?_⟩
                  refine rq_less (l' := [rowE 3 1 pu2 o2.length (o2.map (Value.int .i64)), rowE 3 1 pu1 o1.length (o1.map (Value.int .i64)), rowE 3 1 U.2 pp.length (pp.map (Value.int .i64)), rowE 3 1 U.1 fs.length (fs.map (Value.int .i64)), boxE b5 #[.int .i64 n, cv] 54, clE cv rs, rowE 4 1 av bs.length (bs.flatMap blC)]) (sub_cons (d := 73) (congrArg some e0.1) (sub_cons (d := 74) (congrArg some e1.1) (sub_nil _))) (List.sublist_append_right _ _) ?_
                  exact (rq_call (by kernel_rfl) rfl (fun w hm => ret_ans (by have h9 := lawsGet_ans o2 (q : Int) _ w ((rd_row 0 rfl) w hm) (by omega); rw [hgk] at h9; exact h9)))
                ·
                  intro vf pf hR
                  have e2 : (vf 2) = .int .i64 (o2.getD q 0) ∧ (pf 2) = [] := hR 2 (by decide)
                  refine Or.inl ⟨rfl, ?_⟩
                  refine rq_less (l' := [rowE 3 1 pu2 o2.length (o2.map (Value.int .i64)), rowE 3 1 pu1 o1.length (o1.map (Value.int .i64)), rowE 3 1 U.2 pp.length (pp.map (Value.int .i64)), rowE 3 1 U.1 fs.length (fs.map (Value.int .i64)), boxE b5 #[.int .i64 n, cv] 54, clE cv rs, rowE 4 1 av bs.length (bs.flatMap blC)]) (sub_cons (d := 75) (congrArg some e2.1) (sub_nil _)) (List.sublist_append_right _ _) ?_
                  exact rq_mono (rq_v (rv_cmp rfl rfl rfl rfl)) (fun _ _ h => ⟨h.1.trans (congrArg Value.bool hb29), h.2⟩)
                ·
                  intro vf pf hR
                  have e3 : (vf 3) = .bool false ∧ (pf 3) = [] := hR 3 (by decide)
                  refine Or.inl ⟨rfl, ?_⟩
                  refine rq_less (l' := [rowE 3 1 pu2 o2.length (o2.map (Value.int .i64)), rowE 3 1 pu1 o1.length (o1.map (Value.int .i64)), rowE 3 1 U.2 pp.length (pp.map (Value.int .i64)), rowE 3 1 U.1 fs.length (fs.map (Value.int .i64)), boxE b5 #[.int .i64 n, cv] 54, clE cv rs, rowE 4 1 av bs.length (bs.flatMap blC)]) (sub_cons (d := 76) (congrArg some e3.1) (sub_nil _)) (List.sublist_append_right _ _) ?_
                  exact rq_v (rv_ev rfl)
                ·
                  intro vf pf hR
                  have e4 : (vf 4) = .bool false ∧ (pf 4) = [] := hR 4 (by decide)
                  exact Or.inr ⟨want_of (congrArg some e4.1) rfl, rfl, rfl⟩
                ·
                  intro vf pf hR
                  have e4 : (vf 4) = .bool false ∧ (pf 4) = [] := hR 4 (by decide)
                  exact Or.inr ⟨want_of (congrArg some e4.1) rfl, rfl, rfl⟩
                ·
                  intro vf pf hR
                  have e4 : (vf 4) = .bool false ∧ (pf 4) = [] := hR 4 (by decide)
                  exact Or.inr ⟨want_of (congrArg some e4.1) rfl, rfl, rfl⟩
                ·
                  intro vf pf hR
                  have e4 : (vf 4) = .bool false ∧ (pf 4) = [] := hR 4 (by decide)
                  exact Or.inr ⟨want_of (congrArg some e4.1) rfl, rfl, rfl⟩
                ·
                  intro vf pf hR
                  have e4 : (vf 4) = .bool false ∧ (pf 4) = [] := hR 4 (by decide)
                  exact Or.inr ⟨want_of (congrArg some e4.1) rfl, rfl, rfl⟩
                ·
                  intro vf pf hR
                  have e4 : (vf 4) = .bool false ∧ (pf 4) = [] := hR 4 (by decide)
                  exact Or.inr ⟨want_of (congrArg some e4.1) rfl, rfl, rfl⟩
                ·
                  intro vf pf hR
                  have e4 : (vf 4) = .bool false ∧ (pf 4) = [] := hR 4 (by decide)
                  exact Or.inr ⟨want_of (congrArg some e4.1) rfl, rfl, rfl⟩
                ·
                  intro vf pf hR
                  have e4 : (vf 4) = .bool false ∧ (pf 4) = [] := hR 4 (by decide)
                  exact Or.inr ⟨want_of (congrArg some e4.1) rfl, rfl, rfl⟩
                ·
                  intro vf pf hR
                  have e4 : (vf 4) = .bool false ∧ (pf 4) = [] := hR 4 (by decide)
                  have e12 : (vf 12) = undef ∧ (pf 12) = [] := hR 12 (by decide)
                  refine Or.inl ⟨rfl, ?_⟩
                  refine rq_less (l' := [rowE 3 1 pu2 o2.length (o2.map (Value.int .i64)), rowE 3 1 pu1 o1.length (o1.map (Value.int .i64)), rowE 3 1 U.2 pp.length (pp.map (Value.int .i64)), rowE 3 1 U.1 fs.length (fs.map (Value.int .i64)), boxE b5 #[.int .i64 n, cv] 54, clE cv rs, rowE 4 1 av bs.length (bs.flatMap blC)]) (sub_cons (d := 77) (congrArg some e4.1) (sub_cons (d := 85) (congrArg some e12.1) (sub_nil _))) (List.sublist_append_right _ _) ?_
                  exact rq_v (rv_ev rfl)
                ·
                  intro vf pf hR
                  have e13 : (vf 13) = .bool false ∧ (pf 13) = [] := hR 13 (by decide)
                  refine Or.inl ⟨rfl, ?_⟩
                  refine rq_less (l' := [rowE 3 1 pu2 o2.length (o2.map (Value.int .i64)), rowE 3 1 pu1 o1.length (o1.map (Value.int .i64)), rowE 3 1 U.2 pp.length (pp.map (Value.int .i64)), rowE 3 1 U.1 fs.length (fs.map (Value.int .i64)), boxE b5 #[.int .i64 n, cv] 54, clE cv rs, rowE 4 1 av bs.length (bs.flatMap blC)]) (sub_cons (d := 86) (congrArg some e13.1) (sub_nil _)) (List.sublist_append_right _ _) ?_
                  exact rq_v (rv_ev rfl)
                ·
                  intro vf pf hR
                  have e14 : (vf 14) = .bool false ∧ (pf 14) = [] := hR 14 (by decide)
                  refine Or.inl ⟨want_of (congrArg some e14.1) rfl, ?_⟩
                  refine rq_less (l' := [rowE 3 1 pu2 o2.length (o2.map (Value.int .i64)), rowE 3 1 pu1 o1.length (o1.map (Value.int .i64)), rowE 3 1 U.2 pp.length (pp.map (Value.int .i64)), rowE 3 1 U.1 fs.length (fs.map (Value.int .i64)), boxE b5 #[.int .i64 n, cv] 54, clE cv rs, rowE 4 1 av bs.length (bs.flatMap blC)]) (sub_cons (d := 6) rfl (sub_nil _)) (List.sublist_append_right _ _) ?_
                  exact rq_v (rv_ev rfl)
                ·
                  intro vf pf hR
                  have e14 : (vf 14) = .bool false ∧ (pf 14) = [] := hR 14 (by decide)
                  refine Or.inl ⟨want_of (congrArg some e14.1) rfl, ?_⟩
                  refine rq_less (l' := [rowE 3 1 pu2 o2.length (o2.map (Value.int .i64)), rowE 3 1 pu1 o1.length (o1.map (Value.int .i64)), rowE 3 1 U.2 pp.length (pp.map (Value.int .i64)), rowE 3 1 U.1 fs.length (fs.map (Value.int .i64)), boxE b5 #[.int .i64 n, cv] 54, clE cv rs, rowE 4 1 av bs.length (bs.flatMap blC)]) (sub_cons (d := 13) rfl (sub_nil _)) (List.sublist_append_right _ _) ?_
                  exact rq_v (rv_ev rfl)
                ·
                  intro vf pf hR
                  have e14 : (vf 14) = .bool false ∧ (pf 14) = [] := hR 14 (by decide)
                  have e15 : (vf 15) = U.2 ∧ (pf 15) = [] := hR 15 (by decide)
                  have e16 : (vf 16) = .int .i64 (q : Int) ∧ (pf 16) = [] := hR 16 (by decide)
                  refine Or.inl ⟨want_of (congrArg some e14.1) rfl, ?_⟩
                  refine rq_less (l' := [rowE 3 1 pu2 o2.length (o2.map (Value.int .i64)), rowE 3 1 pu1 o1.length (o1.map (Value.int .i64)), rowE 3 1 U.2 pp.length (pp.map (Value.int .i64)), rowE 3 1 U.1 fs.length (fs.map (Value.int .i64)), boxE b5 #[.int .i64 n, cv] 54, clE cv rs, rowE 4 1 av bs.length (bs.flatMap blC)]) (sub_cons (d := 88) (congrArg some e15.1) (sub_cons (d := 89) (congrArg some e16.1) (sub_nil _))) (List.sublist_append_right _ _) ?_
                  exact rq_v (rv_index (s := 1) rfl Try.underlying43 (by kernel_rfl) rfl rfl (rd_row 2 rfl) (by omega) (by first | omega | (simp only [List.length_set]; omega)))
                ·
                  intro vf pf hR
                  have e14 : (vf 14) = .bool false ∧ (pf 14) = [] := hR 14 (by decide)
                  have e17 : (vf 17) = elP U.2 (((q : Int)).toNat * 1) ∧ (pf 17) = [] := hR 17 (by decide)
                  refine Or.inl ⟨want_of (congrArg some e14.1) rfl, ?_⟩
                  refine rq_less (l' := [rowE 3 1 pu2 o2.length (o2.map (Value.int .i64)), rowE 3 1 pu1 o1.length (o1.map (Value.int .i64)), rowE 3 1 U.2 pp.length (pp.map (Value.int .i64)), rowE 3 1 U.1 fs.length (fs.map (Value.int .i64)), boxE b5 #[.int .i64 n, cv] 54, clE cv rs, rowE 4 1 av bs.length (bs.flatMap blC)]) (sub_cons (d := 90) (congrArg some e17.1) (sub_nil _)) (List.sublist_append_right _ _) ?_
                  exact rq_v (rv_loadEl (u := .int .i64 (pp.getD q 0)) rfl (by kernel_rfl) rfl (rd_row 2 rfl) (ints_at1 (show _ < pp.length by first | omega | (simp only [List.length_set]; omega))))
                ·
                  intro vf pf hR
                  have e14 : (vf 14) = .bool false ∧ (pf 14) = [] := hR 14 (by decide)
                  have e18 : (vf 18) = .int .i64 (pp.getD q 0) ∧ (pf 18) = [] := hR 18 (by decide)
                  refine Or.inl ⟨want_of (congrArg some e14.1) rfl, ?_⟩
                  refine rq_less (l' := [rowE 3 1 pu2 o2.length (o2.map (Value.int .i64)), rowE 3 1 pu1 o1.length (o1.map (Value.int .i64)), rowE 3 1 U.2 pp.length (pp.map (Value.int .i64)), rowE 3 1 U.1 fs.length (fs.map (Value.int .i64)), boxE b5 #[.int .i64 n, cv] 54, clE cv rs, rowE 4 1 av bs.length (bs.flatMap blC)]) (sub_cons (d := 91) (congrArg some e18.1) (sub_nil _)) (List.sublist_append_right _ _) ?_
                  exact rq_mono (rq_v (rv_cmp rfl rfl rfl rfl)) (fun _ _ h => ⟨h.1.trans (congrArg Value.bool hb33), h.2⟩)
                ·
                  intro vf pf hR
                  have e14 : (vf 14) = .bool false ∧ (pf 14) = [] := hR 14 (by decide)
                  have e19 : (vf 19) = .bool true ∧ (pf 19) = [] := hR 19 (by decide)
                  refine Or.inl ⟨want_of (congrArg some e14.1) rfl, ?_⟩
                  refine rq_less (l' := [rowE 3 1 pu2 o2.length (o2.map (Value.int .i64)), rowE 3 1 pu1 o1.length (o1.map (Value.int .i64)), rowE 3 1 U.2 pp.length (pp.map (Value.int .i64)), rowE 3 1 U.1 fs.length (fs.map (Value.int .i64)), boxE b5 #[.int .i64 n, cv] 54, clE cv rs, rowE 4 1 av bs.length (bs.flatMap blC)]) (sub_cons (d := 92) (congrArg some e19.1) (sub_nil _)) (List.sublist_append_right _ _) ?_
                  exact rq_v (rv_ev rfl)
                ·
                  intro vf pf hR
                  have e20 : (vf 20) = .bool true ∧ (pf 20) = [] := hR 20 (by decide)
                  refine Or.inl ⟨want_of (congrArg some e20.1) rfl, ?_⟩
                  refine rq_less (l' := [rowE 3 1 pu2 o2.length (o2.map (Value.int .i64)), rowE 3 1 pu1 o1.length (o1.map (Value.int .i64)), rowE 3 1 U.2 pp.length (pp.map (Value.int .i64)), rowE 3 1 U.1 fs.length (fs.map (Value.int .i64)), boxE b5 #[.int .i64 n, cv] 54, clE cv rs, rowE 4 1 av bs.length (bs.flatMap blC)]) (sub_cons (d := 11) rfl (sub_nil _)) (List.sublist_append_right _ _) ?_
                  exact rq_v (rv_ev rfl)
                ·
                  intro vf pf hR
                  have e20 : (vf 20) = .bool true ∧ (pf 20) = [] := hR 20 (by decide)
                  refine Or.inl ⟨want_of (congrArg some e20.1) rfl, ?_⟩
                  refine rq_less (l' := [rowE 3 1 pu2 o2.length (o2.map (Value.int .i64)), rowE 3 1 pu1 o1.length (o1.map (Value.int .i64)), rowE 3 1 U.2 pp.length (pp.map (Value.int .i64)), rowE 3 1 U.1 fs.length (fs.map (Value.int .i64)), boxE b5 #[.int .i64 n, cv] 54, clE cv rs, rowE 4 1 av bs.length (bs.flatMap blC)]) (sub_cons (d := 13) rfl (sub_nil _)) (List.sublist_append_right _ _) ?_
                  exact rq_v (rv_ev rfl)
                ·
                  intro vf pf hR
                  have e20 : (vf 20) = .bool true ∧ (pf 20) = [] := hR 20 (by decide)
                  have e21 : (vf 21) = pu2 ∧ (pf 21) = [] := hR 21 (by decide)
                  have e22 : (vf 22) = .int .i64 (q : Int) ∧ (pf 22) = [] := hR 22 (by decide)
                  refine Or.inl ⟨want_of (congrArg some e20.1) rfl, ?_⟩
                  refine rq_less (l' := [rowE 3 1 pu2 o2.length (o2.map (Value.int .i64)), rowE 3 1 pu1 o1.length (o1.map (Value.int .i64)), rowE 3 1 U.2 pp.length (pp.map (Value.int .i64)), rowE 3 1 U.1 fs.length (fs.map (Value.int .i64)), boxE b5 #[.int .i64 n, cv] 54, clE cv rs, rowE 4 1 av bs.length (bs.flatMap blC)]) (sub_cons (d := 94) (congrArg some e21.1) (sub_cons (d := 95) (congrArg some e22.1) (sub_nil _))) (List.sublist_append_right _ _) ?_
                  exact (rq_call (by kernel_rfl) rfl (fun w hm => ret_ans (by have h9 := lawsGet_ans o2 (q : Int) _ w ((rd_row 0 rfl) w hm) (by omega); rw [hgk] at h9; exact h9)))
                ·
                  intro vf pf hR
                  have e20 : (vf 20) = .bool true ∧ (pf 20) = [] := hR 20 (by decide)
                  refine Or.inl ⟨want_of (congrArg some e20.1) rfl, ?_⟩
                  refine rq_less (l' := [rowE 3 1 pu2 o2.length (o2.map (Value.int .i64)), rowE 3 1 pu1 o1.length (o1.map (Value.int .i64)), rowE 3 1 U.2 pp.length (pp.map (Value.int .i64)), rowE 3 1 U.1 fs.length (fs.map (Value.int .i64)), boxE b5 #[.int .i64 n, cv] 54, clE cv rs, rowE 4 1 av bs.length (bs.flatMap blC)]) (sub_cons (d := 6) rfl (sub_nil _)) (List.sublist_append_right _ _) ?_
                  exact rq_v (rv_ev rfl)
                ·
                  intro vf pf hR
                  have e20 : (vf 20) = .bool true ∧ (pf 20) = [] := hR 20 (by decide)
                  refine Or.inl ⟨want_of (congrArg some e20.1) rfl, ?_⟩
                  refine rq_less (l' := [rowE 3 1 pu2 o2.length (o2.map (Value.int .i64)), rowE 3 1 pu1 o1.length (o1.map (Value.int .i64)), rowE 3 1 U.2 pp.length (pp.map (Value.int .i64)), rowE 3 1 U.1 fs.length (fs.map (Value.int .i64)), boxE b5 #[.int .i64 n, cv] 54, clE cv rs, rowE 4 1 av bs.length (bs.flatMap blC)]) (sub_cons (d := 13) rfl (sub_nil _)) (List.sublist_append_right _ _) ?_
                  exact rq_v (rv_ev rfl)
                ·
                  intro vf pf hR
                  have e20 : (vf 20) = .bool true ∧ (pf 20) = [] := hR 20 (by decide)
                  have e24 : (vf 24) = U.2 ∧ (pf 24) = [] := hR 24 (by decide)
                  have e25 : (vf 25) = .int .i64 (q : Int) ∧ (pf 25) = [] := hR 25 (by decide)
                  refine Or.inl ⟨want_of (congrArg some e20.1) rfl, ?_⟩
                  refine rq_less (l' := [rowE 3 1 pu2 o2.length (o2.map (Value.int .i64)), rowE 3 1 pu1 o1.length (o1.map (Value.int .i64)), rowE 3 1 U.2 pp.length (pp.map (Value.int .i64)), rowE 3 1 U.1 fs.length (fs.map (Value.int .i64)), boxE b5 #[.int .i64 n, cv] 54, clE cv rs, rowE 4 1 av bs.length (bs.flatMap blC)]) (sub_cons (d := 97) (congrArg some e24.1) (sub_cons (d := 98) (congrArg some e25.1) (sub_nil _))) (List.sublist_append_right _ _) ?_
                  exact rq_v (rv_index (s := 1) rfl Try.underlying43 (by kernel_rfl) rfl rfl (rd_row 2 rfl) (by omega) (by first | omega | (simp only [List.length_set]; omega)))
                ·
                  intro vf pf hR
                  have e20 : (vf 20) = .bool true ∧ (pf 20) = [] := hR 20 (by decide)
                  have e26 : (vf 26) = elP U.2 (((q : Int)).toNat * 1) ∧ (pf 26) = [] := hR 26 (by decide)
                  refine Or.inl ⟨want_of (congrArg some e20.1) rfl, ?_⟩
                  refine rq_less (l' := [rowE 3 1 pu2 o2.length (o2.map (Value.int .i64)), rowE 3 1 pu1 o1.length (o1.map (Value.int .i64)), rowE 3 1 U.2 pp.length (pp.map (Value.int .i64)), rowE 3 1 U.1 fs.length (fs.map (Value.int .i64)), boxE b5 #[.int .i64 n, cv] 54, clE cv rs, rowE 4 1 av bs.length (bs.flatMap blC)]) (sub_cons (d := 99) (congrArg some e26.1) (sub_nil _)) (List.sublist_append_right _ _) ?_
                  exact rq_v (rv_loadEl (u := .int .i64 (pp.getD q 0)) rfl (by kernel_rfl) rfl (rd_row 2 rfl) (ints_at1 (show _ < pp.length by first | omega | (simp only [List.length_set]; omega))))
                ·
                  intro vf pf hR
                  have e20 : (vf 20) = .bool true ∧ (pf 20) = [] := hR 20 (by decide)
                  have e23 : (vf 23) = .int .i64 (o2.getD q 0) ∧ (pf 23) = [] := hR 23 (by decide)
                  have e27 : (vf 27) = .int .i64 (pp.getD q 0) ∧ (pf 27) = [] := hR 27 (by decide)
                  refine Or.inl ⟨want_of (congrArg some e20.1) rfl, ?_⟩
                  refine rq_less (l' := [rowE 3 1 pu2 o2.length (o2.map (Value.int .i64)), rowE 3 1 pu1 o1.length (o1.map (Value.int .i64)), rowE 3 1 U.2 pp.length (pp.map (Value.int .i64)), rowE 3 1 U.1 fs.length (fs.map (Value.int .i64)), boxE b5 #[.int .i64 n, cv] 54, clE cv rs, rowE 4 1 av bs.length (bs.flatMap blC)]) (sub_cons (d := 96) (congrArg some e23.1) (sub_cons (d := 100) (congrArg some e27.1) (sub_nil _))) (List.sublist_append_right _ _) ?_
                  exact rq_mono (rq_v (rv_cmp rfl rfl rfl rfl)) (fun _ _ h => ⟨h.1.trans (congrArg Value.bool hb34), h.2⟩)
                ·
                  intro vf pf hR
                  have e14 : (vf 14) = .bool false ∧ (pf 14) = [] := hR 14 (by decide)
                  have e20 : (vf 20) = .bool true ∧ (pf 20) = [] := hR 20 (by decide)
                  have e28 : (vf 28) = .bool false ∧ (pf 28) = [] := hR 28 (by decide)
                  refine Or.inl ⟨want_of (congrArg some e14.1) rfl, ?_⟩
                  refine rq_less (l' := [rowE 3 1 pu2 o2.length (o2.map (Value.int .i64)), rowE 3 1 pu1 o1.length (o1.map (Value.int .i64)), rowE 3 1 U.2 pp.length (pp.map (Value.int .i64)), rowE 3 1 U.1 fs.length (fs.map (Value.int .i64)), boxE b5 #[.int .i64 n, cv] 54, clE cv rs, rowE 4 1 av bs.length (bs.flatMap blC)]) (sub_cons (d := 93) (congrArg some e20.1) (sub_cons (d := 101) (congrArg some e28.1) (sub_nil _))) (List.sublist_append_right _ _) ?_
                  exact rq_v (rv_ev rfl)
                ·
                  intro vf pf hR
                  have e14 : (vf 14) = .bool false ∧ (pf 14) = [] := hR 14 (by decide)
                  have e29 : (vf 29) = .bool false ∧ (pf 29) = [] := hR 29 (by decide)
                  refine Or.inl ⟨rfl, ?_⟩
                  refine rq_less (l' := [rowE 3 1 pu2 o2.length (o2.map (Value.int .i64)), rowE 3 1 pu1 o1.length (o1.map (Value.int .i64)), rowE 3 1 U.2 pp.length (pp.map (Value.int .i64)), rowE 3 1 U.1 fs.length (fs.map (Value.int .i64)), boxE b5 #[.int .i64 n, cv] 54, clE cv rs, rowE 4 1 av bs.length (bs.flatMap blC)]) (sub_cons (d := 87) (congrArg some e14.1) (sub_cons (d := 102) (congrArg some e29.1) (sub_nil _))) (List.sublist_append_right _ _) ?_
                  exact rq_v (rv_ev rfl)
              ·
                intro vf pf hR
                have e30 : (vf 30) = .bool false ∧ (pf 30) = [] := hR 30 (by decide)
                refine hl_less (l' := [rowE 3 1 pu2 o2.length (o2.map (Value.int .i64)), rowE 3 1 pu1 o1.length (o1.map (Value.int .i64)), rowE 3 1 U.2 pp.length (pp.map (Value.int .i64)), rowE 3 1 U.1 fs.length (fs.map (Value.int .i64)), boxE b5 #[.int .i64 n, cv] 54, clE cv rs, rowE 4 1 av bs.length (bs.flatMap blC)]) (sub_cons (d := 0) rfl (sub_cons (d := 2) rfl (sub_cons (d := 3) rfl (sub_cons (d := 4) rfl (sub_cons (d := 5) rfl (sub_cons (d := 6) rfl (sub_cons (d := 7) rfl (sub_cons (d := 10) rfl (sub_cons (d := 11) rfl (sub_cons (d := 12) rfl (sub_cons (d := 13) rfl (sub_cons (d := 15) rfl (sub_cons (d := 26) rfl (sub_cons (d := 59) rfl (sub_cons (d := 66) rfl (sub_cons (d := 70) rfl (sub_cons (d := 103) (congrArg some e30.1) (sub_nil _)))))))))))))))))) (List.sublist_append_right _ _) ?_
                simp only [List.drop_succ_cons, List.drop_zero]
                refine hl_less (sub_cons (d := 0) rfl (sub_cons (d := 2) rfl (sub_cons (d := 3) rfl (sub_cons (d := 4) rfl (sub_cons (d := 5) rfl (sub_cons (d := 6) rfl (sub_cons (d := 7) rfl (sub_cons (d := 10) rfl (sub_cons (d := 11) rfl (sub_cons (d := 12) rfl (sub_cons (d := 13) rfl (sub_cons (d := 15) rfl (sub_cons (d := 26) rfl (sub_cons (d := 59) rfl (sub_cons (d := 66) rfl (sub_cons (d := 70) rfl (sub_cons (d := 103) rfl (sub_nil _)))))))))))))))))) (.refl _) ?_
                refine hl_nil ?_
                refine hq_then ?_
                refine hc_false rfl ?_
                refine hc_skip ?_
                refine hq_block_normal ?_
                refine hq_then ?_
                refine hc_region ?_
                refine hl_v rfl rfl rfl (rv_ev rfl) ?_
                refine hl_v rfl rfl rfl (rv_add rfl rfl rfl (by constructor <;> omega)) ?_
                refine hl_v rfl rfl rfl (rv_ev rfl) ?_
                refine hl_less (sub_cons (d := 0) rfl (sub_cons (d := 2) rfl (sub_cons (d := 3) rfl (sub_cons (d := 4) rfl (sub_cons (d := 5) rfl (sub_cons (d := 6) rfl (sub_cons (d := 7) rfl (sub_cons (d := 10) rfl (sub_cons (d := 11) rfl (sub_cons (d := 12) rfl (sub_cons (d := 13) rfl (sub_cons (d := 15) rfl (sub_cons (d := 26) rfl (sub_cons (d := 59) rfl (sub_cons (d := 66) rfl (sub_cons (d := 70) rfl (sub_cons (d := 103) rfl (sub_nil _)))))))))))))))))) (.refl _) ?_
                refine hl_nil ?_
                exact hq_round1 (q + 1) (by omega) (by omega) (sub_cons (d := 0) rfl (sub_cons (d := 2) rfl (sub_cons (d := 3) rfl (sub_cons (d := 4) rfl (sub_cons (d := 5) rfl (sub_cons (d := 6) rfl (sub_cons (d := 7) rfl (sub_cons (d := 10) rfl (sub_cons (d := 11) rfl (sub_cons (d := 12) rfl (sub_cons (d := 13) rfl (sub_cons (d := 15) rfl (sub_cons (d := 26) rfl (sub_cons (d := 59) rfl (sub_cons (d := 66) rfl (sub_nil _)))))))))))))))) ((.cons_cons _ (.cons_cons _ (.cons_cons _ (.cons_cons _ (.cons_cons _ (.cons_cons _ (.cons_cons _ .slnil))))))))
            ·
              have hb33p : pp.getD q 0 = 0 := by simpa using hb33
              obtain ⟨hcan, hag, hex, hol⟩ := hyes (by assumption)
              have hgk : getI o2 (q : Int) = o2.getD q 0 := by unfold getI; rw [if_pos (by omega)]; rfl
              have hag1 := hag q (by omega)
              rw [← hff] at hag1
              have hex1 := hex q (by omega)
              obtain ⟨hcan, hag, hex, hol⟩ := hyes (by assumption)
              have hgk : getI o2 (q : Int) = o2.getD q 0 := by unfold getI; rw [if_pos (by omega)]; rfl
              have hag1 := hag q (by omega)
              rw [← hff] at hag1
              have hex1 := hex q (by omega)
              obtain ⟨hcan, hag, hex, hol⟩ := hyes (by assumption)
              have hgk : getI o2 (q : Int) = o2.getD q 0 := by unfold getI; rw [if_pos (by omega)]; rfl
              have hag1 := hag q (by omega)
              rw [← hff] at hag1
              have hex1 := hex q (by omega)
              obtain ⟨hcan, hag, hex, hol⟩ := hyes (by assumption)
              have hgk : getI o2 (q : Int) = o2.getD q 0 := by unfold getI; rw [if_pos (by omega)]; rfl
              have hag1 := hag q (by omega)
              rw [← hff] at hag1
              have hex1 := hex q (by omega)
              obtain ⟨hcan, hag, hex, hol⟩ := hyes (by assumption)
              have hgk : getI o2 (q : Int) = o2.getD q 0 := by unfold getI; rw [if_pos (by omega)]; rfl
              have hag1 := hag q (by omega)
              rw [← hff] at hag1
              have hex1 := hex q (by omega)
              obtain ⟨hcan, hag, hex, hol⟩ := hyes (by assumption)
              have hgk : getI o2 (q : Int) = o2.getD q 0 := by unfold getI; rw [if_pos (by omega)]; rfl
              have hag1 := hag q (by omega)
              rw [← hff] at hag1
              have hex1 := hex q (by omega)
              obtain ⟨hcan, hag, hex, hol⟩ := hyes (by assumption)
              have hgk : getI o2 (q : Int) = o2.getD q 0 := by unfold getI; rw [if_pos (by omega)]; rfl
              have hag1 := hag q (by omega)
              rw [← hff] at hag1
              have hex1 := hex q (by omega)
              refine hc_draw (by kernel_rfl) 31 [0, 1, 2, 3, 4, 5, 6, 7, 8, 9, 10, 11, 12, 13, 14, 15, 16, 17, 18, 19, 20, 21, 22, 23, 24, 25, 26, 27, 28, 29, 30] (List.take 31 _) (List.drop 31 _) [[], [], [0, 1], [2], [3], [4], [4], [4], [4], [4], [4], [4], [4], [4, 12], [13], [14], [14], [14, 15, 16], [14, 17], [14, 18], [14, 19], [20], [20], [20], [20], [20], [20], [20], [20], [14, 20, 28], [14, 29]] [73, 74, 75, 76, 77, 78, 79, 80, 81, 82, 83, 84, 85, 86, 87, 88, 89, 90, 91, 92, 93, 94, 95, 96, 97, 98, 99, 100, 101, 102, 103] (fun i_ vs_ v_ p_ => match i_ with | 0 => v_ = pu2 ∧ p_ = [] | 1 => v_ = .int .i64 (q : Int) ∧ p_ = [] | 2 => v_ = .int .i64 (o2.getD q 0) ∧ p_ = [] | 3 => v_ = .bool false ∧ p_ = [] | 4 => v_ = .bool false ∧ p_ = [] | 5 => v_ = undef ∧ p_ = [] | 6 => v_ = undef ∧ p_ = [] | 7 => v_ = undef ∧ p_ = [] | 8 => v_ = undef ∧ p_ = [] | 9 => v_ = undef ∧ p_ = [] | 10 => v_ = undef ∧ p_ = [] | 11 => v_ = undef ∧ p_ = [] | 12 => v_ = undef ∧ p_ = [] | 13 => v_ = .bool false ∧ p_ = [] | 14 => v_ = .bool false ∧ p_ = [] | 15 => v_ = U.2 ∧ p_ = [] | 16 => v_ = .int .i64 (q : Int) ∧ p_ = [] | 17 => v_ = elP U.2 (((q : Int)).toNat * 1) ∧ p_ = [] | 18 => v_ = .int .i64 (pp.getD q 0) ∧ p_ = [] | 19 => v_ = .bool false ∧ p_ = [] | 20 => v_ = .bool false ∧ p_ = [] | 21 => v_ = undef ∧ p_ = [] | 22 => v_ = undef ∧ p_ = [] | 23 => v_ = undef ∧ p_ = [] | 24 => v_ = undef ∧ p_ = [] | 25 => v_ = undef ∧ p_ = [] | 26 => v_ = undef ∧ p_ = [] | 27 => v_ = undef ∧ p_ = [] | 28 => v_ = undef ∧ p_ = [] | 29 => v_ = .bool false ∧ p_ = [] | 30 => v_ = .bool false ∧ p_ = [] | _ => True) (List.take_append_drop 31 _).symm (by kernel_rfl) (by kernel_rfl) rfl rfl ?_ ?_
              ·
                refine ⟨?_, ?_, ?_, ?_, ?_, ?_, ?_, ?_, ?_, ?_, ?_, ?_, ?_, ?_, ?_, ?_, ?_, ?_, ?_, ?_, ?_, ?_, ?_, ?_, ?_, ?_, ?_, ?_, ?_, ?_, ?_, trivial⟩
                ·
                  intro vf pf hR
                  refine Or.inl ⟨rfl, ?_⟩
                  refine rq_less (l' := [rowE 3 1 pu2 o2.length (o2.map (Value.int .i64)), rowE 3 1 pu1 o1.length (o1.map (Value.int .i64)), rowE 3 1 U.2 pp.length (pp.map (Value.int .i64)), rowE 3 1 U.1 fs.length (fs.map (Value.int .i64)), boxE b5 #[.int .i64 n, cv] 54, clE cv rs, rowE 4 1 av bs.length (bs.flatMap blC)]) (sub_cons (d := 11) rfl (sub_nil _)) (List.sublist_append_right _ _) ?_
                  exact rq_v (rv_ev rfl)
                ·
                  intro vf pf hR
                  refine Or.inl ⟨rfl, ?_⟩
                  refine rq_less (l' := [rowE 3 1 pu2 o2.length (o2.map (Value.int .i64)), rowE 3 1 pu1 o1.length (o1.map (Value.int .i64)), rowE 3 1 U.2 pp.length (pp.map (Value.int .i64)), rowE 3 1 U.1 fs.length (fs.map (Value.int .i64)), boxE b5 #[.int .i64 n, cv] 54, clE cv rs, rowE 4 1 av bs.length (bs.flatMap blC)]) (sub_cons (d := 13) rfl (sub_nil _)) (List.sublist_append_right _ _) ?_
                  exact rq_v (rv_ev rfl)
                ·
                  intro vf pf hR
                  have e0 : (vf 0) = pu2 ∧ (pf 0) = [] := hR 0 (by decide)
                  have e1 : (vf 1) = .int .i64 (q : Int) ∧ (pf 1) = [] := hR 1 (by decide)
                  refine Or.inl ⟨rfl, ?_⟩
                  refine rq_less (l' := [rowE 3 1 pu2 o2.length (o2.map (Value.int .i64)), rowE 3 1 pu1 o1.length (o1.map (Value.int .i64)), rowE 3 1 U.2 pp.length (pp.map (Value.int .i64)), rowE 3 1 U.1 fs.length (fs.map (Value.int .i64)), boxE b5 #[.int .i64 n, cv] 54, clE cv rs, rowE 4 1 av bs.length (bs.flatMap blC)]) (sub_cons (d := 73) (congrArg some e0.1) (sub_cons (d := 74) (congrArg some e1.1) (sub_nil _))) (List.sublist_append_right _ _) ?_
                  exact (rq_call (by kernel_rfl) rfl (fun w hm => ret_ans (by have h9 := lawsGet_ans o2 (q : Int) _ w ((rd_row 0 rfl) w hm) (by omega); rw [hgk] at h9; exact h9)))
                ·
                  intro vf pf hR
                  have e2 : (vf 2) = .int .i64 (o2.getD q 0) ∧ (pf 2) = [] := hR 2 (by decide)
                  refine Or.inl ⟨rfl, ?_⟩
                  refine rq_less (l' := [rowE 3 1 pu2 o2.length (o2.map (Value.int .i64)), rowE 3 1 pu1 o1.length (o1.map (Value.int .i64)), rowE 3 1 U.2 pp.length (pp.map (Value.int .i64)), rowE 3 1 U.1 fs.length (fs.map (Value.int .i64)), boxE b5 #[.int .i64 n, cv] 54, clE cv rs, rowE 4 1 av bs.length (bs.flatMap blC)]) (sub_cons (d := 75) (congrArg some e2.1) (sub_nil _)) (List.sublist_append_right _ _) ?_
                  exact rq_mono (rq_v (rv_cmp rfl rfl rfl rfl)) (fun _ _ h => ⟨h.1.trans (congrArg Value.bool hb29), h.2⟩)
                ·
                  intro vf pf hR
                  have e3 : (vf 3) = .bool false ∧ (pf 3) = [] := hR 3 (by decide)
                  refine Or.inl ⟨rfl, ?_⟩
                  refine rq_less (l' := [rowE 3 1 pu2 o2.length (o2.map (Value.int .i64)), rowE 3 1 pu1 o1.length (o1.map (Value.int .i64)), rowE 3 1 U.2 pp.length (pp.map (Value.int .i64)), rowE 3 1 U.1 fs.length (fs.map (Value.int .i64)), boxE b5 #[.int .i64 n, cv] 54, clE cv rs, rowE 4 1 av bs.length (bs.flatMap blC)]) (sub_cons (d := 76) (congrArg some e3.1) (sub_nil _)) (List.sublist_append_right _ _) ?_
                  exact rq_v (rv_ev rfl)
                ·
                  intro vf pf hR
                  have e4 : (vf 4) = .bool false ∧ (pf 4) = [] := hR 4 (by decide)
                  exact Or.inr ⟨want_of (congrArg some e4.1) rfl, rfl, rfl⟩
                ·
                  intro vf pf hR
                  have e4 : (vf 4) = .bool false ∧ (pf 4) = [] := hR 4 (by decide)
                  exact Or.inr ⟨want_of (congrArg some e4.1) rfl, rfl, rfl⟩
                ·
                  intro vf pf hR
                  have e4 : (vf 4) = .bool false ∧ (pf 4) = [] := hR 4 (by decide)
                  exact Or.inr ⟨want_of (congrArg some e4.1) rfl, rfl, rfl⟩
                ·
                  intro vf pf hR
                  have e4 : (vf 4) = .bool false ∧ (pf 4) = [] := hR 4 (by decide)
                  exact Or.inr ⟨want_of (congrArg some e4.1) rfl, rfl, rfl⟩
                ·
                  intro vf pf hR
                  have e4 : (vf 4) = .bool false ∧ (pf 4) = [] := hR 4 (by decide)
                  exact Or.inr ⟨want_of (congrArg some e4.1) rfl, rfl, rfl⟩
                ·
                  intro vf pf hR
                  have e4 : (vf 4) = .bool false ∧ (pf 4) = [] := hR 4 (by decide)
                  exact Or.inr ⟨want_of (congrArg some e4.1) rfl, rfl, rfl⟩
                ·
                  intro vf pf hR
                  have e4 : (vf 4) = .bool false ∧ (pf 4) = [] := hR 4 (by decide)
                  exact Or.inr ⟨want_of (congrArg some e4.1) rfl, rfl, rfl⟩
                ·
                  intro vf pf hR
                  have e4 : (vf 4) = .bool false ∧ (pf 4) = [] := hR 4 (by decide)
                  exact Or.inr ⟨want_of (congrArg some e4.1) rfl, rfl, rfl⟩
                ·
                  intro vf pf hR
                  have e4 : (vf 4) = .bool false ∧ (pf 4) = [] := hR 4 (by decide)
                  have e12 : (vf 12) = undef ∧ (pf 12) = [] := hR 12 (by decide)
                  refine Or.inl ⟨rfl, ?_⟩
                  refine rq_less (l' := [rowE 3 1 pu2 o2.length (o2.map (Value.int .i64)), rowE 3 1 pu1 o1.length (o1.map (Value.int .i64)), rowE 3 1 U.2 pp.length (pp.map (Value.int .i64)), rowE 3 1 U.1 fs.length (fs.map (Value.int .i64)), boxE b5 #[.int .i64 n, cv] 54, clE cv rs, rowE 4 1 av bs.length (bs.flatMap blC)]) (sub_cons (d := 77) (congrArg some e4.1) (sub_cons (d := 85) (congrArg some e12.1) (sub_nil _))) (List.sublist_append_right _ _) ?_
                  exact rq_v (rv_ev rfl)
                ·
                  intro vf pf hR
                  have e13 : (vf 13) = .bool false ∧ (pf 13) = [] := hR 13 (by decide)
                  refine Or.inl ⟨rfl, ?_⟩
                  refine rq_less (l' := [rowE 3 1 pu2 o2.length (o2.map (Value.int .i64)), rowE 3 1 pu1 o1.length (o1.map (Value.int .i64)), rowE 3 1 U.2 pp.length (pp.map (Value.int .i64)), rowE 3 1 U.1 fs.length (fs.map (Value.int .i64)), boxE b5 #[.int .i64 n, cv] 54, clE cv rs, rowE 4 1 av bs.length (bs.flatMap blC)]) (sub_cons (d := 86) (congrArg some e13.1) (sub_nil _)) (List.sublist_append_right _ _) ?_
                  exact rq_v (rv_ev rfl)
                ·
                  intro vf pf hR
                  have e14 : (vf 14) = .bool false ∧ (pf 14) = [] := hR 14 (by decide)
                  refine Or.inl ⟨want_of (congrArg some e14.1) rfl, ?_⟩
                  refine rq_less (l' := [rowE 3 1 pu2 o2.length (o2.map (Value.int .i64)), rowE 3 1 pu1 o1.length (o1.map (Value.int .i64)), rowE 3 1 U.2 pp.length (pp.map (Value.int .i64)), rowE 3 1 U.1 fs.length (fs.map (Value.int .i64)), boxE b5 #[.int .i64 n, cv] 54, clE cv rs, rowE 4 1 av bs.length (bs.flatMap blC)]) (sub_cons (d := 6) rfl (sub_nil _)) (List.sublist_append_right _ _) ?_
                  exact rq_v (rv_ev rfl)
                ·
                  intro vf pf hR
                  have e14 : (vf 14) = .bool false ∧ (pf 14) = [] := hR 14 (by decide)
                  refine Or.inl ⟨want_of (congrArg some e14.1) rfl, ?_⟩
                  refine rq_less (l' := [rowE 3 1 pu2 o2.length (o2.map (Value.int .i64)), rowE 3 1 pu1 o1.length (o1.map (Value.int .i64)), rowE 3 1 U.2 pp.length (pp.map (Value.int .i64)), rowE 3 1 U.1 fs.length (fs.map (Value.int .i64)), boxE b5 #[.int .i64 n, cv] 54, clE cv rs, rowE 4 1 av bs.length (bs.flatMap blC)]) (sub_cons (d := 13) rfl (sub_nil _)) (List.sublist_append_right _ _) ?_
                  exact rq_v (rv_ev rfl)
                ·
                  intro vf pf hR
                  have e14 : (vf 14) = .bool false ∧ (pf 14) = [] := hR 14 (by decide)
                  have e15 : (vf 15) = U.2 ∧ (pf 15) = [] := hR 15 (by decide)
                  have e16 : (vf 16) = .int .i64 (q : Int) ∧ (pf 16) = [] := hR 16 (by decide)
                  refine Or.inl ⟨want_of (congrArg some e14.1) rfl, ?_⟩
                  refine rq_less (l' := [rowE 3 1 pu2 o2.length (o2.map (Value.int .i64)), rowE 3 1 pu1 o1.length (o1.map (Value.int .i64)), rowE 3 1 U.2 pp.length (pp.map (Value.int .i64)), rowE 3 1 U.1 fs.length (fs.map (Value.int .i64)), boxE b5 #[.int .i64 n, cv] 54, clE cv rs, rowE 4 1 av bs.length (bs.flatMap blC)]) (sub_cons (d := 88) (congrArg some e15.1) (sub_cons (d := 89) (congrArg some e16.1) (sub_nil _))) (List.sublist_append_right _ _) ?_
                  exact rq_v (rv_index (s := 1) rfl Try.underlying43 (by kernel_rfl) rfl rfl (rd_row 2 rfl) (by omega) (by first | omega | (simp only [List.length_set]; omega)))
                ·
                  intro vf pf hR
                  have e14 : (vf 14) = .bool false ∧ (pf 14) = [] := hR 14 (by decide)
                  have e17 : (vf 17) = elP U.2 (((q : Int)).toNat * 1) ∧ (pf 17) = [] := hR 17 (by decide)
                  refine Or.inl ⟨want_of (congrArg some e14.1) rfl, ?_⟩
                  refine rq_less (l' := [rowE 3 1 pu2 o2.length (o2.map (Value.int .i64)), rowE 3 1 pu1 o1.length (o1.map (Value.int .i64)), rowE 3 1 U.2 pp.length (pp.map (Value.int .i64)), rowE 3 1 U.1 fs.length (fs.map (Value.int .i64)), boxE b5 #[.int .i64 n, cv] 54, clE cv rs, rowE 4 1 av bs.length (bs.flatMap blC)]) (sub_cons (d := 90) (congrArg some e17.1) (sub_nil _)) (List.sublist_append_right _ _) ?_
                  exact rq_v (rv_loadEl (u := .int .i64 (pp.getD q 0)) rfl (by kernel_rfl) rfl (rd_row 2 rfl) (ints_at1 (show _ < pp.length by first | omega | (simp only [List.length_set]; omega))))
                ·
                  intro vf pf hR
                  have e14 : (vf 14) = .bool false ∧ (pf 14) = [] := hR 14 (by decide)
                  have e18 : (vf 18) = .int .i64 (pp.getD q 0) ∧ (pf 18) = [] := hR 18 (by decide)
                  refine Or.inl ⟨want_of (congrArg some e14.1) rfl, ?_⟩
                  refine rq_less (l' := [rowE 3 1 pu2 o2.length (o2.map (Value.int .i64)), rowE 3 1 pu1 o1.length (o1.map (Value.int .i64)), rowE 3 1 U.2 pp.length (pp.map (Value.int .i64)), rowE 3 1 U.1 fs.length (fs.map (Value.int .i64)), boxE b5 #[.int .i64 n, cv] 54, clE cv rs, rowE 4 1 av bs.length (bs.flatMap blC)]) (sub_cons (d := 91) (congrArg some e18.1) (sub_nil _)) (List.sublist_append_right _ _) ?_
                  exact rq_mono (rq_v (rv_cmp rfl rfl rfl rfl)) (fun _ _ h => ⟨h.1.trans (congrArg Value.bool hb33), h.2⟩)
                ·
                  intro vf pf hR
                  have e14 : (vf 14) = .bool false ∧ (pf 14) = [] := hR 14 (by decide)
                  have e19 : (vf 19) = .bool false ∧ (pf 19) = [] := hR 19 (by decide)
                  refine Or.inl ⟨want_of (congrArg some e14.1) rfl, ?_⟩
                  refine rq_less (l' := [rowE 3 1 pu2 o2.length (o2.map (Value.int .i64)), rowE 3 1 pu1 o1.length (o1.map (Value.int .i64)), rowE 3 1 U.2 pp.length (pp.map (Value.int .i64)), rowE 3 1 U.1 fs.length (fs.map (Value.int .i64)), boxE b5 #[.int .i64 n, cv] 54, clE cv rs, rowE 4 1 av bs.length (bs.flatMap blC)]) (sub_cons (d := 92) (congrArg some e19.1) (sub_nil _)) (List.sublist_append_right _ _) ?_
                  exact rq_v (rv_ev rfl)
                ·
                  intro vf pf hR
                  have e20 : (vf 20) = .bool false ∧ (pf 20) = [] := hR 20 (by decide)
                  exact Or.inr ⟨want_of (congrArg some e20.1) rfl, rfl, rfl⟩
                ·
                  intro vf pf hR
                  have e20 : (vf 20) = .bool false ∧ (pf 20) = [] := hR 20 (by decide)
                  exact Or.inr ⟨want_of (congrArg some e20.1) rfl, rfl, rfl⟩
                ·
                  intro vf pf hR
                  have e20 : (vf 20) = .bool false ∧ (pf 20) = [] := hR 20 (by decide)
                  exact Or.inr ⟨want_of (congrArg some e20.1) rfl, rfl, rfl⟩
                ·
                  intro vf pf hR
                  have e20 : (vf 20) = .bool false ∧ (pf 20) = [] := hR 20 (by decide)
                  exact Or.inr ⟨want_of (congrArg some e20.1) rfl, rfl, rfl⟩
                ·
                  intro vf pf hR
                  have e20 : (vf 20) = .bool false ∧ (pf 20) = [] := hR 20 (by decide)
                  exact Or.inr ⟨want_of (congrArg some e20.1) rfl, rfl, rfl⟩
                ·
                  intro vf pf hR
                  have e20 : (vf 20) = .bool false ∧ (pf 20) = [] := hR 20 (by decide)
                  exact Or.inr ⟨want_of (congrArg some e20.1) rfl, rfl, rfl⟩
                ·
                  intro vf pf hR
                  have e20 : (vf 20) = .bool false ∧ (pf 20) = [] := hR 20 (by decide)
                  exact Or.inr ⟨want_of (congrArg some e20.1) rfl, rfl, rfl⟩
                ·
                  intro vf pf hR
                  have e20 : (vf 20) = .bool false ∧ (pf 20) = [] := hR 20 (by decide)
                  exact Or.inr ⟨want_of (congrArg some e20.1) rfl, rfl, rfl⟩
                ·
                  intro vf pf hR
                  have e14 : (vf 14) = .bool false ∧ (pf 14) = [] := hR 14 (by decide)
                  have e20 : (vf 20) = .bool false ∧ (pf 20) = [] := hR 20 (by decide)
                  have e28 : (vf 28) = undef ∧ (pf 28) = [] := hR 28 (by decide)
                  refine Or.inl ⟨want_of (congrArg some e14.1) rfl, ?_⟩
                  refine rq_less (l' := [rowE 3 1 pu2 o2.length (o2.map (Value.int .i64)), rowE 3 1 pu1 o1.length (o1.map (Value.int .i64)), rowE 3 1 U.2 pp.length (pp.map (Value.int .i64)), rowE 3 1 U.1 fs.length (fs.map (Value.int .i64)), boxE b5 #[.int .i64 n, cv] 54, clE cv rs, rowE 4 1 av bs.length (bs.flatMap blC)]) (sub_cons (d := 93) (congrArg some e20.1) (sub_cons (d := 101) (congrArg some e28.1) (sub_nil _))) (List.sublist_append_right _ _) ?_
                  exact rq_v (rv_ev rfl)
                ·
                  intro vf pf hR
                  have e14 : (vf 14) = .bool false ∧ (pf 14) = [] := hR 14 (by decide)
                  have e29 : (vf 29) = .bool false ∧ (pf 29) = [] := hR 29 (by decide)
                  refine Or.inl ⟨rfl, ?_⟩
                  refine rq_less (l' := [rowE 3 1 pu2 o2.length (o2.map (Value.int .i64)), rowE 3 1 pu1 o1.length (o1.map (Value.int .i64)), rowE 3 1 U.2 pp.length (pp.map (Value.int .i64)), rowE 3 1 U.1 fs.length (fs.map (Value.int .i64)), boxE b5 #[.int .i64 n, cv] 54, clE cv rs, rowE 4 1 av bs.length (bs.flatMap blC)]) (sub_cons (d := 87) (congrArg some e14.1) (sub_cons (d := 102) (congrArg some e29.1) (sub_nil _))) (List.sublist_append_right _ _) ?_
                  exact rq_v (rv_ev rfl)
              ·
                intro vf pf hR
                have e30 : (vf 30) = .bool false ∧ (pf 30) = [] := hR 30 (by decide)
                refine hl_less (l' := [rowE 3 1 pu2 o2.length (o2.map (Value.int .i64)), rowE 3 1 pu1 o1.length (o1.map (Value.int .i64)), rowE 3 1 U.2 pp.length (pp.map (Value.int .i64)), rowE 3 1 U.1 fs.length (fs.map (Value.int .i64)), boxE b5 #[.int .i64 n, cv] 54, clE cv rs, rowE 4 1 av bs.length (bs.flatMap blC)]) (sub_cons (d := 0) rfl (sub_cons (d := 2) rfl (sub_cons (d := 3) rfl (sub_cons (d := 4) rfl (sub_cons (d := 5) rfl (sub_cons (d := 6) rfl (sub_cons (d := 7) rfl (sub_cons (d := 10) rfl (sub_cons (d := 11) rfl (sub_cons (d := 12) rfl (sub_cons (d := 13) rfl (sub_cons (d := 15) rfl (sub_cons (d := 26) rfl (sub_cons (d := 59) rfl (sub_cons (d := 66) rfl (sub_cons (d := 70) rfl (sub_cons (d := 103) (congrArg some e30.1) (sub_nil _)))))))))))))))))) (List.sublist_append_right _ _) ?_
                simp only [List.drop_succ_cons, List.drop_zero]
                refine hl_less (sub_cons (d := 0) rfl (sub_cons (d := 2) rfl (sub_cons (d := 3) rfl (sub_cons (d := 4) rfl (sub_cons (d := 5) rfl (sub_cons (d := 6) rfl (sub_cons (d := 7) rfl (sub_cons (d := 10) rfl (sub_cons (d := 11) rfl (sub_cons (d := 12) rfl (sub_cons (d := 13) rfl (sub_cons (d := 15) rfl (sub_cons (d := 26) rfl (sub_cons (d := 59) rfl (sub_cons (d := 66) rfl (sub_cons (d := 70) rfl (sub_cons (d := 103) rfl (sub_nil _)))))))))))))))))) (.refl _) ?_
                refine hl_nil ?_
                refine hq_then ?_
                refine hc_false rfl ?_
                refine hc_skip ?_
                refine hq_block_normal ?_
                refine hq_then ?_
                refine hc_region ?_
                refine hl_v rfl rfl rfl (rv_ev rfl) ?_
                refine hl_v rfl rfl rfl (rv_add rfl rfl rfl (by constructor <;> omega)) ?_
                refine hl_v rfl rfl rfl (rv_ev rfl) ?_
                refine hl_less (sub_cons (d := 0) rfl (sub_cons (d := 2) rfl (sub_cons (d := 3) rfl (sub_cons (d := 4) rfl (sub_cons (d := 5) rfl (sub_cons (d := 6) rfl (sub_cons (d := 7) rfl (sub_cons (d := 10) rfl (sub_cons (d := 11) rfl (sub_cons (d := 12) rfl (sub_cons (d := 13) rfl (sub_cons (d := 15) rfl (sub_cons (d := 26) rfl (sub_cons (d := 59) rfl (sub_cons (d := 66) rfl (sub_cons (d := 70) rfl (sub_cons (d := 103) rfl (sub_nil _)))))))))))))))))) (.refl _) ?_
                refine hl_nil ?_
                exact hq_round1 (q + 1) (by omega) (by omega) (sub_cons (d := 0) rfl (sub_cons (d := 2) rfl (sub_cons (d := 3) rfl (sub_cons (d := 4) rfl (sub_cons (d := 5) rfl (sub_cons (d := 6) rfl (sub_cons (d := 7) rfl (sub_cons (d := 10) rfl (sub_cons (d := 11) rfl (sub_cons (d := 12) rfl (sub_cons (d := 13) rfl (sub_cons (d := 15) rfl (sub_cons (d := 26) rfl (sub_cons (d := 59) rfl (sub_cons (d := 66) rfl (sub_nil _)))))))))))))))) ((.cons_cons _ (.cons_cons _ (.cons_cons _ (.cons_cons _ (.cons_cons _ (.cons_cons _ (.cons_cons _ .slnil))))))))
        ·
          refine hl_less (sub_cons (d := 0) rfl (sub_cons (d := 2) rfl (sub_cons (d := 3) rfl (sub_cons (d := 4) rfl (sub_cons (d := 5) rfl (sub_cons (d := 6) rfl (sub_cons (d := 7) rfl (sub_cons (d := 10) rfl (sub_cons (d := 11) rfl (sub_cons (d := 12) rfl (sub_cons (d := 13) rfl (sub_cons (d := 15) rfl (sub_cons (d := 26) rfl (sub_cons (d := 59) rfl (sub_cons (d := 66) rfl (sub_cons (d := 70) rfl (sub_nil _))))))))))))))))) (.refl _) ?_
          refine hl_nil ?_
          refine hq_then ?_
          refine hc_false rfl ?_
          refine hc_exit ?_
          refine hq_then_exit ?_
          refine hq_then_exit ?_
          refine hq_block_exit ?_
          refine hq_then ?_
          refine hc_seq ?_
          refine hc_region ?_
          refine hl_v rfl rfl rfl (rv_ev rfl) ?_
          refine hl_bool (fun h35 => ?_) (fun h35 => ?_)
          ·
            refine hl_v rfl rfl rfl (rv_ev rfl) ?_
            refine hl_skip rfl rfl rfl ?_
            refine hl_skip rfl rfl rfl ?_
            refine hl_v rfl rfl rfl (rv_ev rfl) ?_
            refine hl_v rfl rfl rfl (rv_ev rfl) ?_
            refine hl_less (sub_cons (d := 0) rfl (sub_cons (d := 2) rfl (sub_cons (d := 3) rfl (sub_cons (d := 4) rfl (sub_cons (d := 5) rfl (sub_cons (d := 6) rfl (sub_cons (d := 7) rfl (sub_cons (d := 10) rfl (sub_cons (d := 11) rfl (sub_cons (d := 12) rfl (sub_cons (d := 13) rfl (sub_cons (d := 15) rfl (sub_cons (d := 26) rfl (sub_cons (d := 59) rfl (sub_cons (d := 66) rfl (sub_cons (d := 70) rfl (sub_nil _))))))))))))))))) (.refl _) ?_
            refine hl_nil ?_
            refine hq_then ?_
            refine hc_ret ?_
            exact hq_ans rfl rfl rfl
          ·
            refine hl_v rfl rfl rfl (rv_ev rfl) ?_
            refine hl_v rfl rfl rfl (rv_ev rfl) ?_
            refine hl_v rfl rfl rfl (rv_ev rfl) ?_
            refine hl_v rfl rfl rfl (rv_ev rfl) ?_
            refine hl_v rfl rfl rfl (rv_ev rfl) ?_
            refine hl_less (sub_cons (d := 0) rfl (sub_cons (d := 2) rfl (sub_cons (d := 3) rfl (sub_cons (d := 4) rfl (sub_cons (d := 5) rfl (sub_cons (d := 6) rfl (sub_cons (d := 7) rfl (sub_cons (d := 10) rfl (sub_cons (d := 11) rfl (sub_cons (d := 12) rfl (sub_cons (d := 13) rfl (sub_cons (d := 15) rfl (sub_cons (d := 26) rfl (sub_cons (d := 59) rfl (sub_cons (d := 66) rfl (sub_cons (d := 70) rfl (sub_nil _))))))))))))))))) (.refl _) ?_
            refine hl_nil ?_
            refine hq_then ?_
            refine hc_ret ?_
            exfalso
            first | omega | (have hy9 := (hyes (by assumption)).1; rw [show can = false by assumption] at hy9; cases hy9)
      ·
        refine hl_v rfl rfl rfl (rv_ev rfl) ?_
        refine hl_v rfl rfl rfl (rv_ev rfl) ?_
        refine hl_less (sub_cons (d := 0) rfl (sub_cons (d := 2) rfl (sub_cons (d := 3) rfl (sub_cons (d := 4) rfl (sub_cons (d := 5) rfl (sub_cons (d := 6) rfl (sub_cons (d := 7) rfl (sub_cons (d := 10) rfl (sub_cons (d := 15) rfl (sub_cons (d := 26) rfl (sub_nil _))))))))))) (.refl _) ?_
        refine hl_nil ?_
        refine hq_then ?_
        refine hc_seq ?_
        refine hc_seq ?_
        refine hc_region ?_
        refine hl_v rfl rfl rfl (rv_ev rfl) ?_
        refine hl_v rfl rfl rfl (rv_loadN (cs := [.int .i64 n, cv]) rfl (by kernel_rfl) (by kernel_rfl) rfl rfl (box_part 3 rfl 0 rfl)) ?_
        refine hl_v rfl rfl rfl (rv_ev rfl) ?_
        refine hl_callV rfl rfl rfl (rq_call (by kernel_rfl) rfl (fun w hm => ret_ans (CnfTrue_ans n rs cv bs av w hr (cl_rds 4 rfl w hm) (rd_row 5 rfl w hm) hbl))) ?_
        refine hl_bool (fun h36 => absurd ((h22).symm.trans h36) (by decide)) (fun h36 => ?_)
        refine hl_v rfl rfl rfl (rv_bneq (m := false) (n := false) rfl Try.underlying4 rfl rfl) ?_
        refine hl_less (sub_cons (d := 0) rfl (sub_cons (d := 2) rfl (sub_cons (d := 3) rfl (sub_cons (d := 4) rfl (sub_cons (d := 5) rfl (sub_cons (d := 6) rfl (sub_cons (d := 7) rfl (sub_cons (d := 10) rfl (sub_cons (d := 15) rfl (sub_cons (d := 26) rfl (sub_cons (d := 59) rfl (sub_nil _)))))))))))) (.refl _) ?_
        refine hl_nil ?_
        refine hq_then ?_
        refine hc_false rfl ?_
        refine hc_skip ?_
        refine hq_then ?_
        refine hc_seq ?_
        refine hc_region ?_
        refine hl_v rfl rfl rfl (rv_loadN (cs := [.int .i64 n, cv]) rfl (by kernel_rfl) (by kernel_rfl) rfl rfl (box_part 3 rfl 0 rfl)) ?_
        refine hl_v rfl rfl rfl (rv_ev rfl) ?_
        refine hl_q rfl rfl rfl (rq_call (by kernel_rfl) rfl (fun w hm => Propagate_ret n rs cv pp _ w hr (cl_rds 4 rfl w hm) hpa.1 (rd_row 1 rfl w hm))) ?_
        intro v37 p38 hR39
        obtain ⟨pu2, o2, can, rfl, rfl, hpk⟩ := hR39
        have hyes : cnfB bs rs = true → can = true ∧ Agree o2 (fullL bs) ∧ (∀ k, k < pp.length → pp.getD k 0 ≠ 0 → o2.getD k 0 = pp.getD k 0) ∧ o2.length = pp.length := fun h => by
              obtain ⟨y1, y2, y3⟩ := hpk.yes (fullL bs) (full_ok hbl) ((full_sat hbl hr).2 h) hpa.2
              exact ⟨y1, y2, y3, hpk.len y1⟩
        refine hl_v rfl rfl rfl (rv_ev rfl) ?_
        refine hl_v rfl rfl rfl (rv_ev rfl) ?_
        refine hl_v rfl rfl rfl (rv_ev rfl) ?_
        refine hl_v rfl rfl rfl (rv_ev rfl) ?_
        refine hl_v rfl rfl rfl (rv_ev rfl) ?_
        refine hl_less (sub_cons (d := 0) rfl (sub_cons (d := 2) rfl (sub_cons (d := 3) rfl (sub_cons (d := 4) rfl (sub_cons (d := 5) rfl (sub_cons (d := 6) rfl (sub_cons (d := 7) rfl (sub_cons (d := 10) rfl (sub_cons (d := 11) rfl (sub_cons (d := 12) rfl (sub_cons (d := 15) rfl (sub_cons (d := 26) rfl (sub_cons (d := 59) rfl (sub_nil _)))))))))))))) (.refl _) ?_
        refine hl_nil ?_
        refine hq_then ?_
        refine hc_seq ?_
        refine hc_seq ?_
        refine hc_region ?_
        refine hl_v rfl rfl rfl (rv_ev rfl) ?_
        refine hl_less (sub_cons (d := 0) rfl (sub_cons (d := 2) rfl (sub_cons (d := 3) rfl (sub_cons (d := 4) rfl (sub_cons (d := 5) rfl (sub_cons (d := 6) rfl (sub_cons (d := 7) rfl (sub_cons (d := 10) rfl (sub_cons (d := 11) rfl (sub_cons (d := 12) rfl (sub_cons (d := 15) rfl (sub_cons (d := 26) rfl (sub_cons (d := 59) rfl (sub_cons (d := 66) rfl (sub_nil _))))))))))))))) (.refl _) ?_
        refine hl_nil ?_
        refine hq_then ?_
        refine hc_false rfl ?_
        refine hc_skip ?_
        refine hq_then ?_
        refine hc_seq ?_
        refine hc_region ?_
        refine hl_v rfl rfl rfl (rv_ev rfl) ?_
        refine hl_bool (fun h40 => ?_) (fun h40 => ?_)
        ·
          refine hl_v rfl rfl rfl (rv_ev rfl) ?_
          refine hl_skip rfl rfl rfl ?_
          refine hl_skip rfl rfl rfl ?_
          refine hl_v rfl rfl rfl (rv_ev rfl) ?_
          refine hl_v rfl rfl rfl (rv_ev rfl) ?_
          refine hl_less (sub_cons (d := 0) rfl (sub_cons (d := 2) rfl (sub_cons (d := 3) rfl (sub_cons (d := 4) rfl (sub_cons (d := 5) rfl (sub_cons (d := 6) rfl (sub_cons (d := 7) rfl (sub_cons (d := 10) rfl (sub_cons (d := 11) rfl (sub_cons (d := 12) rfl (sub_cons (d := 15) rfl (sub_cons (d := 26) rfl (sub_cons (d := 59) rfl (sub_cons (d := 66) rfl (sub_nil _))))))))))))))) (.refl _) ?_
          refine hl_nil ?_
          refine hq_then ?_
          refine hc_ret ?_
          exact hq_ans rfl rfl rfl
        ·
          refine hl_v rfl rfl rfl (rv_ev rfl) ?_
          refine hl_v rfl rfl rfl (rv_ev rfl) ?_
          refine hl_v rfl rfl rfl (rv_ev rfl) ?_
          refine hl_v rfl rfl rfl (rv_ev rfl) ?_
          refine hl_v rfl rfl rfl (rv_ev rfl) ?_
          refine hl_less (sub_cons (d := 0) rfl (sub_cons (d := 2) rfl (sub_cons (d := 3) rfl (sub_cons (d := 4) rfl (sub_cons (d := 5) rfl (sub_cons (d := 6) rfl (sub_cons (d := 7) rfl (sub_cons (d := 10) rfl (sub_cons (d := 11) rfl (sub_cons (d := 12) rfl (sub_cons (d := 15) rfl (sub_cons (d := 26) rfl (sub_cons (d := 59) rfl (sub_cons (d := 66) rfl (sub_nil _))))))))))))))) (.refl _) ?_
          refine hl_nil ?_
          refine hq_then ?_
          refine hc_ret ?_
          exact hq_ans rfl rfl rfl
end Go.Proofs.Yteccnnpcigkmhaa
