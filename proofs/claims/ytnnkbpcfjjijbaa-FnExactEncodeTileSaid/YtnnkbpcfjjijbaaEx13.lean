/- The law FnExactDecodeTile: its walk. -/
import Derived.Test.YtnnkbpcfjjijbaaEx12
set_option linter.unusedVariables false
set_option linter.unusedSimpArgs false
namespace Go.Proofs.Ytnnkbpcfjjijbaa
open Go.RowKit

def IntsArg (w : World) (v : Value) (xs : List Int) : Prop := RdsW w v 1 xs.length (xs.map (Value.int .i64))
set_option maxRecDepth 100000 in
theorem open_intsArg {H : Type} {enc : TypeId × Value → H} {w : World} {base : Nat} {spare : Nat → Bool} {held : Bool} {r : Reach} {b0 : Nat} {v : Value} {d : DataW H} {p : List MemPlace} (hv : Value.okWide Try.prog w r b0 30 v) (h : DataW.Trod enc Try.prog w base spare held 30 v d p) : ∃ xs, IntsArg w v xs := by
  obtain ⟨a, len, cap, rfl⟩ := Go.WideShapes.okWide_slice Try.underlying30 hv
  obtain ⟨fuel, hf⟩ := h
  obtain ⟨xs, hx, -⟩ := open_ints (v := .slice a len cap) Try.underlying30 Try.underlying3 inCells hf
  exact ⟨xs, hx⟩
set_option maxHeartbeats 4000000 in
set_option maxRecDepth 100000 in
theorem walk_FnExactDecodeTile (d : Dev) (xs : List Int) (v : Value) (w : World) (hv : IntsArg w v xs) :
    Calls Try.prog 9 #[.agg #[.int .i64 d.W, .int .i64 d.H, .int .i64 d.T, .int .i64 d.R], v] w (Ans w (.bool true)) := by
  refine calls_hc (N := 101) (args := [.agg #[.int .i64 d.W, .int .i64 d.H, .int .i64 d.T, .int .i64 d.R], v]) Try.func9 rfl rfl ?_
  refine hc_less _ (sub_cons (d := 0) rfl (sub_cons (d := 1) rfl (sub_nil _))) (.refl _) ?_
  refine hc_seq ?_
  refine hc_region ?_
  refine hl_box rfl rfl rfl (rq_box rfl rfl) ?_
  intro b1
  refine hl_v rfl rfl rfl (rv_ev rfl) ?_
  refine hl_less (sub_cons (d := 0) rfl (sub_cons (d := 1) rfl (sub_cons (d := 2) rfl (sub_cons (d := 4) rfl (sub_nil _))))) (.refl _) ?_
  refine hl_nil ?_
  refine hq_then ?_
  refine hc_seq ?_
  refine hc_seq ?_
  refine hc_region ?_
  refine hl_v rfl rfl rfl (rv_ev rfl) ?_
  refine hl_v rfl rfl rfl (rv_len rfl Try.underlying30 rfl (rd_old hv)) ?_
  refine hl_gtr rfl rfl rfl rfl rfl rfl (fun h2 => ?_) (fun h2 => ?_)
  ·
    refine hl_less (sub_cons (d := 0) rfl (sub_cons (d := 1) rfl (sub_cons (d := 2) rfl (sub_cons (d := 4) rfl (sub_cons (d := 17) rfl (sub_nil _)))))) (.refl _) ?_
    refine hl_nil ?_
    refine hq_then ?_
    refine hc_true rfl ?_
    refine hc_seq ?_
    refine hc_region ?_
    refine hl_v rfl rfl rfl (rv_ev rfl) ?_
    refine hl_less (sub_cons (d := 0) rfl (sub_cons (d := 1) rfl (sub_cons (d := 2) rfl (sub_cons (d := 4) rfl (sub_cons (d := 17) rfl (sub_nil _)))))) (.refl _) ?_
    refine hl_nil ?_
    refine hq_then ?_
    refine hc_ret ?_
    refine hq_then_ret ?_
    exact hq_ans rfl rfl rfl
  ·
    refine hl_less (sub_cons (d := 0) rfl (sub_cons (d := 1) rfl (sub_cons (d := 2) rfl (sub_cons (d := 4) rfl (sub_cons (d := 17) rfl (sub_nil _)))))) (.refl _) ?_
    refine hl_nil ?_
    refine hq_then ?_
    refine hc_false rfl ?_
    refine hc_skip ?_
    refine hq_then ?_
    refine hc_seq ?_
    refine hc_region ?_
    refine hl_v rfl rfl rfl (rv_loadN (cs := [.int .i64 d.W, .int .i64 d.H, .int .i64 d.T, .int .i64 d.R]) rfl (by kernel_rfl) (by kernel_rfl) rfl rfl (box_part 0 rfl 0 rfl)) ?_
    refine hl_callV rfl rfl rfl (rq_call (by kernel_rfl) rfl (fun w hm => ret_ans (toDevice_any d w))) ?_
    refine hl_v rfl rfl rfl (rv_ev rfl) ?_
    refine hl_q rfl rfl rfl (rq_call (by kernel_rfl) rfl (fun w hm => toIntS_ret xs _ w ((rd_old hv) w hm) (by omega))) ?_
    intro v3 p4 hR5
    subst hR5
    refine hl_q rfl rfl rfl (rq_call (by kernel_rfl) rfl (fun w hm => specDecodeTile_ret d xs _ w ((rd_row 0 rfl) w hm) (by omega))) ?_
    intro v6 p7 hR8
    obtain ⟨thR8, rfl, rfl, ⟨c1thR8, c2thR8⟩, valthR8, n1thR8, n2thR8, n3thR8⟩ := hR8
    have bthR8 := And.intro n1thR8 (And.intro n2thR8 n3thR8)
    refine hl_v rfl rfl rfl (rv_ev rfl) ?_
    refine hl_v rfl rfl rfl (rv_ev rfl) ?_
    refine hl_v rfl rfl rfl (rv_ev rfl) ?_
    refine hl_bool (fun h9 => ?_) (fun h9 => ?_)
    ·
      refine hl_box rfl rfl rfl (rq_alloc (z := .agg #[.slice none 0 0, .slice none 0 0, .int .i64 0, .int .i64 0]) rfl (by kernel_rfl)) ?_
      intro b10
      refine hl_storeBoxN (i := 0) (off := 0) (us := [thR8.mv, thR8.lv, .int .i64 thR8.pad, .int .i64 thR8.ram]) (l' := [boxE b10 #[thR8.mv, thR8.lv, .int .i64 thR8.pad, .int .i64 thR8.ram] 39, tcE thR8, rowE 3 1 v3 xs.length (xs.map (Value.int .i64)), boxE b1 #[.int .i64 d.W, .int .i64 d.H, .int .i64 d.T, .int .i64 d.R] 36]) rfl rfl rfl (by kernel_rfl) rfl rfl rfl (all_cons c1thR8 (all_cons c2thR8 (all_cons rfl (all_cons rfl all_nil)))) rfl rfl rfl ?_
      refine hl_v rfl rfl rfl (rv_ev rfl) ?_
      refine hl_less (sub_cons (d := 0) rfl (sub_cons (d := 1) rfl (sub_cons (d := 2) rfl (sub_cons (d := 4) rfl (sub_cons (d := 5) rfl (sub_cons (d := 6) rfl (sub_cons (d := 17) rfl (sub_nil _)))))))) (.refl _) ?_
      refine hl_nil ?_
      refine hq_then ?_
      refine hc_seq ?_
      refine hc_region ?_
      refine hl_v rfl rfl rfl (rv_ev rfl) ?_
      refine hl_q rfl rfl rfl (rq_call (by kernel_rfl) rfl (fun w hm => toIntS_ret xs _ w ((rd_old hv) w hm) (by omega))) ?_
      intro v11 p12 hR13
      subst hR13
      refine hl_v rfl rfl rfl (rv_ev rfl) ?_
      refine hl_less (sub_cons (d := 0) rfl (sub_cons (d := 1) rfl (sub_cons (d := 2) rfl (sub_cons (d := 4) rfl (sub_cons (d := 5) rfl (sub_cons (d := 6) rfl (sub_cons (d := 7) rfl (sub_cons (d := 17) rfl (sub_nil _))))))))) (.refl _) ?_
      refine hl_nil ?_
      refine hq_then ?_
      refine hc_seq ?_
      refine hc_region ?_
      refine hl_v rfl rfl rfl (rv_loadN (cs := [.int .i64 d.W, .int .i64 d.H, .int .i64 d.T, .int .i64 d.R]) rfl (by kernel_rfl) (by kernel_rfl) rfl rfl (box_part 4 rfl 0 rfl)) ?_
      refine hl_callV rfl rfl rfl (rq_call (by kernel_rfl) rfl (fun w hm => ret_ans (toDevice_any d w))) ?_
      refine hl_v rfl rfl rfl (rv_ev rfl) ?_
      refine hl_q rfl rfl rfl (rq_call (by kernel_rfl) rfl (fun w hm => implDecodeTile_ret d xs _ w ((rd_row 0 rfl) w hm) (by omega))) ?_
      intro v14 p15 hR16
      obtain ⟨thR16, rfl, rfl, ⟨c1thR16, c2thR16⟩, valthR16, n1thR16, n2thR16, n3thR16⟩ := hR16
      have bthR16 := And.intro n1thR16 (And.intro n2thR16 n3thR16)
      refine hl_v rfl rfl rfl (rv_ev rfl) ?_
      refine hl_v rfl rfl rfl (rv_ev rfl) ?_
      refine hl_v rfl rfl rfl (rv_ev rfl) ?_
      refine hl_bool (fun h17 => ?_) (fun h17 => absurd ((h9).symm.trans h17) (by decide))
      refine hl_box rfl rfl rfl (rq_alloc (z := .agg #[.slice none 0 0, .slice none 0 0, .int .i64 0, .int .i64 0]) rfl (by kernel_rfl)) ?_
      intro b18
      refine hl_storeBoxN (i := 0) (off := 0) (us := [thR16.mv, thR16.lv, .int .i64 thR16.pad, .int .i64 thR16.ram]) (l' := [boxE b18 #[thR16.mv, thR16.lv, .int .i64 thR16.pad, .int .i64 thR16.ram] 39, tcE thR16, rowE 3 1 v11 xs.length (xs.map (Value.int .i64)), boxE b10 #[thR8.mv, thR8.lv, .int .i64 thR8.pad, .int .i64 thR8.ram] 39, tcE thR8, rowE 3 1 v3 xs.length (xs.map (Value.int .i64)), boxE b1 #[.int .i64 d.W, .int .i64 d.H, .int .i64 d.T, .int .i64 d.R] 36]) rfl rfl rfl (by kernel_rfl) rfl rfl rfl (all_cons c1thR16 (all_cons c2thR16 (all_cons rfl (all_cons rfl all_nil)))) rfl rfl rfl ?_
      refine hl_v rfl rfl rfl (rv_ev rfl) ?_
      refine hl_less (sub_cons (d := 0) rfl (sub_cons (d := 1) rfl (sub_cons (d := 2) rfl (sub_cons (d := 4) rfl (sub_cons (d := 5) rfl (sub_cons (d := 6) rfl (sub_cons (d := 7) rfl (sub_cons (d := 8) rfl (sub_cons (d := 9) rfl (sub_cons (d := 17) rfl (sub_nil _))))))))))) (.refl _) ?_
      refine hl_nil ?_
      refine hq_then ?_
      refine hc_seq ?_
      refine hc_seq ?_
      refine hc_region ?_
      refine hl_v rfl rfl rfl (rv_loadN (cs := [thR16.mv, thR16.lv, .int .i64 thR16.pad, .int .i64 thR16.ram]) rfl (by kernel_rfl) (by kernel_rfl) rfl rfl (box_part 0 rfl 0 rfl)) ?_
      refine hl_v rfl rfl rfl (rv_loadN (cs := [thR8.mv, thR8.lv, .int .i64 thR8.pad, .int .i64 thR8.ram]) rfl (by kernel_rfl) (by kernel_rfl) rfl rfl (box_part 3 rfl 0 rfl)) ?_
      refine hl_callV rfl rfl rfl (rq_call (by kernel_rfl) rfl (fun w hm => ret_ans (by have h := eqTileConfig_ans thR16 thR8 w (tc_rds 1 rfl bthR16.1 bthR16.2.1 bthR16.2.2 w hm) (tc_rds 4 rfl bthR8.1 bthR8.2.1 bthR8.2.2 w hm); rw [valthR16, valthR8] at h; exact h))) ?_
      refine hl_bool (fun h19 => ?_) (fun h19 => absurd (((decide_eq_true rfl)).symm.trans h19) (by decide))
      refine hl_v rfl rfl rfl (rv_ev rfl) ?_
      refine hl_v rfl rfl rfl (rv_ev rfl) ?_
      refine hl_v rfl rfl rfl (rv_ev rfl) ?_
      refine hl_v rfl rfl rfl (rv_ev rfl) ?_
      refine hl_v rfl rfl rfl (rv_bneq rfl Try.underlying4 rfl rfl) ?_
      refine hl_v rfl rfl rfl (rv_ev rfl) ?_
      refine hl_less (sub_cons (d := 0) rfl (sub_cons (d := 1) rfl (sub_cons (d := 2) rfl (sub_cons (d := 4) rfl (sub_cons (d := 5) rfl (sub_cons (d := 6) rfl (sub_cons (d := 7) rfl (sub_cons (d := 8) rfl (sub_cons (d := 9) rfl (sub_cons (d := 17) rfl (sub_cons (d := 43) rfl (sub_nil _)))))))))))) (.refl _) ?_
      refine hl_nil ?_
      refine hq_then ?_
      refine hc_false rfl ?_
      refine hc_skip ?_
      refine hq_then ?_
      refine hc_seq ?_
      refine hc_seq ?_
      refine hc_region ?_
      refine hl_v rfl rfl rfl (rv_ev rfl) ?_
      refine hl_v rfl rfl rfl (rv_ev rfl) ?_
      refine hl_q rfl rfl rfl (rq_call (by kernel_rfl) rfl (fun w hm => toIntS_ret xs _ w ((rd_old hv) w hm) (by omega))) ?_
      intro v20 p21 hR22
      subst hR22
      refine hl_callV rfl rfl rfl (rq_call (by kernel_rfl) rfl (fun w hm => ret_ans (eqIntS_ans xs xs _ _ w ((rd_row 3 rfl) w hm) ((rd_row 0 rfl) w hm) (by omega)))) ?_
      refine hl_bool (fun h23 => ?_) (fun h23 => absurd (((decide_eq_true rfl)).symm.trans h23) (by decide))
      refine hl_v rfl rfl rfl (rv_ev rfl) ?_
      refine hl_less (sub_cons (d := 0) rfl (sub_cons (d := 1) rfl (sub_cons (d := 2) rfl (sub_cons (d := 4) rfl (sub_cons (d := 5) rfl (sub_cons (d := 6) rfl (sub_cons (d := 7) rfl (sub_cons (d := 8) rfl (sub_cons (d := 9) rfl (sub_cons (d := 17) rfl (sub_cons (d := 43) rfl (sub_cons (d := 48) rfl (sub_nil _))))))))))))) (.refl _) ?_
      refine hl_nil ?_
      refine hq_then ?_
      refine hc_false rfl ?_
      refine hc_skip ?_
      refine hq_then ?_
      refine hc_seq ?_
      refine hc_region ?_
      refine hl_v rfl rfl rfl (rv_ev rfl) ?_
      refine hl_less (sub_cons (d := 0) rfl (sub_cons (d := 1) rfl (sub_cons (d := 2) rfl (sub_cons (d := 4) rfl (sub_cons (d := 5) rfl (sub_cons (d := 6) rfl (sub_cons (d := 7) rfl (sub_cons (d := 8) rfl (sub_cons (d := 9) rfl (sub_cons (d := 10) rfl (sub_cons (d := 17) rfl (sub_cons (d := 43) rfl (sub_cons (d := 48) rfl (sub_nil _)))))))))))))) (.refl _) ?_
      refine hl_nil ?_
      refine hq_then ?_
      refine hc_seq ?_
      refine hc_region ?_
      refine hl_v rfl rfl rfl (rv_ev rfl) ?_
      refine hl_v rfl rfl rfl (rv_ev rfl) ?_
      refine hl_callM (R := (fun u_ p_ => u_ = .int .i64 (1 + xs.length) ∧ p_ = rowE 3 1 v11 xs.length ((seqL 1 xs.length).map (Value.int .i64)))) 3 rfl rfl (by kernel_rfl) rfl rfl (fun l' w hm => markIntS_mut xs 1 v11 _ _ w hm (by omega) (by omega)) ?_
      intro v24 p25 hR26
      obtain ⟨rfl, rfl⟩ := hR26
      refine hl_eqL (l' := [rowE 3 1 v20 xs.length (xs.map (Value.int .i64)), boxE b18 #[thR16.mv, thR16.lv, .int .i64 thR16.pad, .int .i64 thR16.ram] 39, tcE thR16, rowE 3 1 v11 xs.length ((seqL 1 xs.length).map (Value.int .i64)), boxE b10 #[thR8.mv, thR8.lv, .int .i64 thR8.pad, .int .i64 thR8.ram] 39, tcE thR8, rowE 3 1 v3 xs.length (xs.map (Value.int .i64)), boxE b1 #[.int .i64 d.W, .int .i64 d.H, .int .i64 d.T, .int .i64 d.R] 36]) rfl ?_
      refine hl_v rfl rfl rfl (rv_ev rfl) ?_
      refine hl_less (sub_cons (d := 0) rfl (sub_cons (d := 1) rfl (sub_cons (d := 2) rfl (sub_cons (d := 4) rfl (sub_cons (d := 5) rfl (sub_cons (d := 6) rfl (sub_cons (d := 7) rfl (sub_cons (d := 8) rfl (sub_cons (d := 9) rfl (sub_cons (d := 10) rfl (sub_cons (d := 17) rfl (sub_cons (d := 43) rfl (sub_cons (d := 48) rfl (sub_nil _)))))))))))))) (.refl _) ?_
      refine hl_nil ?_
      refine hq_then ?_
      refine hc_seq ?_
      refine hc_seq ?_
      refine hc_region ?_
      refine hl_v rfl rfl rfl (rv_ev rfl) ?_
      refine hl_lss rfl rfl rfl rfl rfl rfl (fun h27 => absurd h27 (by omega)) (fun h27 => ?_)
      refine hl_v rfl rfl rfl (rv_ev rfl) ?_
      refine hl_v rfl rfl rfl (rv_loadN (cs := [thR16.mv, thR16.lv, .int .i64 thR16.pad, .int .i64 thR16.ram]) rfl (by kernel_rfl) (by kernel_rfl) rfl rfl (box_part 1 rfl 0 rfl)) ?_
      refine hl_v rfl rfl rfl (rv_loadN (cs := [thR8.mv, thR8.lv, .int .i64 thR8.pad, .int .i64 thR8.ram]) rfl (by kernel_rfl) (by kernel_rfl) rfl rfl (box_part 4 rfl 0 rfl)) ?_
      refine hl_callV rfl rfl rfl (rq_call (by kernel_rfl) rfl (fun w hm => ret_ans (by have h := eqTileConfig_ans thR16 thR8 w (tc_rds 2 rfl bthR16.1 bthR16.2.1 bthR16.2.2 w hm) (tc_rds 5 rfl bthR8.1 bthR8.2.1 bthR8.2.2 w hm); rw [valthR16, valthR8] at h; exact h))) ?_
      refine hl_bool (fun h28 => ?_) (fun h28 => absurd (((decide_eq_true rfl)).symm.trans h28) (by decide))
      refine hl_v rfl rfl rfl (rv_ev rfl) ?_
      refine hl_v rfl rfl rfl (rv_ev rfl) ?_
      refine hl_v rfl rfl rfl (rv_ev rfl) ?_
      refine hl_v rfl rfl rfl (rv_ev rfl) ?_
      refine hl_v rfl rfl rfl (rv_ev rfl) ?_
      refine hl_v rfl rfl rfl (rv_bneq rfl Try.underlying4 rfl rfl) ?_
      refine hl_v rfl rfl rfl (rv_ev rfl) ?_
      refine hl_less (sub_cons (d := 0) rfl (sub_cons (d := 1) rfl (sub_cons (d := 2) rfl (sub_cons (d := 4) rfl (sub_cons (d := 5) rfl (sub_cons (d := 6) rfl (sub_cons (d := 7) rfl (sub_cons (d := 8) rfl (sub_cons (d := 9) rfl (sub_cons (d := 10) rfl (sub_cons (d := 17) rfl (sub_cons (d := 43) rfl (sub_cons (d := 48) rfl (sub_cons (d := 64) rfl (sub_nil _))))))))))))))) (.refl _) ?_
      refine hl_nil ?_
      refine hq_then ?_
      refine hc_false rfl ?_
      refine hc_skip ?_
      refine hq_then ?_
      refine hc_seq ?_
      refine hc_region ?_
      refine hl_v rfl rfl rfl (rv_ev rfl) ?_
      refine hl_less (sub_cons (d := 0) rfl (sub_cons (d := 1) rfl (sub_cons (d := 2) rfl (sub_cons (d := 4) rfl (sub_cons (d := 5) rfl (sub_cons (d := 6) rfl (sub_cons (d := 7) rfl (sub_cons (d := 8) rfl (sub_cons (d := 9) rfl (sub_cons (d := 10) rfl (sub_cons (d := 11) rfl (sub_cons (d := 17) rfl (sub_cons (d := 43) rfl (sub_cons (d := 48) rfl (sub_cons (d := 64) rfl (sub_nil _)))))))))))))))) (.refl _) ?_
      refine hl_nil ?_
      refine hq_then ?_
      refine hc_seq ?_
      refine hc_region ?_
      refine hl_v rfl rfl rfl (rv_loadN (cs := [thR16.mv, thR16.lv, .int .i64 thR16.pad, .int .i64 thR16.ram]) rfl (by kernel_rfl) (by kernel_rfl) rfl rfl (box_part 1 rfl 0 rfl)) ?_
      refine hl_v rfl rfl rfl (rv_ev rfl) ?_
      refine hl_callM (R := (fun u_ p_ => u_ = .int .i64 (sumT 1 thR16) ∧ p_ = tcE (markT 1 thR16))) 2 rfl rfl (by kernel_rfl) rfl rfl (fun l' w hm => markTileConfig_mut thR16 1 _ _ w hm (by omega) bthR16.1 bthR16.2.1 bthR16.2.2) ?_
      intro v29 p30 hR31
      obtain ⟨rfl, rfl⟩ := hR31
      have mthR16 := markT_bounds (k := 1) bthR16.1 bthR16.2.1 bthR16.2.2
      have sathR16 := sumT_again 1 thR16
      have srthR16 := sumT_rng bthR16.1 bthR16.2.2
      refine hl_eqL (l' := [rowE 3 1 v20 xs.length (xs.map (Value.int .i64)), boxE b18 #[thR16.mv, thR16.lv, .int .i64 thR16.pad, .int .i64 thR16.ram] 39, tcE (markT 1 thR16), rowE 3 1 v11 xs.length ((seqL 1 xs.length).map (Value.int .i64)), boxE b10 #[thR8.mv, thR8.lv, .int .i64 thR8.pad, .int .i64 thR8.ram] 39, tcE thR8, rowE 3 1 v3 xs.length (xs.map (Value.int .i64)), boxE b1 #[.int .i64 d.W, .int .i64 d.H, .int .i64 d.T, .int .i64 d.R] 36]) rfl ?_
      refine hl_v rfl rfl rfl (rv_ev rfl) ?_
      refine hl_less (sub_cons (d := 0) rfl (sub_cons (d := 1) rfl (sub_cons (d := 2) rfl (sub_cons (d := 4) rfl (sub_cons (d := 5) rfl (sub_cons (d := 6) rfl (sub_cons (d := 7) rfl (sub_cons (d := 8) rfl (sub_cons (d := 9) rfl (sub_cons (d := 10) rfl (sub_cons (d := 11) rfl (sub_cons (d := 17) rfl (sub_cons (d := 43) rfl (sub_cons (d := 48) rfl (sub_cons (d := 64) rfl (sub_nil _)))))))))))))))) (.refl _) ?_
      refine hl_nil ?_
      refine hq_then ?_
      refine hc_seq ?_
      refine hc_region ?_
      refine hl_v rfl rfl rfl (rv_ev rfl) ?_
      refine hl_less (sub_cons (d := 0) rfl (sub_cons (d := 1) rfl (sub_cons (d := 2) rfl (sub_cons (d := 4) rfl (sub_cons (d := 5) rfl (sub_cons (d := 6) rfl (sub_cons (d := 7) rfl (sub_cons (d := 8) rfl (sub_cons (d := 9) rfl (sub_cons (d := 10) rfl (sub_cons (d := 11) rfl (sub_cons (d := 12) rfl (sub_cons (d := 17) rfl (sub_cons (d := 43) rfl (sub_cons (d := 48) rfl (sub_cons (d := 64) rfl (sub_nil _))))))))))))))))) (.refl _) ?_
      refine hl_nil ?_
      refine hq_then ?_
      refine hc_seq ?_
      refine hc_region ?_
      refine hl_v rfl rfl rfl (rv_loadN (cs := [thR16.mv, thR16.lv, .int .i64 thR16.pad, .int .i64 thR16.ram]) rfl (by kernel_rfl) (by kernel_rfl) rfl rfl (box_part 1 rfl 0 rfl)) ?_
      refine hl_v rfl rfl rfl (rv_ev rfl) ?_
      refine hl_callV rfl rfl rfl (rq_call (by kernel_rfl) rfl (fun w hm => ret_ans (heldTileConfig_ans (markT 1 thR16) 1 w (tc_rds 2 rfl mthR16.1 mthR16.2.1 mthR16.2.2 w hm) (by omega) (markT_again _ _)))) ?_
      refine hl_v rfl rfl rfl (rv_ev rfl) ?_
      refine hl_less (sub_cons (d := 0) rfl (sub_cons (d := 1) rfl (sub_cons (d := 2) rfl (sub_cons (d := 4) rfl (sub_cons (d := 5) rfl (sub_cons (d := 6) rfl (sub_cons (d := 7) rfl (sub_cons (d := 8) rfl (sub_cons (d := 9) rfl (sub_cons (d := 10) rfl (sub_cons (d := 11) rfl (sub_cons (d := 12) rfl (sub_cons (d := 17) rfl (sub_cons (d := 43) rfl (sub_cons (d := 48) rfl (sub_cons (d := 64) rfl (sub_nil _))))))))))))))))) (.refl _) ?_
      refine hl_nil ?_
      refine hq_then ?_
      refine hc_seq ?_
      refine hc_seq ?_
      refine hc_region ?_
      refine hl_v rfl rfl rfl (rv_ev rfl) ?_
      refine hl_lss rfl rfl rfl rfl rfl rfl (fun h32 => absurd h32 (by omega)) (fun h32 => ?_)
      refine hl_less (sub_cons (d := 0) rfl (sub_cons (d := 1) rfl (sub_cons (d := 2) rfl (sub_cons (d := 4) rfl (sub_cons (d := 5) rfl (sub_cons (d := 6) rfl (sub_cons (d := 7) rfl (sub_cons (d := 8) rfl (sub_cons (d := 9) rfl (sub_cons (d := 10) rfl (sub_cons (d := 11) rfl (sub_cons (d := 12) rfl (sub_cons (d := 17) rfl (sub_cons (d := 43) rfl (sub_cons (d := 48) rfl (sub_cons (d := 64) rfl (sub_cons (d := 72) rfl (sub_nil _)))))))))))))))))) (.refl _) ?_
      refine hl_nil ?_
      refine hq_then ?_
      refine hc_false rfl ?_
      refine hc_skip ?_
      refine hq_then ?_
      refine hc_seq ?_
      refine hc_seq ?_
      refine hc_region ?_
      refine hl_v rfl rfl rfl (rv_ev rfl) ?_
      refine hl_v rfl rfl rfl (rv_ev rfl) ?_
      refine hl_neq rfl rfl rfl rfl rfl rfl (fun h33 => absurd h33 (by omega)) (fun h33 => ?_)
      refine hl_less (sub_cons (d := 0) rfl (sub_cons (d := 1) rfl (sub_cons (d := 2) rfl (sub_cons (d := 4) rfl (sub_cons (d := 5) rfl (sub_cons (d := 6) rfl (sub_cons (d := 7) rfl (sub_cons (d := 8) rfl (sub_cons (d := 9) rfl (sub_cons (d := 10) rfl (sub_cons (d := 11) rfl (sub_cons (d := 12) rfl (sub_cons (d := 17) rfl (sub_cons (d := 43) rfl (sub_cons (d := 48) rfl (sub_cons (d := 64) rfl (sub_cons (d := 72) rfl (sub_cons (d := 75) rfl (sub_nil _))))))))))))))))))) (.refl _) ?_
      refine hl_nil ?_
      refine hq_then ?_
      refine hc_false rfl ?_
      refine hc_skip ?_
      refine hq_then ?_
      refine hc_seq ?_
      refine hc_region ?_
      refine hl_v rfl rfl rfl (rv_loadN (cs := [.int .i64 d.W, .int .i64 d.H, .int .i64 d.T, .int .i64 d.R]) rfl (by kernel_rfl) (by kernel_rfl) rfl rfl (box_part 7 rfl 0 rfl)) ?_
      refine hl_callV rfl rfl rfl (rq_call (by kernel_rfl) rfl (fun w hm => ret_ans (toDevice_any d w))) ?_
      refine hl_v rfl rfl rfl (rv_ev rfl) ?_
      refine hl_q rfl rfl rfl (rq_call (by kernel_rfl) rfl (fun w hm => toIntS_ret xs _ w ((rd_old hv) w hm) (by omega))) ?_
      intro v34 p35 hR36
      subst hR36
      refine hl_q rfl rfl rfl (rq_call (by kernel_rfl) rfl (fun w hm => implDecodeTile_ret d xs _ w ((rd_row 0 rfl) w hm) (by omega))) ?_
      intro v37 p38 hR39
      obtain ⟨thR39, rfl, rfl, ⟨c1thR39, c2thR39⟩, valthR39, n1thR39, n2thR39, n3thR39⟩ := hR39
      have bthR39 := And.intro n1thR39 (And.intro n2thR39 n3thR39)
      refine hl_v rfl rfl rfl (rv_ev rfl) ?_
      refine hl_v rfl rfl rfl (rv_ev rfl) ?_
      refine hl_v rfl rfl rfl (rv_ev rfl) ?_
      refine hl_bool (fun h40 => ?_) (fun h40 => absurd ((h9).symm.trans h40) (by decide))
      refine hl_box rfl rfl rfl (rq_alloc (z := .agg #[.slice none 0 0, .slice none 0 0, .int .i64 0, .int .i64 0]) rfl (by kernel_rfl)) ?_
      intro b41
      refine hl_storeBoxN (i := 0) (off := 0) (us := [thR39.mv, thR39.lv, .int .i64 thR39.pad, .int .i64 thR39.ram]) (l' := [boxE b41 #[thR39.mv, thR39.lv, .int .i64 thR39.pad, .int .i64 thR39.ram] 39, tcE thR39, rowE 3 1 v34 xs.length (xs.map (Value.int .i64)), rowE 3 1 v20 xs.length (xs.map (Value.int .i64)), boxE b18 #[thR16.mv, thR16.lv, .int .i64 thR16.pad, .int .i64 thR16.ram] 39, tcE (markT 1 thR16), rowE 3 1 v11 xs.length ((seqL 1 xs.length).map (Value.int .i64)), boxE b10 #[thR8.mv, thR8.lv, .int .i64 thR8.pad, .int .i64 thR8.ram] 39, tcE thR8, rowE 3 1 v3 xs.length (xs.map (Value.int .i64)), boxE b1 #[.int .i64 d.W, .int .i64 d.H, .int .i64 d.T, .int .i64 d.R] 36]) rfl rfl rfl (by kernel_rfl) rfl rfl rfl (all_cons c1thR39 (all_cons c2thR39 (all_cons rfl (all_cons rfl all_nil)))) rfl rfl rfl ?_
      refine hl_v rfl rfl rfl (rv_ev rfl) ?_
      refine hl_less (sub_cons (d := 0) rfl (sub_cons (d := 1) rfl (sub_cons (d := 2) rfl (sub_cons (d := 4) rfl (sub_cons (d := 5) rfl (sub_cons (d := 6) rfl (sub_cons (d := 7) rfl (sub_cons (d := 8) rfl (sub_cons (d := 9) rfl (sub_cons (d := 10) rfl (sub_cons (d := 11) rfl (sub_cons (d := 12) rfl (sub_cons (d := 13) rfl (sub_cons (d := 14) rfl (sub_cons (d := 17) rfl (sub_cons (d := 43) rfl (sub_cons (d := 48) rfl (sub_cons (d := 64) rfl (sub_cons (d := 72) rfl (sub_cons (d := 75) rfl (sub_nil _))))))))))))))))))))) (.refl _) ?_
      refine hl_nil ?_
      refine hq_then ?_
      refine hc_seq ?_
      refine hc_seq ?_
      refine hc_region ?_
      refine hl_v rfl rfl rfl (rv_loadN (cs := [thR39.mv, thR39.lv, .int .i64 thR39.pad, .int .i64 thR39.ram]) rfl (by kernel_rfl) (by kernel_rfl) rfl rfl (box_part 0 rfl 0 rfl)) ?_
      refine hl_v rfl rfl rfl (rv_loadN (cs := [thR8.mv, thR8.lv, .int .i64 thR8.pad, .int .i64 thR8.ram]) rfl (by kernel_rfl) (by kernel_rfl) rfl rfl (box_part 7 rfl 0 rfl)) ?_
      refine hl_callV rfl rfl rfl (rq_call (by kernel_rfl) rfl (fun w hm => ret_ans (by have h := eqTileConfig_ans thR39 thR8 w (tc_rds 1 rfl bthR39.1 bthR39.2.1 bthR39.2.2 w hm) (tc_rds 8 rfl bthR8.1 bthR8.2.1 bthR8.2.2 w hm); rw [valthR39, valthR8] at h; exact h))) ?_
      refine hl_bool (fun h42 => ?_) (fun h42 => absurd (((decide_eq_true rfl)).symm.trans h42) (by decide))
      refine hl_v rfl rfl rfl (rv_ev rfl) ?_
      refine hl_v rfl rfl rfl (rv_ev rfl) ?_
      refine hl_v rfl rfl rfl (rv_ev rfl) ?_
      refine hl_v rfl rfl rfl (rv_ev rfl) ?_
      refine hl_v rfl rfl rfl (rv_bneq rfl Try.underlying4 rfl rfl) ?_
      refine hl_v rfl rfl rfl (rv_ev rfl) ?_
      refine hl_less (sub_cons (d := 0) rfl (sub_cons (d := 1) rfl (sub_cons (d := 2) rfl (sub_cons (d := 4) rfl (sub_cons (d := 5) rfl (sub_cons (d := 6) rfl (sub_cons (d := 7) rfl (sub_cons (d := 8) rfl (sub_cons (d := 9) rfl (sub_cons (d := 10) rfl (sub_cons (d := 11) rfl (sub_cons (d := 12) rfl (sub_cons (d := 13) rfl (sub_cons (d := 14) rfl (sub_cons (d := 17) rfl (sub_cons (d := 43) rfl (sub_cons (d := 48) rfl (sub_cons (d := 64) rfl (sub_cons (d := 72) rfl (sub_cons (d := 75) rfl (sub_cons (d := 92) rfl (sub_nil _)))))))))))))))))))))) (.refl _) ?_
      refine hl_nil ?_
      refine hq_then ?_
      refine hc_false rfl ?_
      refine hc_skip ?_
      refine hq_then ?_
      refine hc_seq ?_
      refine hc_region ?_
      refine hl_v rfl rfl rfl (rv_ev rfl) ?_
      refine hl_less (sub_cons (d := 0) rfl (sub_cons (d := 1) rfl (sub_cons (d := 2) rfl (sub_cons (d := 4) rfl (sub_cons (d := 5) rfl (sub_cons (d := 6) rfl (sub_cons (d := 7) rfl (sub_cons (d := 8) rfl (sub_cons (d := 9) rfl (sub_cons (d := 10) rfl (sub_cons (d := 11) rfl (sub_cons (d := 12) rfl (sub_cons (d := 13) rfl (sub_cons (d := 14) rfl (sub_cons (d := 17) rfl (sub_cons (d := 43) rfl (sub_cons (d := 48) rfl (sub_cons (d := 64) rfl (sub_cons (d := 72) rfl (sub_cons (d := 75) rfl (sub_cons (d := 92) rfl (sub_nil _)))))))))))))))))))))) (.refl _) ?_
      refine hl_nil ?_
      refine hq_then ?_
      refine hc_seq ?_
      refine hc_region ?_
      refine hl_v rfl rfl rfl (rv_loadN (cs := [thR16.mv, thR16.lv, .int .i64 thR16.pad, .int .i64 thR16.ram]) rfl (by kernel_rfl) (by kernel_rfl) rfl rfl (box_part 4 rfl 0 rfl)) ?_
      refine hl_v rfl rfl rfl (rv_ev rfl) ?_
      refine hl_callV rfl rfl rfl (rq_call (by kernel_rfl) rfl (fun w hm => ret_ans (heldTileConfig_ans (markT 1 thR16) 1 w (tc_rds 5 rfl mthR16.1 mthR16.2.1 mthR16.2.2 w hm) (by omega) (markT_again _ _)))) ?_
      refine hl_v rfl rfl rfl (rv_ev rfl) ?_
      refine hl_less (sub_cons (d := 0) rfl (sub_cons (d := 1) rfl (sub_cons (d := 2) rfl (sub_cons (d := 4) rfl (sub_cons (d := 5) rfl (sub_cons (d := 6) rfl (sub_cons (d := 7) rfl (sub_cons (d := 8) rfl (sub_cons (d := 9) rfl (sub_cons (d := 10) rfl (sub_cons (d := 11) rfl (sub_cons (d := 12) rfl (sub_cons (d := 13) rfl (sub_cons (d := 14) rfl (sub_cons (d := 17) rfl (sub_cons (d := 43) rfl (sub_cons (d := 48) rfl (sub_cons (d := 64) rfl (sub_cons (d := 72) rfl (sub_cons (d := 75) rfl (sub_cons (d := 92) rfl (sub_nil _)))))))))))))))))))))) (.refl _) ?_
      refine hl_nil ?_
      refine hq_then ?_
      refine hc_seq ?_
      refine hc_seq ?_
      refine hc_region ?_
      refine hl_v rfl rfl rfl (rv_ev rfl) ?_
      refine hl_lss rfl rfl rfl rfl rfl rfl (fun h43 => absurd h43 (by omega)) (fun h43 => ?_)
      refine hl_less (sub_cons (d := 0) rfl (sub_cons (d := 1) rfl (sub_cons (d := 2) rfl (sub_cons (d := 4) rfl (sub_cons (d := 5) rfl (sub_cons (d := 6) rfl (sub_cons (d := 7) rfl (sub_cons (d := 8) rfl (sub_cons (d := 9) rfl (sub_cons (d := 10) rfl (sub_cons (d := 11) rfl (sub_cons (d := 12) rfl (sub_cons (d := 13) rfl (sub_cons (d := 14) rfl (sub_cons (d := 17) rfl (sub_cons (d := 43) rfl (sub_cons (d := 48) rfl (sub_cons (d := 64) rfl (sub_cons (d := 72) rfl (sub_cons (d := 75) rfl (sub_cons (d := 92) rfl (sub_cons (d := 97) rfl (sub_nil _))))))))))))))))))))))) (.refl _) ?_
      refine hl_nil ?_
      refine hq_then ?_
      refine hc_false rfl ?_
      refine hc_skip ?_
      refine hq_then ?_
      refine hc_seq ?_
      refine hc_seq ?_
      refine hc_region ?_
      refine hl_v rfl rfl rfl (rv_ev rfl) ?_
      refine hl_v rfl rfl rfl (rv_ev rfl) ?_
      refine hl_neq rfl rfl rfl rfl rfl rfl (fun h44 => absurd h44 (by omega)) (fun h44 => ?_)
      refine hl_less (sub_cons (d := 0) rfl (sub_cons (d := 1) rfl (sub_cons (d := 2) rfl (sub_cons (d := 4) rfl (sub_cons (d := 5) rfl (sub_cons (d := 6) rfl (sub_cons (d := 7) rfl (sub_cons (d := 8) rfl (sub_cons (d := 9) rfl (sub_cons (d := 10) rfl (sub_cons (d := 11) rfl (sub_cons (d := 12) rfl (sub_cons (d := 13) rfl (sub_cons (d := 14) rfl (sub_cons (d := 17) rfl (sub_cons (d := 43) rfl (sub_cons (d := 48) rfl (sub_cons (d := 64) rfl (sub_cons (d := 72) rfl (sub_cons (d := 75) rfl (sub_cons (d := 92) rfl (sub_cons (d := 97) rfl (sub_cons (d := 100) rfl (sub_nil _)))))))))))))))))))))))) (.refl _) ?_
      refine hl_nil ?_
      refine hq_then ?_
      refine hc_false rfl ?_
      refine hc_skip ?_
      refine hq_then ?_
      refine hc_seq ?_
      refine hc_region ?_
      refine hl_v rfl rfl rfl (rv_ev rfl) ?_
      refine hl_less (sub_cons (d := 0) rfl (sub_cons (d := 1) rfl (sub_cons (d := 2) rfl (sub_cons (d := 4) rfl (sub_cons (d := 5) rfl (sub_cons (d := 6) rfl (sub_cons (d := 7) rfl (sub_cons (d := 8) rfl (sub_cons (d := 9) rfl (sub_cons (d := 10) rfl (sub_cons (d := 11) rfl (sub_cons (d := 12) rfl (sub_cons (d := 13) rfl (sub_cons (d := 14) rfl (sub_cons (d := 17) rfl (sub_cons (d := 43) rfl (sub_cons (d := 48) rfl (sub_cons (d := 64) rfl (sub_cons (d := 72) rfl (sub_cons (d := 75) rfl (sub_cons (d := 92) rfl (sub_cons (d := 97) rfl (sub_cons (d := 100) rfl (sub_nil _)))))))))))))))))))))))) (.refl _) ?_
      refine hl_nil ?_
      refine hq_then ?_
      refine hc_ret ?_
      exact hq_ans rfl rfl rfl
    ·
      refine hl_box rfl rfl rfl (rq_alloc (z := .agg #[.slice none 0 0, .slice none 0 0, .int .i64 0, .int .i64 0]) rfl (by kernel_rfl)) ?_
      intro b45
      refine hl_storeBoxN (i := 0) (off := 0) (us := [thR8.mv, thR8.lv, .int .i64 thR8.pad, .int .i64 thR8.ram]) (l' := [boxE b45 #[thR8.mv, thR8.lv, .int .i64 thR8.pad, .int .i64 thR8.ram] 39, tcE thR8, rowE 3 1 v3 xs.length (xs.map (Value.int .i64)), boxE b1 #[.int .i64 d.W, .int .i64 d.H, .int .i64 d.T, .int .i64 d.R] 36]) rfl rfl rfl (by kernel_rfl) rfl rfl rfl (all_cons c1thR8 (all_cons c2thR8 (all_cons rfl (all_cons rfl all_nil)))) rfl rfl rfl ?_
      refine hl_v rfl rfl rfl (rv_ev rfl) ?_
      refine hl_less (sub_cons (d := 0) rfl (sub_cons (d := 1) rfl (sub_cons (d := 2) rfl (sub_cons (d := 4) rfl (sub_cons (d := 5) rfl (sub_cons (d := 6) rfl (sub_cons (d := 17) rfl (sub_nil _)))))))) (.refl _) ?_
      refine hl_nil ?_
      refine hq_then ?_
      refine hc_seq ?_
      refine hc_region ?_
      refine hl_v rfl rfl rfl (rv_ev rfl) ?_
      refine hl_q rfl rfl rfl (rq_call (by kernel_rfl) rfl (fun w hm => toIntS_ret xs _ w ((rd_old hv) w hm) (by omega))) ?_
      intro v46 p47 hR48
      subst hR48
      refine hl_v rfl rfl rfl (rv_ev rfl) ?_
      refine hl_less (sub_cons (d := 0) rfl (sub_cons (d := 1) rfl (sub_cons (d := 2) rfl (sub_cons (d := 4) rfl (sub_cons (d := 5) rfl (sub_cons (d := 6) rfl (sub_cons (d := 7) rfl (sub_cons (d := 17) rfl (sub_nil _))))))))) (.refl _) ?_
      refine hl_nil ?_
      refine hq_then ?_
      refine hc_seq ?_
      refine hc_region ?_
      refine hl_v rfl rfl rfl (rv_loadN (cs := [.int .i64 d.W, .int .i64 d.H, .int .i64 d.T, .int .i64 d.R]) rfl (by kernel_rfl) (by kernel_rfl) rfl rfl (box_part 4 rfl 0 rfl)) ?_
      refine hl_callV rfl rfl rfl (rq_call (by kernel_rfl) rfl (fun w hm => ret_ans (toDevice_any d w))) ?_
      refine hl_v rfl rfl rfl (rv_ev rfl) ?_
      refine hl_q rfl rfl rfl (rq_call (by kernel_rfl) rfl (fun w hm => implDecodeTile_ret d xs _ w ((rd_row 0 rfl) w hm) (by omega))) ?_
      intro v49 p50 hR51
      obtain ⟨thR51, rfl, rfl, ⟨c1thR51, c2thR51⟩, valthR51, n1thR51, n2thR51, n3thR51⟩ := hR51
      have bthR51 := And.intro n1thR51 (And.intro n2thR51 n3thR51)
      refine hl_v rfl rfl rfl (rv_ev rfl) ?_
      refine hl_v rfl rfl rfl (rv_ev rfl) ?_
      refine hl_v rfl rfl rfl (rv_ev rfl) ?_
      refine hl_bool (fun h52 => absurd ((h9).symm.trans h52) (by decide)) (fun h52 => ?_)
      refine hl_box rfl rfl rfl (rq_alloc (z := .agg #[.slice none 0 0, .slice none 0 0, .int .i64 0, .int .i64 0]) rfl (by kernel_rfl)) ?_
      intro b53
      refine hl_storeBoxN (i := 0) (off := 0) (us := [thR51.mv, thR51.lv, .int .i64 thR51.pad, .int .i64 thR51.ram]) (l' := [boxE b53 #[thR51.mv, thR51.lv, .int .i64 thR51.pad, .int .i64 thR51.ram] 39, tcE thR51, rowE 3 1 v46 xs.length (xs.map (Value.int .i64)), boxE b45 #[thR8.mv, thR8.lv, .int .i64 thR8.pad, .int .i64 thR8.ram] 39, tcE thR8, rowE 3 1 v3 xs.length (xs.map (Value.int .i64)), boxE b1 #[.int .i64 d.W, .int .i64 d.H, .int .i64 d.T, .int .i64 d.R] 36]) rfl rfl rfl (by kernel_rfl) rfl rfl rfl (all_cons c1thR51 (all_cons c2thR51 (all_cons rfl (all_cons rfl all_nil)))) rfl rfl rfl ?_
      refine hl_v rfl rfl rfl (rv_ev rfl) ?_
      refine hl_less (sub_cons (d := 0) rfl (sub_cons (d := 1) rfl (sub_cons (d := 2) rfl (sub_cons (d := 4) rfl (sub_cons (d := 5) rfl (sub_cons (d := 6) rfl (sub_cons (d := 7) rfl (sub_cons (d := 8) rfl (sub_cons (d := 9) rfl (sub_cons (d := 17) rfl (sub_nil _))))))))))) (.refl _) ?_
      refine hl_nil ?_
      refine hq_then ?_
      refine hc_seq ?_
      refine hc_seq ?_
      refine hc_region ?_
      refine hl_v rfl rfl rfl (rv_loadN (cs := [thR51.mv, thR51.lv, .int .i64 thR51.pad, .int .i64 thR51.ram]) rfl (by kernel_rfl) (by kernel_rfl) rfl rfl (box_part 0 rfl 0 rfl)) ?_
      refine hl_v rfl rfl rfl (rv_loadN (cs := [thR8.mv, thR8.lv, .int .i64 thR8.pad, .int .i64 thR8.ram]) rfl (by kernel_rfl) (by kernel_rfl) rfl rfl (box_part 3 rfl 0 rfl)) ?_
      refine hl_callV rfl rfl rfl (rq_call (by kernel_rfl) rfl (fun w hm => ret_ans (by have h := eqTileConfig_ans thR51 thR8 w (tc_rds 1 rfl bthR51.1 bthR51.2.1 bthR51.2.2 w hm) (tc_rds 4 rfl bthR8.1 bthR8.2.1 bthR8.2.2 w hm); rw [valthR51, valthR8] at h; exact h))) ?_
      refine hl_bool (fun h54 => ?_) (fun h54 => absurd (((decide_eq_true rfl)).symm.trans h54) (by decide))
      refine hl_v rfl rfl rfl (rv_ev rfl) ?_
      refine hl_v rfl rfl rfl (rv_ev rfl) ?_
      refine hl_v rfl rfl rfl (rv_ev rfl) ?_
      refine hl_v rfl rfl rfl (rv_ev rfl) ?_
      refine hl_v rfl rfl rfl (rv_bneq rfl Try.underlying4 rfl rfl) ?_
      refine hl_v rfl rfl rfl (rv_ev rfl) ?_
      refine hl_less (sub_cons (d := 0) rfl (sub_cons (d := 1) rfl (sub_cons (d := 2) rfl (sub_cons (d := 4) rfl (sub_cons (d := 5) rfl (sub_cons (d := 6) rfl (sub_cons (d := 7) rfl (sub_cons (d := 8) rfl (sub_cons (d := 9) rfl (sub_cons (d := 17) rfl (sub_cons (d := 43) rfl (sub_nil _)))))))))))) (.refl _) ?_
      refine hl_nil ?_
      refine hq_then ?_
      refine hc_false rfl ?_
      refine hc_skip ?_
      refine hq_then ?_
      refine hc_seq ?_
      refine hc_seq ?_
      refine hc_region ?_
      refine hl_v rfl rfl rfl (rv_ev rfl) ?_
      refine hl_v rfl rfl rfl (rv_ev rfl) ?_
      refine hl_q rfl rfl rfl (rq_call (by kernel_rfl) rfl (fun w hm => toIntS_ret xs _ w ((rd_old hv) w hm) (by omega))) ?_
      intro v55 p56 hR57
      subst hR57
      refine hl_callV rfl rfl rfl (rq_call (by kernel_rfl) rfl (fun w hm => ret_ans (eqIntS_ans xs xs _ _ w ((rd_row 3 rfl) w hm) ((rd_row 0 rfl) w hm) (by omega)))) ?_
      refine hl_bool (fun h58 => ?_) (fun h58 => absurd (((decide_eq_true rfl)).symm.trans h58) (by decide))
      refine hl_v rfl rfl rfl (rv_ev rfl) ?_
      refine hl_less (sub_cons (d := 0) rfl (sub_cons (d := 1) rfl (sub_cons (d := 2) rfl (sub_cons (d := 4) rfl (sub_cons (d := 5) rfl (sub_cons (d := 6) rfl (sub_cons (d := 7) rfl (sub_cons (d := 8) rfl (sub_cons (d := 9) rfl (sub_cons (d := 17) rfl (sub_cons (d := 43) rfl (sub_cons (d := 48) rfl (sub_nil _))))))))))))) (.refl _) ?_
      refine hl_nil ?_
      refine hq_then ?_
      refine hc_false rfl ?_
      refine hc_skip ?_
      refine hq_then ?_
      refine hc_seq ?_
      refine hc_region ?_
      refine hl_v rfl rfl rfl (rv_ev rfl) ?_
      refine hl_less (sub_cons (d := 0) rfl (sub_cons (d := 1) rfl (sub_cons (d := 2) rfl (sub_cons (d := 4) rfl (sub_cons (d := 5) rfl (sub_cons (d := 6) rfl (sub_cons (d := 7) rfl (sub_cons (d := 8) rfl (sub_cons (d := 9) rfl (sub_cons (d := 10) rfl (sub_cons (d := 17) rfl (sub_cons (d := 43) rfl (sub_cons (d := 48) rfl (sub_nil _)))))))))))))) (.refl _) ?_
      refine hl_nil ?_
      refine hq_then ?_
      refine hc_seq ?_
      refine hc_region ?_
      refine hl_v rfl rfl rfl (rv_ev rfl) ?_
      refine hl_v rfl rfl rfl (rv_ev rfl) ?_
      refine hl_callM (R := (fun u_ p_ => u_ = .int .i64 (1 + xs.length) ∧ p_ = rowE 3 1 v46 xs.length ((seqL 1 xs.length).map (Value.int .i64)))) 3 rfl rfl (by kernel_rfl) rfl rfl (fun l' w hm => markIntS_mut xs 1 v46 _ _ w hm (by omega) (by omega)) ?_
      intro v59 p60 hR61
      obtain ⟨rfl, rfl⟩ := hR61
      refine hl_eqL (l' := [rowE 3 1 v55 xs.length (xs.map (Value.int .i64)), boxE b53 #[thR51.mv, thR51.lv, .int .i64 thR51.pad, .int .i64 thR51.ram] 39, tcE thR51, rowE 3 1 v46 xs.length ((seqL 1 xs.length).map (Value.int .i64)), boxE b45 #[thR8.mv, thR8.lv, .int .i64 thR8.pad, .int .i64 thR8.ram] 39, tcE thR8, rowE 3 1 v3 xs.length (xs.map (Value.int .i64)), boxE b1 #[.int .i64 d.W, .int .i64 d.H, .int .i64 d.T, .int .i64 d.R] 36]) rfl ?_
      refine hl_v rfl rfl rfl (rv_ev rfl) ?_
      refine hl_less (sub_cons (d := 0) rfl (sub_cons (d := 1) rfl (sub_cons (d := 2) rfl (sub_cons (d := 4) rfl (sub_cons (d := 5) rfl (sub_cons (d := 6) rfl (sub_cons (d := 7) rfl (sub_cons (d := 8) rfl (sub_cons (d := 9) rfl (sub_cons (d := 10) rfl (sub_cons (d := 17) rfl (sub_cons (d := 43) rfl (sub_cons (d := 48) rfl (sub_nil _)))))))))))))) (.refl _) ?_
      refine hl_nil ?_
      refine hq_then ?_
      refine hc_seq ?_
      refine hc_seq ?_
      refine hc_region ?_
      refine hl_v rfl rfl rfl (rv_ev rfl) ?_
      refine hl_lss rfl rfl rfl rfl rfl rfl (fun h62 => absurd h62 (by omega)) (fun h62 => ?_)
      refine hl_v rfl rfl rfl (rv_ev rfl) ?_
      refine hl_v rfl rfl rfl (rv_loadN (cs := [thR51.mv, thR51.lv, .int .i64 thR51.pad, .int .i64 thR51.ram]) rfl (by kernel_rfl) (by kernel_rfl) rfl rfl (box_part 1 rfl 0 rfl)) ?_
      refine hl_v rfl rfl rfl (rv_loadN (cs := [thR8.mv, thR8.lv, .int .i64 thR8.pad, .int .i64 thR8.ram]) rfl (by kernel_rfl) (by kernel_rfl) rfl rfl (box_part 4 rfl 0 rfl)) ?_
      refine hl_callV rfl rfl rfl (rq_call (by kernel_rfl) rfl (fun w hm => ret_ans (by have h := eqTileConfig_ans thR51 thR8 w (tc_rds 2 rfl bthR51.1 bthR51.2.1 bthR51.2.2 w hm) (tc_rds 5 rfl bthR8.1 bthR8.2.1 bthR8.2.2 w hm); rw [valthR51, valthR8] at h; exact h))) ?_
      refine hl_bool (fun h63 => ?_) (fun h63 => absurd (((decide_eq_true rfl)).symm.trans h63) (by decide))
      refine hl_v rfl rfl rfl (rv_ev rfl) ?_
      refine hl_v rfl rfl rfl (rv_ev rfl) ?_
      refine hl_v rfl rfl rfl (rv_ev rfl) ?_
      refine hl_v rfl rfl rfl (rv_ev rfl) ?_
      refine hl_v rfl rfl rfl (rv_ev rfl) ?_
      refine hl_v rfl rfl rfl (rv_bneq rfl Try.underlying4 rfl rfl) ?_
      refine hl_v rfl rfl rfl (rv_ev rfl) ?_
      refine hl_less (sub_cons (d := 0) rfl (sub_cons (d := 1) rfl (sub_cons (d := 2) rfl (sub_cons (d := 4) rfl (sub_cons (d := 5) rfl (sub_cons (d := 6) rfl (sub_cons (d := 7) rfl (sub_cons (d := 8) rfl (sub_cons (d := 9) rfl (sub_cons (d := 10) rfl (sub_cons (d := 17) rfl (sub_cons (d := 43) rfl (sub_cons (d := 48) rfl (sub_cons (d := 64) rfl (sub_nil _))))))))))))))) (.refl _) ?_
      refine hl_nil ?_
      refine hq_then ?_
      refine hc_false rfl ?_
      refine hc_skip ?_
      refine hq_then ?_
      refine hc_seq ?_
      refine hc_region ?_
      refine hl_v rfl rfl rfl (rv_ev rfl) ?_
      refine hl_less (sub_cons (d := 0) rfl (sub_cons (d := 1) rfl (sub_cons (d := 2) rfl (sub_cons (d := 4) rfl (sub_cons (d := 5) rfl (sub_cons (d := 6) rfl (sub_cons (d := 7) rfl (sub_cons (d := 8) rfl (sub_cons (d := 9) rfl (sub_cons (d := 10) rfl (sub_cons (d := 11) rfl (sub_cons (d := 17) rfl (sub_cons (d := 43) rfl (sub_cons (d := 48) rfl (sub_cons (d := 64) rfl (sub_nil _)))))))))))))))) (.refl _) ?_
      refine hl_nil ?_
      refine hq_then ?_
      refine hc_seq ?_
      refine hc_region ?_
      refine hl_v rfl rfl rfl (rv_loadN (cs := [thR51.mv, thR51.lv, .int .i64 thR51.pad, .int .i64 thR51.ram]) rfl (by kernel_rfl) (by kernel_rfl) rfl rfl (box_part 1 rfl 0 rfl)) ?_
      refine hl_v rfl rfl rfl (rv_ev rfl) ?_
      refine hl_callM (R := (fun u_ p_ => u_ = .int .i64 (sumT 1 thR51) ∧ p_ = tcE (markT 1 thR51))) 2 rfl rfl (by kernel_rfl) rfl rfl (fun l' w hm => markTileConfig_mut thR51 1 _ _ w hm (by omega) bthR51.1 bthR51.2.1 bthR51.2.2) ?_
      intro v64 p65 hR66
      obtain ⟨rfl, rfl⟩ := hR66
      have mthR51 := markT_bounds (k := 1) bthR51.1 bthR51.2.1 bthR51.2.2
      have sathR51 := sumT_again 1 thR51
      have srthR51 := sumT_rng bthR51.1 bthR51.2.2
      refine hl_eqL (l' := [rowE 3 1 v55 xs.length (xs.map (Value.int .i64)), boxE b53 #[thR51.mv, thR51.lv, .int .i64 thR51.pad, .int .i64 thR51.ram] 39, tcE (markT 1 thR51), rowE 3 1 v46 xs.length ((seqL 1 xs.length).map (Value.int .i64)), boxE b45 #[thR8.mv, thR8.lv, .int .i64 thR8.pad, .int .i64 thR8.ram] 39, tcE thR8, rowE 3 1 v3 xs.length (xs.map (Value.int .i64)), boxE b1 #[.int .i64 d.W, .int .i64 d.H, .int .i64 d.T, .int .i64 d.R] 36]) rfl ?_
      refine hl_v rfl rfl rfl (rv_ev rfl) ?_
      refine hl_less (sub_cons (d := 0) rfl (sub_cons (d := 1) rfl (sub_cons (d := 2) rfl (sub_cons (d := 4) rfl (sub_cons (d := 5) rfl (sub_cons (d := 6) rfl (sub_cons (d := 7) rfl (sub_cons (d := 8) rfl (sub_cons (d := 9) rfl (sub_cons (d := 10) rfl (sub_cons (d := 11) rfl (sub_cons (d := 17) rfl (sub_cons (d := 43) rfl (sub_cons (d := 48) rfl (sub_cons (d := 64) rfl (sub_nil _)))))))))))))))) (.refl _) ?_
      refine hl_nil ?_
      refine hq_then ?_
      refine hc_seq ?_
      refine hc_region ?_
      refine hl_v rfl rfl rfl (rv_ev rfl) ?_
      refine hl_less (sub_cons (d := 0) rfl (sub_cons (d := 1) rfl (sub_cons (d := 2) rfl (sub_cons (d := 4) rfl (sub_cons (d := 5) rfl (sub_cons (d := 6) rfl (sub_cons (d := 7) rfl (sub_cons (d := 8) rfl (sub_cons (d := 9) rfl (sub_cons (d := 10) rfl (sub_cons (d := 11) rfl (sub_cons (d := 12) rfl (sub_cons (d := 17) rfl (sub_cons (d := 43) rfl (sub_cons (d := 48) rfl (sub_cons (d := 64) rfl (sub_nil _))))))))))))))))) (.refl _) ?_
      refine hl_nil ?_
      refine hq_then ?_
      refine hc_seq ?_
      refine hc_region ?_
      refine hl_v rfl rfl rfl (rv_loadN (cs := [thR51.mv, thR51.lv, .int .i64 thR51.pad, .int .i64 thR51.ram]) rfl (by kernel_rfl) (by kernel_rfl) rfl rfl (box_part 1 rfl 0 rfl)) ?_
      refine hl_v rfl rfl rfl (rv_ev rfl) ?_
      refine hl_callV rfl rfl rfl (rq_call (by kernel_rfl) rfl (fun w hm => ret_ans (heldTileConfig_ans (markT 1 thR51) 1 w (tc_rds 2 rfl mthR51.1 mthR51.2.1 mthR51.2.2 w hm) (by omega) (markT_again _ _)))) ?_
      refine hl_v rfl rfl rfl (rv_ev rfl) ?_
      refine hl_less (sub_cons (d := 0) rfl (sub_cons (d := 1) rfl (sub_cons (d := 2) rfl (sub_cons (d := 4) rfl (sub_cons (d := 5) rfl (sub_cons (d := 6) rfl (sub_cons (d := 7) rfl (sub_cons (d := 8) rfl (sub_cons (d := 9) rfl (sub_cons (d := 10) rfl (sub_cons (d := 11) rfl (sub_cons (d := 12) rfl (sub_cons (d := 17) rfl (sub_cons (d := 43) rfl (sub_cons (d := 48) rfl (sub_cons (d := 64) rfl (sub_nil _))))))))))))))))) (.refl _) ?_
      refine hl_nil ?_
      refine hq_then ?_
      refine hc_seq ?_
      refine hc_seq ?_
      refine hc_region ?_
      refine hl_v rfl rfl rfl (rv_ev rfl) ?_
      refine hl_lss rfl rfl rfl rfl rfl rfl (fun h67 => absurd h67 (by omega)) (fun h67 => ?_)
      refine hl_less (sub_cons (d := 0) rfl (sub_cons (d := 1) rfl (sub_cons (d := 2) rfl (sub_cons (d := 4) rfl (sub_cons (d := 5) rfl (sub_cons (d := 6) rfl (sub_cons (d := 7) rfl (sub_cons (d := 8) rfl (sub_cons (d := 9) rfl (sub_cons (d := 10) rfl (sub_cons (d := 11) rfl (sub_cons (d := 12) rfl (sub_cons (d := 17) rfl (sub_cons (d := 43) rfl (sub_cons (d := 48) rfl (sub_cons (d := 64) rfl (sub_cons (d := 72) rfl (sub_nil _)))))))))))))))))) (.refl _) ?_
      refine hl_nil ?_
      refine hq_then ?_
      refine hc_false rfl ?_
      refine hc_skip ?_
      refine hq_then ?_
      refine hc_seq ?_
      refine hc_seq ?_
      refine hc_region ?_
      refine hl_v rfl rfl rfl (rv_ev rfl) ?_
      refine hl_v rfl rfl rfl (rv_ev rfl) ?_
      refine hl_neq rfl rfl rfl rfl rfl rfl (fun h68 => absurd h68 (by omega)) (fun h68 => ?_)
      refine hl_less (sub_cons (d := 0) rfl (sub_cons (d := 1) rfl (sub_cons (d := 2) rfl (sub_cons (d := 4) rfl (sub_cons (d := 5) rfl (sub_cons (d := 6) rfl (sub_cons (d := 7) rfl (sub_cons (d := 8) rfl (sub_cons (d := 9) rfl (sub_cons (d := 10) rfl (sub_cons (d := 11) rfl (sub_cons (d := 12) rfl (sub_cons (d := 17) rfl (sub_cons (d := 43) rfl (sub_cons (d := 48) rfl (sub_cons (d := 64) rfl (sub_cons (d := 72) rfl (sub_cons (d := 75) rfl (sub_nil _))))))))))))))))))) (.refl _) ?_
      refine hl_nil ?_
      refine hq_then ?_
      refine hc_false rfl ?_
      refine hc_skip ?_
      refine hq_then ?_
      refine hc_seq ?_
      refine hc_region ?_
      refine hl_v rfl rfl rfl (rv_loadN (cs := [.int .i64 d.W, .int .i64 d.H, .int .i64 d.T, .int .i64 d.R]) rfl (by kernel_rfl) (by kernel_rfl) rfl rfl (box_part 7 rfl 0 rfl)) ?_
      refine hl_callV rfl rfl rfl (rq_call (by kernel_rfl) rfl (fun w hm => ret_ans (toDevice_any d w))) ?_
      refine hl_v rfl rfl rfl (rv_ev rfl) ?_
      refine hl_q rfl rfl rfl (rq_call (by kernel_rfl) rfl (fun w hm => toIntS_ret xs _ w ((rd_old hv) w hm) (by omega))) ?_
      intro v69 p70 hR71
      subst hR71
      refine hl_q rfl rfl rfl (rq_call (by kernel_rfl) rfl (fun w hm => implDecodeTile_ret d xs _ w ((rd_row 0 rfl) w hm) (by omega))) ?_
      intro v72 p73 hR74
      obtain ⟨thR74, rfl, rfl, ⟨c1thR74, c2thR74⟩, valthR74, n1thR74, n2thR74, n3thR74⟩ := hR74
      have bthR74 := And.intro n1thR74 (And.intro n2thR74 n3thR74)
      refine hl_v rfl rfl rfl (rv_ev rfl) ?_
      refine hl_v rfl rfl rfl (rv_ev rfl) ?_
      refine hl_v rfl rfl rfl (rv_ev rfl) ?_
      refine hl_bool (fun h75 => absurd ((h9).symm.trans h75) (by decide)) (fun h75 => ?_)
      refine hl_box rfl rfl rfl (rq_alloc (z := .agg #[.slice none 0 0, .slice none 0 0, .int .i64 0, .int .i64 0]) rfl (by kernel_rfl)) ?_
      intro b76
      refine hl_storeBoxN (i := 0) (off := 0) (us := [thR74.mv, thR74.lv, .int .i64 thR74.pad, .int .i64 thR74.ram]) (l' := [boxE b76 #[thR74.mv, thR74.lv, .int .i64 thR74.pad, .int .i64 thR74.ram] 39, tcE thR74, rowE 3 1 v69 xs.length (xs.map (Value.int .i64)), rowE 3 1 v55 xs.length (xs.map (Value.int .i64)), boxE b53 #[thR51.mv, thR51.lv, .int .i64 thR51.pad, .int .i64 thR51.ram] 39, tcE (markT 1 thR51), rowE 3 1 v46 xs.length ((seqL 1 xs.length).map (Value.int .i64)), boxE b45 #[thR8.mv, thR8.lv, .int .i64 thR8.pad, .int .i64 thR8.ram] 39, tcE thR8, rowE 3 1 v3 xs.length (xs.map (Value.int .i64)), boxE b1 #[.int .i64 d.W, .int .i64 d.H, .int .i64 d.T, .int .i64 d.R] 36]) rfl rfl rfl (by kernel_rfl) rfl rfl rfl (all_cons c1thR74 (all_cons c2thR74 (all_cons rfl (all_cons rfl all_nil)))) rfl rfl rfl ?_
      refine hl_v rfl rfl rfl (rv_ev rfl) ?_
      refine hl_less (sub_cons (d := 0) rfl (sub_cons (d := 1) rfl (sub_cons (d := 2) rfl (sub_cons (d := 4) rfl (sub_cons (d := 5) rfl (sub_cons (d := 6) rfl (sub_cons (d := 7) rfl (sub_cons (d := 8) rfl (sub_cons (d := 9) rfl (sub_cons (d := 10) rfl (sub_cons (d := 11) rfl (sub_cons (d := 12) rfl (sub_cons (d := 13) rfl (sub_cons (d := 14) rfl (sub_cons (d := 17) rfl (sub_cons (d := 43) rfl (sub_cons (d := 48) rfl (sub_cons (d := 64) rfl (sub_cons (d := 72) rfl (sub_cons (d := 75) rfl (sub_nil _))))))))))))))))))))) (.refl _) ?_
      refine hl_nil ?_
      refine hq_then ?_
      refine hc_seq ?_
      refine hc_seq ?_
      refine hc_region ?_
      refine hl_v rfl rfl rfl (rv_loadN (cs := [thR74.mv, thR74.lv, .int .i64 thR74.pad, .int .i64 thR74.ram]) rfl (by kernel_rfl) (by kernel_rfl) rfl rfl (box_part 0 rfl 0 rfl)) ?_
      refine hl_v rfl rfl rfl (rv_loadN (cs := [thR8.mv, thR8.lv, .int .i64 thR8.pad, .int .i64 thR8.ram]) rfl (by kernel_rfl) (by kernel_rfl) rfl rfl (box_part 7 rfl 0 rfl)) ?_
      refine hl_callV rfl rfl rfl (rq_call (by kernel_rfl) rfl (fun w hm => ret_ans (by have h := eqTileConfig_ans thR74 thR8 w (tc_rds 1 rfl bthR74.1 bthR74.2.1 bthR74.2.2 w hm) (tc_rds 8 rfl bthR8.1 bthR8.2.1 bthR8.2.2 w hm); rw [valthR74, valthR8] at h; exact h))) ?_
      refine hl_bool (fun h77 => ?_) (fun h77 => absurd (((decide_eq_true rfl)).symm.trans h77) (by decide))
      refine hl_v rfl rfl rfl (rv_ev rfl) ?_
      refine hl_v rfl rfl rfl (rv_ev rfl) ?_
      refine hl_v rfl rfl rfl (rv_ev rfl) ?_
      refine hl_v rfl rfl rfl (rv_ev rfl) ?_
      refine hl_v rfl rfl rfl (rv_bneq rfl Try.underlying4 rfl rfl) ?_
      refine hl_v rfl rfl rfl (rv_ev rfl) ?_
      refine hl_less (sub_cons (d := 0) rfl (sub_cons (d := 1) rfl (sub_cons (d := 2) rfl (sub_cons (d := 4) rfl (sub_cons (d := 5) rfl (sub_cons (d := 6) rfl (sub_cons (d := 7) rfl (sub_cons (d := 8) rfl (sub_cons (d := 9) rfl (sub_cons (d := 10) rfl (sub_cons (d := 11) rfl (sub_cons (d := 12) rfl (sub_cons (d := 13) rfl (sub_cons (d := 14) rfl (sub_cons (d := 17) rfl (sub_cons (d := 43) rfl (sub_cons (d := 48) rfl (sub_cons (d := 64) rfl (sub_cons (d := 72) rfl (sub_cons (d := 75) rfl (sub_cons (d := 92) rfl (sub_nil _)))))))))))))))))))))) (.refl _) ?_
      refine hl_nil ?_
      refine hq_then ?_
      refine hc_false rfl ?_
      refine hc_skip ?_
      refine hq_then ?_
      refine hc_seq ?_
      refine hc_region ?_
      refine hl_v rfl rfl rfl (rv_ev rfl) ?_
      refine hl_less (sub_cons (d := 0) rfl (sub_cons (d := 1) rfl (sub_cons (d := 2) rfl (sub_cons (d := 4) rfl (sub_cons (d := 5) rfl (sub_cons (d := 6) rfl (sub_cons (d := 7) rfl (sub_cons (d := 8) rfl (sub_cons (d := 9) rfl (sub_cons (d := 10) rfl (sub_cons (d := 11) rfl (sub_cons (d := 12) rfl (sub_cons (d := 13) rfl (sub_cons (d := 14) rfl (sub_cons (d := 17) rfl (sub_cons (d := 43) rfl (sub_cons (d := 48) rfl (sub_cons (d := 64) rfl (sub_cons (d := 72) rfl (sub_cons (d := 75) rfl (sub_cons (d := 92) rfl (sub_nil _)))))))))))))))))))))) (.refl _) ?_
      refine hl_nil ?_
      refine hq_then ?_
      refine hc_seq ?_
      refine hc_region ?_
      refine hl_v rfl rfl rfl (rv_loadN (cs := [thR51.mv, thR51.lv, .int .i64 thR51.pad, .int .i64 thR51.ram]) rfl (by kernel_rfl) (by kernel_rfl) rfl rfl (box_part 4 rfl 0 rfl)) ?_
      refine hl_v rfl rfl rfl (rv_ev rfl) ?_
      refine hl_callV rfl rfl rfl (rq_call (by kernel_rfl) rfl (fun w hm => ret_ans (heldTileConfig_ans (markT 1 thR51) 1 w (tc_rds 5 rfl mthR51.1 mthR51.2.1 mthR51.2.2 w hm) (by omega) (markT_again _ _)))) ?_
      refine hl_v rfl rfl rfl (rv_ev rfl) ?_
      refine hl_less (sub_cons (d := 0) rfl (sub_cons (d := 1) rfl (sub_cons (d := 2) rfl (sub_cons (d := 4) rfl (sub_cons (d := 5) rfl (sub_cons (d := 6) rfl (sub_cons (d := 7) rfl (sub_cons (d := 8) rfl (sub_cons (d := 9) rfl (sub_cons (d := 10) rfl (sub_cons (d := 11) rfl (sub_cons (d := 12) rfl (sub_cons (d := 13) rfl (sub_cons (d := 14) rfl (sub_cons (d := 17) rfl (sub_cons (d := 43) rfl (sub_cons (d := 48) rfl (sub_cons (d := 64) rfl (sub_cons (d := 72) rfl (sub_cons (d := 75) rfl (sub_cons (d := 92) rfl (sub_nil _)))))))))))))))))))))) (.refl _) ?_
      refine hl_nil ?_
      refine hq_then ?_
      refine hc_seq ?_
      refine hc_seq ?_
      refine hc_region ?_
      refine hl_v rfl rfl rfl (rv_ev rfl) ?_
      refine hl_lss rfl rfl rfl rfl rfl rfl (fun h78 => absurd h78 (by omega)) (fun h78 => ?_)
      refine hl_less (sub_cons (d := 0) rfl (sub_cons (d := 1) rfl (sub_cons (d := 2) rfl (sub_cons (d := 4) rfl (sub_cons (d := 5) rfl (sub_cons (d := 6) rfl (sub_cons (d := 7) rfl (sub_cons (d := 8) rfl (sub_cons (d := 9) rfl (sub_cons (d := 10) rfl (sub_cons (d := 11) rfl (sub_cons (d := 12) rfl (sub_cons (d := 13) rfl (sub_cons (d := 14) rfl (sub_cons (d := 17) rfl (sub_cons (d := 43) rfl (sub_cons (d := 48) rfl (sub_cons (d := 64) rfl (sub_cons (d := 72) rfl (sub_cons (d := 75) rfl (sub_cons (d := 92) rfl (sub_cons (d := 97) rfl (sub_nil _))))))))))))))))))))))) (.refl _) ?_
      refine hl_nil ?_
      refine hq_then ?_
      refine hc_false rfl ?_
      refine hc_skip ?_
      refine hq_then ?_
      refine hc_seq ?_
      refine hc_seq ?_
      refine hc_region ?_
      refine hl_v rfl rfl rfl (rv_ev rfl) ?_
      refine hl_v rfl rfl rfl (rv_ev rfl) ?_
      refine hl_neq rfl rfl rfl rfl rfl rfl (fun h79 => absurd h79 (by omega)) (fun h79 => ?_)
      refine hl_less (sub_cons (d := 0) rfl (sub_cons (d := 1) rfl (sub_cons (d := 2) rfl (sub_cons (d := 4) rfl (sub_cons (d := 5) rfl (sub_cons (d := 6) rfl (sub_cons (d := 7) rfl (sub_cons (d := 8) rfl (sub_cons (d := 9) rfl (sub_cons (d := 10) rfl (sub_cons (d := 11) rfl (sub_cons (d := 12) rfl (sub_cons (d := 13) rfl (sub_cons (d := 14) rfl (sub_cons (d := 17) rfl (sub_cons (d := 43) rfl (sub_cons (d := 48) rfl (sub_cons (d := 64) rfl (sub_cons (d := 72) rfl (sub_cons (d := 75) rfl (sub_cons (d := 92) rfl (sub_cons (d := 97) rfl (sub_cons (d := 100) rfl (sub_nil _)))))))))))))))))))))))) (.refl _) ?_
      refine hl_nil ?_
      refine hq_then ?_
      refine hc_false rfl ?_
      refine hc_skip ?_
      refine hq_then ?_
      refine hc_seq ?_
      refine hc_region ?_
      refine hl_v rfl rfl rfl (rv_ev rfl) ?_
      refine hl_less (sub_cons (d := 0) rfl (sub_cons (d := 1) rfl (sub_cons (d := 2) rfl (sub_cons (d := 4) rfl (sub_cons (d := 5) rfl (sub_cons (d := 6) rfl (sub_cons (d := 7) rfl (sub_cons (d := 8) rfl (sub_cons (d := 9) rfl (sub_cons (d := 10) rfl (sub_cons (d := 11) rfl (sub_cons (d := 12) rfl (sub_cons (d := 13) rfl (sub_cons (d := 14) rfl (sub_cons (d := 17) rfl (sub_cons (d := 43) rfl (sub_cons (d := 48) rfl (sub_cons (d := 64) rfl (sub_cons (d := 72) rfl (sub_cons (d := 75) rfl (sub_cons (d := 92) rfl (sub_cons (d := 97) rfl (sub_cons (d := 100) rfl (sub_nil _)))))))))))))))))))))))) (.refl _) ?_
      refine hl_nil ?_
      refine hq_then ?_
      refine hc_ret ?_
      exact hq_ans rfl rfl rfl
end Go.Proofs.Ytnnkbpcfjjijbaa
