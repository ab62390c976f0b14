/- DecodeTile of the reference: the walk. -/
import Derived.Test.YtnnkbpcfjjijbaaEx11
set_option linter.unusedVariables false
set_option linter.unusedSimpArgs false
namespace Go.Proofs.Ytnnkbpcfjjijbaa
open Go.RowKit
set_option maxHeartbeats 4000000 in
set_option maxRecDepth 100000 in
theorem specDecodeTile_ret (d : Dev) (xs : List Int) (v : Value) (w : World) (hv : RdsW w v 1 xs.length (xs.map (Value.int .i64))) (hlen : xs.length ≤ 2000000) :
    Calls Try.prog 47 #[.agg #[.int .i64 d.W, .int .i64 d.H, .int .i64 d.T, .int .i64 d.R], v] w (Ret w (IsTc2 (decV2 d xs) (decOk d xs))) := by
  have hmu0 : muxs d = 5 + 4 * d.T := rfl
  refine calls_hc (N := 120) (args := [.agg #[.int .i64 d.W, .int .i64 d.H, .int .i64 d.T, .int .i64 d.R], v]) Try.func47 rfl rfl ?_
  refine hc_less _ (sub_cons (d := 0) rfl (sub_cons (d := 1) rfl (sub_nil _))) (.refl _) ?_
  refine hc_seq ?_
  refine hc_region ?_
  refine hl_box rfl rfl rfl (rq_box rfl rfl) ?_
  intro b1
  refine hl_box rfl rfl rfl (rq_alloc (z := .agg #[.slice none 0 0, .slice none 0 0, .int .i64 0, .int .i64 0]) rfl (by kernel_rfl)) ?_
  intro b2
  refine hl_v rfl rfl rfl (rv_ev rfl) ?_
  refine hl_less (sub_cons (d := 0) rfl (sub_cons (d := 1) rfl (sub_cons (d := 2) rfl (sub_cons (d := 4) rfl (sub_cons (d := 5) rfl (sub_nil _)))))) (.refl _) ?_
  refine hl_nil ?_
  refine hq_then ?_
  refine hc_seq ?_
  refine hc_seq ?_
  refine hc_region ?_
  refine hl_v rfl rfl rfl (rv_loadN (cs := [.int .i64 d.W, .int .i64 d.H, .int .i64 d.T, .int .i64 d.R]) rfl (by kernel_rfl) (by kernel_rfl) rfl rfl (box_part 1 rfl 0 rfl)) ?_
  refine hl_callV rfl rfl rfl (rq_call (by kernel_rfl) rfl (fun w hm => ret_ans (specDeviceOk_any d w))) ?_
  refine hl_bool (fun h3 => ?_) (fun h3 => ?_)
  ·
    obtain ⟨-, -, ⟨l1, l2⟩, -⟩ := (devB_iff d).1 h3
    refine hl_v rfl rfl rfl (rv_ev rfl) ?_
    refine hl_v rfl rfl rfl (rv_ev rfl) ?_
    refine hl_v rfl rfl rfl (rv_ev rfl) ?_
    refine hl_v rfl rfl rfl (rv_len rfl Try.underlying30 rfl (rd_old hv)) ?_
    refine hl_v rfl rfl rfl (rv_loadN (cs := [.int .i64 d.W, .int .i64 d.H, .int .i64 d.T, .int .i64 d.R]) rfl (by kernel_rfl) (by kernel_rfl) rfl rfl (box_part 1 rfl 0 rfl)) ?_
    refine hl_callV rfl rfl rfl (rq_call (by kernel_rfl) rfl (fun w hm => ret_ans (specFrameWords_yes d (by assumption) w))) ?_
    refine hl_neq rfl rfl rfl rfl rfl rfl (fun h4 => ?_) (fun h4 => ?_)
    ·
      refine hl_v rfl rfl rfl (rv_ev rfl) ?_
      refine hl_less (sub_cons (d := 0) rfl (sub_cons (d := 1) rfl (sub_cons (d := 2) rfl (sub_cons (d := 4) rfl (sub_cons (d := 5) rfl (sub_cons (d := 23) rfl (sub_nil _))))))) (.refl _) ?_
      refine hl_nil ?_
      refine hq_then ?_
      refine hc_true rfl ?_
      refine hc_seq ?_
      refine hc_region ?_
      refine hl_v rfl rfl rfl (rv_build (cs := #[.slice none 0 0, .slice none 0 0, .int .i64 0, .int .i64 0]) rfl rfl (by kernel_rfl)) ?_
      refine hl_storeBoxN (i := 0) (off := 0) (us := [.slice none 0 0, .slice none 0 0, .int .i64 0, .int .i64 0]) (l' := [boxE b2 #[.slice none 0 0, .slice none 0 0, .int .i64 0, .int .i64 0] 39, boxE b1 #[.int .i64 d.W, .int .i64 d.H, .int .i64 d.T, .int .i64 d.R] 25]) rfl rfl rfl (by kernel_rfl) rfl rfl rfl (all_cons rfl (all_cons rfl (all_cons rfl (all_cons rfl all_nil)))) rfl rfl rfl ?_
      refine hl_v rfl rfl rfl (rv_ev rfl) ?_
      refine hl_less (sub_cons (d := 0) rfl (sub_cons (d := 1) rfl (sub_cons (d := 2) rfl (sub_cons (d := 4) rfl (sub_cons (d := 5) rfl (sub_cons (d := 23) rfl (sub_nil _))))))) (.refl _) ?_
      refine hl_nil ?_
      refine hq_then ?_
      refine hc_ret ?_
      refine hq_then_ret ?_
      have hfr0 : frW d = (5 * (5 + 4 * d.T) + 67 + 15) / 16 := rfl
      have hno : decOk d xs = false := by unfold decOk; first | (simp only [*]; rfl) | (rw [Bool.and_eq_false_iff]; right; rw [Bool.eq_false_iff]; intro h; obtain ⟨q1, q2⟩ := (wordsB_iff _ _).1 h; first | omega | (have := q2 j (by omega); omega))
      refine hq_conv (tcE (Tc.mk (.slice none 0 0) [] (.slice none 0 0) [] 0 0) :: [boxE b2 #[.slice none 0 0, .slice none 0 0, .int .i64 0, .int .i64 0] 39, boxE b1 #[.int .i64 d.W, .int .i64 d.H, .int .i64 d.T, .int .i64 d.R] 25]) (fun w hm => hm.tcNil) ?_
      exact hq_retM (rs := [.cell 4 39, .tmp 5]) (vs := [.agg #[.slice none 0 0, .slice none 0 0, .int .i64 0, .int .i64 0], .bool false]) (post := [tcE (Tc.mk (.slice none 0 0) [] (.slice none 0 0) [] 0 0)]) rfl ⟨⟨b2, 0, [.slice none 0 0, .slice none 0 0, .int .i64 0, .int .i64 0], rfl, rfl, by kernel_rfl, by kernel_rfl, box_part 1 rfl 0 rfl⟩, rfl, trivial⟩ rfl (.cons_cons _ (List.nil_sublist _)) ⟨Tc.mk (.slice none 0 0) [] (.slice none 0 0) [] 0 0, by rw [hno]; rfl, rfl, ⟨rfl, rfl⟩, by unfold decV2; rw [hno]; rfl, by decide, by decide, by simp⟩
    ·
      refine hl_v rfl rfl rfl (rv_ev rfl) ?_
      refine hl_less (sub_cons (d := 0) rfl (sub_cons (d := 1) rfl (sub_cons (d := 2) rfl (sub_cons (d := 4) rfl (sub_cons (d := 5) rfl (sub_cons (d := 23) rfl (sub_nil _))))))) (.refl _) ?_
      refine hl_nil ?_
      refine hq_then ?_
      refine hc_false rfl ?_
      refine hc_skip ?_
      refine hq_then ?_
      refine hc_seq ?_
      refine hc_seq ?_
      refine hc_region ?_
      refine hl_v rfl rfl rfl (rv_ev rfl) ?_
      refine hl_less (sub_cons (d := 0) rfl (sub_cons (d := 1) rfl (sub_cons (d := 2) rfl (sub_cons (d := 4) rfl (sub_cons (d := 5) rfl (sub_cons (d := 6) rfl (sub_cons (d := 23) rfl (sub_nil _)))))))) (.refl _) ?_
      refine hl_nil ?_
      refine hq_then ?_
      refine hc_block ?_
      refine hc_loop1 (α := Nat) (fun j => [boxE b2 #[.slice none 0 0, .slice none 0 0, .int .i64 0, .int .i64 0] 39, boxE b1 #[.int .i64 d.W, .int .i64 d.H, .int .i64 d.T, .int .i64 d.R] 25]) (fun j => [(0, .agg #[.int .i64 d.W, .int .i64 d.H, .int .i64 d.T, .int .i64 d.R]), (1, v), (2, .pointer (some ⟨b1, 0, none⟩)), (4, .pointer (some ⟨b2, 0, none⟩)), (5, .bool false), (6, .int .i64 (j : Int)), (23, .bool false)]) (fun j => j ≤ xs.length ∧ ∀ i, i < j → 0 ≤ xs.getD i 0 ∧ xs.getD i 0 ≤ 65535) (fun j => xs.length - j) 0 ⟨by omega, fun i hi => absurd hi (by omega)⟩ (sub_cons (d := 0) rfl (sub_cons (d := 1) rfl (sub_cons (d := 2) rfl (sub_cons (d := 4) rfl (sub_cons (d := 5) rfl (sub_cons (d := 6) rfl (sub_cons (d := 23) rfl (sub_nil _)))))))) ((.cons_cons _ (.cons_cons _ .slnil))) ?_
      intro j hi5
      obtain ⟨hk1, hk2⟩ := hi5
      refine hc_seq ?_
      refine hc_seq ?_
      refine hc_region ?_
      refine hl_v rfl rfl rfl (rv_ev rfl) ?_
      refine hl_v rfl rfl rfl (rv_ev rfl) ?_
      refine hl_v rfl rfl rfl (rv_len rfl Try.underlying30 rfl (rd_old hv)) ?_
      refine hl_lss rfl rfl rfl rfl rfl rfl (fun h6 => ?_) (fun h6 => ?_)
      ·
        refine hl_less (sub_cons (d := 0) rfl (sub_cons (d := 1) rfl (sub_cons (d := 2) rfl (sub_cons (d := 4) rfl (sub_cons (d := 5) rfl (sub_cons (d := 6) rfl (sub_cons (d := 23) rfl (sub_cons (d := 28) rfl (sub_nil _))))))))) (.refl _) ?_
        refine hl_nil ?_
        refine hq_then ?_
        refine hc_true rfl ?_
        refine hc_skip ?_
        refine hq_then ?_
        refine hc_seq ?_
        refine hc_block ?_
        refine hc_seq ?_
        refine hc_region ?_
        refine hl_v rfl rfl rfl (rv_ev rfl) ?_
        refine hl_v rfl rfl rfl (rv_ev rfl) ?_
        refine hl_v rfl rfl rfl (rv_index (s := 1) rfl Try.underlying30 (by kernel_rfl) rfl rfl (rd_old hv) (by omega) (by first | omega | (simp only [List.length_set]; omega))) ?_
        refine hl_v rfl rfl rfl (rv_loadEl (u := .int .i64 (xs.getD j 0)) rfl (by kernel_rfl) rfl (rd_old hv) (ints_at1 (show _ < xs.length by first | omega | (simp only [List.length_set]; omega)))) ?_
        refine hl_callV rfl rfl rfl (rq_call (by kernel_rfl) rfl (fun w hm => ret_ans (ans_of (l01In_any _ _ _ w)))) ?_
        refine hl_bool (fun h7 => ?_) (fun h7 => ?_)
        ·
          obtain ⟨h7a, h7b⟩ := (inR_iff _ _ _).1 h7
          refine hl_v rfl rfl rfl (rv_ev rfl) ?_
          refine hl_less (sub_cons (d := 0) rfl (sub_cons (d := 1) rfl (sub_cons (d := 2) rfl (sub_cons (d := 4) rfl (sub_cons (d := 5) rfl (sub_cons (d := 6) rfl (sub_cons (d := 23) rfl (sub_cons (d := 28) rfl (sub_cons (d := 36) rfl (sub_nil _)))))))))) (.refl _) ?_
          refine hl_nil ?_
          refine hq_then ?_
          refine hc_false rfl ?_
          refine hc_skip ?_
          refine hq_block_normal ?_
          refine hq_then ?_
          refine hc_region ?_
          refine hl_v rfl rfl rfl (rv_ev rfl) ?_
          refine hl_v rfl rfl rfl (rv_add rfl rfl rfl (by constructor <;> omega)) ?_
          refine hl_v rfl rfl rfl (rv_ev rfl) ?_
          refine hl_less (sub_cons (d := 0) rfl (sub_cons (d := 1) rfl (sub_cons (d := 2) rfl (sub_cons (d := 4) rfl (sub_cons (d := 5) rfl (sub_cons (d := 6) rfl (sub_cons (d := 23) rfl (sub_cons (d := 28) rfl (sub_cons (d := 36) rfl (sub_nil _)))))))))) (.refl _) ?_
          refine hl_nil ?_
          exact hq_round1 (j + 1) ⟨by omega, fun i hi => by by_cases hij : i = j; (subst hij; omega); exact hk2 i (by omega)⟩ (by omega) (sub_cons (d := 0) rfl (sub_cons (d := 1) rfl (sub_cons (d := 2) rfl (sub_cons (d := 4) rfl (sub_cons (d := 5) rfl (sub_cons (d := 6) rfl (sub_cons (d := 23) rfl (sub_nil _)))))))) ((.cons_cons _ (.cons_cons _ .slnil)))
        ·
          have h7a := inR_nah h7
          refine hl_v rfl rfl rfl (rv_ev rfl) ?_
          refine hl_less (sub_cons (d := 0) rfl (sub_cons (d := 1) rfl (sub_cons (d := 2) rfl (sub_cons (d := 4) rfl (sub_cons (d := 5) rfl (sub_cons (d := 6) rfl (sub_cons (d := 23) rfl (sub_cons (d := 28) rfl (sub_cons (d := 36) rfl (sub_nil _)))))))))) (.refl _) ?_
          refine hl_nil ?_
          refine hq_then ?_
          refine hc_true rfl ?_
          refine hc_seq ?_
          refine hc_region ?_
          refine hl_v rfl rfl rfl (rv_build (cs := #[.slice none 0 0, .slice none 0 0, .int .i64 0, .int .i64 0]) rfl rfl (by kernel_rfl)) ?_
          refine hl_storeBoxN (i := 0) (off := 0) (us := [.slice none 0 0, .slice none 0 0, .int .i64 0, .int .i64 0]) (l' := [boxE b2 #[.slice none 0 0, .slice none 0 0, .int .i64 0, .int .i64 0] 39, boxE b1 #[.int .i64 d.W, .int .i64 d.H, .int .i64 d.T, .int .i64 d.R] 25]) rfl rfl rfl (by kernel_rfl) rfl rfl rfl (all_cons rfl (all_cons rfl (all_cons rfl (all_cons rfl all_nil)))) rfl rfl rfl ?_
          refine hl_v rfl rfl rfl (rv_ev rfl) ?_
          refine hl_less (sub_cons (d := 0) rfl (sub_cons (d := 1) rfl (sub_cons (d := 2) rfl (sub_cons (d := 4) rfl (sub_cons (d := 5) rfl (sub_cons (d := 6) rfl (sub_cons (d := 23) rfl (sub_cons (d := 28) rfl (sub_cons (d := 36) rfl (sub_nil _)))))))))) (.refl _) ?_
          refine hl_nil ?_
          refine hq_then ?_
          refine hc_ret ?_
          refine hq_block_ret ?_
          refine hq_then_ret ?_
          refine hq_then_ret ?_
          refine hq_block_ret ?_
          refine hq_then_ret ?_
          have hfr0 : frW d = (5 * (5 + 4 * d.T) + 67 + 15) / 16 := rfl
          have hno : decOk d xs = false := by unfold decOk; first | (simp only [*]; rfl) | (rw [Bool.and_eq_false_iff]; right; rw [Bool.eq_false_iff]; intro h; obtain ⟨q1, q2⟩ := (wordsB_iff _ _).1 h; first | omega | (have := q2 j (by omega); omega))
          refine hq_conv (tcE (Tc.mk (.slice none 0 0) [] (.slice none 0 0) [] 0 0) :: [boxE b2 #[.slice none 0 0, .slice none 0 0, .int .i64 0, .int .i64 0] 39, boxE b1 #[.int .i64 d.W, .int .i64 d.H, .int .i64 d.T, .int .i64 d.R] 25]) (fun w hm => hm.tcNil) ?_
          exact hq_retM (rs := [.cell 4 39, .tmp 5]) (vs := [.agg #[.slice none 0 0, .slice none 0 0, .int .i64 0, .int .i64 0], .bool false]) (post := [tcE (Tc.mk (.slice none 0 0) [] (.slice none 0 0) [] 0 0)]) rfl ⟨⟨b2, 0, [.slice none 0 0, .slice none 0 0, .int .i64 0, .int .i64 0], rfl, rfl, by kernel_rfl, by kernel_rfl, box_part 1 rfl 0 rfl⟩, rfl, trivial⟩ rfl (.cons_cons _ (List.nil_sublist _)) ⟨Tc.mk (.slice none 0 0) [] (.slice none 0 0) [] 0 0, by rw [hno]; rfl, rfl, ⟨rfl, rfl⟩, by unfold decV2; rw [hno]; rfl, by decide, by decide, by simp⟩
      ·
        refine hl_less (sub_cons (d := 0) rfl (sub_cons (d := 1) rfl (sub_cons (d := 2) rfl (sub_cons (d := 4) rfl (sub_cons (d := 5) rfl (sub_cons (d := 6) rfl (sub_cons (d := 23) rfl (sub_cons (d := 28) rfl (sub_nil _))))))))) (.refl _) ?_
        refine hl_nil ?_
        refine hq_then ?_
        refine hc_false rfl ?_
        refine hc_exit ?_
        refine hq_then_exit ?_
        refine hq_then_exit ?_
        refine hq_block_exit ?_
        refine hq_then ?_
        refine hc_seq ?_
        refine hc_region ?_
        refine hl_v rfl rfl rfl (rv_loadN (cs := [.int .i64 d.W, .int .i64 d.H, .int .i64 d.T, .int .i64 d.R]) rfl (by kernel_rfl) (by kernel_rfl) rfl rfl (box_part 1 rfl 0 rfl)) ?_
        refine hl_q rfl rfl rfl (rq_call (by kernel_rfl) rfl (fun w hm => specEmptyTile_ret d w)) ?_
        intro v8 p9 hR10
        obtain ⟨t, rfl, rfl, ⟨c1t, c2t⟩, valt, n1t, n2t, n3t⟩ := hR10
        obtain ⟨ht1, ht2, ht3, ht4, ht5⟩ := empty_at (by assumption) valt
        have hww : Words xs := fun i hi => hk2 i (by omega)
        have hfr : frW d = (5 * (5 + 4 * d.T) + 67 + 15) / 16 := rfl
        refine hl_box rfl rfl rfl (rq_alloc (z := .agg #[.slice none 0 0, .slice none 0 0, .int .i64 0, .int .i64 0]) rfl (by kernel_rfl)) ?_
        intro b11
        refine hl_storeBoxN (i := 0) (off := 0) (us := [t.mv, t.lv, .int .i64 t.pad, .int .i64 t.ram]) (l' := [boxE b11 #[t.mv, t.lv, .int .i64 t.pad, .int .i64 t.ram] 39, tcE t, boxE b2 #[.slice none 0 0, .slice none 0 0, .int .i64 0, .int .i64 0] 39, boxE b1 #[.int .i64 d.W, .int .i64 d.H, .int .i64 d.T, .int .i64 d.R] 25]) rfl rfl rfl (by kernel_rfl) rfl rfl rfl (all_cons c1t (all_cons c2t (all_cons rfl (all_cons rfl all_nil)))) rfl rfl rfl ?_
        refine hl_less (sub_cons (d := 0) rfl (sub_cons (d := 1) rfl (sub_cons (d := 2) rfl (sub_cons (d := 4) rfl (sub_cons (d := 5) rfl (sub_cons (d := 6) rfl (sub_cons (d := 7) rfl (sub_cons (d := 23) rfl (sub_cons (d := 28) rfl (sub_nil _)))))))))) (.refl _) ?_
        refine hl_nil ?_
        refine hq_then ?_
        refine hc_seq ?_
        refine hc_region ?_
        refine hl_v rfl rfl rfl (rv_ev rfl) ?_
        refine hl_less (sub_cons (d := 0) rfl (sub_cons (d := 1) rfl (sub_cons (d := 2) rfl (sub_cons (d := 4) rfl (sub_cons (d := 5) rfl (sub_cons (d := 6) rfl (sub_cons (d := 7) rfl (sub_cons (d := 8) rfl (sub_cons (d := 23) rfl (sub_cons (d := 28) rfl (sub_nil _))))))))))) (.refl _) ?_
        refine hl_nil ?_
        refine hq_then ?_
        refine hc_seq ?_
        refine hc_region ?_
        refine hl_v rfl rfl rfl (rv_ev rfl) ?_
        refine hl_less (sub_cons (d := 0) rfl (sub_cons (d := 1) rfl (sub_cons (d := 2) rfl (sub_cons (d := 4) rfl (sub_cons (d := 5) rfl (sub_cons (d := 6) rfl (sub_cons (d := 7) rfl (sub_cons (d := 8) rfl (sub_cons (d := 9) rfl (sub_cons (d := 23) rfl (sub_cons (d := 28) rfl (sub_nil _)))))))))))) (.refl _) ?_
        refine hl_nil ?_
        refine hq_then ?_
        refine hc_seq ?_
        refine hc_seq ?_
        refine hc_region ?_
        refine hl_v rfl rfl rfl (rv_ev rfl) ?_
        refine hl_less (sub_cons (d := 0) rfl (sub_cons (d := 1) rfl (sub_cons (d := 2) rfl (sub_cons (d := 4) rfl (sub_cons (d := 5) rfl (sub_cons (d := 6) rfl (sub_cons (d := 7) rfl (sub_cons (d := 8) rfl (sub_cons (d := 9) rfl (sub_cons (d := 10) rfl (sub_cons (d := 23) rfl (sub_cons (d := 28) rfl (sub_nil _))))))))))))) (.refl _) ?_
        refine hl_nil ?_
        refine hq_then ?_
        refine hc_block ?_
        refine hc_conv [tcE t, boxE b11 #[t.mv, t.lv, .int .i64 t.pad, .int .i64 t.ram] 39, boxE b2 #[.slice none 0 0, .slice none 0 0, .int .i64 0, .int .i64 0] 39, boxE b1 #[.int .i64 d.W, .int .i64 d.H, .int .i64 d.T, .int .i64 d.R] 25] (conv_pick (src := [boxE b11 #[t.mv, t.lv, .int .i64 t.pad, .int .i64 t.ram] 39, tcE t, boxE b2 #[.slice none 0 0, .slice none 0 0, .int .i64 0, .int .i64 0] 39, boxE b1 #[.int .i64 d.W, .int .i64 d.H, .int .i64 d.T, .int .i64 d.R] 25]) (dst := [tcE t, boxE b11 #[t.mv, t.lv, .int .i64 t.pad, .int .i64 t.ram] 39, boxE b2 #[.slice none 0 0, .slice none 0 0, .int .i64 0, .int .i64 0] 39, boxE b1 #[.int .i64 d.W, .int .i64 d.H, .int .i64 d.T, .int .i64 d.R] 25]) (l := []) [1, 0, 2, 3] (by decide) rfl) ?_
        refine hc_conv [rowE 3 1 t.mv t.mx.length (t.mx.map (Value.int .i64)), lesE t.lv t.es, boxE b11 #[t.mv, t.lv, .int .i64 t.pad, .int .i64 t.ram] 39, boxE b2 #[.slice none 0 0, .slice none 0 0, .int .i64 0, .int .i64 0] 39, boxE b1 #[.int .i64 d.W, .int .i64 d.H, .int .i64 d.T, .int .i64 d.R] 25] conv_unbig ?_
        refine hc_conv [lesE t.lv t.es, rowE 3 1 t.mv t.mx.length (t.mx.map (Value.int .i64)), boxE b11 #[t.mv, t.lv, .int .i64 t.pad, .int .i64 t.ram] 39, boxE b2 #[.slice none 0 0, .slice none 0 0, .int .i64 0, .int .i64 0] 39, boxE b1 #[.int .i64 d.W, .int .i64 d.H, .int .i64 d.T, .int .i64 d.R] 25] (conv_pick (src := [rowE 3 1 t.mv t.mx.length (t.mx.map (Value.int .i64)), lesE t.lv t.es, boxE b11 #[t.mv, t.lv, .int .i64 t.pad, .int .i64 t.ram] 39, boxE b2 #[.slice none 0 0, .slice none 0 0, .int .i64 0, .int .i64 0] 39, boxE b1 #[.int .i64 d.W, .int .i64 d.H, .int .i64 d.T, .int .i64 d.R] 25]) (dst := [lesE t.lv t.es, rowE 3 1 t.mv t.mx.length (t.mx.map (Value.int .i64)), boxE b11 #[t.mv, t.lv, .int .i64 t.pad, .int .i64 t.ram] 39, boxE b2 #[.slice none 0 0, .slice none 0 0, .int .i64 0, .int .i64 0] 39, boxE b1 #[.int .i64 d.W, .int .i64 d.H, .int .i64 d.T, .int .i64 d.R] 25]) (l := []) [1, 0, 2, 3, 4] (by decide) rfl) ?_
        refine hc_conv [bigE (t.es.map lePart), rowE 87 4 t.lv t.es.length (t.es.flatMap Le.cells), rowE 3 1 t.mv t.mx.length (t.mx.map (Value.int .i64)), boxE b11 #[t.mv, t.lv, .int .i64 t.pad, .int .i64 t.ram] 39, boxE b2 #[.slice none 0 0, .slice none 0 0, .int .i64 0, .int .i64 0] 39, boxE b1 #[.int .i64 d.W, .int .i64 d.H, .int .i64 d.T, .int .i64 d.R] 25] conv_unbig ?_
        refine hc_loop3 (α := Nat) (β := Int) (γ := List Int) (fun m q zs => [bigE (t.es.map lePart), rowE 87 4 t.lv t.es.length (t.es.flatMap Le.cells), rowE 3 1 t.mv zs.length (zs.map (Value.int .i64)), boxE b11 #[t.mv, t.lv, .int .i64 t.pad, .int .i64 t.ram] 39, boxE b2 #[.slice none 0 0, .slice none 0 0, .int .i64 0, .int .i64 0] 39, boxE b1 #[.int .i64 d.W, .int .i64 d.H, .int .i64 d.T, .int .i64 d.R] 25]) (fun m q zs => [(0, .agg #[.int .i64 d.W, .int .i64 d.H, .int .i64 d.T, .int .i64 d.R]), (1, v), (2, .pointer (some ⟨b1, 0, none⟩)), (4, .pointer (some ⟨b2, 0, none⟩)), (5, .bool false), (6, .int .i64 (j : Int)), (7, .pointer (some ⟨b11, 0, none⟩)), (8, .int .i64 q), (10, .int .i64 (m : Int)), (23, .bool false), (28, .bool false)]) (fun m q zs => m ≤ t.mx.length ∧ q = 5 * (m : Int) ∧ zs.length = t.mx.length ∧ ∀ i, i < m → zs.getD i 0 = getN xs (5 * (i : Int)) 5) (fun m q zs => t.mx.length - m) 0 0 t.mx ⟨by omega, by omega, rfl, fun i hi => absurd hi (by omega)⟩ (sub_cons (d := 0) rfl (sub_cons (d := 1) rfl (sub_cons (d := 2) rfl (sub_cons (d := 4) rfl (sub_cons (d := 5) rfl (sub_cons (d := 6) rfl (sub_cons (d := 7) rfl (sub_cons (d := 8) rfl (sub_cons (d := 10) rfl (sub_cons (d := 23) rfl (sub_cons (d := 28) rfl (sub_nil _)))))))))))) ((.cons_cons _ (.cons_cons _ (.cons_cons _ (.cons_cons _ (.cons_cons _ (.cons_cons _ .slnil))))))) ?_
        intro m q zs hi12
        obtain ⟨hm1, hmq, hml, hmz⟩ := hi12
        refine hc_seq ?_
        refine hc_seq ?_
        refine hc_region ?_
        refine hl_v rfl rfl rfl (rv_ev rfl) ?_
        refine hl_v rfl rfl rfl (rv_field (k0 := 0) rfl (by kernel_rfl) rfl) ?_
        refine hl_v rfl rfl rfl (rv_load rfl (by kernel_rfl) rfl (box_cell 3 rfl rfl)) ?_
        refine hl_v rfl rfl rfl (rv_len rfl Try.underlying30 rfl (rd_row 2 rfl)) ?_
        refine hl_lss rfl rfl rfl rfl rfl rfl (fun h13 => ?_) (fun h13 => ?_)
        ·
          refine hl_less (sub_cons (d := 0) rfl (sub_cons (d := 1) rfl (sub_cons (d := 2) rfl (sub_cons (d := 4) rfl (sub_cons (d := 5) rfl (sub_cons (d := 6) rfl (sub_cons (d := 7) rfl (sub_cons (d := 8) rfl (sub_cons (d := 10) rfl (sub_cons (d := 23) rfl (sub_cons (d := 28) rfl (sub_cons (d := 44) rfl (sub_nil _))))))))))))) (.refl _) ?_
          refine hl_nil ?_
          refine hq_then ?_
          refine hc_true rfl ?_
          refine hc_skip ?_
          refine hq_then ?_
          refine hc_seq ?_
          refine hc_block ?_
          refine hc_seq ?_
          refine hc_region ?_
          refine hl_v rfl rfl rfl (rv_ev rfl) ?_
          refine hl_v rfl rfl rfl (rv_ev rfl) ?_
          refine hl_callV rfl rfl rfl (rq_call (by kernel_rfl) rfl (fun w hm => ret_ans (specGet_ans xs _ q 5 w (hv.below hm.bel) hww (by omega) (by omega) (by omega)))) ?_
          refine hl_v rfl rfl rfl (rv_ev rfl) ?_
          refine hl_v rfl rfl rfl (rv_ev rfl) ?_
          refine hl_v rfl rfl rfl (rv_ev rfl) ?_
          refine hl_v rfl rfl rfl (rv_ev rfl) ?_
          refine hl_v rfl rfl rfl (rv_ev rfl) ?_
          refine hl_less (sub_cons (d := 0) rfl (sub_cons (d := 1) rfl (sub_cons (d := 2) rfl (sub_cons (d := 4) rfl (sub_cons (d := 5) rfl (sub_cons (d := 6) rfl (sub_cons (d := 7) rfl (sub_cons (d := 8) rfl (sub_cons (d := 9) rfl (sub_cons (d := 10) rfl (sub_cons (d := 23) rfl (sub_cons (d := 28) rfl (sub_cons (d := 44) rfl (sub_nil _)))))))))))))) (.refl _) ?_
          refine hl_nil ?_
          refine hq_then ?_
          refine hc_region ?_
          refine hl_v rfl rfl rfl (rv_field (k0 := 0) rfl (by kernel_rfl) rfl) ?_
          refine hl_v rfl rfl rfl (rv_load rfl (by kernel_rfl) rfl (box_cell 3 rfl rfl)) ?_
          refine hl_v rfl rfl rfl (rv_ev rfl) ?_
          refine hl_v rfl rfl rfl (rv_ev rfl) ?_
          refine hl_v rfl rfl rfl (rv_index (s := 1) rfl Try.underlying30 (by kernel_rfl) rfl rfl (rd_row 2 rfl) (by omega) (by first | omega | (simp only [List.length_set]; omega))) ?_
          refine hl_storeEl (i := 2) (n' := (zs.set m (getN xs q 5)).length) (xs' := ((zs.set m (getN xs q 5)).map (Value.int .i64))) (l' := [bigE (t.es.map lePart), rowE 87 4 t.lv t.es.length (t.es.flatMap Le.cells), rowE 3 1 t.mv ((zs.set m (getN xs q 5)).length) ((zs.set m (getN xs q 5)).map (Value.int .i64)), boxE b11 #[t.mv, t.lv, .int .i64 t.pad, .int .i64 t.ram] 39, boxE b2 #[.slice none 0 0, .slice none 0 0, .int .i64 0, .int .i64 0] 39, boxE b1 #[.int .i64 d.W, .int .i64 d.H, .int .i64 d.T, .int .i64 d.R] 25]) rfl rfl rfl (by kernel_rfl) rfl rfl rfl rfl (by first | omega | (simp only [List.length_set]; omega)) List.length_set.symm (ints_set _ _ _) rfl ?_
          refine hl_less (sub_cons (d := 0) rfl (sub_cons (d := 1) rfl (sub_cons (d := 2) rfl (sub_cons (d := 4) rfl (sub_cons (d := 5) rfl (sub_cons (d := 6) rfl (sub_cons (d := 7) rfl (sub_cons (d := 8) rfl (sub_cons (d := 9) rfl (sub_cons (d := 10) rfl (sub_cons (d := 23) rfl (sub_cons (d := 28) rfl (sub_cons (d := 44) rfl (sub_nil _)))))))))))))) (.refl _) ?_
          refine hl_nil ?_
          refine hq_block_normal ?_
          refine hq_then ?_
          refine hc_region ?_
          refine hl_v rfl rfl rfl (rv_ev rfl) ?_
          refine hl_v rfl rfl rfl (rv_add rfl rfl rfl (by constructor <;> omega)) ?_
          refine hl_v rfl rfl rfl (rv_ev rfl) ?_
          refine hl_less (sub_cons (d := 0) rfl (sub_cons (d := 1) rfl (sub_cons (d := 2) rfl (sub_cons (d := 4) rfl (sub_cons (d := 5) rfl (sub_cons (d := 6) rfl (sub_cons (d := 7) rfl (sub_cons (d := 8) rfl (sub_cons (d := 9) rfl (sub_cons (d := 10) rfl (sub_cons (d := 23) rfl (sub_cons (d := 28) rfl (sub_cons (d := 44) rfl (sub_nil _)))))))))))))) (.refl _) ?_
          refine hl_nil ?_
          exact hq_round3 (m + 1) (q + 5) (zs.set m (getN xs q 5)) ⟨by omega, by omega, by rw [List.length_set]; exact hml, fun i hi => by by_cases him : i = m; (subst him; rw [getD_set_self' (by omega), hmq]); rw [getD_set_ne' (fun h => him h.symm)]; exact hmz i (by omega)⟩ (by omega) (sub_cons (d := 0) rfl (sub_cons (d := 1) rfl (sub_cons (d := 2) rfl (sub_cons (d := 4) rfl (sub_cons (d := 5) rfl (sub_cons (d := 6) rfl (sub_cons (d := 7) rfl (sub_cons (d := 8) rfl (sub_cons (d := 10) rfl (sub_cons (d := 23) rfl (sub_cons (d := 28) rfl (sub_nil _)))))))))))) ((.cons_cons _ (.cons_cons _ (.cons_cons _ (.cons_cons _ (.cons_cons _ (.cons_cons _ .slnil)))))))
        ·
          refine hl_less (sub_cons (d := 0) rfl (sub_cons (d := 1) rfl (sub_cons (d := 2) rfl (sub_cons (d := 4) rfl (sub_cons (d := 5) rfl (sub_cons (d := 6) rfl (sub_cons (d := 7) rfl (sub_cons (d := 8) rfl (sub_cons (d := 10) rfl (sub_cons (d := 23) rfl (sub_cons (d := 28) rfl (sub_cons (d := 44) rfl (sub_nil _))))))))))))) (.refl _) ?_
          refine hl_nil ?_
          refine hq_then ?_
          refine hc_false rfl ?_
          refine hc_exit ?_
          refine hq_then_exit ?_
          refine hq_then_exit ?_
          refine hq_block_exit ?_
          refine hq_then ?_
          refine hc_seq ?_
          refine hc_seq ?_
          refine hc_region ?_
          refine hl_v rfl rfl rfl (rv_ev rfl) ?_
          refine hl_less (sub_cons (d := 0) rfl (sub_cons (d := 1) rfl (sub_cons (d := 2) rfl (sub_cons (d := 4) rfl (sub_cons (d := 5) rfl (sub_cons (d := 6) rfl (sub_cons (d := 7) rfl (sub_cons (d := 8) rfl (sub_cons (d := 10) rfl (sub_cons (d := 11) rfl (sub_cons (d := 23) rfl (sub_cons (d := 28) rfl (sub_cons (d := 44) rfl (sub_nil _)))))))))))))) (.refl _) ?_
          refine hl_nil ?_
          refine hq_then ?_
          refine hc_block ?_
          refine hc_loop3 (α := Nat) (β := Int) (γ := List Le) (fun e q es => [bigE (es.map lePart), rowE 87 4 t.lv es.length (es.flatMap Le.cells), rowE 3 1 t.mv zs.length (zs.map (Value.int .i64)), boxE b11 #[t.mv, t.lv, .int .i64 t.pad, .int .i64 t.ram] 39, boxE b2 #[.slice none 0 0, .slice none 0 0, .int .i64 0, .int .i64 0] 39, boxE b1 #[.int .i64 d.W, .int .i64 d.H, .int .i64 d.T, .int .i64 d.R] 25]) (fun e q es => [(0, .agg #[.int .i64 d.W, .int .i64 d.H, .int .i64 d.T, .int .i64 d.R]), (1, v), (2, .pointer (some ⟨b1, 0, none⟩)), (4, .pointer (some ⟨b2, 0, none⟩)), (5, .bool false), (6, .int .i64 (j : Int)), (7, .pointer (some ⟨b11, 0, none⟩)), (8, .int .i64 q), (10, .int .i64 (m : Int)), (11, .int .i64 (e : Int)), (23, .bool false), (28, .bool false), (44, .bool false)]) (fun e q es => e ≤ 2 ∧ q = 5 * (muxs d) + 30 * e ∧ es.length = 2 ∧ ∀ i, i < e → (es.getD i Le0).val = decLe xs (5 * (muxs d) + 30 * (i : Int))) (fun e q es => 2 - e) 0 _ t.es ⟨by omega, by unfold muxs at *; omega, ht2, fun i hi => absurd hi (by omega)⟩ (sub_cons (d := 0) rfl (sub_cons (d := 1) rfl (sub_cons (d := 2) rfl (sub_cons (d := 4) rfl (sub_cons (d := 5) rfl (sub_cons (d := 6) rfl (sub_cons (d := 7) rfl (sub_cons (d := 8) rfl (sub_cons (d := 10) rfl (sub_cons (d := 11) rfl (sub_cons (d := 23) rfl (sub_cons (d := 28) rfl (sub_cons (d := 44) rfl (sub_nil _)))))))))))))) ((.cons_cons _ (.cons_cons _ (.cons_cons _ (.cons_cons _ (.cons_cons _ (.cons_cons _ .slnil))))))) ?_
          intro e q es hi14
          obtain ⟨he1, heq, hel, hez⟩ := hi14
          refine hc_seq ?_
          refine hc_seq ?_
          refine hc_region ?_
          refine hl_v rfl rfl rfl (rv_ev rfl) ?_
          refine hl_lss rfl rfl rfl rfl rfl rfl (fun h15 => ?_) (fun h15 => ?_)
          ·
            refine hl_less (sub_cons (d := 0) rfl (sub_cons (d := 1) rfl (sub_cons (d := 2) rfl (sub_cons (d := 4) rfl (sub_cons (d := 5) rfl (sub_cons (d := 6) rfl (sub_cons (d := 7) rfl (sub_cons (d := 8) rfl (sub_cons (d := 10) rfl (sub_cons (d := 11) rfl (sub_cons (d := 23) rfl (sub_cons (d := 28) rfl (sub_cons (d := 44) rfl (sub_cons (d := 59) rfl (sub_nil _))))))))))))))) (.refl _) ?_
            refine hl_nil ?_
            refine hq_then ?_
            refine hc_true rfl ?_
            refine hc_skip ?_
            refine hq_then ?_
            refine hc_seq ?_
            refine hc_block ?_
            refine hc_seq ?_
            refine hc_region ?_
            refine hl_v rfl rfl rfl (rv_build (cs := #[.slice none 0 0, .int .i64 0, .int .i64 0, .int .i64 0]) rfl rfl (by kernel_rfl)) ?_
            refine hl_box rfl rfl rfl (rq_alloc (z := .agg #[.slice none 0 0, .int .i64 0, .int .i64 0, .int .i64 0]) rfl (by kernel_rfl)) ?_
            intro b16
            refine hl_storeBoxN (i := 0) (off := 0) (us := [.slice none 0 0, .int .i64 0, .int .i64 0, .int .i64 0]) (l' := [boxE b16 #[.slice none 0 0, .int .i64 0, .int .i64 0, .int .i64 0] 87, bigE (es.map lePart), rowE 87 4 t.lv es.length (es.flatMap Le.cells), rowE 3 1 t.mv zs.length (zs.map (Value.int .i64)), boxE b11 #[t.mv, t.lv, .int .i64 t.pad, .int .i64 t.ram] 39, boxE b2 #[.slice none 0 0, .slice none 0 0, .int .i64 0, .int .i64 0] 39, boxE b1 #[.int .i64 d.W, .int .i64 d.H, .int .i64 d.T, .int .i64 d.R] 25]) rfl rfl rfl (by kernel_rfl) rfl rfl rfl (all_cons rfl (all_cons rfl (all_cons rfl (all_cons rfl all_nil)))) rfl rfl rfl ?_
            refine hl_less (sub_cons (d := 0) rfl (sub_cons (d := 1) rfl (sub_cons (d := 2) rfl (sub_cons (d := 4) rfl (sub_cons (d := 5) rfl (sub_cons (d := 6) rfl (sub_cons (d := 7) rfl (sub_cons (d := 8) rfl (sub_cons (d := 10) rfl (sub_cons (d := 11) rfl (sub_cons (d := 12) rfl (sub_cons (d := 23) rfl (sub_cons (d := 28) rfl (sub_cons (d := 44) rfl (sub_cons (d := 59) rfl (sub_nil _)))))))))))))))) (.refl _) ?_
            refine hl_nil ?_
            refine hq_then ?_
            refine hc_seq ?_
            refine hc_seq ?_
            refine hc_region ?_
            refine hl_v rfl rfl rfl (rv_ev rfl) ?_
            refine hl_less (sub_cons (d := 0) rfl (sub_cons (d := 1) rfl (sub_cons (d := 2) rfl (sub_cons (d := 4) rfl (sub_cons (d := 5) rfl (sub_cons (d := 6) rfl (sub_cons (d := 7) rfl (sub_cons (d := 8) rfl (sub_cons (d := 10) rfl (sub_cons (d := 11) rfl (sub_cons (d := 12) rfl (sub_cons (d := 13) rfl (sub_cons (d := 23) rfl (sub_cons (d := 28) rfl (sub_cons (d := 44) rfl (sub_cons (d := 59) rfl (sub_nil _))))))))))))))))) (.refl _) ?_
            refine hl_nil ?_
            refine hq_then ?_
            refine hc_block ?_
            refine hc_conv [rowE 3 1 (.slice none 0 0) 0 ([]), boxE b16 #[.slice none 0 0, .int .i64 0, .int .i64 0, .int .i64 0] 87, bigE (es.map lePart), rowE 87 4 t.lv es.length (es.flatMap Le.cells), rowE 3 1 t.mv zs.length (zs.map (Value.int .i64)), boxE b11 #[t.mv, t.lv, .int .i64 t.pad, .int .i64 t.ram] 39, boxE b2 #[.slice none 0 0, .slice none 0 0, .int .i64 0, .int .i64 0] 39, boxE b1 #[.int .i64 d.W, .int .i64 d.H, .int .i64 d.T, .int .i64 d.R] 25] (fun w hm => hm.nilRow 3 1) ?_
            refine hc_loop4 (α := Nat) (β := Int) (γ := Value) (δ := List Int) (fun k q u ys => [rowE 3 1 u ys.length (ys.map (Value.int .i64)), boxE b16 #[u, .int .i64 0, .int .i64 0, .int .i64 0] 87, bigE (es.map lePart), rowE 87 4 t.lv es.length (es.flatMap Le.cells), rowE 3 1 t.mv zs.length (zs.map (Value.int .i64)), boxE b11 #[t.mv, t.lv, .int .i64 t.pad, .int .i64 t.ram] 39, boxE b2 #[.slice none 0 0, .slice none 0 0, .int .i64 0, .int .i64 0] 39, boxE b1 #[.int .i64 d.W, .int .i64 d.H, .int .i64 d.T, .int .i64 d.R] 25]) (fun k q u ys => [(0, .agg #[.int .i64 d.W, .int .i64 d.H, .int .i64 d.T, .int .i64 d.R]), (1, v), (2, .pointer (some ⟨b1, 0, none⟩)), (4, .pointer (some ⟨b2, 0, none⟩)), (5, .bool false), (6, .int .i64 (j : Int)), (7, .pointer (some ⟨b11, 0, none⟩)), (8, .int .i64 q), (10, .int .i64 (m : Int)), (11, .int .i64 (e : Int)), (12, .pointer (some ⟨b16, 0, none⟩)), (13, .int .i64 (k : Int)), (23, .bool false), (28, .bool false), (44, .bool false), (59, .bool true)]) (fun k q u ys => k ≤ 4 ∧ q = 5 * (muxs d) + 30 * e + 3 * (k : Int) ∧ ys.length = k ∧ ∀ i, i < k → ys.getD i 0 = getN xs (5 * (muxs d) + 30 * e + 3 * (i : Int)) 3) (fun k q u ys => 4 - k) 0 _ _ [] ⟨by omega, by omega, rfl, fun i hi => absurd hi (by omega)⟩ (sub_cons (d := 0) rfl (sub_cons (d := 1) rfl (sub_cons (d := 2) rfl (sub_cons (d := 4) rfl (sub_cons (d := 5) rfl (sub_cons (d := 6) rfl (sub_cons (d := 7) rfl (sub_cons (d := 8) rfl (sub_cons (d := 10) rfl (sub_cons (d := 11) rfl (sub_cons (d := 12) rfl (sub_cons (d := 13) rfl (sub_cons (d := 23) rfl (sub_cons (d := 28) rfl (sub_cons (d := 44) rfl (sub_cons (d := 59) rfl (sub_nil _))))))))))))))))) ((.cons_cons _ (.cons_cons _ (.cons_cons _ (.cons_cons _ (.cons_cons _ (.cons_cons _ (.cons_cons _ (.cons_cons _ .slnil))))))))) ?_
            intro k q u ys hi17
            obtain ⟨hj1, hjq, hjl, hjz⟩ := hi17
            refine hc_seq ?_
            refine hc_seq ?_
            refine hc_region ?_
            refine hl_v rfl rfl rfl (rv_ev rfl) ?_
            refine hl_lss rfl rfl rfl rfl rfl rfl (fun h18 => ?_) (fun h18 => ?_)
            ·
              refine hl_less (sub_cons (d := 0) rfl (sub_cons (d := 1) rfl (sub_cons (d := 2) rfl (sub_cons (d := 4) rfl (sub_cons (d := 5) rfl (sub_cons (d := 6) rfl (sub_cons (d := 7) rfl (sub_cons (d := 8) rfl (sub_cons (d := 10) rfl (sub_cons (d := 11) rfl (sub_cons (d := 12) rfl (sub_cons (d := 13) rfl (sub_cons (d := 23) rfl (sub_cons (d := 28) rfl (sub_cons (d := 44) rfl (sub_cons (d := 59) rfl (sub_cons (d := 64) rfl (sub_nil _)))))))))))))))))) (.refl _) ?_
              refine hl_nil ?_
              refine hq_then ?_
              refine hc_true rfl ?_
              refine hc_skip ?_
              refine hq_then ?_
              refine hc_seq ?_
              refine hc_block ?_
              refine hc_seq ?_
              refine hc_region ?_
              refine hl_v rfl rfl rfl (rv_ev rfl) ?_
              refine hl_v rfl rfl rfl (rv_ev rfl) ?_
              refine hl_callV rfl rfl rfl (rq_call (by kernel_rfl) rfl (fun w hm => ret_ans (specGet_ans xs _ q 3 w (hv.below hm.bel) hww (by omega) (by omega) (by omega)))) ?_
              refine hl_v rfl rfl rfl (rv_ev rfl) ?_
              refine hl_v rfl rfl rfl (rv_ev rfl) ?_
              refine hl_v rfl rfl rfl (rv_ev rfl) ?_
              refine hl_v rfl rfl rfl (rv_ev rfl) ?_
              refine hl_v rfl rfl rfl (rv_ev rfl) ?_
              refine hl_less (sub_cons (d := 0) rfl (sub_cons (d := 1) rfl (sub_cons (d := 2) rfl (sub_cons (d := 4) rfl (sub_cons (d := 5) rfl (sub_cons (d := 6) rfl (sub_cons (d := 7) rfl (sub_cons (d := 8) rfl (sub_cons (d := 9) rfl (sub_cons (d := 10) rfl (sub_cons (d := 11) rfl (sub_cons (d := 12) rfl (sub_cons (d := 13) rfl (sub_cons (d := 23) rfl (sub_cons (d := 28) rfl (sub_cons (d := 44) rfl (sub_cons (d := 59) rfl (sub_cons (d := 64) rfl (sub_nil _))))))))))))))))))) (.refl _) ?_
              refine hl_nil ?_
              refine hq_then ?_
              refine hc_region ?_
              refine hl_v rfl rfl rfl (rv_field (k0 := 0) rfl (by kernel_rfl) rfl) ?_
              refine hl_v rfl rfl rfl (rv_load rfl (by kernel_rfl) rfl (box_cell 1 rfl rfl)) ?_
              refine hl_v rfl rfl rfl (rv_ev rfl) ?_
              refine hl_row rfl rfl rfl (rq_buildSlice (z := .int .i64 0) (s := 1) (cs := ([getN xs q 3].map (Value.int .i64))) rfl Try.underlying30 (by kernel_rfl) (by decide) rfl (by kernel_rfl) rfl) ?_
              intro g19
              refine hl_append (i := 1) (z := .int .i64 0) (bytes := 8) (n' := (ys ++ ([getN xs q 3])).length) (xs' := ((ys ++ ([getN xs q 3])).map (Value.int .i64))) (L := fun v20 => [rowE 3 1 (.slice (some ⟨g19, 0, none⟩) 1 1) 1 ([getN xs q 3].map (Value.int .i64)), rowE 3 1 v20 ((ys ++ ([getN xs q 3])).length) ((ys ++ ([getN xs q 3])).map (Value.int .i64)), boxE b16 #[u, .int .i64 0, .int .i64 0, .int .i64 0] 87, bigE (es.map lePart), rowE 87 4 t.lv es.length (es.flatMap Le.cells), rowE 3 1 t.mv zs.length (zs.map (Value.int .i64)), boxE b11 #[t.mv, t.lv, .int .i64 t.pad, .int .i64 t.ram] 39, boxE b2 #[.slice none 0 0, .slice none 0 0, .int .i64 0, .int .i64 0] 39, boxE b1 #[.int .i64 d.W, .int .i64 d.H, .int .i64 d.T, .int .i64 d.R] 25]) rfl rfl rfl rfl Try.underlying30 (by kernel_rfl) (by kernel_rfl) rfl rfl rfl (rd_row 0 rfl) (ints_one _) (by simp; omega) (len_app ys ([getN xs q 3])) (ints_app ys ([getN xs q 3])) (fun _ => rfl) ?_
              intro v20
              refine hl_v rfl rfl rfl (rv_field (k0 := 0) rfl (by kernel_rfl) rfl) ?_
              refine hl_one (i := 1) rfl (fun ho21 => ?_)
              refine hl_storeBox (i := 2) (l' := [rowE 3 1 (.slice (some ⟨g19, 0, none⟩) 1 1) 1 ([getN xs q 3].map (Value.int .i64)), rowE 3 1 v20 ((ys ++ ([getN xs q 3])).length) ((ys ++ ([getN xs q 3])).map (Value.int .i64)), boxE b16 #[v20, .int .i64 0, .int .i64 0, .int .i64 0] 87, bigE (es.map lePart), rowE 87 4 t.lv es.length (es.flatMap Le.cells), rowE 3 1 t.mv zs.length (zs.map (Value.int .i64)), boxE b11 #[t.mv, t.lv, .int .i64 t.pad, .int .i64 t.ram] 39, boxE b2 #[.slice none 0 0, .slice none 0 0, .int .i64 0, .int .i64 0] 39, boxE b1 #[.int .i64 d.W, .int .i64 d.H, .int .i64 d.T, .int .i64 d.R] 25]) rfl rfl rfl (by kernel_rfl) rfl rfl ho21 rfl rfl rfl ?_
              refine hl_less (sub_cons (d := 0) rfl (sub_cons (d := 1) rfl (sub_cons (d := 2) rfl (sub_cons (d := 4) rfl (sub_cons (d := 5) rfl (sub_cons (d := 6) rfl (sub_cons (d := 7) rfl (sub_cons (d := 8) rfl (sub_cons (d := 9) rfl (sub_cons (d := 10) rfl (sub_cons (d := 11) rfl (sub_cons (d := 12) rfl (sub_cons (d := 13) rfl (sub_cons (d := 23) rfl (sub_cons (d := 28) rfl (sub_cons (d := 44) rfl (sub_cons (d := 59) rfl (sub_cons (d := 64) rfl (sub_nil _))))))))))))))))))) (.refl _) ?_
              refine hl_nil ?_
              refine hq_block_normal ?_
              refine hq_then ?_
              refine hc_region ?_
              refine hl_v rfl rfl rfl (rv_ev rfl) ?_
              refine hl_v rfl rfl rfl (rv_add rfl rfl rfl (by constructor <;> omega)) ?_
              refine hl_v rfl rfl rfl (rv_ev rfl) ?_
              refine hl_less (sub_cons (d := 0) rfl (sub_cons (d := 1) rfl (sub_cons (d := 2) rfl (sub_cons (d := 4) rfl (sub_cons (d := 5) rfl (sub_cons (d := 6) rfl (sub_cons (d := 7) rfl (sub_cons (d := 8) rfl (sub_cons (d := 9) rfl (sub_cons (d := 10) rfl (sub_cons (d := 11) rfl (sub_cons (d := 12) rfl (sub_cons (d := 13) rfl (sub_cons (d := 23) rfl (sub_cons (d := 28) rfl (sub_cons (d := 44) rfl (sub_cons (d := 59) rfl (sub_cons (d := 64) rfl (sub_nil _))))))))))))))))))) (.refl _) ?_
              refine hl_nil ?_
              exact hq_round4 (k + 1) (q + 3) v20 (ys ++ ([getN xs q 3])) ⟨by omega, by omega, by simp; omega, fun i hi => by by_cases hij : i = k; (subst hij; rw [List.getD_eq_getElem?_getD, List.getElem?_append_right (by omega), hjl, Nat.sub_self, hjq]; rfl); rw [List.getD_eq_getElem?_getD, List.getElem?_append_left (by omega), ← List.getD_eq_getElem?_getD]; exact hjz i (by omega)⟩ (by omega) (sub_cons (d := 0) rfl (sub_cons (d := 1) rfl (sub_cons (d := 2) rfl (sub_cons (d := 4) rfl (sub_cons (d := 5) rfl (sub_cons (d := 6) rfl (sub_cons (d := 7) rfl (sub_cons (d := 8) rfl (sub_cons (d := 10) rfl (sub_cons (d := 11) rfl (sub_cons (d := 12) rfl (sub_cons (d := 13) rfl (sub_cons (d := 23) rfl (sub_cons (d := 28) rfl (sub_cons (d := 44) rfl (sub_cons (d := 59) rfl (sub_nil _))))))))))))))))) ((.cons _ (.cons_cons _ (.cons_cons _ (.cons_cons _ (.cons_cons _ (.cons_cons _ (.cons_cons _ (.cons_cons _ (.cons_cons _ .slnil))))))))))
            ·
              refine hl_less (sub_cons (d := 0) rfl (sub_cons (d := 1) rfl (sub_cons (d := 2) rfl (sub_cons (d := 4) rfl (sub_cons (d := 5) rfl (sub_cons (d := 6) rfl (sub_cons (d := 7) rfl (sub_cons (d := 8) rfl (sub_cons (d := 10) rfl (sub_cons (d := 11) rfl (sub_cons (d := 12) rfl (sub_cons (d := 13) rfl (sub_cons (d := 23) rfl (sub_cons (d := 28) rfl (sub_cons (d := 44) rfl (sub_cons (d := 59) rfl (sub_cons (d := 64) rfl (sub_nil _)))))))))))))))))) (.refl _) ?_
              refine hl_nil ?_
              refine hq_then ?_
              refine hc_false rfl ?_
              refine hc_exit ?_
              refine hq_then_exit ?_
              refine hq_then_exit ?_
              refine hq_block_exit ?_
              refine hq_then ?_
              refine hc_seq ?_
              refine hc_region ?_
              refine hl_v rfl rfl rfl (rv_ev rfl) ?_
              refine hl_v rfl rfl rfl (rv_ev rfl) ?_
              refine hl_callV rfl rfl rfl (rq_call (by kernel_rfl) rfl (fun w hm => ret_ans (specGet_ans xs _ q 16 w (hv.below hm.bel) hww (by omega) (by omega) (by omega)))) ?_
              refine hl_v rfl rfl rfl (rv_ev rfl) ?_
              refine hl_v rfl rfl rfl (rv_ev rfl) ?_
              refine hl_v rfl rfl rfl (rv_ev rfl) ?_
              refine hl_v rfl rfl rfl (rv_field (k0 := 1) rfl (by kernel_rfl) rfl) ?_
              refine hl_storeBox (i := 1) (l' := [rowE 3 1 u ys.length (ys.map (Value.int .i64)), boxE b16 #[u, .int .i64 (getN xs q 16), .int .i64 0, .int .i64 0] 87, bigE (es.map lePart), rowE 87 4 t.lv es.length (es.flatMap Le.cells), rowE 3 1 t.mv zs.length (zs.map (Value.int .i64)), boxE b11 #[t.mv, t.lv, .int .i64 t.pad, .int .i64 t.ram] 39, boxE b2 #[.slice none 0 0, .slice none 0 0, .int .i64 0, .int .i64 0] 39, boxE b1 #[.int .i64 d.W, .int .i64 d.H, .int .i64 d.T, .int .i64 d.R] 25]) rfl rfl rfl (by kernel_rfl) rfl rfl rfl rfl rfl rfl ?_
              refine hl_v rfl rfl rfl (rv_ev rfl) ?_
              refine hl_less (sub_cons (d := 0) rfl (sub_cons (d := 1) rfl (sub_cons (d := 2) rfl (sub_cons (d := 4) rfl (sub_cons (d := 5) rfl (sub_cons (d := 6) rfl (sub_cons (d := 7) rfl (sub_cons (d := 8) rfl (sub_cons (d := 10) rfl (sub_cons (d := 11) rfl (sub_cons (d := 12) rfl (sub_cons (d := 13) rfl (sub_cons (d := 23) rfl (sub_cons (d := 28) rfl (sub_cons (d := 44) rfl (sub_cons (d := 59) rfl (sub_cons (d := 64) rfl (sub_nil _)))))))))))))))))) (.refl _) ?_
              refine hl_nil ?_
              refine hq_then ?_
              refine hc_seq ?_
              refine hc_region ?_
              refine hl_v rfl rfl rfl (rv_ev rfl) ?_
              refine hl_v rfl rfl rfl (rv_ev rfl) ?_
              refine hl_callV rfl rfl rfl (rq_call (by kernel_rfl) rfl (fun w hm => ret_ans (specGet_ans xs _ (q + 16) 1 w (hv.below hm.bel) hww (by omega) (by omega) (by omega)))) ?_
              refine hl_v rfl rfl rfl (rv_ev rfl) ?_
              refine hl_v rfl rfl rfl (rv_ev rfl) ?_
              refine hl_v rfl rfl rfl (rv_ev rfl) ?_
              refine hl_v rfl rfl rfl (rv_field (k0 := 2) rfl (by kernel_rfl) rfl) ?_
              refine hl_storeBox (i := 1) (l' := [rowE 3 1 u ys.length (ys.map (Value.int .i64)), boxE b16 #[u, .int .i64 (getN xs q 16), .int .i64 (getN xs (q + 16) 1), .int .i64 0] 87, bigE (es.map lePart), rowE 87 4 t.lv es.length (es.flatMap Le.cells), rowE 3 1 t.mv zs.length (zs.map (Value.int .i64)), boxE b11 #[t.mv, t.lv, .int .i64 t.pad, .int .i64 t.ram] 39, boxE b2 #[.slice none 0 0, .slice none 0 0, .int .i64 0, .int .i64 0] 39, boxE b1 #[.int .i64 d.W, .int .i64 d.H, .int .i64 d.T, .int .i64 d.R] 25]) rfl rfl rfl (by kernel_rfl) rfl rfl rfl rfl rfl rfl ?_
              refine hl_v rfl rfl rfl (rv_ev rfl) ?_
              refine hl_less (sub_cons (d := 0) rfl (sub_cons (d := 1) rfl (sub_cons (d := 2) rfl (sub_cons (d := 4) rfl (sub_cons (d := 5) rfl (sub_cons (d := 6) rfl (sub_cons (d := 7) rfl (sub_cons (d := 8) rfl (sub_cons (d := 10) rfl (sub_cons (d := 11) rfl (sub_cons (d := 12) rfl (sub_cons (d := 13) rfl (sub_cons (d := 23) rfl (sub_cons (d := 28) rfl (sub_cons (d := 44) rfl (sub_cons (d := 59) rfl (sub_cons (d := 64) rfl (sub_nil _)))))))))))))))))) (.refl _) ?_
              refine hl_nil ?_
              refine hq_then ?_
              refine hc_seq ?_
              refine hc_region ?_
              refine hl_v rfl rfl rfl (rv_ev rfl) ?_
              refine hl_v rfl rfl rfl (rv_ev rfl) ?_
              refine hl_callV rfl rfl rfl (rq_call (by kernel_rfl) rfl (fun w hm => ret_ans (specGet_ans xs _ (q + 16 + 1) 1 w (hv.below hm.bel) hww (by omega) (by omega) (by omega)))) ?_
              refine hl_v rfl rfl rfl (rv_ev rfl) ?_
              refine hl_v rfl rfl rfl (rv_ev rfl) ?_
              refine hl_v rfl rfl rfl (rv_ev rfl) ?_
              refine hl_v rfl rfl rfl (rv_field (k0 := 3) rfl (by kernel_rfl) rfl) ?_
              refine hl_storeBox (i := 1) (l' := [rowE 3 1 u ys.length (ys.map (Value.int .i64)), boxE b16 #[u, .int .i64 (getN xs q 16), .int .i64 (getN xs (q + 16) 1), .int .i64 (getN xs (q + 16 + 1) 1)] 87, bigE (es.map lePart), rowE 87 4 t.lv es.length (es.flatMap Le.cells), rowE 3 1 t.mv zs.length (zs.map (Value.int .i64)), boxE b11 #[t.mv, t.lv, .int .i64 t.pad, .int .i64 t.ram] 39, boxE b2 #[.slice none 0 0, .slice none 0 0, .int .i64 0, .int .i64 0] 39, boxE b1 #[.int .i64 d.W, .int .i64 d.H, .int .i64 d.T, .int .i64 d.R] 25]) rfl rfl rfl (by kernel_rfl) rfl rfl rfl rfl rfl rfl ?_
              refine hl_v rfl rfl rfl (rv_ev rfl) ?_
              refine hl_less (sub_cons (d := 0) rfl (sub_cons (d := 1) rfl (sub_cons (d := 2) rfl (sub_cons (d := 4) rfl (sub_cons (d := 5) rfl (sub_cons (d := 6) rfl (sub_cons (d := 7) rfl (sub_cons (d := 8) rfl (sub_cons (d := 10) rfl (sub_cons (d := 11) rfl (sub_cons (d := 12) rfl (sub_cons (d := 13) rfl (sub_cons (d := 23) rfl (sub_cons (d := 28) rfl (sub_cons (d := 44) rfl (sub_cons (d := 59) rfl (sub_cons (d := 64) rfl (sub_nil _)))))))))))))))))) (.refl _) ?_
              refine hl_nil ?_
              refine hq_then ?_
              refine hc_region ?_
              refine hl_v rfl rfl rfl (rv_field (k0 := 1) rfl (by kernel_rfl) rfl) ?_
              refine hl_v rfl rfl rfl (rv_load rfl (by kernel_rfl) rfl (box_cell 5 rfl rfl)) ?_
              refine hl_v rfl rfl rfl (rv_ev rfl) ?_
              refine hl_v rfl rfl rfl (rv_loadN (cs := [u, .int .i64 (getN xs q 16), .int .i64 (getN xs (q + 16) 1), .int .i64 (getN xs (q + 16 + 1) 1)]) rfl (by kernel_rfl) (by kernel_rfl) rfl rfl (box_part 1 rfl 0 rfl)) ?_
              refine hl_v rfl rfl rfl (rv_index (s := 4) rfl Try.underlying37 (by kernel_rfl) rfl rfl (rd_row 3 rfl) (by omega) (by first | omega | (simp only [List.length_set]; omega))) ?_
              refine hl_one (i := 0) rfl (fun ho22 => ?_)
              refine hl_storeElN (i := 3) (us := [u, .int .i64 (getN xs q 16), .int .i64 (getN xs (q + 16) 1), .int .i64 (getN xs (q + 16 + 1) 1)]) (n' := (es.set e (Le.mk u ys (getN xs q 16) (getN xs (q + 16) 1) (getN xs (q + 16 + 1) 1))).length) (xs' := ((es.set e (Le.mk u ys (getN xs q 16) (getN xs (q + 16) 1) (getN xs (q + 16 + 1) 1))).flatMap Le.cells)) (l' := [rowE 3 1 u ys.length (ys.map (Value.int .i64)), boxE b16 #[u, .int .i64 (getN xs q 16), .int .i64 (getN xs (q + 16) 1), .int .i64 (getN xs (q + 16 + 1) 1)] 87, bigE (es.map lePart), rowE 87 4 t.lv ((es.set e (Le.mk u ys (getN xs q 16) (getN xs (q + 16) 1) (getN xs (q + 16 + 1) 1))).length) ((es.set e (Le.mk u ys (getN xs q 16) (getN xs (q + 16) 1) (getN xs (q + 16 + 1) 1))).flatMap Le.cells), rowE 3 1 t.mv zs.length (zs.map (Value.int .i64)), boxE b11 #[t.mv, t.lv, .int .i64 t.pad, .int .i64 t.ram] 39, boxE b2 #[.slice none 0 0, .slice none 0 0, .int .i64 0, .int .i64 0] 39, boxE b1 #[.int .i64 d.W, .int .i64 d.H, .int .i64 d.T, .int .i64 d.R] 25]) rfl rfl rfl (by kernel_rfl) rfl rfl (all_cons ho22 (all_cons rfl (all_cons rfl (all_cons rfl all_nil)))) rfl (by first | omega | (simp only [List.length_set]; omega)) (by simp only [List.length_cons, List.length_nil]; first | omega | (simp only [List.length_set]; omega)) List.length_set.symm (flat_put Le.cells 4 (fun _ => rfl) _ (Le.mk u ys (getN xs q 16) (getN xs (q + 16) 1) (getN xs (q + 16 + 1) 1)) (by first | omega | (simp only [List.length_set]; omega))) rfl ?_
              refine hl_less (sub_cons (d := 0) rfl (sub_cons (d := 1) rfl (sub_cons (d := 2) rfl (sub_cons (d := 4) rfl (sub_cons (d := 5) rfl (sub_cons (d := 6) rfl (sub_cons (d := 7) rfl (sub_cons (d := 8) rfl (sub_cons (d := 10) rfl (sub_cons (d := 11) rfl (sub_cons (d := 12) rfl (sub_cons (d := 13) rfl (sub_cons (d := 23) rfl (sub_cons (d := 28) rfl (sub_cons (d := 44) rfl (sub_cons (d := 59) rfl (sub_cons (d := 64) rfl (sub_nil _)))))))))))))))))) (.refl _) ?_
              refine hl_nil ?_
              refine hq_block_normal ?_
              refine hq_then ?_
              refine hc_region ?_
              refine hl_v rfl rfl rfl (rv_ev rfl) ?_
              refine hl_v rfl rfl rfl (rv_add rfl rfl rfl (by constructor <;> omega)) ?_
              refine hl_v rfl rfl rfl (rv_ev rfl) ?_
              refine hl_less (sub_cons (d := 0) rfl (sub_cons (d := 1) rfl (sub_cons (d := 2) rfl (sub_cons (d := 4) rfl (sub_cons (d := 5) rfl (sub_cons (d := 6) rfl (sub_cons (d := 7) rfl (sub_cons (d := 8) rfl (sub_cons (d := 10) rfl (sub_cons (d := 11) rfl (sub_cons (d := 12) rfl (sub_cons (d := 13) rfl (sub_cons (d := 23) rfl (sub_cons (d := 28) rfl (sub_cons (d := 44) rfl (sub_cons (d := 59) rfl (sub_cons (d := 64) rfl (sub_nil _)))))))))))))))))) (.refl _) ?_
              refine hl_nil ?_
              refine hq_conv [bigE (es.map lePart), rowE 3 1 u ys.length (ys.map (Value.int .i64)), boxE b16 #[u, .int .i64 (getN xs q 16), .int .i64 (getN xs (q + 16) 1), .int .i64 (getN xs (q + 16 + 1) 1)] 87, rowE 87 4 t.lv ((es.set e (Le.mk u ys (getN xs q 16) (getN xs (q + 16) 1) (getN xs (q + 16 + 1) 1))).length) ((es.set e (Le.mk u ys (getN xs q 16) (getN xs (q + 16) 1) (getN xs (q + 16 + 1) 1))).flatMap Le.cells), rowE 3 1 t.mv zs.length (zs.map (Value.int .i64)), boxE b11 #[t.mv, t.lv, .int .i64 t.pad, .int .i64 t.ram] 39, boxE b2 #[.slice none 0 0, .slice none 0 0, .int .i64 0, .int .i64 0] 39, boxE b1 #[.int .i64 d.W, .int .i64 d.H, .int .i64 d.T, .int .i64 d.R] 25] (conv_pick (src := [rowE 3 1 u ys.length (ys.map (Value.int .i64)), boxE b16 #[u, .int .i64 (getN xs q 16), .int .i64 (getN xs (q + 16) 1), .int .i64 (getN xs (q + 16 + 1) 1)] 87, bigE (es.map lePart), rowE 87 4 t.lv ((es.set e (Le.mk u ys (getN xs q 16) (getN xs (q + 16) 1) (getN xs (q + 16 + 1) 1))).length) ((es.set e (Le.mk u ys (getN xs q 16) (getN xs (q + 16) 1) (getN xs (q + 16 + 1) 1))).flatMap Le.cells), rowE 3 1 t.mv zs.length (zs.map (Value.int .i64)), boxE b11 #[t.mv, t.lv, .int .i64 t.pad, .int .i64 t.ram] 39, boxE b2 #[.slice none 0 0, .slice none 0 0, .int .i64 0, .int .i64 0] 39, boxE b1 #[.int .i64 d.W, .int .i64 d.H, .int .i64 d.T, .int .i64 d.R] 25]) (dst := [bigE (es.map lePart), rowE 3 1 u ys.length (ys.map (Value.int .i64)), boxE b16 #[u, .int .i64 (getN xs q 16), .int .i64 (getN xs (q + 16) 1), .int .i64 (getN xs (q + 16 + 1) 1)] 87, rowE 87 4 t.lv ((es.set e (Le.mk u ys (getN xs q 16) (getN xs (q + 16) 1) (getN xs (q + 16 + 1) 1))).length) ((es.set e (Le.mk u ys (getN xs q 16) (getN xs (q + 16) 1) (getN xs (q + 16 + 1) 1))).flatMap Le.cells), rowE 3 1 t.mv zs.length (zs.map (Value.int .i64)), boxE b11 #[t.mv, t.lv, .int .i64 t.pad, .int .i64 t.ram] 39, boxE b2 #[.slice none 0 0, .slice none 0 0, .int .i64 0, .int .i64 0] 39, boxE b1 #[.int .i64 d.W, .int .i64 d.H, .int .i64 d.T, .int .i64 d.R] 25]) (l := []) [2, 0, 1, 3, 4, 5, 6, 7] (by decide) rfl) ?_
              refine hq_conv [bigE ((es.map lePart).eraseIdx e), rowE 3 1 u ys.length (ys.map (Value.int .i64)), boxE b16 #[u, .int .i64 (getN xs q 16), .int .i64 (getN xs (q + 16) 1), .int .i64 (getN xs (q + 16 + 1) 1)] 87, rowE 87 4 t.lv ((es.set e (Le.mk u ys (getN xs q 16) (getN xs (q + 16) 1) (getN xs (q + 16 + 1) 1))).length) ((es.set e (Le.mk u ys (getN xs q 16) (getN xs (q + 16) 1) (getN xs (q + 16 + 1) 1))).flatMap Le.cells), rowE 3 1 t.mv zs.length (zs.map (Value.int .i64)), boxE b11 #[t.mv, t.lv, .int .i64 t.pad, .int .i64 t.ram] 39, boxE b2 #[.slice none 0 0, .slice none 0 0, .int .i64 0, .int .i64 0] 39, boxE b1 #[.int .i64 d.W, .int .i64 d.H, .int .i64 d.T, .int .i64 d.R] 25] ((conv_focus (j := e) (by rw [List.getElem?_map, getD_at (d := Le0) (by omega)]; rfl)).trans conv_cons) ?_
              refine hq_conv [rowE 3 1 u ys.length (ys.map (Value.int .i64)), bigE ((es.map lePart).eraseIdx e), boxE b16 #[u, .int .i64 (getN xs q 16), .int .i64 (getN xs (q + 16) 1), .int .i64 (getN xs (q + 16 + 1) 1)] 87, rowE 87 4 t.lv ((es.set e (Le.mk u ys (getN xs q 16) (getN xs (q + 16) 1) (getN xs (q + 16 + 1) 1))).length) ((es.set e (Le.mk u ys (getN xs q 16) (getN xs (q + 16) 1) (getN xs (q + 16 + 1) 1))).flatMap Le.cells), rowE 3 1 t.mv zs.length (zs.map (Value.int .i64)), boxE b11 #[t.mv, t.lv, .int .i64 t.pad, .int .i64 t.ram] 39, boxE b2 #[.slice none 0 0, .slice none 0 0, .int .i64 0, .int .i64 0] 39, boxE b1 #[.int .i64 d.W, .int .i64 d.H, .int .i64 d.T, .int .i64 d.R] 25] (conv_perm (.swap _ _ _)) ?_
              refine hq_conv [bigE ((es.set e (Le.mk u ys (getN xs q 16) (getN xs (q + 16) 1) (getN xs (q + 16 + 1) 1))).map lePart), boxE b16 #[u, .int .i64 (getN xs q 16), .int .i64 (getN xs (q + 16) 1), .int .i64 (getN xs (q + 16 + 1) 1)] 87, rowE 87 4 t.lv ((es.set e (Le.mk u ys (getN xs q 16) (getN xs (q + 16) 1) (getN xs (q + 16 + 1) 1))).length) ((es.set e (Le.mk u ys (getN xs q 16) (getN xs (q + 16) 1) (getN xs (q + 16 + 1) 1))).flatMap Le.cells), rowE 3 1 t.mv zs.length (zs.map (Value.int .i64)), boxE b11 #[t.mv, t.lv, .int .i64 t.pad, .int .i64 t.ram] 39, boxE b2 #[.slice none 0 0, .slice none 0 0, .int .i64 0, .int .i64 0] 39, boxE b1 #[.int .i64 d.W, .int .i64 d.H, .int .i64 d.T, .int .i64 d.R] 25] (fun w hm => by have h2 := conv_unfocus (p' := lePart (Le.mk u ys (getN xs q 16) (getN xs (q + 16) 1) (getN xs (q + 16 + 1) 1))) (ps := es.map lePart) (j := e) (by rw [List.length_map]; omega) w hm; rw [← List.map_set] at h2; exact h2) ?_
              exact hq_round3 (e + 1) (q + 16 + 1 + 1) (es.set e (Le.mk u ys (getN xs q 16) (getN xs (q + 16) 1) (getN xs (q + 16 + 1) 1))) ⟨by omega, by omega, by rw [List.length_set]; exact hel, fun i hi => by by_cases hie : i = e; (rw [hie]; exact (by rw [getD_set_self' (by omega)]; show (ys, getN xs q 16, getN xs (q + 16) 1, getN xs (q + 16 + 1) 1) = _; rw [list4 (ys := ys) (a := getN xs (5 * (muxs d) + 30 * (e : Int)) 3) (b := getN xs ((5 * (muxs d) + 30 * (e : Int)) + 3) 3) (c := getN xs ((5 * (muxs d) + 30 * (e : Int)) + 6) 3) (e := getN xs ((5 * (muxs d) + 30 * (e : Int)) + 9) 3) (by omega) (by rw [hjz 0 (by omega)]; congr 1 <;> omega) (by rw [hjz 1 (by omega)]; congr 1 <;> omega) (by rw [hjz 2 (by omega)]; congr 1 <;> omega) (by rw [hjz 3 (by omega)]; congr 1 <;> omega), show q = (5 * (muxs d) + 30 * (e : Int)) + 12 by omega, show (5 * (muxs d) + 30 * (e : Int)) + 12 + 16 = (5 * (muxs d) + 30 * (e : Int)) + 28 by omega, show (5 * (muxs d) + 30 * (e : Int)) + 28 + 1 = (5 * (muxs d) + 30 * (e : Int)) + 29 by omega]; rfl)); rw [getD_set_ne' (fun h => hie h.symm)]; exact hez i (by omega)⟩ (by omega) (sub_cons (d := 0) rfl (sub_cons (d := 1) rfl (sub_cons (d := 2) rfl (sub_cons (d := 4) rfl (sub_cons (d := 5) rfl (sub_cons (d := 6) rfl (sub_cons (d := 7) rfl (sub_cons (d := 8) rfl (sub_cons (d := 10) rfl (sub_cons (d := 11) rfl (sub_cons (d := 23) rfl (sub_cons (d := 28) rfl (sub_cons (d := 44) rfl (sub_nil _)))))))))))))) ((.cons_cons _ (.cons _ (.cons_cons _ (.cons_cons _ (.cons_cons _ (.cons_cons _ (.cons_cons _ .slnil))))))))
          ·
            refine hl_less (sub_cons (d := 0) rfl (sub_cons (d := 1) rfl (sub_cons (d := 2) rfl (sub_cons (d := 4) rfl (sub_cons (d := 5) rfl (sub_cons (d := 6) rfl (sub_cons (d := 7) rfl (sub_cons (d := 8) rfl (sub_cons (d := 10) rfl (sub_cons (d := 11) rfl (sub_cons (d := 23) rfl (sub_cons (d := 28) rfl (sub_cons (d := 44) rfl (sub_cons (d := 59) rfl (sub_nil _))))))))))))))) (.refl _) ?_
            refine hl_nil ?_
            refine hq_then ?_
            refine hc_false rfl ?_
            refine hc_exit ?_
            refine hq_then_exit ?_
            refine hq_then_exit ?_
            refine hq_block_exit ?_
            refine hq_then ?_
            refine hc_seq ?_
            refine hc_region ?_
            refine hl_v rfl rfl rfl (rv_ev rfl) ?_
            refine hl_v rfl rfl rfl (rv_ev rfl) ?_
            refine hl_callV rfl rfl rfl (rq_call (by kernel_rfl) rfl (fun w hm => ret_ans (specGet_ans xs _ q 2 w (hv.below hm.bel) hww (by omega) (by omega) (by omega)))) ?_
            refine hl_v rfl rfl rfl (rv_ev rfl) ?_
            refine hl_v rfl rfl rfl (rv_ev rfl) ?_
            refine hl_v rfl rfl rfl (rv_ev rfl) ?_
            refine hl_v rfl rfl rfl (rv_field (k0 := 2) rfl (by kernel_rfl) rfl) ?_
            refine hl_storeBox (i := 3) (l' := [bigE (es.map lePart), rowE 87 4 t.lv es.length (es.flatMap Le.cells), rowE 3 1 t.mv zs.length (zs.map (Value.int .i64)), boxE b11 #[t.mv, t.lv, .int .i64 (getN xs q 2), .int .i64 t.ram] 39, boxE b2 #[.slice none 0 0, .slice none 0 0, .int .i64 0, .int .i64 0] 39, boxE b1 #[.int .i64 d.W, .int .i64 d.H, .int .i64 d.T, .int .i64 d.R] 25]) rfl rfl rfl (by kernel_rfl) rfl rfl rfl rfl rfl rfl ?_
            refine hl_v rfl rfl rfl (rv_ev rfl) ?_
            refine hl_less (sub_cons (d := 0) rfl (sub_cons (d := 1) rfl (sub_cons (d := 2) rfl (sub_cons (d := 4) rfl (sub_cons (d := 5) rfl (sub_cons (d := 6) rfl (sub_cons (d := 7) rfl (sub_cons (d := 8) rfl (sub_cons (d := 10) rfl (sub_cons (d := 11) rfl (sub_cons (d := 23) rfl (sub_cons (d := 28) rfl (sub_cons (d := 44) rfl (sub_cons (d := 59) rfl (sub_nil _))))))))))))))) (.refl _) ?_
            refine hl_nil ?_
            refine hq_then ?_
            refine hc_seq ?_
            refine hc_region ?_
            refine hl_v rfl rfl rfl (rv_ev rfl) ?_
            refine hl_v rfl rfl rfl (rv_ev rfl) ?_
            refine hl_callV rfl rfl rfl (rq_call (by kernel_rfl) rfl (fun w hm => ret_ans (specGet_ans xs _ (q + 2) 5 w (hv.below hm.bel) hww (by omega) (by omega) (by omega)))) ?_
            refine hl_v rfl rfl rfl (rv_ev rfl) ?_
            refine hl_v rfl rfl rfl (rv_ev rfl) ?_
            refine hl_v rfl rfl rfl (rv_ev rfl) ?_
            refine hl_v rfl rfl rfl (rv_field (k0 := 3) rfl (by kernel_rfl) rfl) ?_
            refine hl_storeBox (i := 3) (l' := [bigE (es.map lePart), rowE 87 4 t.lv es.length (es.flatMap Le.cells), rowE 3 1 t.mv zs.length (zs.map (Value.int .i64)), boxE b11 #[t.mv, t.lv, .int .i64 (getN xs q 2), .int .i64 (getN xs (q + 2) 5)] 39, boxE b2 #[.slice none 0 0, .slice none 0 0, .int .i64 0, .int .i64 0] 39, boxE b1 #[.int .i64 d.W, .int .i64 d.H, .int .i64 d.T, .int .i64 d.R] 25]) rfl rfl rfl (by kernel_rfl) rfl rfl rfl rfl rfl rfl ?_
            refine hl_less (sub_cons (d := 0) rfl (sub_cons (d := 1) rfl (sub_cons (d := 2) rfl (sub_cons (d := 4) rfl (sub_cons (d := 5) rfl (sub_cons (d := 6) rfl (sub_cons (d := 7) rfl (sub_cons (d := 8) rfl (sub_cons (d := 10) rfl (sub_cons (d := 11) rfl (sub_cons (d := 23) rfl (sub_cons (d := 28) rfl (sub_cons (d := 44) rfl (sub_cons (d := 59) rfl (sub_nil _))))))))))))))) (.refl _) ?_
            refine hl_nil ?_
            refine hq_then ?_
            refine hc_seq ?_
            refine hc_region ?_
            refine hl_v rfl rfl rfl (rv_loadN (cs := [t.mv, t.lv, .int .i64 (getN xs q 2), .int .i64 (getN xs (q + 2) 5)]) rfl (by kernel_rfl) (by kernel_rfl) rfl rfl (box_part 3 rfl 0 rfl)) ?_
            refine hl_storeBoxN (i := 4) (off := 0) (us := [t.mv, t.lv, .int .i64 (getN xs q 2), .int .i64 (getN xs (q + 2) 5)]) (l' := [bigE (es.map lePart), rowE 87 4 t.lv es.length (es.flatMap Le.cells), rowE 3 1 t.mv zs.length (zs.map (Value.int .i64)), boxE b11 #[t.mv, t.lv, .int .i64 (getN xs q 2), .int .i64 (getN xs (q + 2) 5)] 39, boxE b2 #[t.mv, t.lv, .int .i64 (getN xs q 2), .int .i64 (getN xs (q + 2) 5)] 39, boxE b1 #[.int .i64 d.W, .int .i64 d.H, .int .i64 d.T, .int .i64 d.R] 25]) rfl rfl rfl (by kernel_rfl) rfl rfl rfl (all_cons c1t (all_cons c2t (all_cons rfl (all_cons rfl all_nil)))) rfl rfl rfl ?_
            refine hl_v rfl rfl rfl (rv_ev rfl) ?_
            refine hl_less (sub_cons (d := 0) rfl (sub_cons (d := 1) rfl (sub_cons (d := 2) rfl (sub_cons (d := 4) rfl (sub_cons (d := 5) rfl (sub_cons (d := 6) rfl (sub_cons (d := 7) rfl (sub_cons (d := 8) rfl (sub_cons (d := 10) rfl (sub_cons (d := 11) rfl (sub_cons (d := 23) rfl (sub_cons (d := 28) rfl (sub_cons (d := 44) rfl (sub_cons (d := 59) rfl (sub_nil _))))))))))))))) (.refl _) ?_
            refine hl_nil ?_
            refine hq_then ?_
            refine hc_ret ?_
            refine hq_conv [bigE (es.map lePart), rowE 87 4 t.lv es.length (es.flatMap Le.cells), rowE 3 1 t.mv zs.length (zs.map (Value.int .i64)), boxE b2 #[t.mv, t.lv, .int .i64 (getN xs q 2), .int .i64 (getN xs (q + 2) 5)] 39] (conv_pick (src := [bigE (es.map lePart), rowE 87 4 t.lv es.length (es.flatMap Le.cells), rowE 3 1 t.mv zs.length (zs.map (Value.int .i64)), boxE b11 #[t.mv, t.lv, .int .i64 (getN xs q 2), .int .i64 (getN xs (q + 2) 5)] 39, boxE b2 #[t.mv, t.lv, .int .i64 (getN xs q 2), .int .i64 (getN xs (q + 2) 5)] 39, boxE b1 #[.int .i64 d.W, .int .i64 d.H, .int .i64 d.T, .int .i64 d.R] 25]) (dst := [bigE (es.map lePart), rowE 87 4 t.lv es.length (es.flatMap Le.cells), rowE 3 1 t.mv zs.length (zs.map (Value.int .i64)), boxE b2 #[t.mv, t.lv, .int .i64 (getN xs q 2), .int .i64 (getN xs (q + 2) 5)] 39]) (l := []) [0, 1, 2, 4] (by decide) rfl) ?_
            refine hq_conv [tcE (Tc.mk t.mv zs t.lv es (getN xs q 2) (getN xs (q + 2) 5)), boxE b2 #[t.mv, t.lv, .int .i64 (getN xs q 2), .int .i64 (getN xs (q + 2) 5)] 39] (fun w hm => by
      have h1 : Mem _ (([bigE (es.map lePart), rowE 87 4 t.lv es.length (es.flatMap Le.cells)]) ++ [rowE 3 1 t.mv zs.length (zs.map (Value.int .i64)), boxE b2 #[t.mv, t.lv, .int .i64 (getN xs q 2), .int .i64 (getN xs (q + 2) 5)] 39]) w := hm
      exact Mem.big (ps := [rowE 3 1 t.mv zs.length (zs.map (Value.int .i64)), lesE t.lv es]) (h1.big.perm (.swap _ _ _))) ?_
            have hyes : decOk d xs = true := by unfold decOk; rw [Bool.and_eq_true]; exact ⟨by assumption, (wordsB_iff _ _).2 ⟨by omega, hww⟩⟩
            exact hq_retM (rs := [.cell 4 39, .tmp 5]) (vs := [.agg #[t.mv, t.lv, .int .i64 (getN xs q 2), .int .i64 (getN xs (q + 2) 5)], .bool true]) (post := [tcE (Tc.mk t.mv zs t.lv es (getN xs q 2) (getN xs (q + 2) 5))]) rfl ⟨⟨b2, 0, [t.mv, t.lv, .int .i64 (getN xs q 2), .int .i64 (getN xs (q + 2) 5)], rfl, rfl, by kernel_rfl, by kernel_rfl, box_part 1 rfl 0 rfl⟩, rfl, trivial⟩ rfl (.cons_cons _ (List.nil_sublist _)) ⟨_, by rw [hyes]; rfl, rfl, ⟨c1t, c2t⟩, by
      unfold decV2
      rw [if_pos hyes]
      show (zs, es.map Le.val, _, _) = decV d xs
      have e2 : e = 2 := by omega
      subst e2
      rw [list2 hel (hez 0 (by omega)) (hez 1 (by omega)), heq]
      unfold decV
      refine Prod.ext ?_ (by simp [Int.add_assoc])
      show zs = (List.range (muxs d).toNat).map (fun m : Nat => getN xs (5 * m) 5)
      apply List.ext_getElem?
      intro i
      by_cases hi : i < zs.length
      · rw [getD_at (d := 0) hi, hmz i (by omega), List.getElem?_map, List.getElem?_range (by omega)]; rfl
      · rw [List.getElem?_eq_none (by omega), List.getElem?_eq_none (by rw [List.length_map, List.length_range]; omega)], by show zs.length ≤ _; unfold muxs at *; omega, by show es.length ≤ _; omega, fun x hx => by
      have hx : x ∈ es := hx
      obtain ⟨i, hi, rfl⟩ := List.mem_iff_getElem.1 hx
      have h5 := hez i (by omega)
      rw [List.getD_eq_getElem?_getD, List.getElem?_eq_getElem hi] at h5
      have h6 : es[i].xs = (decLe xs (5 * muxs d + 30 * (i : Int))).1 := congrArg Prod.fst h5
      rw [h6]; simp [decLe]⟩
  ·
    refine hl_v rfl rfl rfl (rv_ev rfl) ?_
    refine hl_v rfl rfl rfl (rv_ev rfl) ?_
    refine hl_skip rfl rfl rfl ?_
    refine hl_skip rfl rfl rfl ?_
    refine hl_skip rfl rfl rfl ?_
    refine hl_skip rfl rfl rfl ?_
    refine hl_skip rfl rfl rfl ?_
    refine hl_v rfl rfl rfl (rv_ev rfl) ?_
    refine hl_less (sub_cons (d := 0) rfl (sub_cons (d := 1) rfl (sub_cons (d := 2) rfl (sub_cons (d := 4) rfl (sub_cons (d := 5) rfl (sub_cons (d := 23) rfl (sub_nil _))))))) (.refl _) ?_
    refine hl_nil ?_
    refine hq_then ?_
    refine hc_true rfl ?_
    refine hc_seq ?_
    refine hc_region ?_
    refine hl_v rfl rfl rfl (rv_build (cs := #[.slice none 0 0, .slice none 0 0, .int .i64 0, .int .i64 0]) rfl rfl (by kernel_rfl)) ?_
    refine hl_storeBoxN (i := 0) (off := 0) (us := [.slice none 0 0, .slice none 0 0, .int .i64 0, .int .i64 0]) (l' := [boxE b2 #[.slice none 0 0, .slice none 0 0, .int .i64 0, .int .i64 0] 39, boxE b1 #[.int .i64 d.W, .int .i64 d.H, .int .i64 d.T, .int .i64 d.R] 25]) rfl rfl rfl (by kernel_rfl) rfl rfl rfl (all_cons rfl (all_cons rfl (all_cons rfl (all_cons rfl all_nil)))) rfl rfl rfl ?_
    refine hl_v rfl rfl rfl (rv_ev rfl) ?_
    refine hl_less (sub_cons (d := 0) rfl (sub_cons (d := 1) rfl (sub_cons (d := 2) rfl (sub_cons (d := 4) rfl (sub_cons (d := 5) rfl (sub_cons (d := 23) rfl (sub_nil _))))))) (.refl _) ?_
    refine hl_nil ?_
    refine hq_then ?_
    refine hc_ret ?_
    refine hq_then_ret ?_
    have hfr0 : frW d = (5 * (5 + 4 * d.T) + 67 + 15) / 16 := rfl
    have hno : decOk d xs = false := by unfold decOk; first | (simp only [*]; rfl) | (rw [Bool.and_eq_false_iff]; right; rw [Bool.eq_false_iff]; intro h; obtain ⟨q1, q2⟩ := (wordsB_iff _ _).1 h; first | omega | (have := q2 j (by omega); omega))
    refine hq_conv (tcE (Tc.mk (.slice none 0 0) [] (.slice none 0 0) [] 0 0) :: [boxE b2 #[.slice none 0 0, .slice none 0 0, .int .i64 0, .int .i64 0] 39, boxE b1 #[.int .i64 d.W, .int .i64 d.H, .int .i64 d.T, .int .i64 d.R] 25]) (fun w hm => hm.tcNil) ?_
    exact hq_retM (rs := [.cell 4 39, .tmp 5]) (vs := [.agg #[.slice none 0 0, .slice none 0 0, .int .i64 0, .int .i64 0], .bool false]) (post := [tcE (Tc.mk (.slice none 0 0) [] (.slice none 0 0) [] 0 0)]) rfl ⟨⟨b2, 0, [.slice none 0 0, .slice none 0 0, .int .i64 0, .int .i64 0], rfl, rfl, by kernel_rfl, by kernel_rfl, box_part 1 rfl 0 rfl⟩, rfl, trivial⟩ rfl (.cons_cons _ (List.nil_sublist _)) ⟨Tc.mk (.slice none 0 0) [] (.slice none 0 0) [] 0 0, by rw [hno]; rfl, rfl, ⟨rfl, rfl⟩, by unfold decV2; rw [hno]; rfl, by decide, by decide, by simp⟩
end Go.Proofs.Ytnnkbpcfjjijbaa
