/- Texts of the law FnTileRound, part 6: what it uses. -/
import Derived.Test.YtnnkbpcfjjijbaaTr5
set_option linter.unusedVariables false
set_option linter.unusedSimpArgs false
namespace Go.Proofs.Ytnnkbpcfjjijbaa
open Go.RowKit Go.ChangeShapes
open Go.RowKit
set_option maxHeartbeats 4000000 in
set_option maxRecDepth 100000 in
theorem walk_FnTileRound (a0 : Option Addr) (len0 cap0 : Nat) (z0 : List Int) (w : World) (hbr : BRow .u8 w a0 len0 cap0 z0) :
  Calls Try.prog 14 #[.slice a0 len0 cap0] w (Ans w (.bool true)) := by
 refine calls_hc (N := 109) (args := [.slice a0 len0 cap0]) Try.func14 rfl rfl ?_
 refine hc_less _ (sx 0 rfl (sub_nil _)) (.refl _) ?_
 refine hc_seq ?_
 refine hc_region ?_
 refine hl_v rfl rfl rfl (rv_ev rfl) ?_
 refine hl_less (sx 0 rfl (sx 2 rfl (sub_nil _))) (.refl _) ?_
 refine hl_nil ?_
 refine hq_then ?_
 refine hc_seq ?_
 refine hc_seq ?_
 refine hc_region ?_
 refine hl_v rfl rfl rfl (rv_ev rfl) ?_
 refine hl_callV rfl rfl rfl (rq_call (by kernel_rfl) rfl (fun w hm => ret_ans (ans_of (big_any a0 len0 cap0 w (hbr.len_le))))) ?_
 refine hl_bool (fun h1 => ?_) (fun h1 => ?_)
 ·
  have h1p := of_decide_eq_true h1
  refine hl_less (sx 0 rfl (sx 2 rfl (sx 18 rfl (sub_nil _)))) (.refl _) ?_
  refine hl_nil ?_
  refine hq_then ?_
  refine hc_true rfl ?_
  refine hc_seq ?_
  refine hc_region ?_
  refine hl_v rfl rfl rfl (rv_ev rfl) ?_
  refine hl_less (sx 0 rfl (sx 2 rfl (sx 18 rfl (sub_nil _)))) (.refl _) ?_
  refine hl_nil ?_
  refine hq_then ?_
  refine hc_ret ?_
  refine hq_then_ret ?_
  exact hq_ans rfl rfl rfl
 ·
  have h1p := of_decide_eq_false h1
  refine hl_less (sx 0 rfl (sx 2 rfl (sx 18 rfl (sub_nil _)))) (.refl _) ?_
  refine hl_nil ?_
  refine hq_then ?_
  refine hc_false rfl ?_
  refine hc_skip ?_
  refine hq_then ?_
  refine hc_seq ?_
  refine hc_region ?_
  refine hl_v rfl rfl rfl (rv_ev rfl) ?_
  refine hl_q rfl rfl rfl (rq_call (by kernel_rfl) rfl (fun w hm => DrawTile_ret _ _ _ z0 w (hbr.below hm.bel) (by omega))) ?_
  intro v2 p3 hR4
  obtain ⟨d, x, t, hdr, ⟨x0, x1⟩, okt, rfl, rfl, ⟨c1t, c2t⟩, n1t, n2t, n3t⟩ := hR4
  have hd := hdr.ok
  obtain ⟨dr1, dr2, dr3, dr4, dr5, dr6, -⟩ := id hdr
  obtain ⟨de1, de2, de3⟩ := dec_enc d t.val okt
  have hfw : frW d = (5 * (5 + 4 * d.T) + 67 + 15) / 16 := rfl
  refine hl_v rfl rfl rfl (rv_ev rfl) ?_
  refine hl_v rfl rfl rfl (rv_ev rfl) ?_
  refine hl_v rfl rfl rfl (rv_ev rfl) ?_
  refine hl_v rfl rfl rfl (rv_ev rfl) ?_
  refine hl_box rfl rfl rfl (rq_alloc (z := .agg #[.int .i64 0, .int .i64 0, .int .i64 0, .int .i64 0]) rfl (by kernel_rfl)) ?_
  intro b5
  refine hl_box rfl rfl rfl (rq_alloc (z := .agg #[.slice none 0 0, .slice none 0 0, .int .i64 0, .int .i64 0]) rfl (by kernel_rfl)) ?_
  intro b6
  refine hl_storeBoxN (i := 1) (off := 0) (us := [.int .i64 d.W, .int .i64 d.H, .int .i64 d.T, .int .i64 d.R]) (l' := [boxE b6 #[.slice none 0 0, .slice none 0 0, .int .i64 0, .int .i64 0] 39, boxE b5 #[.int .i64 d.W, .int .i64 d.H, .int .i64 d.T, .int .i64 d.R] 25, tcE t]) rfl rfl rfl (by kernel_rfl) rfl rfl rfl (all_cons rfl (all_cons rfl (all_cons rfl (all_cons rfl all_nil)))) rfl rfl rfl ?_
  refine hl_v rfl rfl rfl (rv_ev rfl) ?_
  refine hl_storeBoxN (i := 0) (off := 0) (us := [t.mv, t.lv, .int .i64 t.pad, .int .i64 t.ram]) (l' := [boxE b6 #[t.mv, t.lv, .int .i64 t.pad, .int .i64 t.ram] 39, boxE b5 #[.int .i64 d.W, .int .i64 d.H, .int .i64 d.T, .int .i64 d.R] 25, tcE t]) rfl rfl rfl (by kernel_rfl) rfl rfl rfl (all_cons c1t (all_cons c2t (all_cons rfl (all_cons rfl all_nil)))) rfl rfl rfl ?_
  refine hl_less (sx 0 rfl (sx 2 rfl (sx 3 rfl (sx 4 rfl (sx 5 rfl (sx 18 rfl (sub_nil _))))))) (.refl _) ?_
  refine hl_nil ?_
  refine hq_then ?_
  refine hc_seq ?_
  refine hc_region ?_
  refine hl_v rfl rfl rfl (rv_loadN (cs := [.int .i64 d.W, .int .i64 d.H, .int .i64 d.T, .int .i64 d.R]) rfl (by kernel_rfl) (by kernel_rfl) rfl rfl (box_part 1 rfl 0 rfl)) ?_
  refine hl_v rfl rfl rfl (rv_loadN (cs := [t.mv, t.lv, .int .i64 t.pad, .int .i64 t.ram]) rfl (by kernel_rfl) (by kernel_rfl) rfl rfl (box_part 0 rfl 0 rfl)) ?_
  refine hl_q rfl rfl rfl (rq_call (by kernel_rfl) rfl (fun w hm => enc_yes d t okt w (tc_rds 2 rfl n1t n2t n3t w hm))) ?_
  intro v7 p8 hR9
  obtain ⟨uhR9, rfl, rfl⟩ := hR9
  refine hl_v rfl rfl rfl (rv_ev rfl) ?_
  refine hl_v rfl rfl rfl (rv_ev rfl) ?_
  refine hl_v rfl rfl rfl (rv_ev rfl) ?_
  refine hl_v rfl rfl rfl (rv_ev rfl) ?_
  refine hl_v rfl rfl rfl (rv_ev rfl) ?_
  refine hl_less (sx 0 rfl (sx 2 rfl (sx 3 rfl (sx 4 rfl (sx 5 rfl (sx 6 rfl (sx 7 rfl (sx 18 rfl (sub_nil _))))))))) (.refl _) ?_
  refine hl_nil ?_
  refine hq_then ?_
  refine hc_seq ?_
  refine hc_region ?_
  refine hl_v rfl rfl rfl (rv_loadN (cs := [.int .i64 d.W, .int .i64 d.H, .int .i64 d.T, .int .i64 d.R]) rfl (by kernel_rfl) (by kernel_rfl) rfl rfl (box_part 2 rfl 0 rfl)) ?_
  refine hl_v rfl rfl rfl (rv_ev rfl) ?_
  refine hl_q rfl rfl rfl (rq_call (by kernel_rfl) rfl (fun w hm => dec_yes d t okt _ w ((rd_row 0 rfl) w hm) (by omega))) ?_
  intro v10 p11 hR12
  obtain ⟨y, rfl, rfl, ⟨c1y, c2y⟩, valy, n1y, n2y, n3y⟩ := hR12
  have oky : tcOkV d y.val = true := by rw [valy]; exact okt
  refine hl_v rfl rfl rfl (rv_ev rfl) ?_
  refine hl_v rfl rfl rfl (rv_ev rfl) ?_
  refine hl_v rfl rfl rfl (rv_ev rfl) ?_
  refine hl_box rfl rfl rfl (rq_alloc (z := .agg #[.slice none 0 0, .slice none 0 0, .int .i64 0, .int .i64 0]) rfl (by kernel_rfl)) ?_
  intro b13
  refine hl_storeBoxN (i := 0) (off := 0) (us := [y.mv, y.lv, .int .i64 y.pad, .int .i64 y.ram]) (l' := [boxE b13 #[y.mv, y.lv, .int .i64 y.pad, .int .i64 y.ram] 39, tcE y, rowE 3 1 uhR9 ((encV d t.val).length) ((encV d t.val).map (Value.int .i64)), boxE b6 #[t.mv, t.lv, .int .i64 t.pad, .int .i64 t.ram] 39, boxE b5 #[.int .i64 d.W, .int .i64 d.H, .int .i64 d.T, .int .i64 d.R] 25, tcE t]) rfl rfl rfl (by kernel_rfl) rfl rfl rfl (all_cons c1y (all_cons c2y (all_cons rfl (all_cons rfl all_nil)))) rfl rfl rfl ?_
  refine hl_v rfl rfl rfl (rv_ev rfl) ?_
  refine hl_less (sx 0 rfl (sx 2 rfl (sx 3 rfl (sx 4 rfl (sx 5 rfl (sx 6 rfl (sx 7 rfl (sx 8 rfl (sx 9 rfl (sx 18 rfl (sub_nil _))))))))))) (.refl _) ?_
  refine hl_nil ?_
  refine hq_then ?_
  refine hc_seq ?_
  refine hc_region ?_
  refine hl_v rfl rfl rfl (rv_loadN (cs := [.int .i64 d.W, .int .i64 d.H, .int .i64 d.T, .int .i64 d.R]) rfl (by kernel_rfl) (by kernel_rfl) rfl rfl (box_part 4 rfl 0 rfl)) ?_
  refine hl_q rfl rfl rfl (rq_call (by kernel_rfl) rfl (fun w hm => implEmptyTile_ret d w)) ?_
  intro v14 p15 hR16
  obtain ⟨zz, rfl, rfl, ⟨c1zz, c2zz⟩, valz, n1zz, n2zz, n3zz⟩ := hR16
  have okz : tcOkV d zz.val = true := by rw [valz]; exact empty_ok d hd
  refine hl_box rfl rfl rfl (rq_alloc (z := .agg #[.slice none 0 0, .slice none 0 0, .int .i64 0, .int .i64 0]) rfl (by kernel_rfl)) ?_
  intro b17
  refine hl_storeBoxN (i := 0) (off := 0) (us := [zz.mv, zz.lv, .int .i64 zz.pad, .int .i64 zz.ram]) (l' := [boxE b17 #[zz.mv, zz.lv, .int .i64 zz.pad, .int .i64 zz.ram] 39, tcE zz, boxE b13 #[y.mv, y.lv, .int .i64 y.pad, .int .i64 y.ram] 39, tcE y, rowE 3 1 uhR9 ((encV d t.val).length) ((encV d t.val).map (Value.int .i64)), boxE b6 #[t.mv, t.lv, .int .i64 t.pad, .int .i64 t.ram] 39, boxE b5 #[.int .i64 d.W, .int .i64 d.H, .int .i64 d.T, .int .i64 d.R] 25, tcE t]) rfl rfl rfl (by kernel_rfl) rfl rfl rfl (all_cons c1zz (all_cons c2zz (all_cons rfl (all_cons rfl all_nil)))) rfl rfl rfl ?_
  refine hl_less (sx 0 rfl (sx 2 rfl (sx 3 rfl (sx 4 rfl (sx 5 rfl (sx 6 rfl (sx 7 rfl (sx 8 rfl (sx 9 rfl (sx 10 rfl (sx 18 rfl (sub_nil _)))))))))))) (.refl _) ?_
  refine hl_nil ?_
  refine hq_then ?_
  refine hc_seq ?_
  refine hc_region ?_
  refine hl_v rfl rfl rfl (rv_loadN (cs := [.int .i64 d.W, .int .i64 d.H, .int .i64 d.T, .int .i64 d.R]) rfl (by kernel_rfl) (by kernel_rfl) rfl rfl (box_part 6 rfl 0 rfl)) ?_
  refine hl_v rfl rfl rfl (rv_loadN (cs := [zz.mv, zz.lv, .int .i64 zz.pad, .int .i64 zz.ram]) rfl (by kernel_rfl) (by kernel_rfl) rfl rfl (box_part 0 rfl 0 rfl)) ?_
  refine hl_q rfl rfl rfl (rq_call (by kernel_rfl) rfl (fun w hm => enc_yes d zz okz w (tc_rds 1 rfl n1zz n2zz n3zz w hm))) ?_
  intro v18 p19 hR20
  obtain ⟨uhR20, rfl, rfl⟩ := hR20
  refine hl_v rfl rfl rfl (rv_ev rfl) ?_
  refine hl_v rfl rfl rfl (rv_ev rfl) ?_
  refine hl_v rfl rfl rfl (rv_ev rfl) ?_
  refine hl_v rfl rfl rfl (rv_ev rfl) ?_
  refine hl_v rfl rfl rfl (rv_ev rfl) ?_
  refine hl_less (sx 0 rfl (sx 2 rfl (sx 3 rfl (sx 4 rfl (sx 5 rfl (sx 6 rfl (sx 7 rfl (sx 8 rfl (sx 9 rfl (sx 10 rfl (sx 11 rfl (sx 18 rfl (sub_nil _))))))))))))) (.refl _) ?_
  refine hl_nil ?_
  refine hq_then ?_
  refine hc_seq ?_
  refine hc_seq ?_
  refine hc_region ?_
  refine hl_v rfl rfl rfl (rv_ev rfl) ?_
  refine hl_less (sx 0 rfl (sx 2 rfl (sx 3 rfl (sx 4 rfl (sx 5 rfl (sx 6 rfl (sx 7 rfl (sx 8 rfl (sx 9 rfl (sx 10 rfl (sx 11 rfl (sx 13 rfl (sx 18 rfl (sub_nil _)))))))))))))) (.refl _) ?_
  refine hl_nil ?_
  refine hq_then ?_
  refine hc_block ?_
  refine hc_loop1 (α := Nat) (fun m => [rowE 3 1 uhR20 ((encV d zz.val).length) ((encV d zz.val).map (Value.int .i64)), boxE b17 #[zz.mv, zz.lv, .int .i64 zz.pad, .int .i64 zz.ram] 39, tcE zz, boxE b13 #[y.mv, y.lv, .int .i64 y.pad, .int .i64 y.ram] 39, tcE y, rowE 3 1 uhR9 ((encV d t.val).length) ((encV d t.val).map (Value.int .i64)), boxE b6 #[t.mv, t.lv, .int .i64 t.pad, .int .i64 t.ram] 39, boxE b5 #[.int .i64 d.W, .int .i64 d.H, .int .i64 d.T, .int .i64 d.R] 25, tcE t]) (fun m => [(0, .slice a0 len0 cap0), (2, .bool false), (3, .pointer (some ⟨b5, 0, none⟩)), (4, .int .i64 x), (5, .pointer (some ⟨b6, 0, none⟩)), (6, uhR9), (7, .bool true), (8, .pointer (some ⟨b13, 0, none⟩)), (9, .bool true), (10, .pointer (some ⟨b17, 0, none⟩)), (11, uhR20), (13, .int .i64 (m : Int)), (18, .bool false)]) (fun m => (m : Int) ≤ 5 + 4 * d.T) (fun m => (5 + 4 * d.T).toNat - m) 0 (by omega) (sx 0 rfl (sx 2 rfl (sx 3 rfl (sx 4 rfl (sx 5 rfl (sx 6 rfl (sx 7 rfl (sx 8 rfl (sx 9 rfl (sx 10 rfl (sx 11 rfl (sx 13 rfl (sx 18 rfl (sub_nil _)))))))))))))) ((.cons_cons _ (.cons_cons _ (.cons_cons _ (.cons_cons _ (.cons_cons _ (.cons_cons _ (.cons_cons _ (.cons_cons _ (.cons_cons _ .slnil)))))))))) ?_
  intro m hi21
  have hm0 := hi21
  refine hc_seq ?_
  refine hc_seq ?_
  refine hc_region ?_
  refine hl_v rfl rfl rfl (rv_ev rfl) ?_
  refine hl_v rfl rfl rfl (rv_loadN (cs := [.int .i64 d.W, .int .i64 d.H, .int .i64 d.T, .int .i64 d.R]) rfl (by kernel_rfl) (by kernel_rfl) rfl rfl (box_part 7 rfl 0 rfl)) ?_
  refine hl_callV rfl rfl rfl (rq_call (by kernel_rfl) rfl (fun w hm => ret_ans (implMuxCount_yes d hd w))) ?_
  refine hl_lss rfl rfl rfl rfl rfl rfl (fun h22 => ?_) (fun h22 => ?_)
  ·
   refine hl_less (sx 0 rfl (sx 2 rfl (sx 3 rfl (sx 4 rfl (sx 5 rfl (sx 6 rfl (sx 7 rfl (sx 8 rfl (sx 9 rfl (sx 10 rfl (sx 11 rfl (sx 13 rfl (sx 18 rfl (sx 48 rfl (sub_nil _))))))))))))))) (.refl _) ?_
   refine hl_nil ?_
   refine hq_then ?_
   refine hc_true rfl ?_
   refine hc_skip ?_
   refine hq_then ?_
   refine hc_seq ?_
   refine hc_block ?_
   refine hc_seq ?_
   refine hc_region ?_
   refine hl_v rfl rfl rfl (rv_loadN (cs := [.int .i64 d.W, .int .i64 d.H, .int .i64 d.T, .int .i64 d.R]) rfl (by kernel_rfl) (by kernel_rfl) rfl rfl (box_part 7 rfl 0 rfl)) ?_
   refine hl_v rfl rfl rfl (rv_ev rfl) ?_
   refine hl_v rfl rfl rfl (rv_ev rfl) ?_
   refine hl_callV rfl rfl rfl (rq_call (by kernel_rfl) rfl (fun w hm => ret_ans (implMuxNode_any d x (m : Int) w))) ?_
   refine hl_v rfl rfl rfl (rv_ev rfl) ?_
   refine hl_less (sx 0 rfl (sx 2 rfl (sx 3 rfl (sx 4 rfl (sx 5 rfl (sx 6 rfl (sx 7 rfl (sx 8 rfl (sx 9 rfl (sx 10 rfl (sx 11 rfl (sx 13 rfl (sx 14 rfl (sx 18 rfl (sx 48 rfl (sub_nil _)))))))))))))))) (.refl _) ?_
   refine hl_nil ?_
   refine hq_then ?_
   refine hc_seq ?_
   refine hc_region ?_
   refine hl_v rfl rfl rfl (rv_loadN (cs := [.int .i64 d.W, .int .i64 d.H, .int .i64 d.T, .int .i64 d.R]) rfl (by kernel_rfl) (by kernel_rfl) rfl rfl (box_part 7 rfl 0 rfl)) ?_
   refine hl_v rfl rfl rfl (rv_ev rfl) ?_
   refine hl_q rfl rfl rfl (rq_call (by kernel_rfl) rfl (fun w hm => (src_eq d (muxNodeI d x m)) ▸ specSources_ret d _ w)) ?_
   intro v23 p24 hR25
   subst hR25
   refine hl_v rfl rfl rfl (rv_ev rfl) ?_
   refine hl_less (sx 0 rfl (sx 2 rfl (sx 3 rfl (sx 4 rfl (sx 5 rfl (sx 6 rfl (sx 7 rfl (sx 8 rfl (sx 9 rfl (sx 10 rfl (sx 11 rfl (sx 13 rfl (sx 14 rfl (sx 15 rfl (sx 18 rfl (sx 48 rfl (sub_nil _))))))))))))))))) (.refl _) ?_
   refine hl_nil ?_
   refine hq_then ?_
   refine hc_seq ?_
   refine hc_region ?_
   refine hl_v rfl rfl rfl (rv_ev rfl) ?_
   refine hl_less (sx 0 rfl (sx 2 rfl (sx 3 rfl (sx 4 rfl (sx 5 rfl (sx 6 rfl (sx 7 rfl (sx 8 rfl (sx 9 rfl (sx 10 rfl (sx 11 rfl (sx 13 rfl (sx 14 rfl (sx 15 rfl (sx 16 rfl (sx 18 rfl (sx 48 rfl (sub_nil _)))))))))))))))))) (.refl _) ?_
   refine hl_nil ?_
   refine hq_then ?_
   refine hc_block ?_
   refine hc_loop1 (α := Nat) (fun i2 => [rowE 3 1 v23 ((srcI d (muxNodeI d x (m : Int))).length) ((srcI d (muxNodeI d x (m : Int))).map (Value.int .i64)), rowE 3 1 uhR20 ((encV d zz.val).length) ((encV d zz.val).map (Value.int .i64)), boxE b17 #[zz.mv, zz.lv, .int .i64 zz.pad, .int .i64 zz.ram] 39, tcE zz, boxE b13 #[y.mv, y.lv, .int .i64 y.pad, .int .i64 y.ram] 39, tcE y, rowE 3 1 uhR9 ((encV d t.val).length) ((encV d t.val).map (Value.int .i64)), boxE b6 #[t.mv, t.lv, .int .i64 t.pad, .int .i64 t.ram] 39, boxE b5 #[.int .i64 d.W, .int .i64 d.H, .int .i64 d.T, .int .i64 d.R] 25, tcE t]) (fun i2 => [(0, .slice a0 len0 cap0), (2, .bool false), (3, .pointer (some ⟨b5, 0, none⟩)), (4, .int .i64 x), (5, .pointer (some ⟨b6, 0, none⟩)), (6, uhR9), (7, .bool true), (8, .pointer (some ⟨b13, 0, none⟩)), (9, .bool true), (10, .pointer (some ⟨b17, 0, none⟩)), (11, uhR20), (13, .int .i64 (m : Int)), (14, .int .i64 (muxNodeI d x (m : Int))), (15, v23), (16, .int .i64 (i2 : Int)), (18, .bool false), (48, .bool true)]) (fun i2 => i2 ≤ (srcI d (muxNodeI d x m)).length) (fun i2 => (srcI d (muxNodeI d x m)).length - i2) 0 (Nat.zero_le _) (sx 0 rfl (sx 2 rfl (sx 3 rfl (sx 4 rfl (sx 5 rfl (sx 6 rfl (sx 7 rfl (sx 8 rfl (sx 9 rfl (sx 10 rfl (sx 11 rfl (sx 13 rfl (sx 14 rfl (sx 15 rfl (sx 16 rfl (sx 18 rfl (sx 48 rfl (sub_nil _)))))))))))))))))) ((.cons_cons _ (.cons_cons _ (.cons_cons _ (.cons_cons _ (.cons_cons _ (.cons_cons _ (.cons_cons _ (.cons_cons _ (.cons_cons _ (.cons_cons _ .slnil))))))))))) ?_
   intro i2 hi26
   have hi2 := hi26
   have hs16 := src_len16 d (muxNodeI d x m)
   refine hc_seq ?_
   refine hc_seq ?_
   refine hc_region ?_
   refine hl_v rfl rfl rfl (rv_ev rfl) ?_
   refine hl_v rfl rfl rfl (rv_ev rfl) ?_
   refine hl_v rfl rfl rfl (rv_len rfl Try.underlying30 rfl (rd_row 0 rfl)) ?_
   refine hl_lss rfl rfl rfl rfl rfl rfl (fun h27 => ?_) (fun h27 => ?_)
   ·
    refine hl_less (sx 0 rfl (sx 2 rfl (sx 3 rfl (sx 4 rfl (sx 5 rfl (sx 6 rfl (sx 7 rfl (sx 8 rfl (sx 9 rfl (sx 10 rfl (sx 11 rfl (sx 13 rfl (sx 14 rfl (sx 15 rfl (sx 16 rfl (sx 18 rfl (sx 48 rfl (sx 61 rfl (sub_nil _))))))))))))))))))) (.refl _) ?_
    refine hl_nil ?_
    refine hq_then ?_
    refine hc_true rfl ?_
    refine hc_skip ?_
    refine hq_then ?_
    refine hc_seq ?_
    refine hc_block ?_
    refine hc_seq ?_
    have hsel := sel_src d (muxNodeI d x m) i2 (by omega)
    have hsel := sel_src d (muxNodeI d x m) i2 (by omega)
    have hb28 : ((selI (srcI d (muxNodeI d x (m : Int))) ((srcI d (muxNodeI d x (m : Int))).getD i2 0)) != ((i2 : Int) + 1)) = false := Bool.eq_false_iff.2 (fun h => bne_iff_ne.1 h (by omega))
    refine hc_draw (by kernel_rfl) 10 [0, 1, 2, 3, 4, 5, 6, 7, 8, 9] (List.take 10 _) (List.drop 10 _) [[], [], [], [], [2, 3], [4], [0, 1, 5], [], [7], [6, 8]] [64, 65, 66, 67, 68, 69, 70, 71, 72, 73] (fun i vs_ v_ p_ => match i with | 0 => v_ = .agg #[.int .i64 d.W, .int .i64 d.H, .int .i64 d.T, .int .i64 d.R] ∧ p_ = [] | 1 => v_ = .int .i64 (muxNodeI d x (m : Int)) ∧ p_ = [] | 2 => v_ = v23 ∧ p_ = [] | 3 => v_ = .int .i64 (i2 : Int) ∧ p_ = [] | 4 => v_ = elP v23 (((i2 : Int)).toNat * 1) ∧ p_ = [] | 5 => v_ = .int .i64 ((srcI d (muxNodeI d x (m : Int))).getD i2 0) ∧ p_ = [] | 6 => v_ = .int .i64 (selI (srcI d (muxNodeI d x (m : Int))) ((srcI d (muxNodeI d x (m : Int))).getD i2 0)) ∧ p_ = [] | 7 => v_ = .int .i64 (i2 : Int) ∧ p_ = [] | 8 => v_ = .int .i64 ((i2 : Int) + 1) ∧ p_ = [] | 9 => v_ = .bool false ∧ p_ = [] | _ => True) (List.take_append_drop 10 _).symm (by kernel_rfl) (by kernel_rfl) rfl rfl ?_ ?_
    ·
     refine ⟨?_, ?_, ?_, ?_, ?_, ?_, ?_, ?_, ?_, ?_, trivial⟩
     ·
      intro vf pf hR
      refine Or.inl ⟨rfl, ?_⟩
      refine rq_less (sx 3 rfl (sub_nil _)) (List.sublist_append_right _ _) ?_
      exact rq_v (rv_loadN (cs := [.int .i64 d.W, .int .i64 d.H, .int .i64 d.T, .int .i64 d.R]) rfl (by kernel_rfl) (by kernel_rfl) rfl rfl (box_part 8 rfl 0 rfl))
     ·
      intro vf pf hR
      refine Or.inl ⟨rfl, ?_⟩
      refine rq_less (sx 14 rfl (sub_nil _)) (List.sublist_append_right _ _) ?_
      exact rq_v (rv_ev rfl)
     ·
      intro vf pf hR
      refine Or.inl ⟨rfl, ?_⟩
      refine rq_less (sx 15 rfl (sub_nil _)) (List.sublist_append_right _ _) ?_
      exact rq_v (rv_ev rfl)
     ·
      intro vf pf hR
      refine Or.inl ⟨rfl, ?_⟩
      refine rq_less (sx 16 rfl (sub_nil _)) (List.sublist_append_right _ _) ?_
      exact rq_v (rv_ev rfl)
     ·
      intro vf pf hR
      have e2 : (vf 2) = v23 ∧ (pf 2) = [] := hR 2 (by decide)
      have e3 : (vf 3) = .int .i64 (i2 : Int) ∧ (pf 3) = [] := hR 3 (by decide)
      refine Or.inl ⟨rfl, ?_⟩
      refine rq_less (sx 66 (congrArg some e2.1) (sx 67 (congrArg some e3.1) (sub_nil _))) (List.sublist_append_right _ _) ?_
      exact rq_v (rv_index (s := 1) rfl Try.underlying30 (by kernel_rfl) rfl rfl (rd_row 0 rfl) (by omega) (by first | omega | (simp only [List.length_set]; omega)))
     ·
      intro vf pf hR
      have e4 : (vf 4) = elP v23 (((i2 : Int)).toNat * 1) ∧ (pf 4) = [] := hR 4 (by decide)
      refine Or.inl ⟨rfl, ?_⟩
      refine rq_less (sx 68 (congrArg some e4.1) (sub_nil _)) (List.sublist_append_right _ _) ?_
      exact rq_v (rv_loadEl (u := .int .i64 ((srcI d (muxNodeI d x (m : Int))).getD i2 0)) rfl (by kernel_rfl) rfl (rd_row 0 rfl) (ints_at1 (show _ < (srcI d (muxNodeI d x (m : Int))).length by first | omega | (simp only [List.length_set]; omega))))
     ·
      intro vf pf hR
      have e0 : (vf 0) = .agg #[.int .i64 d.W, .int .i64 d.H, .int .i64 d.T, .int .i64 d.R] ∧ (pf 0) = [] := hR 0 (by decide)
      have e1 : (vf 1) = .int .i64 (muxNodeI d x (m : Int)) ∧ (pf 1) = [] := hR 1 (by decide)
      have e5 : (vf 5) = .int .i64 ((srcI d (muxNodeI d x (m : Int))).getD i2 0) ∧ (pf 5) = [] := hR 5 (by decide)
      refine Or.inl ⟨rfl, ?_⟩
      refine rq_less (sx 64 (congrArg some e0.1) (sx 65 (congrArg some e1.1) (sx 69 (congrArg some e5.1) (sub_nil _)))) (List.sublist_append_right _ _) ?_
      exact (rq_call (by kernel_rfl) rfl (fun w hm => ret_ans (implSelectFor_ans d _ _ w (by have := src_len16 d (muxNodeI d x (m : Int)); omega))))
     ·
      intro vf pf hR
      refine Or.inl ⟨rfl, ?_⟩
      refine rq_less (sx 16 rfl (sub_nil _)) (List.sublist_append_right _ _) ?_
      exact rq_v (rv_ev rfl)
     ·
      intro vf pf hR
      have e7 : (vf 7) = .int .i64 (i2 : Int) ∧ (pf 7) = [] := hR 7 (by decide)
      refine Or.inl ⟨rfl, ?_⟩
      refine rq_less (sx 71 (congrArg some e7.1) (sub_nil _)) (List.sublist_append_right _ _) ?_
      exact rq_v (rv_add rfl rfl rfl (by constructor <;> omega))
     ·
      intro vf pf hR
      have e6 : (vf 6) = .int .i64 (selI (srcI d (muxNodeI d x (m : Int))) ((srcI d (muxNodeI d x (m : Int))).getD i2 0)) ∧ (pf 6) = [] := hR 6 (by decide)
      have e8 : (vf 8) = .int .i64 ((i2 : Int) + 1) ∧ (pf 8) = [] := hR 8 (by decide)
      refine Or.inl ⟨rfl, ?_⟩
      refine rq_less (sx 70 (congrArg some e6.1) (sx 72 (congrArg some e8.1) (sub_nil _))) (List.sublist_append_right _ _) ?_
      exact rq_mono (rq_v (rv_cmp rfl rfl rfl rfl)) (fun _ _ h => ⟨h.1.trans (congrArg Value.bool hb28), h.2⟩)
    ·
     intro vf pf hR
     have e9 : (vf 9) = .bool false ∧ (pf 9) = [] := hR 9 (by decide)
     refine hl_less (l' := [rowE 3 1 v23 ((srcI d (muxNodeI d x (m : Int))).length) ((srcI d (muxNodeI d x (m : Int))).map (Value.int .i64)), rowE 3 1 uhR20 ((encV d zz.val).length) ((encV d zz.val).map (Value.int .i64)), boxE b17 #[zz.mv, zz.lv, .int .i64 zz.pad, .int .i64 zz.ram] 39, tcE zz, boxE b13 #[y.mv, y.lv, .int .i64 y.pad, .int .i64 y.ram] 39, tcE y, rowE 3 1 uhR9 ((encV d t.val).length) ((encV d t.val).map (Value.int .i64)), boxE b6 #[t.mv, t.lv, .int .i64 t.pad, .int .i64 t.ram] 39, boxE b5 #[.int .i64 d.W, .int .i64 d.H, .int .i64 d.T, .int .i64 d.R] 25, tcE t]) (sx 0 rfl (sx 2 rfl (sx 3 rfl (sx 4 rfl (sx 5 rfl (sx 6 rfl (sx 7 rfl (sx 8 rfl (sx 9 rfl (sx 10 rfl (sx 11 rfl (sx 13 rfl (sx 14 rfl (sx 15 rfl (sx 16 rfl (sx 18 rfl (sx 48 rfl (sx 61 rfl (sx 73 (congrArg some e9.1) (sub_nil _)))))))))))))))))))) (List.sublist_append_right _ _) ?_
     simp only [List.drop_succ_cons, List.drop_zero]
     refine hl_less (sx 0 rfl (sx 2 rfl (sx 3 rfl (sx 4 rfl (sx 5 rfl (sx 6 rfl (sx 7 rfl (sx 8 rfl (sx 9 rfl (sx 10 rfl (sx 11 rfl (sx 13 rfl (sx 14 rfl (sx 15 rfl (sx 16 rfl (sx 18 rfl (sx 48 rfl (sx 61 rfl (sx 73 rfl (sub_nil _)))))))))))))))))))) (.refl _) ?_
     refine hl_nil ?_
     refine hq_then ?_
     refine hc_false rfl ?_
     refine hc_skip ?_
     refine hq_block_normal ?_
     refine hq_then ?_
     refine hc_region ?_
     refine hl_v rfl rfl rfl (rv_ev rfl) ?_
     refine hl_v rfl rfl rfl (rv_add rfl rfl rfl (by constructor <;> omega)) ?_
     refine hl_v rfl rfl rfl (rv_ev rfl) ?_
     refine hl_less (sx 0 rfl (sx 2 rfl (sx 3 rfl (sx 4 rfl (sx 5 rfl (sx 6 rfl (sx 7 rfl (sx 8 rfl (sx 9 rfl (sx 10 rfl (sx 11 rfl (sx 13 rfl (sx 14 rfl (sx 15 rfl (sx 16 rfl (sx 18 rfl (sx 48 rfl (sx 61 rfl (sx 73 rfl (sub_nil _)))))))))))))))))))) (.refl _) ?_
     refine hl_nil ?_
     exact hq_round1 (i2 + 1) (by omega) (by omega) (sx 0 rfl (sx 2 rfl (sx 3 rfl (sx 4 rfl (sx 5 rfl (sx 6 rfl (sx 7 rfl (sx 8 rfl (sx 9 rfl (sx 10 rfl (sx 11 rfl (sx 13 rfl (sx 14 rfl (sx 15 rfl (sx 16 rfl (sx 18 rfl (sx 48 rfl (sub_nil _)))))))))))))))))) ((.cons_cons _ (.cons_cons _ (.cons_cons _ (.cons_cons _ (.cons_cons _ (.cons_cons _ (.cons_cons _ (.cons_cons _ (.cons_cons _ (.cons_cons _ .slnil)))))))))))
   ·
    refine hl_less (sx 0 rfl (sx 2 rfl (sx 3 rfl (sx 4 rfl (sx 5 rfl (sx 6 rfl (sx 7 rfl (sx 8 rfl (sx 9 rfl (sx 10 rfl (sx 11 rfl (sx 13 rfl (sx 14 rfl (sx 15 rfl (sx 16 rfl (sx 18 rfl (sx 48 rfl (sx 61 rfl (sub_nil _))))))))))))))))))) (.refl _) ?_
    refine hl_nil ?_
    refine hq_then ?_
    refine hc_false rfl ?_
    refine hc_exit ?_
    refine hq_then_exit ?_
    refine hq_then_exit ?_
    refine hq_block_exit ?_
    refine hq_block_normal ?_
    refine hq_then ?_
    refine hc_region ?_
    refine hl_v rfl rfl rfl (rv_ev rfl) ?_
    refine hl_v rfl rfl rfl (rv_add rfl rfl rfl (by constructor <;> omega)) ?_
    refine hl_v rfl rfl rfl (rv_ev rfl) ?_
    refine hl_less (sx 0 rfl (sx 2 rfl (sx 3 rfl (sx 4 rfl (sx 5 rfl (sx 6 rfl (sx 7 rfl (sx 8 rfl (sx 9 rfl (sx 10 rfl (sx 11 rfl (sx 13 rfl (sx 14 rfl (sx 15 rfl (sx 16 rfl (sx 18 rfl (sx 48 rfl (sx 61 rfl (sub_nil _))))))))))))))))))) (.refl _) ?_
    refine hl_nil ?_
    exact hq_round1 (m + 1) (by omega) (by omega) (sx 0 rfl (sx 2 rfl (sx 3 rfl (sx 4 rfl (sx 5 rfl (sx 6 rfl (sx 7 rfl (sx 8 rfl (sx 9 rfl (sx 10 rfl (sx 11 rfl (sx 13 rfl (sx 18 rfl (sub_nil _)))))))))))))) ((.cons _ (.cons_cons _ (.cons_cons _ (.cons_cons _ (.cons_cons _ (.cons_cons _ (.cons_cons _ (.cons_cons _ (.cons_cons _ (.cons_cons _ .slnil)))))))))))
  ·
   refine hl_less (sx 0 rfl (sx 2 rfl (sx 3 rfl (sx 4 rfl (sx 5 rfl (sx 6 rfl (sx 7 rfl (sx 8 rfl (sx 9 rfl (sx 10 rfl (sx 11 rfl (sx 13 rfl (sx 18 rfl (sx 48 rfl (sub_nil _))))))))))))))) (.refl _) ?_
   refine hl_nil ?_
   refine hq_then ?_
   refine hc_false rfl ?_
   refine hc_exit ?_
   refine hq_then_exit ?_
   refine hq_then_exit ?_
   refine hq_block_exit ?_
   refine hq_then ?_
   refine hc_seq ?_
   have hb29 : (((encV d t.val).length : Int) == (frW d)) = true := beq_iff_eq.2 (by omega)
   rcases Bool.eq_false_or_eq_true (decide (encV d t.val = encV d zz.val)) with hb30 | hb30
   ·
    have hb31 : (decide (encV d t.val = encV d zz.val)) = true := hb30
    refine hc_draw (by kernel_rfl) 35 [0, 1, 2, 3, 4, 5, 6, 7, 8, 9, 10, 11, 12, 13, 14, 15, 16, 17, 18, 19, 20, 21, 22, 23, 24, 25, 26, 27, 28, 29, 30, 31, 32, 33, 34] (List.take 35 _) (List.drop 35 _) [[], [0], [1], [1, 2], [3], [4], [4], [4, 5, 6], [4, 7], [8], [9], [9], [9, 10, 11], [9, 12], [13], [14], [14, 15], [14], [14, 17], [14, 16, 18], [14, 19], [20], [21], [21], [21, 22, 23], [21], [21], [21, 25, 26], [21, 24, 27], [21, 28], [29], [30], [30], [30, 31, 32], [30, 33]] [74, 75, 76, 77, 78, 79, 80, 81, 82, 83, 84, 85, 86, 87, 88, 89, 90, 91, 92, 93, 94, 95, 96, 97, 98, 99, 100, 101, 102, 103, 104, 105, 106, 107, 108] (fun i vs_ v_ p_ => match i with | 0 => v_ = .bool true ∧ p_ = [] | 1 => v_ = .bool true ∧ p_ = [] | 2 => v_ = .bool true ∧ p_ = [] | 3 => v_ = .bool true ∧ p_ = [] | 4 => v_ = .bool true ∧ p_ = [] | 5 => v_ = .agg #[.int .i64 d.W, .int .i64 d.H, .int .i64 d.T, .int .i64 d.R] ∧ p_ = [] | 6 => v_ = .agg #[t.mv, t.lv, .int .i64 t.pad, .int .i64 t.ram] ∧ p_ = [] | 7 => v_ = .bool true ∧ p_ = [] | 8 => v_ = .bool true ∧ p_ = [] | 9 => v_ = .bool true ∧ p_ = [] | 10 => v_ = .agg #[t.mv, t.lv, .int .i64 t.pad, .int .i64 t.ram] ∧ p_ = [] | 11 => v_ = .agg #[y.mv, y.lv, .int .i64 y.pad, .int .i64 y.ram] ∧ p_ = [] | 12 => v_ = .bool true ∧ p_ = [] | 13 => v_ = .bool true ∧ p_ = [] | 14 => v_ = .bool true ∧ p_ = [] | 15 => v_ = uhR9 ∧ p_ = [] | 16 => v_ = .int .i64 ((encV d t.val).length : Int) ∧ p_ = [] | 17 => v_ = .agg #[.int .i64 d.W, .int .i64 d.H, .int .i64 d.T, .int .i64 d.R] ∧ p_ = [] | 18 => v_ = .int .i64 (frW d) ∧ p_ = [] | 19 => v_ = .bool true ∧ p_ = [] | 20 => v_ = .bool true ∧ p_ = [] | 21 => v_ = .bool true ∧ p_ = [] | 22 => v_ = uhR9 ∧ p_ = [] | 23 => v_ = uhR20 ∧ p_ = [] | 24 => v_ = .bool true ∧ p_ = [] | 25 => v_ = .agg #[t.mv, t.lv, .int .i64 t.pad, .int .i64 t.ram] ∧ p_ = [] | 26 => v_ = .agg #[zz.mv, zz.lv, .int .i64 zz.pad, .int .i64 zz.ram] ∧ p_ = [] | 27 => v_ = .bool true ∧ p_ = [] | 28 => v_ = .bool true ∧ p_ = [] | 29 => v_ = .bool true ∧ p_ = [] | 30 => v_ = .bool true ∧ p_ = [] | 31 => v_ = .agg #[.int .i64 d.W, .int .i64 d.H, .int .i64 d.T, .int .i64 d.R] ∧ p_ = [] | 32 => v_ = .agg #[zz.mv, zz.lv, .int .i64 zz.pad, .int .i64 zz.ram] ∧ p_ = [] | 33 => v_ = .bool true ∧ p_ = [] | 34 => v_ = .bool true ∧ p_ = [] | _ => True) (List.take_append_drop 35 _).symm (by kernel_rfl) (by kernel_rfl) rfl rfl ?_ ?_
    ·
     refine ⟨?_, ?_, ?_, ?_, ?_, ?_, ?_, ?_, ?_, ?_, ?_, ?_, ?_, ?_, ?_, ?_, ?_, ?_, ?_, ?_, ?_, ?_, ?_, ?_, ?_, ?_, ?_, ?_, ?_, ?_, ?_, ?_, ?_, ?_, ?_, trivial⟩
     ·
      intro vf pf hR
      refine Or.inl ⟨rfl, ?_⟩
      refine rq_less (sx 7 rfl (sub_nil _)) (List.sublist_append_right _ _) ?_
      exact rq_v (rv_ev rfl)
     ·
      intro vf pf hR
      have e0 : (vf 0) = .bool true ∧ (pf 0) = [] := hR 0 (by decide)
      refine Or.inl ⟨rfl, ?_⟩
      refine rq_less (sx 74 (congrArg some e0.1) (sub_nil _)) (List.sublist_append_right _ _) ?_
      exact rq_v (rv_ev rfl)
     ·
      intro vf pf hR
      have e1 : (vf 1) = .bool true ∧ (pf 1) = [] := hR 1 (by decide)
      refine Or.inl ⟨want_of (congrArg some e1.1) rfl, ?_⟩
      refine rq_less (sx 9 rfl (sub_nil _)) (List.sublist_append_right _ _) ?_
      exact rq_v (rv_ev rfl)
     ·
      intro vf pf hR
      have e1 : (vf 1) = .bool true ∧ (pf 1) = [] := hR 1 (by decide)
      have e2 : (vf 2) = .bool true ∧ (pf 2) = [] := hR 2 (by decide)
      refine Or.inl ⟨rfl, ?_⟩
      refine rq_less (sx 75 (congrArg some e1.1) (sx 76 (congrArg some e2.1) (sub_nil _))) (List.sublist_append_right _ _) ?_
      exact rq_v (rv_ev rfl)
     ·
      intro vf pf hR
      have e3 : (vf 3) = .bool true ∧ (pf 3) = [] := hR 3 (by decide)
      refine Or.inl ⟨rfl, ?_⟩
      refine rq_less (sx 77 (congrArg some e3.1) (sub_nil _)) (List.sublist_append_right _ _) ?_
      exact rq_v (rv_ev rfl)
     ·
      intro vf pf hR
      have e4 : (vf 4) = .bool true ∧ (pf 4) = [] := hR 4 (by decide)
      refine Or.inl ⟨want_of (congrArg some e4.1) rfl, ?_⟩
      refine rq_less (sx 3 rfl (sub_nil _)) (List.sublist_append_right _ _) ?_
      exact rq_v (rv_loadN (cs := [.int .i64 d.W, .int .i64 d.H, .int .i64 d.T, .int .i64 d.R]) rfl (by kernel_rfl) (by kernel_rfl) rfl rfl (box_part 7 rfl 0 rfl))
     ·
      intro vf pf hR
      have e4 : (vf 4) = .bool true ∧ (pf 4) = [] := hR 4 (by decide)
      refine Or.inl ⟨want_of (congrArg some e4.1) rfl, ?_⟩
      refine rq_less (sx 5 rfl (sub_nil _)) (List.sublist_append_right _ _) ?_
      exact rq_v (rv_loadN (cs := [t.mv, t.lv, .int .i64 t.pad, .int .i64 t.ram]) rfl (by kernel_rfl) (by kernel_rfl) rfl rfl (box_part 6 rfl 0 rfl))
     ·
      intro vf pf hR
      have e4 : (vf 4) = .bool true ∧ (pf 4) = [] := hR 4 (by decide)
      have e5 : (vf 5) = .agg #[.int .i64 d.W, .int .i64 d.H, .int .i64 d.T, .int .i64 d.R] ∧ (pf 5) = [] := hR 5 (by decide)
      have e6 : (vf 6) = .agg #[t.mv, t.lv, .int .i64 t.pad, .int .i64 t.ram] ∧ (pf 6) = [] := hR 6 (by decide)
      refine Or.inl ⟨want_of (congrArg some e4.1) rfl, ?_⟩
      refine rq_less (sx 79 (congrArg some e5.1) (sx 80 (congrArg some e6.1) (sub_nil _))) (List.sublist_append_right _ _) ?_
      exact (rq_call (by kernel_rfl) rfl (fun w hm => ret_ans (by have h9 := implTileConfigOk_ans d t w (tc_rds 8 rfl n1t n2t n3t w hm); rw [okt] at h9; exact h9)))
     ·
      intro vf pf hR
      have e4 : (vf 4) = .bool true ∧ (pf 4) = [] := hR 4 (by decide)
      have e7 : (vf 7) = .bool true ∧ (pf 7) = [] := hR 7 (by decide)
      refine Or.inl ⟨rfl, ?_⟩
      refine rq_less (sx 78 (congrArg some e4.1) (sx 81 (congrArg some e7.1) (sub_nil _))) (List.sublist_append_right _ _) ?_
      exact rq_v (rv_ev rfl)
     ·
      intro vf pf hR
      have e8 : (vf 8) = .bool true ∧ (pf 8) = [] := hR 8 (by decide)
      refine Or.inl ⟨rfl, ?_⟩
      refine rq_less (sx 82 (congrArg some e8.1) (sub_nil _)) (List.sublist_append_right _ _) ?_
      exact rq_v (rv_ev rfl)
     ·
      intro vf pf hR
      have e9 : (vf 9) = .bool true ∧ (pf 9) = [] := hR 9 (by decide)
      refine Or.inl ⟨want_of (congrArg some e9.1) rfl, ?_⟩
      refine rq_less (sx 5 rfl (sub_nil _)) (List.sublist_append_right _ _) ?_
      exact rq_v (rv_loadN (cs := [t.mv, t.lv, .int .i64 t.pad, .int .i64 t.ram]) rfl (by kernel_rfl) (by kernel_rfl) rfl rfl (box_part 6 rfl 0 rfl))
     ·
      intro vf pf hR
      have e9 : (vf 9) = .bool true ∧ (pf 9) = [] := hR 9 (by decide)
      refine Or.inl ⟨want_of (congrArg some e9.1) rfl, ?_⟩
      refine rq_less (sx 8 rfl (sub_nil _)) (List.sublist_append_right _ _) ?_
      exact rq_v (rv_loadN (cs := [y.mv, y.lv, .int .i64 y.pad, .int .i64 y.ram]) rfl (by kernel_rfl) (by kernel_rfl) rfl rfl (box_part 3 rfl 0 rfl))
     ·
      intro vf pf hR
      have e9 : (vf 9) = .bool true ∧ (pf 9) = [] := hR 9 (by decide)
      have e10 : (vf 10) = .agg #[t.mv, t.lv, .int .i64 t.pad, .int .i64 t.ram] ∧ (pf 10) = [] := hR 10 (by decide)
      have e11 : (vf 11) = .agg #[y.mv, y.lv, .int .i64 y.pad, .int .i64 y.ram] ∧ (pf 11) = [] := hR 11 (by decide)
      refine Or.inl ⟨want_of (congrArg some e9.1) rfl, ?_⟩
      refine rq_less (sx 84 (congrArg some e10.1) (sx 85 (congrArg some e11.1) (sub_nil _))) (List.sublist_append_right _ _) ?_
      exact (rq_call (by kernel_rfl) rfl (fun w hm => ret_ans (by have h9 := (sameTile_ans t y w (tc_rds 8 rfl n1t n2t n3t w hm) (tc_rds 4 rfl n1y n2y n3y w hm)); rw [decide_eq_true valy.symm] at h9; exact h9)))
     ·
      intro vf pf hR
      have e9 : (vf 9) = .bool true ∧ (pf 9) = [] := hR 9 (by decide)
      have e12 : (vf 12) = .bool true ∧ (pf 12) = [] := hR 12 (by decide)
      refine Or.inl ⟨rfl, ?_⟩
      refine rq_less (sx 83 (congrArg some e9.1) (sx 86 (congrArg some e12.1) (sub_nil _))) (List.sublist_append_right _ _) ?_
      exact rq_v (rv_ev rfl)
     ·
      intro vf pf hR
      have e13 : (vf 13) = .bool true ∧ (pf 13) = [] := hR 13 (by decide)
      refine Or.inl ⟨rfl, ?_⟩
      refine rq_less (sx 87 (congrArg some e13.1) (sub_nil _)) (List.sublist_append_right _ _) ?_
      exact rq_v (rv_ev rfl)
     ·
      intro vf pf hR
      have e14 : (vf 14) = .bool true ∧ (pf 14) = [] := hR 14 (by decide)
      refine Or.inl ⟨want_of (congrArg some e14.1) rfl, ?_⟩
      refine rq_less (sx 6 rfl (sub_nil _)) (List.sublist_append_right _ _) ?_
      exact rq_v (rv_ev rfl)
     ·
      intro vf pf hR
      have e14 : (vf 14) = .bool true ∧ (pf 14) = [] := hR 14 (by decide)
      have e15 : (vf 15) = uhR9 ∧ (pf 15) = [] := hR 15 (by decide)
      refine Or.inl ⟨want_of (congrArg some e14.1) rfl, ?_⟩
      refine rq_less (sx 89 (congrArg some e15.1) (sub_nil _)) (List.sublist_append_right _ _) ?_
      exact rq_v (rv_len rfl Try.underlying30 rfl (rd_row 5 rfl))
     ·
      intro vf pf hR
      have e14 : (vf 14) = .bool true ∧ (pf 14) = [] := hR 14 (by decide)
      refine Or.inl ⟨want_of (congrArg some e14.1) rfl, ?_⟩
      refine rq_less (sx 3 rfl (sub_nil _)) (List.sublist_append_right _ _) ?_
      exact rq_v (rv_loadN (cs := [.int .i64 d.W, .int .i64 d.H, .int .i64 d.T, .int .i64 d.R]) rfl (by kernel_rfl) (by kernel_rfl) rfl rfl (box_part 7 rfl 0 rfl))
     ·
      intro vf pf hR
      have e14 : (vf 14) = .bool true ∧ (pf 14) = [] := hR 14 (by decide)
      have e17 : (vf 17) = .agg #[.int .i64 d.W, .int .i64 d.H, .int .i64 d.T, .int .i64 d.R] ∧ (pf 17) = [] := hR 17 (by decide)
      refine Or.inl ⟨want_of (congrArg some e14.1) rfl, ?_⟩
      refine rq_less (sx 91 (congrArg some e17.1) (sub_nil _)) (List.sublist_append_right _ _) ?_
      exact (rq_call (by kernel_rfl) rfl (fun w hm => ret_ans (implFrameWords_yes d hd w)))
     ·
      intro vf pf hR
      have e14 : (vf 14) = .bool true ∧ (pf 14) = [] := hR 14 (by decide)
      have e16 : (vf 16) = .int .i64 ((encV d t.val).length : Int) ∧ (pf 16) = [] := hR 16 (by decide)
      have e18 : (vf 18) = .int .i64 (frW d) ∧ (pf 18) = [] := hR 18 (by decide)
      refine Or.inl ⟨want_of (congrArg some e14.1) rfl, ?_⟩
      refine rq_less (sx 90 (congrArg some e16.1) (sx 92 (congrArg some e18.1) (sub_nil _))) (List.sublist_append_right _ _) ?_
      exact rq_mono (rq_v (rv_cmp rfl rfl rfl rfl)) (fun _ _ h => ⟨h.1.trans (congrArg Value.bool hb29), h.2⟩)
     ·
      intro vf pf hR
      have e14 : (vf 14) = .bool true ∧ (pf 14) = [] := hR 14 (by decide)
      have e19 : (vf 19) = .bool true ∧ (pf 19) = [] := hR 19 (by decide)
      refine Or.inl ⟨rfl, ?_⟩
      refine rq_less (sx 88 (congrArg some e14.1) (sx 93 (congrArg some e19.1) (sub_nil _))) (List.sublist_append_right _ _) ?_
      exact rq_v (rv_ev rfl)
     ·
      intro vf pf hR
      have e20 : (vf 20) = .bool true ∧ (pf 20) = [] := hR 20 (by decide)
      refine Or.inl ⟨rfl, ?_⟩
      refine rq_less (sx 94 (congrArg some e20.1) (sub_nil _)) (List.sublist_append_right _ _) ?_
      exact rq_v (rv_ev rfl)
     ·
      intro vf pf hR
      have e21 : (vf 21) = .bool true ∧ (pf 21) = [] := hR 21 (by decide)
      refine Or.inl ⟨want_of (congrArg some e21.1) rfl, ?_⟩
      refine rq_less (sx 6 rfl (sub_nil _)) (List.sublist_append_right _ _) ?_
      exact rq_v (rv_ev rfl)
     ·
      intro vf pf hR
      have e21 : (vf 21) = .bool true ∧ (pf 21) = [] := hR 21 (by decide)
      refine Or.inl ⟨want_of (congrArg some e21.1) rfl, ?_⟩
      refine rq_less (sx 11 rfl (sub_nil _)) (List.sublist_append_right _ _) ?_
      exact rq_v (rv_ev rfl)
     ·
      intro vf pf hR
      have e21 : (vf 21) = .bool true ∧ (pf 21) = [] := hR 21 (by decide)
      have e22 : (vf 22) = uhR9 ∧ (pf 22) = [] := hR 22 (by decide)
      have e23 : (vf 23) = uhR20 ∧ (pf 23) = [] := hR 23 (by decide)
      refine Or.inl ⟨want_of (congrArg some e21.1) rfl, ?_⟩
      refine rq_less (sx 96 (congrArg some e22.1) (sx 97 (congrArg some e23.1) (sub_nil _))) (List.sublist_append_right _ _) ?_
      exact rq_mono (rq_call (by kernel_rfl) rfl (fun w hm => ret_ans (sameInts_ans (encV d t.val) (encV d zz.val) _ _ w ((rd_row 5 rfl) w hm) ((rd_row 0 rfl) w hm) (by omega)))) (fun _ _ h => ⟨h.1.trans (congrArg Value.bool hb30), h.2⟩)
     ·
      intro vf pf hR
      have e21 : (vf 21) = .bool true ∧ (pf 21) = [] := hR 21 (by decide)
      refine Or.inl ⟨want_of (congrArg some e21.1) rfl, ?_⟩
      refine rq_less (sx 5 rfl (sub_nil _)) (List.sublist_append_right _ _) ?_
      exact rq_v (rv_loadN (cs := [t.mv, t.lv, .int .i64 t.pad, .int .i64 t.ram]) rfl (by kernel_rfl) (by kernel_rfl) rfl rfl (box_part 6 rfl 0 rfl))
     ·
      intro vf pf hR
      have e21 : (vf 21) = .bool true ∧ (pf 21) = [] := hR 21 (by decide)
      refine Or.inl ⟨want_of (congrArg some e21.1) rfl, ?_⟩
      refine rq_less (sx 10 rfl (sub_nil _)) (List.sublist_append_right _ _) ?_
      exact rq_v (rv_loadN (cs := [zz.mv, zz.lv, .int .i64 zz.pad, .int .i64 zz.ram]) rfl (by kernel_rfl) (by kernel_rfl) rfl rfl (box_part 1 rfl 0 rfl))
     ·
      intro vf pf hR
      have e21 : (vf 21) = .bool true ∧ (pf 21) = [] := hR 21 (by decide)
      have e25 : (vf 25) = .agg #[t.mv, t.lv, .int .i64 t.pad, .int .i64 t.ram] ∧ (pf 25) = [] := hR 25 (by decide)
      have e26 : (vf 26) = .agg #[zz.mv, zz.lv, .int .i64 zz.pad, .int .i64 zz.ram] ∧ (pf 26) = [] := hR 26 (by decide)
      refine Or.inl ⟨want_of (congrArg some e21.1) rfl, ?_⟩
      refine rq_less (sx 99 (congrArg some e25.1) (sx 100 (congrArg some e26.1) (sub_nil _))) (List.sublist_append_right _ _) ?_
      exact rq_mono (rq_call (by kernel_rfl) rfl (fun w hm => ret_ans (sameTile_enc okt okz (sameTile_ans t zz w (tc_rds 8 rfl n1t n2t n3t w hm) (tc_rds 2 rfl n1zz n2zz n3zz w hm))))) (fun _ _ h => ⟨h.1.trans (congrArg Value.bool hb31), h.2⟩)
     ·
      intro vf pf hR
      have e21 : (vf 21) = .bool true ∧ (pf 21) = [] := hR 21 (by decide)
      have e24 : (vf 24) = .bool true ∧ (pf 24) = [] := hR 24 (by decide)
      have e27 : (vf 27) = .bool true ∧ (pf 27) = [] := hR 27 (by decide)
      refine Or.inl ⟨want_of (congrArg some e21.1) rfl, ?_⟩
      refine rq_less (sx 98 (congrArg some e24.1) (sx 101 (congrArg some e27.1) (sub_nil _))) (List.sublist_append_right _ _) ?_
      exact rq_v (rv_beql (m := true) (n := true) rfl Try.underlying4 rfl rfl)
     ·
      intro vf pf hR
      have e21 : (vf 21) = .bool true ∧ (pf 21) = [] := hR 21 (by decide)
      have e28 : (vf 28) = .bool true ∧ (pf 28) = [] := hR 28 (by decide)
      refine Or.inl ⟨rfl, ?_⟩
      refine rq_less (sx 95 (congrArg some e21.1) (sx 102 (congrArg some e28.1) (sub_nil _))) (List.sublist_append_right _ _) ?_
      exact rq_v (rv_ev rfl)
     ·
      intro vf pf hR
      have e29 : (vf 29) = .bool true ∧ (pf 29) = [] := hR 29 (by decide)
      refine Or.inl ⟨rfl, ?_⟩
      refine rq_less (sx 103 (congrArg some e29.1) (sub_nil _)) (List.sublist_append_right _ _) ?_
      exact rq_v (rv_ev rfl)
     ·
      intro vf pf hR
      have e30 : (vf 30) = .bool true ∧ (pf 30) = [] := hR 30 (by decide)
      refine Or.inl ⟨want_of (congrArg some e30.1) rfl, ?_⟩
      refine rq_less (sx 3 rfl (sub_nil _)) (List.sublist_append_right _ _) ?_
      exact rq_v (rv_loadN (cs := [.int .i64 d.W, .int .i64 d.H, .int .i64 d.T, .int .i64 d.R]) rfl (by kernel_rfl) (by kernel_rfl) rfl rfl (box_part 7 rfl 0 rfl))
     ·
      intro vf pf hR
      have e30 : (vf 30) = .bool true ∧ (pf 30) = [] := hR 30 (by decide)
      refine Or.inl ⟨want_of (congrArg some e30.1) rfl, ?_⟩
      refine rq_less (sx 10 rfl (sub_nil _)) (List.sublist_append_right _ _) ?_
      exact rq_v (rv_loadN (cs := [zz.mv, zz.lv, .int .i64 zz.pad, .int .i64 zz.ram]) rfl (by kernel_rfl) (by kernel_rfl) rfl rfl (box_part 1 rfl 0 rfl))
     ·
      intro vf pf hR
      have e30 : (vf 30) = .bool true ∧ (pf 30) = [] := hR 30 (by decide)
      have e31 : (vf 31) = .agg #[.int .i64 d.W, .int .i64 d.H, .int .i64 d.T, .int .i64 d.R] ∧ (pf 31) = [] := hR 31 (by decide)
      have e32 : (vf 32) = .agg #[zz.mv, zz.lv, .int .i64 zz.pad, .int .i64 zz.ram] ∧ (pf 32) = [] := hR 32 (by decide)
      refine Or.inl ⟨want_of (congrArg some e30.1) rfl, ?_⟩
      refine rq_less (sx 105 (congrArg some e31.1) (sx 106 (congrArg some e32.1) (sub_nil _))) (List.sublist_append_right _ _) ?_
      exact (rq_call (by kernel_rfl) rfl (fun w hm => ret_ans (by have h9 := implTileConfigOk_ans d zz w (tc_rds 2 rfl n1zz n2zz n3zz w hm); rw [okz] at h9; exact h9)))
     ·
      intro vf pf hR
      have e30 : (vf 30) = .bool true ∧ (pf 30) = [] := hR 30 (by decide)
      have e33 : (vf 33) = .bool true ∧ (pf 33) = [] := hR 33 (by decide)
      refine Or.inl ⟨rfl, ?_⟩
      refine rq_less (sx 104 (congrArg some e30.1) (sx 107 (congrArg some e33.1) (sub_nil _))) (List.sublist_append_right _ _) ?_
      exact rq_v (rv_ev rfl)
    ·
     intro vf pf hR
     have e34 : (vf 34) = .bool true ∧ (pf 34) = [] := hR 34 (by decide)
     refine hl_less (l' := [rowE 3 1 uhR20 ((encV d zz.val).length) ((encV d zz.val).map (Value.int .i64)), boxE b17 #[zz.mv, zz.lv, .int .i64 zz.pad, .int .i64 zz.ram] 39, tcE zz, boxE b13 #[y.mv, y.lv, .int .i64 y.pad, .int .i64 y.ram] 39, tcE y, rowE 3 1 uhR9 ((encV d t.val).length) ((encV d t.val).map (Value.int .i64)), boxE b6 #[t.mv, t.lv, .int .i64 t.pad, .int .i64 t.ram] 39, boxE b5 #[.int .i64 d.W, .int .i64 d.H, .int .i64 d.T, .int .i64 d.R] 25, tcE t]) (sx 0 rfl (sx 2 rfl (sx 3 rfl (sx 4 rfl (sx 5 rfl (sx 6 rfl (sx 7 rfl (sx 8 rfl (sx 9 rfl (sx 10 rfl (sx 11 rfl (sx 13 rfl (sx 18 rfl (sx 48 rfl (sx 108 (congrArg some e34.1) (sub_nil _)))))))))))))))) (List.sublist_append_right _ _) ?_
     simp only [List.drop_succ_cons, List.drop_zero]
     refine hl_v rfl rfl rfl (rv_ev rfl) ?_
     refine hl_less (sx 0 rfl (sx 2 rfl (sx 3 rfl (sx 4 rfl (sx 5 rfl (sx 6 rfl (sx 7 rfl (sx 8 rfl (sx 9 rfl (sx 10 rfl (sx 11 rfl (sx 13 rfl (sx 18 rfl (sx 48 rfl (sub_nil _))))))))))))))) (.refl _) ?_
     refine hl_nil ?_
     refine hq_then ?_
     refine hc_ret ?_
     exact hq_ans rfl rfl rfl
   ·
    have hb32 : (decide (encV d t.val = encV d zz.val)) = false := hb30
    refine hc_draw (by kernel_rfl) 35 [0, 1, 2, 3, 4, 5, 6, 7, 8, 9, 10, 11, 12, 13, 14, 15, 16, 17, 18, 19, 20, 21, 22, 23, 24, 25, 26, 27, 28, 29, 30, 31, 32, 33, 34] (List.take 35 _) (List.drop 35 _) [[], [0], [1], [1, 2], [3], [4], [4], [4, 5, 6], [4, 7], [8], [9], [9], [9, 10, 11], [9, 12], [13], [14], [14, 15], [14], [14, 17], [14, 16, 18], [14, 19], [20], [21], [21], [21, 22, 23], [21], [21], [21, 25, 26], [21, 24, 27], [21, 28], [29], [30], [30], [30, 31, 32], [30, 33]] [74, 75, 76, 77, 78, 79, 80, 81, 82, 83, 84, 85, 86, 87, 88, 89, 90, 91, 92, 93, 94, 95, 96, 97, 98, 99, 100, 101, 102, 103, 104, 105, 106, 107, 108] (fun i vs_ v_ p_ => match i with | 0 => v_ = .bool true ∧ p_ = [] | 1 => v_ = .bool true ∧ p_ = [] | 2 => v_ = .bool true ∧ p_ = [] | 3 => v_ = .bool true ∧ p_ = [] | 4 => v_ = .bool true ∧ p_ = [] | 5 => v_ = .agg #[.int .i64 d.W, .int .i64 d.H, .int .i64 d.T, .int .i64 d.R] ∧ p_ = [] | 6 => v_ = .agg #[t.mv, t.lv, .int .i64 t.pad, .int .i64 t.ram] ∧ p_ = [] | 7 => v_ = .bool true ∧ p_ = [] | 8 => v_ = .bool true ∧ p_ = [] | 9 => v_ = .bool true ∧ p_ = [] | 10 => v_ = .agg #[t.mv, t.lv, .int .i64 t.pad, .int .i64 t.ram] ∧ p_ = [] | 11 => v_ = .agg #[y.mv, y.lv, .int .i64 y.pad, .int .i64 y.ram] ∧ p_ = [] | 12 => v_ = .bool true ∧ p_ = [] | 13 => v_ = .bool true ∧ p_ = [] | 14 => v_ = .bool true ∧ p_ = [] | 15 => v_ = uhR9 ∧ p_ = [] | 16 => v_ = .int .i64 ((encV d t.val).length : Int) ∧ p_ = [] | 17 => v_ = .agg #[.int .i64 d.W, .int .i64 d.H, .int .i64 d.T, .int .i64 d.R] ∧ p_ = [] | 18 => v_ = .int .i64 (frW d) ∧ p_ = [] | 19 => v_ = .bool true ∧ p_ = [] | 20 => v_ = .bool true ∧ p_ = [] | 21 => v_ = .bool true ∧ p_ = [] | 22 => v_ = uhR9 ∧ p_ = [] | 23 => v_ = uhR20 ∧ p_ = [] | 24 => v_ = .bool false ∧ p_ = [] | 25 => v_ = .agg #[t.mv, t.lv, .int .i64 t.pad, .int .i64 t.ram] ∧ p_ = [] | 26 => v_ = .agg #[zz.mv, zz.lv, .int .i64 zz.pad, .int .i64 zz.ram] ∧ p_ = [] | 27 => v_ = .bool false ∧ p_ = [] | 28 => v_ = .bool true ∧ p_ = [] | 29 => v_ = .bool true ∧ p_ = [] | 30 => v_ = .bool true ∧ p_ = [] | 31 => v_ = .agg #[.int .i64 d.W, .int .i64 d.H, .int .i64 d.T, .int .i64 d.R] ∧ p_ = [] | 32 => v_ = .agg #[zz.mv, zz.lv, .int .i64 zz.pad, .int .i64 zz.ram] ∧ p_ = [] | 33 => v_ = .bool true ∧ p_ = [] | 34 => v_ = .bool true ∧ p_ = [] | _ => True) (List.take_append_drop 35 _).symm (by kernel_rfl) (by kernel_rfl) rfl rfl ?_ ?_
    ·
     refine ⟨?_, ?_, ?_, ?_, ?_, ?_, ?_, ?_, ?_, ?_, ?_, ?_, ?_, ?_, ?_, ?_, ?_, ?_, ?_, ?_, ?_, ?_, ?_, ?_, ?_, ?_, ?_, ?_, ?_, ?_, ?_, ?_, ?_, ?_, ?_, trivial⟩
     ·
      intro vf pf hR
      refine Or.inl ⟨rfl, ?_⟩
      refine rq_less (sx 7 rfl (sub_nil _)) (List.sublist_append_right _ _) ?_
      exact rq_v (rv_ev rfl)
     ·
      intro vf pf hR
      have e0 : (vf 0) = .bool true ∧ (pf 0) = [] := hR 0 (by decide)
      refine Or.inl ⟨rfl, ?_⟩
      refine rq_less (sx 74 (congrArg some e0.1) (sub_nil _)) (List.sublist_append_right _ _) ?_
      exact rq_v (rv_ev rfl)
     ·
      intro vf pf hR
      have e1 : (vf 1) = .bool true ∧ (pf 1) = [] := hR 1 (by decide)
      refine Or.inl ⟨want_of (congrArg some e1.1) rfl, ?_⟩
      refine rq_less (sx 9 rfl (sub_nil _)) (List.sublist_append_right _ _) ?_
      exact rq_v (rv_ev rfl)
     ·
      intro vf pf hR
      have e1 : (vf 1) = .bool true ∧ (pf 1) = [] := hR 1 (by decide)
      have e2 : (vf 2) = .bool true ∧ (pf 2) = [] := hR 2 (by decide)
      refine Or.inl ⟨rfl, ?_⟩
      refine rq_less (sx 75 (congrArg some e1.1) (sx 76 (congrArg some e2.1) (sub_nil _))) (List.sublist_append_right _ _) ?_
      exact rq_v (rv_ev rfl)
     ·
      intro vf pf hR
      have e3 : (vf 3) = .bool true ∧ (pf 3) = [] := hR 3 (by decide)
      refine Or.inl ⟨rfl, ?_⟩
      refine rq_less (sx 77 (congrArg some e3.1) (sub_nil _)) (List.sublist_append_right _ _) ?_
      exact rq_v (rv_ev rfl)
     ·
      intro vf pf hR
      have e4 : (vf 4) = .bool true ∧ (pf 4) = [] := hR 4 (by decide)
      refine Or.inl ⟨want_of (congrArg some e4.1) rfl, ?_⟩
      refine rq_less (sx 3 rfl (sub_nil _)) (List.sublist_append_right _ _) ?_
      exact rq_v (rv_loadN (cs := [.int .i64 d.W, .int .i64 d.H, .int .i64 d.T, .int .i64 d.R]) rfl (by kernel_rfl) (by kernel_rfl) rfl rfl (box_part 7 rfl 0 rfl))
     ·
      intro vf pf hR
      have e4 : (vf 4) = .bool true ∧ (pf 4) = [] := hR 4 (by decide)
      refine Or.inl ⟨want_of (congrArg some e4.1) rfl, ?_⟩
      refine rq_less (sx 5 rfl (sub_nil _)) (List.sublist_append_right _ _) ?_
      exact rq_v (rv_loadN (cs := [t.mv, t.lv, .int .i64 t.pad, .int .i64 t.ram]) rfl (by kernel_rfl) (by kernel_rfl) rfl rfl (box_part 6 rfl 0 rfl))
     ·
      intro vf pf hR
      have e4 : (vf 4) = .bool true ∧ (pf 4) = [] := hR 4 (by decide)
      have e5 : (vf 5) = .agg #[.int .i64 d.W, .int .i64 d.H, .int .i64 d.T, .int .i64 d.R] ∧ (pf 5) = [] := hR 5 (by decide)
      have e6 : (vf 6) = .agg #[t.mv, t.lv, .int .i64 t.pad, .int .i64 t.ram] ∧ (pf 6) = [] := hR 6 (by decide)
      refine Or.inl ⟨want_of (congrArg some e4.1) rfl, ?_⟩
      refine rq_less (sx 79 (congrArg some e5.1) (sx 80 (congrArg some e6.1) (sub_nil _))) (List.sublist_append_right _ _) ?_
      exact (rq_call (by kernel_rfl) rfl (fun w hm => ret_ans (by have h9 := implTileConfigOk_ans d t w (tc_rds 8 rfl n1t n2t n3t w hm); rw [okt] at h9; exact h9)))
     ·
      intro vf pf hR
      have e4 : (vf 4) = .bool true ∧ (pf 4) = [] := hR 4 (by decide)
      have e7 : (vf 7) = .bool true ∧ (pf 7) = [] := hR 7 (by decide)
      refine Or.inl ⟨rfl, ?_⟩
      refine rq_less (sx 78 (congrArg some e4.1) (sx 81 (congrArg some e7.1) (sub_nil _))) (List.sublist_append_right _ _) ?_
      exact rq_v (rv_ev rfl)
     ·
      intro vf pf hR
      have e8 : (vf 8) = .bool true ∧ (pf 8) = [] := hR 8 (by decide)
      refine Or.inl ⟨rfl, ?_⟩
      refine rq_less (sx 82 (congrArg some e8.1) (sub_nil _)) (List.sublist_append_right _ _) ?_
      exact rq_v (rv_ev rfl)
     ·
      intro vf pf hR
      have e9 : (vf 9) = .bool true ∧ (pf 9) = [] := hR 9 (by decide)
      refine Or.inl ⟨want_of (congrArg some e9.1) rfl, ?_⟩
      refine rq_less (sx 5 rfl (sub_nil _)) (List.sublist_append_right _ _) ?_
      exact rq_v (rv_loadN (cs := [t.mv, t.lv, .int .i64 t.pad, .int .i64 t.ram]) rfl (by kernel_rfl) (by kernel_rfl) rfl rfl (box_part 6 rfl 0 rfl))
     ·
      intro vf pf hR
      have e9 : (vf 9) = .bool true ∧ (pf 9) = [] := hR 9 (by decide)
      refine Or.inl ⟨want_of (congrArg some e9.1) rfl, ?_⟩
      refine rq_less (sx 8 rfl (sub_nil _)) (List.sublist_append_right _ _) ?_
      exact rq_v (rv_loadN (cs := [y.mv, y.lv, .int .i64 y.pad, .int .i64 y.ram]) rfl (by kernel_rfl) (by kernel_rfl) rfl rfl (box_part 3 rfl 0 rfl))
     ·
      intro vf pf hR
      have e9 : (vf 9) = .bool true ∧ (pf 9) = [] := hR 9 (by decide)
      have e10 : (vf 10) = .agg #[t.mv, t.lv, .int .i64 t.pad, .int .i64 t.ram] ∧ (pf 10) = [] := hR 10 (by decide)
      have e11 : (vf 11) = .agg #[y.mv, y.lv, .int .i64 y.pad, .int .i64 y.ram] ∧ (pf 11) = [] := hR 11 (by decide)
      refine Or.inl ⟨want_of (congrArg some e9.1) rfl, ?_⟩
      refine rq_less (sx 84 (congrArg some e10.1) (sx 85 (congrArg some e11.1) (sub_nil _))) (List.sublist_append_right _ _) ?_
      exact (rq_call (by kernel_rfl) rfl (fun w hm => ret_ans (by have h9 := (sameTile_ans t y w (tc_rds 8 rfl n1t n2t n3t w hm) (tc_rds 4 rfl n1y n2y n3y w hm)); rw [decide_eq_true valy.symm] at h9; exact h9)))
     ·
      intro vf pf hR
      have e9 : (vf 9) = .bool true ∧ (pf 9) = [] := hR 9 (by decide)
      have e12 : (vf 12) = .bool true ∧ (pf 12) = [] := hR 12 (by decide)
      refine Or.inl ⟨rfl, ?_⟩
      refine rq_less (sx 83 (congrArg some e9.1) (sx 86 (congrArg some e12.1) (sub_nil _))) (List.sublist_append_right _ _) ?_
      exact rq_v (rv_ev rfl)
     ·
      intro vf pf hR
      have e13 : (vf 13) = .bool true ∧ (pf 13) = [] := hR 13 (by decide)
      refine Or.inl ⟨rfl, ?_⟩
      refine rq_less (sx 87 (congrArg some e13.1) (sub_nil _)) (List.sublist_append_right _ _) ?_
      exact rq_v (rv_ev rfl)
     ·
      intro vf pf hR
      have e14 : (vf 14) = .bool true ∧ (pf 14) = [] := hR 14 (by decide)
      refine Or.inl ⟨want_of (congrArg some e14.1) rfl, ?_⟩
      refine rq_less (sx 6 rfl (sub_nil _)) (List.sublist_append_right _ _) ?_
      exact rq_v (rv_ev rfl)
     ·
      intro vf pf hR
      have e14 : (vf 14) = .bool true ∧ (pf 14) = [] := hR 14 (by decide)
      have e15 : (vf 15) = uhR9 ∧ (pf 15) = [] := hR 15 (by decide)
      refine Or.inl ⟨want_of (congrArg some e14.1) rfl, ?_⟩
      refine rq_less (sx 89 (congrArg some e15.1) (sub_nil _)) (List.sublist_append_right _ _) ?_
      exact rq_v (rv_len rfl Try.underlying30 rfl (rd_row 5 rfl))
     ·
      intro vf pf hR
      have e14 : (vf 14) = .bool true ∧ (pf 14) = [] := hR 14 (by decide)
      refine Or.inl ⟨want_of (congrArg some e14.1) rfl, ?_⟩
      refine rq_less (sx 3 rfl (sub_nil _)) (List.sublist_append_right _ _) ?_
      exact rq_v (rv_loadN (cs := [.int .i64 d.W, .int .i64 d.H, .int .i64 d.T, .int .i64 d.R]) rfl (by kernel_rfl) (by kernel_rfl) rfl rfl (box_part 7 rfl 0 rfl))
     ·
      intro vf pf hR
      have e14 : (vf 14) = .bool true ∧ (pf 14) = [] := hR 14 (by decide)
      have e17 : (vf 17) = .agg #[.int .i64 d.W, .int .i64 d.H, .int .i64 d.T, .int .i64 d.R] ∧ (pf 17) = [] := hR 17 (by decide)
      refine Or.inl ⟨want_of (congrArg some e14.1) rfl, ?_⟩
      refine rq_less (sx 91 (congrArg some e17.1) (sub_nil _)) (List.sublist_append_right _ _) ?_
      exact (rq_call (by kernel_rfl) rfl (fun w hm => ret_ans (implFrameWords_yes d hd w)))
     ·
      intro vf pf hR
      have e14 : (vf 14) = .bool true ∧ (pf 14) = [] := hR 14 (by decide)
      have e16 : (vf 16) = .int .i64 ((encV d t.val).length : Int) ∧ (pf 16) = [] := hR 16 (by decide)
      have e18 : (vf 18) = .int .i64 (frW d) ∧ (pf 18) = [] := hR 18 (by decide)
      refine Or.inl ⟨want_of (congrArg some e14.1) rfl, ?_⟩
      refine rq_less (sx 90 (congrArg some e16.1) (sx 92 (congrArg some e18.1) (sub_nil _))) (List.sublist_append_right _ _) ?_
      exact rq_mono (rq_v (rv_cmp rfl rfl rfl rfl)) (fun _ _ h => ⟨h.1.trans (congrArg Value.bool hb29), h.2⟩)
     ·
      intro vf pf hR
      have e14 : (vf 14) = .bool true ∧ (pf 14) = [] := hR 14 (by decide)
      have e19 : (vf 19) = .bool true ∧ (pf 19) = [] := hR 19 (by decide)
      refine Or.inl ⟨rfl, ?_⟩
      refine rq_less (sx 88 (congrArg some e14.1) (sx 93 (congrArg some e19.1) (sub_nil _))) (List.sublist_append_right _ _) ?_
      exact rq_v (rv_ev rfl)
     ·
      intro vf pf hR
      have e20 : (vf 20) = .bool true ∧ (pf 20) = [] := hR 20 (by decide)
      refine Or.inl ⟨rfl, ?_⟩
      refine rq_less (sx 94 (congrArg some e20.1) (sub_nil _)) (List.sublist_append_right _ _) ?_
      exact rq_v (rv_ev rfl)
     ·
      intro vf pf hR
      have e21 : (vf 21) = .bool true ∧ (pf 21) = [] := hR 21 (by decide)
      refine Or.inl ⟨want_of (congrArg some e21.1) rfl, ?_⟩
      refine rq_less (sx 6 rfl (sub_nil _)) (List.sublist_append_right _ _) ?_
      exact rq_v (rv_ev rfl)
     ·
      intro vf pf hR
      have e21 : (vf 21) = .bool true ∧ (pf 21) = [] := hR 21 (by decide)
      refine Or.inl ⟨want_of (congrArg some e21.1) rfl, ?_⟩
      refine rq_less (sx 11 rfl (sub_nil _)) (List.sublist_append_right _ _) ?_
      exact rq_v (rv_ev rfl)
     ·
      intro vf pf hR
      have e21 : (vf 21) = .bool true ∧ (pf 21) = [] := hR 21 (by decide)
      have e22 : (vf 22) = uhR9 ∧ (pf 22) = [] := hR 22 (by decide)
      have e23 : (vf 23) = uhR20 ∧ (pf 23) = [] := hR 23 (by decide)
      refine Or.inl ⟨want_of (congrArg some e21.1) rfl, ?_⟩
      refine rq_less (sx 96 (congrArg some e22.1) (sx 97 (congrArg some e23.1) (sub_nil _))) (List.sublist_append_right _ _) ?_
      exact rq_mono (rq_call (by kernel_rfl) rfl (fun w hm => ret_ans (sameInts_ans (encV d t.val) (encV d zz.val) _ _ w ((rd_row 5 rfl) w hm) ((rd_row 0 rfl) w hm) (by omega)))) (fun _ _ h => ⟨h.1.trans (congrArg Value.bool hb30), h.2⟩)
     ·
      intro vf pf hR
      have e21 : (vf 21) = .bool true ∧ (pf 21) = [] := hR 21 (by decide)
      refine Or.inl ⟨want_of (congrArg some e21.1) rfl, ?_⟩
      refine rq_less (sx 5 rfl (sub_nil _)) (List.sublist_append_right _ _) ?_
      exact rq_v (rv_loadN (cs := [t.mv, t.lv, .int .i64 t.pad, .int .i64 t.ram]) rfl (by kernel_rfl) (by kernel_rfl) rfl rfl (box_part 6 rfl 0 rfl))
     ·
      intro vf pf hR
      have e21 : (vf 21) = .bool true ∧ (pf 21) = [] := hR 21 (by decide)
      refine Or.inl ⟨want_of (congrArg some e21.1) rfl, ?_⟩
      refine rq_less (sx 10 rfl (sub_nil _)) (List.sublist_append_right _ _) ?_
      exact rq_v (rv_loadN (cs := [zz.mv, zz.lv, .int .i64 zz.pad, .int .i64 zz.ram]) rfl (by kernel_rfl) (by kernel_rfl) rfl rfl (box_part 1 rfl 0 rfl))
     ·
      intro vf pf hR
      have e21 : (vf 21) = .bool true ∧ (pf 21) = [] := hR 21 (by decide)
      have e25 : (vf 25) = .agg #[t.mv, t.lv, .int .i64 t.pad, .int .i64 t.ram] ∧ (pf 25) = [] := hR 25 (by decide)
      have e26 : (vf 26) = .agg #[zz.mv, zz.lv, .int .i64 zz.pad, .int .i64 zz.ram] ∧ (pf 26) = [] := hR 26 (by decide)
      refine Or.inl ⟨want_of (congrArg some e21.1) rfl, ?_⟩
      refine rq_less (sx 99 (congrArg some e25.1) (sx 100 (congrArg some e26.1) (sub_nil _))) (List.sublist_append_right _ _) ?_
      exact rq_mono (rq_call (by kernel_rfl) rfl (fun w hm => ret_ans (sameTile_enc okt okz (sameTile_ans t zz w (tc_rds 8 rfl n1t n2t n3t w hm) (tc_rds 2 rfl n1zz n2zz n3zz w hm))))) (fun _ _ h => ⟨h.1.trans (congrArg Value.bool hb32), h.2⟩)
     ·
      intro vf pf hR
      have e21 : (vf 21) = .bool true ∧ (pf 21) = [] := hR 21 (by decide)
      have e24 : (vf 24) = .bool false ∧ (pf 24) = [] := hR 24 (by decide)
      have e27 : (vf 27) = .bool false ∧ (pf 27) = [] := hR 27 (by decide)
      refine Or.inl ⟨want_of (congrArg some e21.1) rfl, ?_⟩
      refine rq_less (sx 98 (congrArg some e24.1) (sx 101 (congrArg some e27.1) (sub_nil _))) (List.sublist_append_right _ _) ?_
      exact rq_v (rv_beql (m := false) (n := false) rfl Try.underlying4 rfl rfl)
     ·
      intro vf pf hR
      have e21 : (vf 21) = .bool true ∧ (pf 21) = [] := hR 21 (by decide)
      have e28 : (vf 28) = .bool true ∧ (pf 28) = [] := hR 28 (by decide)
      refine Or.inl ⟨rfl, ?_⟩
      refine rq_less (sx 95 (congrArg some e21.1) (sx 102 (congrArg some e28.1) (sub_nil _))) (List.sublist_append_right _ _) ?_
      exact rq_v (rv_ev rfl)
     ·
      intro vf pf hR
      have e29 : (vf 29) = .bool true ∧ (pf 29) = [] := hR 29 (by decide)
      refine Or.inl ⟨rfl, ?_⟩
      refine rq_less (sx 103 (congrArg some e29.1) (sub_nil _)) (List.sublist_append_right _ _) ?_
      exact rq_v (rv_ev rfl)
     ·
      intro vf pf hR
      have e30 : (vf 30) = .bool true ∧ (pf 30) = [] := hR 30 (by decide)
      refine Or.inl ⟨want_of (congrArg some e30.1) rfl, ?_⟩
      refine rq_less (sx 3 rfl (sub_nil _)) (List.sublist_append_right _ _) ?_
      exact rq_v (rv_loadN (cs := [.int .i64 d.W, .int .i64 d.H, .int .i64 d.T, .int .i64 d.R]) rfl (by kernel_rfl) (by kernel_rfl) rfl rfl (box_part 7 rfl 0 rfl))
     ·
      intro vf pf hR
      have e30 : (vf 30) = .bool true ∧ (pf 30) = [] := hR 30 (by decide)
      refine Or.inl ⟨want_of (congrArg some e30.1) rfl, ?_⟩
      refine rq_less (sx 10 rfl (sub_nil _)) (List.sublist_append_right _ _) ?_
      exact rq_v (rv_loadN (cs := [zz.mv, zz.lv, .int .i64 zz.pad, .int .i64 zz.ram]) rfl (by kernel_rfl) (by kernel_rfl) rfl rfl (box_part 1 rfl 0 rfl))
     ·
      intro vf pf hR
      have e30 : (vf 30) = .bool true ∧ (pf 30) = [] := hR 30 (by decide)
      have e31 : (vf 31) = .agg #[.int .i64 d.W, .int .i64 d.H, .int .i64 d.T, .int .i64 d.R] ∧ (pf 31) = [] := hR 31 (by decide)
      have e32 : (vf 32) = .agg #[zz.mv, zz.lv, .int .i64 zz.pad, .int .i64 zz.ram] ∧ (pf 32) = [] := hR 32 (by decide)
      refine Or.inl ⟨want_of (congrArg some e30.1) rfl, ?_⟩
      refine rq_less (sx 105 (congrArg some e31.1) (sx 106 (congrArg some e32.1) (sub_nil _))) (List.sublist_append_right _ _) ?_
      exact (rq_call (by kernel_rfl) rfl (fun w hm => ret_ans (by have h9 := implTileConfigOk_ans d zz w (tc_rds 2 rfl n1zz n2zz n3zz w hm); rw [okz] at h9; exact h9)))
     ·
      intro vf pf hR
      have e30 : (vf 30) = .bool true ∧ (pf 30) = [] := hR 30 (by decide)
      have e33 : (vf 33) = .bool true ∧ (pf 33) = [] := hR 33 (by decide)
      refine Or.inl ⟨rfl, ?_⟩
      refine rq_less (sx 104 (congrArg some e30.1) (sx 107 (congrArg some e33.1) (sub_nil _))) (List.sublist_append_right _ _) ?_
      exact rq_v (rv_ev rfl)
    ·
     intro vf pf hR
     have e34 : (vf 34) = .bool true ∧ (pf 34) = [] := hR 34 (by decide)
     refine hl_less (l' := [rowE 3 1 uhR20 ((encV d zz.val).length) ((encV d zz.val).map (Value.int .i64)), boxE b17 #[zz.mv, zz.lv, .int .i64 zz.pad, .int .i64 zz.ram] 39, tcE zz, boxE b13 #[y.mv, y.lv, .int .i64 y.pad, .int .i64 y.ram] 39, tcE y, rowE 3 1 uhR9 ((encV d t.val).length) ((encV d t.val).map (Value.int .i64)), boxE b6 #[t.mv, t.lv, .int .i64 t.pad, .int .i64 t.ram] 39, boxE b5 #[.int .i64 d.W, .int .i64 d.H, .int .i64 d.T, .int .i64 d.R] 25, tcE t]) (sx 0 rfl (sx 2 rfl (sx 3 rfl (sx 4 rfl (sx 5 rfl (sx 6 rfl (sx 7 rfl (sx 8 rfl (sx 9 rfl (sx 10 rfl (sx 11 rfl (sx 13 rfl (sx 18 rfl (sx 48 rfl (sx 108 (congrArg some e34.1) (sub_nil _)))))))))))))))) (List.sublist_append_right _ _) ?_
     simp only [List.drop_succ_cons, List.drop_zero]
     refine hl_v rfl rfl rfl (rv_ev rfl) ?_
     refine hl_less (sx 0 rfl (sx 2 rfl (sx 3 rfl (sx 4 rfl (sx 5 rfl (sx 6 rfl (sx 7 rfl (sx 8 rfl (sx 9 rfl (sx 10 rfl (sx 11 rfl (sx 13 rfl (sx 18 rfl (sx 48 rfl (sub_nil _))))))))))))))) (.refl _) ?_
     refine hl_nil ?_
     refine hq_then ?_
     refine hc_ret ?_
     exact hq_ans rfl rfl rfl
end Go.Proofs.Ytnnkbpcfjjijbaa
