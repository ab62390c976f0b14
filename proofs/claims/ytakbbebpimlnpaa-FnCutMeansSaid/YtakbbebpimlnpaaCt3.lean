/- Texts of the law FnCutMeans, part 3: what it uses. -/
import Derived.Test.YtakbbebpimlnpaaCt2
set_option linter.unusedVariables false
set_option linter.unusedSimpArgs false
namespace Go.Proofs.Ytakbbebpimlnpaa
open Go.RowKit Go.ChangeShapes
open Go.RowKit
set_option maxHeartbeats 4000000 in
set_option maxRecDepth 100000 in
theorem implNetOk_yes (n : Nt) (w : World) (hr : RdsNt w n) (hn : NtOk n) :
  Calls Try.prog 67 #[.agg #[.int .i64 n.ins, n.sv, n.av, n.ov]] w (Ans w (.bool true)) := by
 have hi0 := hn.i0
 have hi1 := hn.i1
 have hs1 := hn.s1
 have ha1 := hn.a1
 have ho1 := hn.o1
 have hcnt : n.cnt = 1 + n.ins + n.ss.length + n.gs.length := rfl
 have hfst : n.fst = 1 + n.ins + n.ss.length := rfl
 refine calls_hc (N := 67) (args := [.agg #[.int .i64 n.ins, n.sv, n.av, n.ov]]) Try.func67 rfl rfl ?_
 refine hc_less _ (sx 0 rfl (sub_nil _)) (.refl _) ?_
 refine hc_seq ?_
 refine hc_region ?_
 refine hl_box rfl rfl rfl (rq_box rfl rfl) ?_
 intro b1
 refine hl_v rfl rfl rfl (rv_ev rfl) ?_
 refine hl_less (sx 0 rfl (sx 1 rfl (sx 2 rfl (sub_nil _)))) (.refl _) ?_
 refine hl_nil ?_
 refine hq_then ?_
 refine hc_seq ?_
 refine hc_region ?_
 refine hl_v rfl rfl rfl (rv_loadN (cs := [.int .i64 n.ins, n.sv, n.av, n.ov]) rfl (by kernel_rfl) (by kernel_rfl) rfl rfl (box_part 0 rfl 0 rfl)) ?_
 refine hl_callV rfl rfl rfl (rq_call (by kernel_rfl) rfl (fun w hm => ret_ans (implNodeCount_yes n w (hr.below hm.bel) hn))) ?_
 refine hl_v rfl rfl rfl (rv_ev rfl) ?_
 refine hl_less (sx 0 rfl (sx 1 rfl (sx 2 rfl (sx 3 rfl (sub_nil _))))) (.refl _) ?_
 refine hl_nil ?_
 refine hq_then ?_
 refine hc_seq ?_
 refine hc_seq ?_
 refine hc_region ?_
 refine hl_v rfl rfl rfl (rv_ev rfl) ?_
 refine hl_eql rfl rfl rfl rfl rfl rfl (fun h2 => absurd h2 (by omega)) (fun h2 => ?_)
 refine hl_less (sx 0 rfl (sx 1 rfl (sx 2 rfl (sx 3 rfl (sx 14 rfl (sub_nil _)))))) (.refl _) ?_
 refine hl_nil ?_
 refine hq_then ?_
 refine hc_false rfl ?_
 refine hc_skip ?_
 refine hq_then ?_
 refine hc_seq ?_
 refine hc_seq ?_
 refine hc_region ?_
 refine hl_v rfl rfl rfl (rv_field (k0 := 1) rfl (by kernel_rfl) rfl) ?_
 refine hl_v rfl rfl rfl (rv_load rfl (by kernel_rfl) rfl (box_cell 0 rfl rfl)) ?_
 refine hl_v rfl rfl rfl (rv_len rfl Try.underlying24 rfl (rd_old hr.sq)) ?_
 refine hl_v rfl rfl rfl (rv_ev rfl) ?_
 refine hl_less (sx 0 rfl (sx 1 rfl (sx 2 rfl (sx 3 rfl (sx 14 rfl (sx 16 rfl (sx 17 rfl (sx 18 rfl (sub_nil _))))))))) (.refl _) ?_
 refine hl_nil ?_
 refine hq_then ?_
 refine hc_block ?_
 refine hc_loop1 (α := Nat) (fun k => [boxE b1 #[.int .i64 n.ins, n.sv, n.av, n.ov] 28]) (fun k => [(0, .agg #[.int .i64 n.ins, n.sv, n.av, n.ov]), (1, .pointer (some ⟨b1, 0, none⟩)), (2, .bool false), (3, .int .i64 n.cnt), (14, .bool false), (16, n.sv), (17, .int .i64 (n.ss.length : Int)), (18, .int .i64 (k : Int))]) (fun k => k ≤ n.ss.length) (fun k => n.ss.length - k) 0 (Nat.zero_le _) (sx 0 rfl (sx 1 rfl (sx 2 rfl (sx 3 rfl (sx 14 rfl (sx 16 rfl (sx 17 rfl (sx 18 rfl (sub_nil _))))))))) ((.cons_cons _ .slnil)) ?_
 intro k hi3
 have hk := hi3
 refine hc_seq ?_
 refine hc_region ?_
 refine hl_lss rfl rfl rfl rfl rfl rfl (fun h4 => ?_) (fun h4 => ?_)
 ·
  refine hl_less (sx 0 rfl (sx 1 rfl (sx 2 rfl (sx 3 rfl (sx 14 rfl (sx 16 rfl (sx 17 rfl (sx 18 rfl (sx 19 rfl (sub_nil _)))))))))) (.refl _) ?_
  refine hl_nil ?_
  refine hq_then ?_
  refine hc_seq ?_
  refine hc_true rfl ?_
  refine hc_skip ?_
  refine hq_then ?_
  refine hc_seq ?_
  refine hc_block ?_
  refine hc_seq ?_
  refine hc_region ?_
  refine hl_v rfl rfl rfl (rv_index (s := 3) rfl Try.underlying24 (by kernel_rfl) rfl rfl (rd_old hr.sq) (by omega) (by first | omega | (simp only [List.length_set]; omega))) ?_
  refine hl_v rfl rfl rfl (rv_loadElN (us := [.int .i64 ((n.ss.getD k sq0).kd), .int .i64 ((n.ss.getD k sq0).it), (n.ss.getD k sq0).iv]) rfl (by kernel_rfl) (by kernel_rfl) rfl (rd_old hr.sq) (by omega) rfl (flat_atN sqC 3 (fun _ => rfl) n.ss sq0 (show k < _ by first | omega | (simp only [List.length_set]; omega)) rfl)) ?_
  refine hl_box rfl rfl rfl (rq_alloc (z := .agg #[.int .i64 0, .int .i64 0, .slice none 0 0]) rfl (by kernel_rfl)) ?_
  intro b5
  refine hl_storeBoxN (i := 0) (off := 0) (us := [.int .i64 ((n.ss.getD k sq0).kd), .int .i64 ((n.ss.getD k sq0).it), (n.ss.getD k sq0).iv])  (l' := [boxE b5 #[.int .i64 ((n.ss.getD k sq0).kd), .int .i64 ((n.ss.getD k sq0).it), (n.ss.getD k sq0).iv] 83, boxE b1 #[.int .i64 n.ins, n.sv, n.av, n.ov] 28]) rfl rfl rfl (by kernel_rfl) rfl rfl rfl (all_cons rfl (all_cons rfl (all_cons (hr.at (k := k) (by omega)).one all_nil))) rfl rfl rfl ?_
  refine hl_less (sx 0 rfl (sx 1 rfl (sx 2 rfl (sx 3 rfl (sx 5 rfl (sx 14 rfl (sx 16 rfl (sx 17 rfl (sx 18 rfl (sx 19 rfl (sub_nil _))))))))))) (.refl _) ?_
  refine hl_nil ?_
  refine hq_then ?_
  refine hc_seq ?_
  refine hc_region ?_
  refine hl_v rfl rfl rfl (rv_loadN (cs := [.int .i64 ((n.ss.getD k sq0).kd), .int .i64 ((n.ss.getD k sq0).it), (n.ss.getD k sq0).iv]) rfl (by kernel_rfl) (by kernel_rfl) rfl rfl (box_part 0 rfl 0 rfl)) ?_
  refine hl_callV rfl rfl rfl (rq_call (by kernel_rfl) rfl (fun w hm => ret_ans (seqOk_yes (n.ss.getD k sq0) w (hn.sq _ (getD_memX (d := sq0) (by omega))) ((hr.at (k := k) (by omega)).below hm.bel)))) ?_
  refine hl_v rfl rfl rfl (rv_ev rfl) ?_
  refine hl_less (sx 0 rfl (sx 1 rfl (sx 2 rfl (sx 3 rfl (sx 5 rfl (sx 14 rfl (sx 16 rfl (sx 17 rfl (sx 18 rfl (sx 19 rfl (sx 24 rfl (sub_nil _)))))))))))) (.refl _) ?_
  refine hl_nil ?_
  refine hq_then ?_
  refine hc_false rfl ?_
  refine hc_skip ?_
  refine hq_block_normal ?_
  refine hq_then ?_
  refine hc_region ?_
  refine hl_v rfl rfl rfl (rv_add rfl rfl rfl (by constructor <;> omega)) ?_
  refine hl_v rfl rfl rfl (rv_ev rfl) ?_
  refine hl_less (sx 0 rfl (sx 1 rfl (sx 2 rfl (sx 3 rfl (sx 5 rfl (sx 14 rfl (sx 16 rfl (sx 17 rfl (sx 18 rfl (sx 19 rfl (sx 24 rfl (sub_nil _)))))))))))) (.refl _) ?_
  refine hl_nil ?_
  exact hq_round1 (k + 1) (by omega) (by omega) (sx 0 rfl (sx 1 rfl (sx 2 rfl (sx 3 rfl (sx 14 rfl (sx 16 rfl (sx 17 rfl (sx 18 rfl (sub_nil _))))))))) ((.cons _ (.cons_cons _ .slnil)))
 ·
  refine hl_less (sx 0 rfl (sx 1 rfl (sx 2 rfl (sx 3 rfl (sx 14 rfl (sx 16 rfl (sx 17 rfl (sx 18 rfl (sx 19 rfl (sub_nil _)))))))))) (.refl _) ?_
  refine hl_nil ?_
  refine hq_then ?_
  refine hc_seq ?_
  refine hc_false rfl ?_
  refine hc_exit ?_
  refine hq_then_exit ?_
  refine hq_then_exit ?_
  refine hq_block_exit ?_
  refine hq_then ?_
  refine hc_seq ?_
  refine hc_seq ?_
  refine hc_region ?_
  refine hl_v rfl rfl rfl (rv_loadN (cs := [.int .i64 n.ins, n.sv, n.av, n.ov]) rfl (by kernel_rfl) (by kernel_rfl) rfl rfl (box_part 0 rfl 0 rfl)) ?_
  refine hl_q rfl rfl rfl (rq_call (by kernel_rfl) rfl (fun w hm => roots_ret n w (hr.below hm.bel) hn)) ?_
  intro v6 p7 hR8
  subst hR8
  refine hl_v rfl rfl rfl (rv_len rfl Try.underlying26 rfl (rd_row 0 rfl)) ?_
  have hzl := rts_len hn n.ss.length (Nat.le_refl _)
  refine hl_v rfl rfl rfl (rv_ev rfl) ?_
  refine hl_less (sx 0 rfl (sx 1 rfl (sx 2 rfl (sx 3 rfl (sx 14 rfl (sx 16 rfl (sx 17 rfl (sx 18 rfl (sx 19 rfl (sx 27 rfl (sx 28 rfl (sx 29 rfl (sub_nil _))))))))))))) (.refl _) ?_
  refine hl_nil ?_
  refine hq_then ?_
  refine hc_block ?_
  refine hc_loop1 (α := Nat) (fun q => [rowE 3 1 v6 ((rtsL n n.ss.length).length) ((rtsL n n.ss.length).map (Value.int .i64)), boxE b1 #[.int .i64 n.ins, n.sv, n.av, n.ov] 28]) (fun q => [(0, .agg #[.int .i64 n.ins, n.sv, n.av, n.ov]), (1, .pointer (some ⟨b1, 0, none⟩)), (2, .bool false), (3, .int .i64 n.cnt), (14, .bool false), (16, n.sv), (17, .int .i64 (n.ss.length : Int)), (18, .int .i64 (k : Int)), (19, .bool false), (27, v6), (28, .int .i64 ((rtsL n n.ss.length).length : Int)), (29, .int .i64 (q : Int))]) (fun q => q ≤ (rtsL n n.ss.length).length) (fun q => (rtsL n n.ss.length).length - q) 0 (Nat.zero_le _) (sx 0 rfl (sx 1 rfl (sx 2 rfl (sx 3 rfl (sx 14 rfl (sx 16 rfl (sx 17 rfl (sx 18 rfl (sx 19 rfl (sx 27 rfl (sx 28 rfl (sx 29 rfl (sub_nil _))))))))))))) ((.cons_cons _ (.cons_cons _ .slnil))) ?_
  intro q hi9
  have hq := hi9
  refine hc_seq ?_
  refine hc_region ?_
  refine hl_lss rfl rfl rfl rfl rfl rfl (fun h10 => ?_) (fun h10 => ?_)
  ·
   refine hl_less (sx 0 rfl (sx 1 rfl (sx 2 rfl (sx 3 rfl (sx 14 rfl (sx 16 rfl (sx 17 rfl (sx 18 rfl (sx 19 rfl (sx 27 rfl (sx 28 rfl (sx 29 rfl (sx 30 rfl (sub_nil _)))))))))))))) (.refl _) ?_
   refine hl_nil ?_
   refine hq_then ?_
   refine hc_seq ?_
   refine hc_true rfl ?_
   refine hc_skip ?_
   refine hq_then ?_
   refine hc_seq ?_
   refine hc_block ?_
   refine hc_seq ?_
   refine hc_region ?_
   refine hl_v rfl rfl rfl (rv_index (s := 1) rfl Try.underlying26 (by kernel_rfl) rfl rfl (rd_row 0 rfl) (by omega) (by first | omega | (simp only [List.length_set]; omega))) ?_
   refine hl_v rfl rfl rfl (rv_loadEl (u := .int .i64 ((rtsL n n.ss.length).getD q 0)) rfl (by kernel_rfl) rfl (rd_row 0 rfl) (ints_at1 (show _ < (rtsL n n.ss.length).length by first | omega | (simp only [List.length_set]; omega)))) ?_
   refine hl_v rfl rfl rfl (rv_ev rfl) ?_
   refine hl_less (sx 0 rfl (sx 1 rfl (sx 2 rfl (sx 3 rfl (sx 7 rfl (sx 14 rfl (sx 16 rfl (sx 17 rfl (sx 18 rfl (sx 19 rfl (sx 27 rfl (sx 28 rfl (sx 29 rfl (sx 30 rfl (sub_nil _))))))))))))))) (.refl _) ?_
   refine hl_nil ?_
   refine hq_then ?_
   refine hc_seq ?_
   refine hc_region ?_
   have hlk := rts_ok hn (i := q) (by omega)
   obtain ⟨hlk1, hlk2⟩ := hlk
   refine hl_v rfl rfl rfl (rv_ev rfl) ?_
   refine hl_v rfl rfl rfl (rv_ev rfl) ?_
   refine hl_v rfl rfl rfl (rv_mul rfl rfl rfl (by constructor <;> omega)) ?_
   refine hl_v rfl rfl rfl (rv_sub rfl rfl rfl (by constructor <;> omega)) ?_
   refine hl_callV rfl rfl rfl (rq_call (by kernel_rfl) rfl (fun w hm => ret_ans (ans_of (inRange_any _ _ _ w)))) ?_
   refine hl_bool (fun h11 => ?_) (fun h11 => absurd ((((inR_iff _ _ _).2 (by omega))).symm.trans h11) (by decide))
   refine hl_v rfl rfl rfl (rv_ev rfl) ?_
   refine hl_less (sx 0 rfl (sx 1 rfl (sx 2 rfl (sx 3 rfl (sx 7 rfl (sx 14 rfl (sx 16 rfl (sx 17 rfl (sx 18 rfl (sx 19 rfl (sx 27 rfl (sx 28 rfl (sx 29 rfl (sx 30 rfl (sx 38 rfl (sub_nil _)))))))))))))))) (.refl _) ?_
   refine hl_nil ?_
   refine hq_then ?_
   refine hc_false rfl ?_
   refine hc_skip ?_
   refine hq_block_normal ?_
   refine hq_then ?_
   refine hc_region ?_
   refine hl_v rfl rfl rfl (rv_add rfl rfl rfl (by constructor <;> omega)) ?_
   have hzl := rts_len hn n.ss.length (Nat.le_refl _)
   refine hl_v rfl rfl rfl (rv_ev rfl) ?_
   refine hl_less (sx 0 rfl (sx 1 rfl (sx 2 rfl (sx 3 rfl (sx 7 rfl (sx 14 rfl (sx 16 rfl (sx 17 rfl (sx 18 rfl (sx 19 rfl (sx 27 rfl (sx 28 rfl (sx 29 rfl (sx 30 rfl (sx 38 rfl (sub_nil _)))))))))))))))) (.refl _) ?_
   refine hl_nil ?_
   exact hq_round1 (q + 1) (by omega) (by omega) (sx 0 rfl (sx 1 rfl (sx 2 rfl (sx 3 rfl (sx 14 rfl (sx 16 rfl (sx 17 rfl (sx 18 rfl (sx 19 rfl (sx 27 rfl (sx 28 rfl (sx 29 rfl (sub_nil _))))))))))))) ((.cons_cons _ (.cons_cons _ .slnil)))
  ·
   refine hl_less (sx 0 rfl (sx 1 rfl (sx 2 rfl (sx 3 rfl (sx 14 rfl (sx 16 rfl (sx 17 rfl (sx 18 rfl (sx 19 rfl (sx 27 rfl (sx 28 rfl (sx 29 rfl (sx 30 rfl (sub_nil _)))))))))))))) (.refl _) ?_
   refine hl_nil ?_
   refine hq_then ?_
   refine hc_seq ?_
   refine hc_false rfl ?_
   refine hc_exit ?_
   refine hq_then_exit ?_
   refine hq_then_exit ?_
   refine hq_block_exit ?_
   refine hq_then ?_
   refine hc_seq ?_
   refine hc_seq ?_
   refine hc_region ?_
   refine hl_v rfl rfl rfl (rv_field (k0 := 2) rfl (by kernel_rfl) rfl) ?_
   refine hl_v rfl rfl rfl (rv_load rfl (by kernel_rfl) rfl (box_cell 1 rfl rfl)) ?_
   refine hl_v rfl rfl rfl (rv_len rfl Try.underlying25 rfl (rd_old hr.an)) ?_
   refine hl_v rfl rfl rfl (rv_ev rfl) ?_
   refine hl_less (sx 0 rfl (sx 1 rfl (sx 2 rfl (sx 3 rfl (sx 14 rfl (sx 16 rfl (sx 17 rfl (sx 18 rfl (sx 19 rfl (sx 27 rfl (sx 28 rfl (sx 29 rfl (sx 30 rfl (sx 41 rfl (sx 42 rfl (sx 43 rfl (sub_nil _))))))))))))))))) (.refl _) ?_
   refine hl_nil ?_
   refine hq_then ?_
   refine hc_block ?_
   refine hc_loop1 (α := Nat) (fun j => [rowE 3 1 v6 ((rtsL n n.ss.length).length) ((rtsL n n.ss.length).map (Value.int .i64)), boxE b1 #[.int .i64 n.ins, n.sv, n.av, n.ov] 28]) (fun j => [(0, .agg #[.int .i64 n.ins, n.sv, n.av, n.ov]), (1, .pointer (some ⟨b1, 0, none⟩)), (2, .bool false), (3, .int .i64 n.cnt), (14, .bool false), (16, n.sv), (17, .int .i64 (n.ss.length : Int)), (18, .int .i64 (k : Int)), (19, .bool false), (27, v6), (28, .int .i64 ((rtsL n n.ss.length).length : Int)), (29, .int .i64 (q : Int)), (30, .bool false), (41, n.av), (42, .int .i64 (n.gs.length : Int)), (43, .int .i64 (j : Int))]) (fun j => j ≤ n.gs.length) (fun j => n.gs.length - j) 0 (Nat.zero_le _) (sx 0 rfl (sx 1 rfl (sx 2 rfl (sx 3 rfl (sx 14 rfl (sx 16 rfl (sx 17 rfl (sx 18 rfl (sx 19 rfl (sx 27 rfl (sx 28 rfl (sx 29 rfl (sx 30 rfl (sx 41 rfl (sx 42 rfl (sx 43 rfl (sub_nil _))))))))))))))))) ((.cons_cons _ (.cons_cons _ .slnil))) ?_
   intro j hi12
   have hj := hi12
   refine hc_seq ?_
   refine hc_region ?_
   refine hl_lss rfl rfl rfl rfl rfl rfl (fun h13 => ?_) (fun h13 => ?_)
   ·
    refine hl_less (sx 0 rfl (sx 1 rfl (sx 2 rfl (sx 3 rfl (sx 14 rfl (sx 16 rfl (sx 17 rfl (sx 18 rfl (sx 19 rfl (sx 27 rfl (sx 28 rfl (sx 29 rfl (sx 30 rfl (sx 41 rfl (sx 42 rfl (sx 43 rfl (sx 44 rfl (sub_nil _)))))))))))))))))) (.refl _) ?_
    refine hl_nil ?_
    refine hq_then ?_
    refine hc_seq ?_
    refine hc_true rfl ?_
    refine hc_skip ?_
    refine hq_then ?_
    refine hc_seq ?_
    refine hc_block ?_
    refine hc_seq ?_
    refine hc_region ?_
    refine hl_v rfl rfl rfl (rv_ev rfl) ?_
    refine hl_v rfl rfl rfl (rv_index (s := 2) rfl Try.underlying25 (by kernel_rfl) rfl rfl (rd_old hr.an) (by omega) (by first | omega | (simp only [List.length_set]; omega))) ?_
    refine hl_v rfl rfl rfl (rv_loadElN (us := [.int .i64 ((n.gs.getD j an0).a), .int .i64 ((n.gs.getD j an0).b)]) rfl (by kernel_rfl) (by kernel_rfl) rfl (rd_old hr.an) (by omega) rfl (flat_atN anC 2 (fun _ => rfl) n.gs an0 (show j < _ by first | omega | (simp only [List.length_set]; omega)) rfl)) ?_
    refine hl_box rfl rfl rfl (rq_alloc (z := .agg #[.int .i64 0, .int .i64 0]) rfl (by kernel_rfl)) ?_
    intro b14
    refine hl_v rfl rfl rfl (rv_ev rfl) ?_
    refine hl_storeBoxN (i := 0) (off := 0) (us := [.int .i64 ((n.gs.getD j an0).a), .int .i64 ((n.gs.getD j an0).b)])  (l' := [boxE b14 #[.int .i64 ((n.gs.getD j an0).a), .int .i64 ((n.gs.getD j an0).b)] 80, rowE 3 1 v6 ((rtsL n n.ss.length).length) ((rtsL n n.ss.length).map (Value.int .i64)), boxE b1 #[.int .i64 n.ins, n.sv, n.av, n.ov] 28]) rfl rfl rfl (by kernel_rfl) rfl rfl rfl (all_cons rfl (all_cons rfl all_nil)) rfl rfl rfl ?_
    refine hl_less (sx 0 rfl (sx 1 rfl (sx 2 rfl (sx 3 rfl (sx 8 rfl (sx 9 rfl (sx 14 rfl (sx 16 rfl (sx 17 rfl (sx 18 rfl (sx 19 rfl (sx 27 rfl (sx 28 rfl (sx 29 rfl (sx 30 rfl (sx 41 rfl (sx 42 rfl (sx 43 rfl (sx 44 rfl (sub_nil _)))))))))))))))))))) (.refl _) ?_
    refine hl_nil ?_
    refine hq_then ?_
    refine hc_seq ?_
    refine hc_region ?_
    refine hl_v rfl rfl rfl (rv_loadN (cs := [.int .i64 n.ins, n.sv, n.av, n.ov]) rfl (by kernel_rfl) (by kernel_rfl) rfl rfl (box_part 2 rfl 0 rfl)) ?_
    refine hl_callV rfl rfl rfl (rq_call (by kernel_rfl) rfl (fun w hm => ret_ans (firstAnd_yes n w (hr.below hm.bel) hn))) ?_
    refine hl_v rfl rfl rfl (rv_ev rfl) ?_
    refine hl_v rfl rfl rfl (rv_add rfl rfl rfl (by constructor <;> omega)) ?_
    refine hl_v rfl rfl rfl (rv_mul rfl rfl rfl (by constructor <;> omega)) ?_
    refine hl_v rfl rfl rfl (rv_sub rfl rfl rfl (by constructor <;> omega)) ?_
    refine hl_v rfl rfl rfl (rv_ev rfl) ?_
    refine hl_less (sx 0 rfl (sx 1 rfl (sx 2 rfl (sx 3 rfl (sx 8 rfl (sx 9 rfl (sx 10 rfl (sx 14 rfl (sx 16 rfl (sx 17 rfl (sx 18 rfl (sx 19 rfl (sx 27 rfl (sx 28 rfl (sx 29 rfl (sx 30 rfl (sx 41 rfl (sx 42 rfl (sx 43 rfl (sx 44 rfl (sub_nil _))))))))))))))))))))) (.refl _) ?_
    refine hl_nil ?_
    refine hq_then ?_
    refine hc_seq ?_
    refine hc_region ?_
    have hlj := hn.an j (by omega)
    obtain ⟨⟨hlj1, hlj2⟩, hlj3, hlj4⟩ := hlj
    refine hl_v rfl rfl rfl (rv_field (k0 := 0) rfl (by kernel_rfl) rfl) ?_
    refine hl_v rfl rfl rfl (rv_load rfl (by kernel_rfl) rfl (box_cell 0 rfl rfl)) ?_
    refine hl_v rfl rfl rfl (rv_ev rfl) ?_
    refine hl_callV rfl rfl rfl (rq_call (by kernel_rfl) rfl (fun w hm => ret_ans (ans_of (inRange_any _ _ _ w)))) ?_
    refine hl_bool (fun h15 => ?_) (fun h15 => absurd ((((inR_iff _ _ _).2 (by omega))).symm.trans h15) (by decide))
    refine hl_v rfl rfl rfl (rv_ev rfl) ?_
    refine hl_v rfl rfl rfl (rv_ev rfl) ?_
    refine hl_v rfl rfl rfl (rv_field (k0 := 1) rfl (by kernel_rfl) rfl) ?_
    refine hl_v rfl rfl rfl (rv_load rfl (by kernel_rfl) rfl (box_cell 0 rfl rfl)) ?_
    refine hl_v rfl rfl rfl (rv_ev rfl) ?_
    refine hl_callV rfl rfl rfl (rq_call (by kernel_rfl) rfl (fun w hm => ret_ans (ans_of (inRange_any _ _ _ w)))) ?_
    refine hl_bool (fun h16 => ?_) (fun h16 => absurd ((((inR_iff _ _ _).2 (by omega))).symm.trans h16) (by decide))
    refine hl_v rfl rfl rfl (rv_ev rfl) ?_
    refine hl_v rfl rfl rfl (rv_ev rfl) ?_
    refine hl_less (sx 0 rfl (sx 1 rfl (sx 2 rfl (sx 3 rfl (sx 8 rfl (sx 9 rfl (sx 10 rfl (sx 14 rfl (sx 16 rfl (sx 17 rfl (sx 18 rfl (sx 19 rfl (sx 27 rfl (sx 28 rfl (sx 29 rfl (sx 30 rfl (sx 41 rfl (sx 42 rfl (sx 43 rfl (sx 44 rfl (sx 65 rfl (sub_nil _)))))))))))))))))))))) (.refl _) ?_
    refine hl_nil ?_
    refine hq_then ?_
    refine hc_false rfl ?_
    refine hc_skip ?_
    refine hq_block_normal ?_
    refine hq_then ?_
    refine hc_region ?_
    refine hl_v rfl rfl rfl (rv_add rfl rfl rfl (by constructor <;> omega)) ?_
    refine hl_v rfl rfl rfl (rv_ev rfl) ?_
    refine hl_less (sx 0 rfl (sx 1 rfl (sx 2 rfl (sx 3 rfl (sx 8 rfl (sx 9 rfl (sx 10 rfl (sx 14 rfl (sx 16 rfl (sx 17 rfl (sx 18 rfl (sx 19 rfl (sx 27 rfl (sx 28 rfl (sx 29 rfl (sx 30 rfl (sx 41 rfl (sx 42 rfl (sx 43 rfl (sx 44 rfl (sx 65 rfl (sub_nil _)))))))))))))))))))))) (.refl _) ?_
    refine hl_nil ?_
    exact hq_round1 (j + 1) (by omega) (by omega) (sx 0 rfl (sx 1 rfl (sx 2 rfl (sx 3 rfl (sx 14 rfl (sx 16 rfl (sx 17 rfl (sx 18 rfl (sx 19 rfl (sx 27 rfl (sx 28 rfl (sx 29 rfl (sx 30 rfl (sx 41 rfl (sx 42 rfl (sx 43 rfl (sub_nil _))))))))))))))))) ((.cons _ (.cons_cons _ (.cons_cons _ .slnil))))
   ·
    refine hl_less (sx 0 rfl (sx 1 rfl (sx 2 rfl (sx 3 rfl (sx 14 rfl (sx 16 rfl (sx 17 rfl (sx 18 rfl (sx 19 rfl (sx 27 rfl (sx 28 rfl (sx 29 rfl (sx 30 rfl (sx 41 rfl (sx 42 rfl (sx 43 rfl (sx 44 rfl (sub_nil _)))))))))))))))))) (.refl _) ?_
    refine hl_nil ?_
    refine hq_then ?_
    refine hc_seq ?_
    refine hc_false rfl ?_
    refine hc_exit ?_
    refine hq_then_exit ?_
    refine hq_then_exit ?_
    refine hq_block_exit ?_
    refine hq_then ?_
    refine hc_seq ?_
    refine hc_region ?_
    refine hl_v rfl rfl rfl (rv_ev rfl) ?_
    refine hl_less (sx 0 rfl (sx 1 rfl (sx 2 rfl (sx 3 rfl (sx 14 rfl (sx 16 rfl (sx 17 rfl (sx 18 rfl (sx 19 rfl (sx 27 rfl (sx 28 rfl (sx 29 rfl (sx 30 rfl (sx 41 rfl (sx 42 rfl (sx 43 rfl (sx 44 rfl (sub_nil _)))))))))))))))))) (.refl _) ?_
    refine hl_nil ?_
    refine hq_then ?_
    refine hc_ret ?_
    exact hq_ans rfl rfl rfl
set_option maxHeartbeats 4000000 in
set_option maxRecDepth 100000 in
theorem l08Net_mut (g : Nat) (a : Option Addr) (len cap : Nat) (z : List Int) (w0 : World) (l : List HP) (w : World) (hm0 : Mem w0 (curE g a len cap :: l) w) (hb : BRow .u8 w0 a len cap z) :
  Calls Try.prog 61 #[.pointer (some ⟨g, 0, none⟩)] w (fun e_ w_ => ∃ v_ p_, e_ = .returned v_ ∧ (fun u_ p_ => ∃ n : Nt, u_ = n.agg ∧ p_ = bigE [curE g a len cap, ntE n] ∧ (n.sv.oneCell' = true ∧ n.av.oneCell' = true ∧ n.ov.oneCell' = true) ∧ NtOk n ∧ n.ins ≤ 4 ∧ (n.ss.length : Int) ≤ 3 ∧ (n.gs.length : Int) ≤ 14) v_ p_ ∧ Mem w0 (p_ :: l) w_) := by
 refine calls_hcM (N := 5) (args := [.pointer (some ⟨g, 0, none⟩)]) Try.func61 rfl rfl hm0 ?_
 refine hc_less _ (sx 0 rfl (sub_nil _)) (.refl _) ?_
 refine hc_seq ?_
 refine hc_region ?_
 refine hl_box rfl rfl rfl (rq_alloc (z := .agg #[.int .i64 0, .slice none 0 0, .slice none 0 0, .slice none 0 0]) rfl (by kernel_rfl)) ?_
 intro b1
 refine hl_less (sx 0 rfl (sx 2 rfl (sub_nil _))) (.refl _) ?_
 refine hl_nil ?_
 refine hq_then ?_
 refine hc_seq ?_
 refine hc_region ?_
 refine hl_v rfl rfl rfl (rv_ev rfl) ?_
 refine hl_callM (R := (fun u_ p_ => ∃ n : Nt, u_ = n.agg ∧ p_ = bigE [curE g a len cap, ntE n] ∧ (n.sv.oneCell' = true ∧ n.av.oneCell' = true ∧ n.ov.oneCell' = true) ∧ NtOk n ∧ n.ins ≤ 4 ∧ (n.ss.length : Int) ≤ 3 ∧ (n.gs.length : Int) ≤ 14)) 1 rfl rfl (by kernel_rfl) rfl rfl (fun l' w hm => l08Sized_mut g a len cap z 4 3 14 _ _ _ hm hb (by decide) (by decide) (by decide)) ?_
 intro v2 p3 hR4
 obtain ⟨n, rfl, rfl, ⟨o1n, o2n, o3n⟩, hn, hnq1, hnq2, hnq3⟩ := hR4
 refine hl_eqL (l' := (boxE b1 #[.int .i64 0, .slice none 0 0, .slice none 0 0, .slice none 0 0] 28 :: bigE [curE g a len cap, ntE n] :: l)) rfl ?_
 refine hl_storeBoxN (i := 0) (off := 0) (us := [.int .i64 n.ins, n.sv, n.av, n.ov])  (l' := (boxE b1 #[.int .i64 n.ins, n.sv, n.av, n.ov] 28 :: bigE [curE g a len cap, ntE n] :: l)) rfl rfl rfl (by kernel_rfl) rfl rfl rfl (all_cons rfl (all_cons o1n (all_cons o2n (all_cons o3n all_nil)))) rfl rfl rfl ?_
 refine hl_less (sx 0 rfl (sx 2 rfl (sub_nil _))) (.refl _) ?_
 refine hl_nil ?_
 refine hq_then ?_
 refine hc_ret ?_
 exact hq_ret (rs := [.cell 2 28]) (vs := [.agg #[.int .i64 n.ins, n.sv, n.av, n.ov]]) rfl ⟨⟨b1, 0, [.int .i64 n.ins, n.sv, n.av, n.ov], rfl, rfl, by kernel_rfl, by kernel_rfl, box_part 0 rfl 0 rfl⟩, trivial⟩ rfl (fun w hm => ⟨_, bigE [curE g a len cap, ntE n], rfl, ⟨n, rfl, rfl, ⟨o1n, o2n, o3n⟩, hn, hnq1, hnq2, hnq3⟩, hm.sub ((.cons _ (.cons_cons _ (.refl _))))⟩)
section
variable {P : Program} {N : Nat} {w0 : World} {l : List HP} {env : List (Nat × Value)} {o : Oper}
theorem rq_buildSlice1 {t e : TypeId} {x : Operand} {v : Value} (ho : o.op = .buildSlice t 1 #[(0, x)]) (hu : P.underlying t = some (.slice e)) (hi : (P.info? e).map (fun i => (i.zero, i.size)) = some (some (.slice none 0 0), 1)) (hx : ev env x = some v) (h1 : v.oneCell' = true) :
    RunQ P N w0 l env o (IsRow_o e 1 1 [v]) :=
  rq_buildSlice (vs := [(0, v)]) ho hu hi (by decide) (by simp [hx]) (by cases v <;> first | (exact absurd h1 Bool.false_ne_true) | kernel_rfl) rfl
end
structure CRow where
  v : Value
  xs : List Int
abbrev crow0 : CRow := ⟨.slice none 0 0, []⟩
def crowC (r : CRow) : List Value := [r.v]
structure RdsCl (w : World) (v : Value) (rs : List CRow) : Prop where
  row : RdsW w v 1 rs.length (rs.flatMap crowC)
  xs : ∀ r ∈ rs, RdsW w r.v 1 r.xs.length (r.xs.map (Value.int .i64))
theorem RdsCl.below {w w' : World} {v : Value} {rs : List CRow} (h : RdsCl w v rs) (hb : Below w.heap.size w w') : RdsCl w' v rs := ⟨h.row.below hb, fun r hr => (h.xs r hr).below hb⟩
theorem RdsCl.at {w : World} {v : Value} {rs : List CRow} (h : RdsCl w v rs) {k : Nat} (hk : k < rs.length) : RdsW w (rs.getD k crow0).v 1 (rs.getD k crow0).xs.length ((rs.getD k crow0).xs.map (Value.int .i64)) := h.xs _ (getD_mem' hk)
def LitOk (n : Int) (xs : List Int) : Prop := xs.length ≤ 400 ∧ ∀ i, i < xs.length → xs.getD i 0 ≠ 0 ∧ -n ≤ xs.getD i 0 ∧ xs.getD i 0 ≤ n
def valI (ps : List Int) (l : Int) : Int := if l < 0 then -(ps.getD (-l - 1).toNat 0) else ps.getD (l - 1).toNat 0
/-- what unitOf answers -/
structure UOk (xs ps : List Int) (u : Int) (cf : Bool) : Prop where
  conf : cf = true → u = 0 ∧ ∀ i, i < xs.length → valI ps (xs.getD i 0) = -1
  unit : u ≠ 0 → cf = false ∧ valI ps u = 0 ∧ (∃ i, i < xs.length ∧ xs.getD i 0 = u) ∧ ∀ i, i < xs.length → xs.getD i 0 = u ∨ valI ps (xs.getD i 0) = -1
  none : cf = false → u = 0 → ∃ i, i < xs.length ∧ valI ps (xs.getD i 0) ≠ -1
theorem UOk.rng {n : Int} {xs ps : List Int} {u : Int} {cf : Bool} (h : UOk xs ps u cf) (hx : LitOk n xs) (hu : u ≠ 0) : -n ≤ u ∧ u ≤ n := by
  obtain ⟨-, -, ⟨i, hi, rfl⟩, -⟩ := h.unit hu
  exact (hx.2 i hi).2
open Go.RowKit
abbrev ndA (n : Nt) (k : Int) : Int := (n.gs.getD (k - n.fst).toNat an0).a
abbrev ndB (n : Nt) (k : Int) : Int := (n.gs.getD (k - n.fst).toNat an0).b
abbrev mk (bs : List Bl) (k : Int) : Prop := (bs.getD k.toNat bl0).b = true
theorem nd_ok {n : Nt} (hn : NtOk n) {k : Int} (h0 : n.fst ≤ k) (h1 : k < n.cnt) : (k - n.fst).toNat < n.gs.length ∧ 0 ≤ n.fst ∧ 0 ≤ ndA n k ∧ ndA n k < 2 * k ∧ 0 ≤ ndB n k ∧ ndB n k < 2 * k := by
  have hc : n.cnt = n.fst + n.gs.length := by unfold Nt.cnt Nt.fst; omega
  have hf : 0 ≤ n.fst := by have := hn.i0; unfold Nt.fst; omega
  have ha := hn.an (k - n.fst).toNat (by omega)
  unfold LtOk at ha
  unfold ndA ndB
  omega
structure MkOk (n : Nt) (node : Int) (bs bs' : List Bl) : Prop where
  len : bs'.length = bs.length
  mono : ∀ k : Int, 0 ≤ k → mk bs k → mk bs' k
  at_ : mk bs' node
  new : ∀ k : Int, n.fst ≤ k → k < n.cnt → mk bs' k → mk bs k ∨ (mk bs' (ndA n k / 2) ∧ mk bs' (ndB n k / 2))
theorem mk_set {bs : List Bl} {j : Nat} {b : Bl} (hj : j < bs.length) (hb : b.b = true) {k : Int} : mk (bs.set j b) k ↔ k.toNat = j ∨ mk bs k := by
  unfold mk
  by_cases e : k.toNat = j
  · rw [e, getD_set_self' hj]; exact ⟨fun _ => .inl rfl, fun _ => hb⟩
  · rw [List.getD_eq_getElem?_getD, List.getElem?_set_ne (fun h => e h.symm), ← List.getD_eq_getElem?_getD]
    exact ⟨fun h => .inr h, fun h => h.resolve_left e⟩
theorem mk_same {n : Nt} {node : Int} {bs : List Bl} (h : mk bs node) : MkOk n node bs bs := ⟨rfl, fun _ _ h => h, h, fun k _ _ h => .inl h⟩
theorem mk_leaf {n : Nt} {node : Int} {bs : List Bl} {b : Bl} (h0 : 0 ≤ node) (h1 : node.toNat < bs.length) (hf : 0 ≤ n.fst) (hl : node < n.fst) (hb : b.b = true) : MkOk n node bs (bs.set node.toNat b) :=
  ⟨by simp, fun k k0 h => (mk_set h1 hb).2 (.inr h), (mk_set h1 hb).2 (.inl rfl), fun k k0 k1 h => by
    rcases (mk_set h1 hb).1 h with h | h
    · omega
    · exact .inl h⟩
theorem mk_and {n : Nt} (hn : NtOk n) {node : Int} {bs b2 b3 : List Bl} {b : Bl} (h0 : n.fst ≤ node) (h9 : node < n.cnt) (h1 : node.toNat < bs.length) (hb : b.b = true) (ha : MkOk n (ndA n node / 2) (bs.set node.toNat b) b2) (hc : MkOk n (ndB n node / 2) b2 b3) : MkOk n node bs b3 := by
  obtain ⟨o1, o2, o3, o4, o5, o6⟩ := nd_ok hn h0 h9
  have hm : ∀ k : Int, 0 ≤ k → mk (bs.set node.toNat b) k → mk b3 k := fun k k0 h => hc.mono k k0 (ha.mono k k0 h)
  refine ⟨by rw [hc.len, ha.len]; simp, fun k k0 h => hm k k0 ((mk_set h1 hb).2 (.inr h)), hm node (by omega) ((mk_set h1 hb).2 (.inl rfl)), fun k k0 k1 h => ?_⟩
  obtain ⟨p1, p2, p3, p4, p5, p6⟩ := nd_ok hn k0 k1
  rcases hc.new k k0 k1 h with h | h
  · rcases ha.new k k0 k1 h with h | h
    · rcases (mk_set h1 hb).1 h with h | h
      · have : k = node := by omega
        subst this
        exact .inr ⟨hc.mono _ (by omega) ha.at_, hc.at_⟩
      · exact .inl h
    · exact .inr ⟨hc.mono _ (by omega) h.1, hc.mono _ (by omega) h.2⟩
  · exact .inr h
/-- the marked ones -/
def mkL (bs : List Bl) (k : Nat) : List Int := ((List.range k).filter fun i : Nat => (bs.getD i bl0).b).map fun i : Nat => (i : Int)
theorem mkL_yes {bs : List Bl} {k : Nat} (h : (bs.getD k bl0).b = true) : mkL bs k ++ [(k : Int)] = mkL bs (k + 1) := by
  unfold mkL; rw [List.range_succ, List.filter_append, List.map_append, List.filter_cons_of_pos (p := fun i : Nat => (bs.getD i bl0).b) h]; rfl
theorem mkL_no {bs : List Bl} {k : Nat} (h : (bs.getD k bl0).b = false) : mkL bs k = mkL bs (k + 1) := by
  unfold mkL; rw [List.range_succ, List.filter_append, List.map_append, List.filter_cons_of_neg (p := fun i : Nat => (bs.getD i bl0).b) (by simpa using h)]; simp
theorem mkL_len (bs : List Bl) (k : Nat) : (mkL bs k).length ≤ k := by
  unfold mkL; rw [List.length_map]; have := List.length_filter_le (fun i => (bs.getD i bl0).b) (List.range k); simpa using this
theorem mkL_mem {bs : List Bl} {k : Nat} {x : Int} : x ∈ mkL bs k ↔ (0 ≤ x ∧ x < k) ∧ mk bs x := by
  unfold mkL mk
  simp only [List.mem_map, List.mem_filter, List.mem_range]
  constructor
  · rintro ⟨i, ⟨h1, h2⟩, rfl⟩
    exact ⟨⟨by omega, by omega⟩, by rw [Int.toNat_natCast]; exact h2⟩
  · rintro ⟨⟨h1, h2⟩, h3⟩
    exact ⟨x.toNat, ⟨by omega, h3⟩, by omega⟩
structure ConeOk (n : Nt) (node : Int) (xs : List Int) : Prop where
  len : xs.length ≤ n.cnt.toNat
  rng : ∀ x ∈ xs, 0 ≤ x ∧ x < n.cnt
  top : node ∈ xs
  clo : ∀ k ∈ xs, n.fst ≤ k → ndA n k / 2 ∈ xs ∧ ndB n k / 2 ∈ xs
theorem cone_of {n : Nt} (hn : NtOk n) {node : Int} {bs : List Bl} (h0 : 0 ≤ node) (h1 : node < n.cnt) (hl : bs.length = n.cnt.toNat) (h : MkOk n node (List.replicate n.cnt.toNat bl0) bs) : ConeOk n node (mkL bs bs.length) := by
  have hno : ∀ k : Int, ¬ mk (List.replicate n.cnt.toNat bl0) k := fun k hk => by
    unfold mk at hk
    rw [List.getD_eq_getElem?_getD, List.getElem?_replicate] at hk
    split at hk <;> exact absurd hk (by decide)
  refine ⟨by have := mkL_len bs bs.length; omega, fun x hx => by have := (mkL_mem.1 hx).1; omega, mkL_mem.2 ⟨by omega, h.at_⟩, fun k hk hf => ?_⟩
  obtain ⟨hk1, hk2⟩ := mkL_mem.1 hk
  obtain ⟨p1, p2, p3, p4, p5, p6⟩ := nd_ok hn hf (by omega)
  have := (h.new k hf (by omega) hk2).resolve_left (hno k)
  exact ⟨mkL_mem.2 ⟨by omega, this.1⟩, mkL_mem.2 ⟨by omega, this.2⟩⟩
set_option maxHeartbeats 4000000 in
set_option maxRecDepth 100000 in
theorem markCone_step (n : Nt) (node : Int) (bs : List Bl) (v : Value) (w0 : World) (l : List HP) (w : World) (hm0 : Mem w0 (rowE 4 1 v bs.length (bs.flatMap blC) :: l) w) (hr : RdsNt w0 n) (hn : NtOk n) (hnd : 0 ≤ node ∧ node < n.cnt) (hbl : (bs.length : Int) = n.cnt) (IH : ∀ (m : Int) (bs2 : List Bl) (l2 : List HP) (w2 : World), 0 ≤ m → m < node → bs2.length = bs.length → Mem w0 (rowE 4 1 v (bs2).length ((bs2).flatMap blC) :: l2) w2 → Calls Try.prog 131 #[n.agg, .int .i64 m, v] w2 (fun e_ w_ => ∃ v_ p_, e_ = .returned v_ ∧ (∃ bs' : List Bl, p_ = rowE 4 1 v (bs').length ((bs').flatMap blC) ∧ MkOk n m bs2 bs') ∧ Mem w0 (p_ :: l2) w_)) :
  Calls Try.prog 131 #[.agg #[.int .i64 n.ins, n.sv, n.av, n.ov], .int .i64 node, v] w (fun e_ w_ => ∃ v_ p_, e_ = .returned v_ ∧ (fun v_ p_ => ∃ bs' : List Bl, p_ = rowE 4 1 v (bs').length ((bs').flatMap blC) ∧ MkOk n node bs bs') v_ p_ ∧ Mem w0 (p_ :: l) w_) := by
 have hi0 := hn.i0
 have hi1 := hn.i1
 have hs1 := hn.s1
 have ha1 := hn.a1
 have ho1 := hn.o1
 have hcnt : n.cnt = 1 + n.ins + n.ss.length + n.gs.length := rfl
 have hfst : n.fst = 1 + n.ins + n.ss.length := rfl
 refine calls_hcM (N := 40) (args := [.agg #[.int .i64 n.ins, n.sv, n.av, n.ov], .int .i64 node, v]) Try.func131 rfl rfl hm0 ?_
 refine hc_less _ (sx 0 rfl (sx 1 rfl (sx 2 rfl (sub_nil _)))) (.refl _) ?_
 refine hc_seq ?_
 refine hc_region ?_
 refine hl_box rfl rfl rfl (rq_box rfl rfl) ?_
 intro b1
 refine hl_less (sx 0 rfl (sx 1 rfl (sx 2 rfl (sx 3 rfl (sub_nil _))))) (.refl _) ?_
 refine hl_nil ?_
 refine hq_then ?_
 refine hc_seq ?_
 refine hc_seq ?_
 refine hc_region ?_
 refine hl_v rfl rfl rfl (rv_ev rfl) ?_
 refine hl_v rfl rfl rfl (rv_ev rfl) ?_
 refine hl_v rfl rfl rfl (rv_index (s := 1) rfl Try.underlying45 (by kernel_rfl) rfl rfl (rd_row 1 rfl) (by omega) (by first | omega | (simp only [List.length_set]; omega))) ?_
 refine hl_v rfl rfl rfl (rv_loadEl (u := .bool ((bs.getD ((node).toNat) bl0).b)) rfl (by kernel_rfl) rfl (rd_row 1 rfl) (flat_one blC (fun r => .bool r.b) (fun _ => rfl) bs bl0 (show (node).toNat < _ by first | omega | (simp only [List.length_set]; omega)))) ?_
 refine hl_bool (fun h2 => ?_) (fun h2 => ?_)
 ·
  refine hl_less (sx 0 rfl (sx 1 rfl (sx 2 rfl (sx 3 rfl (sx 10 rfl (sub_nil _)))))) (.refl _) ?_
  refine hl_nil ?_
  refine hq_then ?_
  refine hc_true rfl ?_
  refine hc_ret ?_
  refine hq_then_ret ?_
  exact hq_ret (rs := []) (vs := []) rfl trivial rfl (fun w hm => ⟨_, rowE 4 1 v bs.length (bs.flatMap blC), rfl, ⟨_, rfl, mk_same (by unfold mk; assumption)⟩, hm.sub ((.cons _ (.cons_cons _ (.refl _))))⟩)
 ·
  refine hl_less (sx 0 rfl (sx 1 rfl (sx 2 rfl (sx 3 rfl (sx 10 rfl (sub_nil _)))))) (.refl _) ?_
  refine hl_nil ?_
  refine hq_then ?_
  refine hc_false rfl ?_
  refine hc_skip ?_
  refine hq_then ?_
  refine hc_seq ?_
  refine hc_region ?_
  refine hl_v rfl rfl rfl (rv_ev rfl) ?_
  refine hl_v rfl rfl rfl (rv_ev rfl) ?_
  refine hl_v rfl rfl rfl (rv_index (s := 1) rfl Try.underlying45 (by kernel_rfl) rfl rfl (rd_row 1 rfl) (by omega) (by first | omega | (simp only [List.length_set]; omega))) ?_
  refine hl_storeEl (i := 1) (n' := (bs.set ((node).toNat) { bs.getD ((node).toNat) bl0 with b := true }).length) (xs' := ((bs.set ((node).toNat) { bs.getD ((node).toNat) bl0 with b := true }).flatMap blC)) (l' := (boxE b1 #[.int .i64 n.ins, n.sv, n.av, n.ov] 28 :: rowE 4 1 v ((bs.set ((node).toNat) { bs.getD ((node).toNat) bl0 with b := true }).length) ((bs.set ((node).toNat) { bs.getD ((node).toNat) bl0 with b := true }).flatMap blC) :: l)) rfl rfl rfl (by kernel_rfl) rfl rfl rfl rfl (by first | omega | (simp only [List.length_set]; omega)) List.length_set.symm (flat_set1 blC (fun r => .bool r.b) (fun _ => rfl) _ ({ bs.getD ((node).toNat) bl0 with b := true }) rfl) rfl ?_
  refine hl_less (sx 0 rfl (sx 1 rfl (sx 2 rfl (sx 3 rfl (sx 10 rfl (sub_nil _)))))) (.refl _) ?_
  refine hl_nil ?_
  refine hq_then ?_
  refine hc_seq ?_
  refine hc_region ?_
  refine hl_v rfl rfl rfl (rv_ev rfl) ?_
  refine hl_v rfl rfl rfl (rv_loadN (cs := [.int .i64 n.ins, n.sv, n.av, n.ov]) rfl (by kernel_rfl) (by kernel_rfl) rfl rfl (box_part 0 rfl 0 rfl)) ?_
  refine hl_callV rfl rfl rfl (rq_call (by kernel_rfl) rfl (fun w hm => ret_ans (firstAnd_yes n w (hr.below hm.bel) hn))) ?_
  refine hl_v rfl rfl rfl (rv_sub rfl rfl rfl (by constructor <;> omega)) ?_
  refine hl_v rfl rfl rfl (rv_ev rfl) ?_
  refine hl_less (sx 0 rfl (sx 1 rfl (sx 2 rfl (sx 3 rfl (sx 6 rfl (sx 10 rfl (sub_nil _))))))) (.refl _) ?_
  refine hl_nil ?_
  refine hq_then ?_
  refine hc_seq ?_
  refine hc_region ?_
  refine hl_v rfl rfl rfl (rv_ev rfl) ?_
  refine hl_geq rfl rfl rfl rfl rfl rfl (fun h3 => ?_) (fun h3 => ?_)
  ·
   refine hl_less (sx 0 rfl (sx 1 rfl (sx 2 rfl (sx 3 rfl (sx 6 rfl (sx 10 rfl (sx 19 rfl (sub_nil _)))))))) (.refl _) ?_
   refine hl_nil ?_
   refine hq_then ?_
   refine hc_true rfl ?_
   refine hc_seq ?_
   obtain ⟨o1, o2, o3, o4, o5, o6⟩ := nd_ok hn (k := node) (by omega) (by omega)
   unfold ndA at o3 o4
   unfold ndB at o5 o6
   refine hc_conv (rowE 4 1 v ((bs.set ((node).toNat) { bs.getD ((node).toNat) bl0 with b := true }).length) ((bs.set ((node).toNat) { bs.getD ((node).toNat) bl0 with b := true }).flatMap blC) :: boxE b1 #[.int .i64 n.ins, n.sv, n.av, n.ov] 28 :: l) (conv_pick (src := [boxE b1 #[.int .i64 n.ins, n.sv, n.av, n.ov] 28, rowE 4 1 v ((bs.set ((node).toNat) { bs.getD ((node).toNat) bl0 with b := true }).length) ((bs.set ((node).toNat) { bs.getD ((node).toNat) bl0 with b := true }).flatMap blC)]) (dst := [rowE 4 1 v ((bs.set ((node).toNat) { bs.getD ((node).toNat) bl0 with b := true }).length) ((bs.set ((node).toNat) { bs.getD ((node).toNat) bl0 with b := true }).flatMap blC), boxE b1 #[.int .i64 n.ins, n.sv, n.av, n.ov] 28]) (l := l) [1, 0] (by decide) rfl) ?_
   refine hc_draw2 (l := (boxE b1 #[.int .i64 n.ins, n.sv, n.av, n.ov] 28 :: l)) (by kernel_rfl) 10 [0, 1, 2, 3, 4, 5, 6, 7, 8, 9] (List.take 10 _) (List.drop 10 _) [[], [], [1], [], [2, 3], [4], [5], [6], [], [0, 7, 8]] [20, 21, 22, 23, 24, 25, 26, 27, 28, 29] (fun i_ vs_ v_ p_ => match i_ with | 0 => v_ = .agg #[.int .i64 n.ins, n.sv, n.av, n.ov] ∧ p_ = [] | 1 => v_ = .pointer (some ⟨b1, 0 + 2, none⟩) ∧ p_ = [] | 2 => v_ = n.av ∧ p_ = [] | 3 => v_ = .int .i64 (node - n.fst) ∧ p_ = [] | 4 => v_ = elP n.av ((node - n.fst).toNat * 2) ∧ p_ = [] | 5 => v_ = elP n.av ((node - n.fst).toNat * 2 + 0) ∧ p_ = [] | 6 => v_ = .int .i64 ((n.gs.getD ((node - n.fst).toNat) an0).a) ∧ p_ = [] | 7 => v_ = .int .i64 (((n.gs.getD ((node - n.fst).toNat) an0).a) / 2) ∧ p_ = [] | 8 => v_ = v ∧ p_ = [] | 9 => (∃ pm_, p_ = [pm_] ∧ (fun v_ p_ => ∃ bs' : List Bl, p_ = rowE 4 1 v (bs').length ((bs').flatMap blC) ∧ MkOk n (((n.gs.getD ((node - n.fst).toNat) an0).a) / 2) (bs.set ((node).toNat) { bs.getD ((node).toNat) bl0 with b := true }) bs') v_ pm_) | _ => True) [[], [], [1], [], [2, 3], [4], [5], [6], [], [0, 7, 8]] [none, none, none, none, none, none, none, none, none, some 10] [rowE 4 1 v ((bs.set ((node).toNat) { bs.getD ((node).toNat) bl0 with b := true }).length) ((bs.set ((node).toNat) { bs.getD ((node).toNat) bl0 with b := true }).flatMap blC)] [0, 1, 2, 3, 4, 5, 6, 7, 8, 9] 10 (List.take_append_drop 10 _).symm (by kernel_rfl) (by kernel_rfl) (by kernel_rfl) rfl rfl ?_ ?_
   ·
    refine ⟨?_, ?_, ?_, ?_, ?_, ?_, ?_, ?_, ?_, ?_, trivial⟩
    ·
     intro vf pf hmu hR
     refine Or.inl ⟨rfl, ?_⟩
     show RunQ _ _ _ (([] : List Nat).flatMap pf ++ _) (envOf _ vf [] ++ _) _ _
     refine rq_less (sx 3 rfl (sub_nil _)) (List.sublist_append_right _ _) ?_
     exact rq_v (rv_loadN (cs := [.int .i64 n.ins, n.sv, n.av, n.ov]) rfl (by kernel_rfl) (by kernel_rfl) rfl rfl (box_part 0 rfl 0 rfl))
    ·
     intro vf pf hmu hR
     refine Or.inl ⟨rfl, ?_⟩
     show RunQ _ _ _ (([] : List Nat).flatMap pf ++ _) (envOf _ vf [] ++ _) _ _
     refine rq_less (sx 3 rfl (sub_nil _)) (List.sublist_append_right _ _) ?_
     exact rq_v (rv_field (k0 := 2) rfl (by kernel_rfl) rfl)
    ·
     intro vf pf hmu hR
     have e1 : (vf 1) = .pointer (some ⟨b1, 0 + 2, none⟩) ∧ (pf 1) = [] := hR 1 (by decide)
     refine Or.inl ⟨rfl, ?_⟩
     show RunQ _ _ _ (([1] : List Nat).flatMap pf ++ _) (envOf _ vf [1] ++ _) _ _
     refine rq_less (sx 21 (congrArg some e1.1) (sub_nil _)) (List.sublist_append_right _ _) ?_
     exact rq_v (rv_load rfl (by kernel_rfl) rfl (box_cell 0 rfl rfl))
    ·
     intro vf pf hmu hR
     refine Or.inl ⟨rfl, ?_⟩
     show RunQ _ _ _ (([] : List Nat).flatMap pf ++ _) (envOf _ vf [] ++ _) _ _
     refine rq_less (sx 6 rfl (sub_nil _)) (List.sublist_append_right _ _) ?_
     exact rq_v (rv_ev rfl)
    ·
     intro vf pf hmu hR
     have e2 : (vf 2) = n.av ∧ (pf 2) = [] := hR 2 (by decide)
     have e3 : (vf 3) = .int .i64 (node - n.fst) ∧ (pf 3) = [] := hR 3 (by decide)
     refine Or.inl ⟨rfl, ?_⟩
     show RunQ _ _ _ (([2, 3] : List Nat).flatMap pf ++ _) (envOf _ vf [2, 3] ++ _) _ _
     refine rq_less (sx 22 (congrArg some e2.1) (sx 23 (congrArg some e3.1) (sub_nil _))) (List.sublist_append_right _ _) ?_
     exact rq_v (rv_index (s := 2) rfl Try.underlying25 (by kernel_rfl) rfl rfl (rd_old hr.an) (by omega) (by first | omega | (simp only [List.length_set]; omega)))
    ·
     intro vf pf hmu hR
     have e4 : (vf 4) = elP n.av ((node - n.fst).toNat * 2) ∧ (pf 4) = [] := hR 4 (by decide)
     refine Or.inl ⟨rfl, ?_⟩
     show RunQ _ _ _ (([4] : List Nat).flatMap pf ++ _) (envOf _ vf [4] ++ _) _ _
     refine rq_less (sx 24 (congrArg some e4.1) (sub_nil _)) (List.sublist_append_right _ _) ?_
     exact rq_v (rv_fieldEl (k0 := 0) rfl (by kernel_rfl) rfl (rd_old hr.an) (by first | omega | (simp only [List.length_set]; omega)))
    ·
     intro vf pf hmu hR
     have e5 : (vf 5) = elP n.av ((node - n.fst).toNat * 2 + 0) ∧ (pf 5) = [] := hR 5 (by decide)
     refine Or.inl ⟨rfl, ?_⟩
     show RunQ _ _ _ (([5] : List Nat).flatMap pf ++ _) (envOf _ vf [5] ++ _) _ _
     refine rq_less (sx 25 (congrArg some e5.1) (sub_nil _)) (List.sublist_append_right _ _) ?_
     exact rq_v (rv_loadEl (u := .int .i64 ((n.gs.getD ((node - n.fst).toNat) an0).a)) rfl (by kernel_rfl) rfl (rd_old hr.an) ((flat_at anC 2 (fun _ => rfl) n.gs an0 (show (node - n.fst).toNat < _ by first | omega | (simp only [List.length_set]; omega)) (by decide)).trans rfl))
    ·
     intro vf pf hmu hR
     have e6 : (vf 6) = .int .i64 ((n.gs.getD ((node - n.fst).toNat) an0).a) ∧ (pf 6) = [] := hR 6 (by decide)
     refine Or.inl ⟨rfl, ?_⟩
     show RunQ _ _ _ (([6] : List Nat).flatMap pf ++ _) (envOf _ vf [6] ++ _) _ _
     refine rq_less (sx 26 (congrArg some e6.1) (sub_nil _)) (List.sublist_append_right _ _) ?_
     exact rq_v (rv_quo rfl rfl rfl (by refine ⟨?_, ?_, ?_⟩ <;> omega))
    ·
     intro vf pf hmu hR
     refine Or.inl ⟨rfl, ?_⟩
     show RunQ _ _ _ (([] : List Nat).flatMap pf ++ _) (envOf _ vf [] ++ _) _ _
     refine rq_less (sx 2 rfl (sub_nil _)) (List.sublist_append_right _ _) ?_
     exact rq_v (rv_ev rfl)
    ·
     intro vf pf hmu hR
     have e0 : (vf 0) = .agg #[.int .i64 n.ins, n.sv, n.av, n.ov] ∧ (pf 0) = [] := hR 0 (by decide)
     have e7 : (vf 7) = .int .i64 (((n.gs.getD ((node - n.fst).toNat) an0).a) / 2) ∧ (pf 7) = [] := hR 7 (by decide)
     have e8 : (vf 8) = v ∧ (pf 8) = [] := hR 8 (by decide)
     refine Or.inl ⟨rfl, ?_⟩
     show RunM _ _ _ (pf 10) (([0, 7, 8] : List Nat).flatMap pf ++ _) (envOf _ vf [0, 7, 8] ++ _) _ _
     rw [hmu]
     refine rm_less (X' := (boxE b1 #[.int .i64 n.ins, n.sv, n.av, n.ov] 28 :: l)) (sx 20 (congrArg some e0.1) (sx 27 (congrArg some e7.1) (sx 28 (congrArg some e8.1) (sub_nil _)))) (by first | (simp only [e0.2, e7.2, e8.2, List.flatMap_cons, List.flatMap_nil, List.append_nil, List.nil_append, List.cons_append]; exact List.Sublist.refl _) | simp [e0.2, e7.2, e8.2]) ?_
     exact rq_callM (R := (fun v_ p_ => ∃ bs' : List Bl, p_ = rowE 4 1 v (bs').length ((bs').flatMap blC) ∧ MkOk n (((n.gs.getD ((node - n.fst).toNat) an0).a) / 2) (bs.set ((node).toNat) { bs.getD ((node).toNat) bl0 with b := true }) bs')) (by kernel_rfl) rfl (fun L w hX hm => IH (((n.gs.getD ((node - n.fst).toNat) an0).a) / 2) (bs.set ((node).toNat) { bs.getD ((node).toNat) bl0 with b := true }) _ _ (by omega) (by omega) (by first | (rw [List.length_set]; done) | (rw [lb2, List.length_set])) hm)
   ·
    intro vf pf hmu hR
    have e9 : (∃ pm_, (pf 9) = [pm_] ∧ (fun v_ p_ => ∃ bs' : List Bl, p_ = rowE 4 1 v (bs').length ((bs').flatMap blC) ∧ MkOk n (((n.gs.getD ((node - n.fst).toNat) an0).a) / 2) (bs.set ((node).toNat) { bs.getD ((node).toNat) bl0 with b := true }) bs') (vf 9) pm_) := hR 9 (by decide)
    obtain ⟨p5, p9, hR6⟩ := e9
    obtain ⟨v4, v9⟩ : ∃ x, vf 9 = x := ⟨_, rfl⟩
    try rw [v9] at hR6
    obtain ⟨b2, rfl, hb2⟩ := hR6
    have lb2 := hb2.len
    have q0 : (vf 0) = .agg #[.int .i64 n.ins, n.sv, n.av, n.ov] ∧ (pf 0) = [] := hR 0 (by decide)
    have q1 : (vf 1) = .pointer (some ⟨b1, 0 + 2, none⟩) ∧ (pf 1) = [] := hR 1 (by decide)
    have q2 : (vf 2) = n.av ∧ (pf 2) = [] := hR 2 (by decide)
    have q3 : (vf 3) = .int .i64 (node - n.fst) ∧ (pf 3) = [] := hR 3 (by decide)
    have q4 : (vf 4) = elP n.av ((node - n.fst).toNat * 2) ∧ (pf 4) = [] := hR 4 (by decide)
    have q5 : (vf 5) = elP n.av ((node - n.fst).toNat * 2 + 0) ∧ (pf 5) = [] := hR 5 (by decide)
    have q6 : (vf 6) = .int .i64 ((n.gs.getD ((node - n.fst).toNat) an0).a) ∧ (pf 6) = [] := hR 6 (by decide)
    have q7 : (vf 7) = .int .i64 (((n.gs.getD ((node - n.fst).toNat) an0).a) / 2) ∧ (pf 7) = [] := hR 7 (by decide)
    have q8 : (vf 8) = v ∧ (pf 8) = [] := hR 8 (by decide)
    refine hl_less (l' := (rowE 4 1 v b2.length (b2.flatMap blC) :: boxE b1 #[.int .i64 n.ins, n.sv, n.av, n.ov] 28 :: l)) (sx 0 rfl (sx 1 rfl (sx 2 rfl (sx 3 rfl (sx 6 rfl (sx 10 rfl (sx 19 rfl (sub_nil _)))))))) (by first | (simp only [p9, v9, q0.2, q1.2, q2.2, q3.2, q4.2, q5.2, q6.2, q7.2, q8.2, List.flatMap_cons, List.flatMap_nil, List.append_nil, List.nil_append, List.cons_append]; exact List.Sublist.refl _) | simp [p9, v9, q0.2, q1.2, q2.2, q3.2, q4.2, q5.2, q6.2, q7.2, q8.2]) ?_
    simp only [List.drop_succ_cons, List.drop_zero]
    refine hl_less (sx 0 rfl (sx 1 rfl (sx 2 rfl (sx 3 rfl (sx 6 rfl (sx 10 rfl (sx 19 rfl (sub_nil _)))))))) (.refl _) ?_
    refine hl_nil ?_
    refine hq_then ?_
    refine hc_draw2 (l := (boxE b1 #[.int .i64 n.ins, n.sv, n.av, n.ov] 28 :: l)) (by kernel_rfl) 10 [0, 1, 2, 3, 4, 5, 6, 7, 8, 9] (List.take 10 _) (List.drop 10 _) [[], [], [1], [], [2, 3], [4], [5], [6], [], [0, 7, 8]] [30, 31, 32, 33, 34, 35, 36, 37, 38, 39] (fun i_ vs_ v_ p_ => match i_ with | 0 => v_ = .agg #[.int .i64 n.ins, n.sv, n.av, n.ov] ∧ p_ = [] | 1 => v_ = .pointer (some ⟨b1, 0 + 2, none⟩) ∧ p_ = [] | 2 => v_ = n.av ∧ p_ = [] | 3 => v_ = .int .i64 (node - n.fst) ∧ p_ = [] | 4 => v_ = elP n.av ((node - n.fst).toNat * 2) ∧ p_ = [] | 5 => v_ = elP n.av ((node - n.fst).toNat * 2 + 1) ∧ p_ = [] | 6 => v_ = .int .i64 ((n.gs.getD ((node - n.fst).toNat) an0).b) ∧ p_ = [] | 7 => v_ = .int .i64 (((n.gs.getD ((node - n.fst).toNat) an0).b) / 2) ∧ p_ = [] | 8 => v_ = v ∧ p_ = [] | 9 => (∃ pm_, p_ = [pm_] ∧ (fun v_ p_ => ∃ bs' : List Bl, p_ = rowE 4 1 v (bs').length ((bs').flatMap blC) ∧ MkOk n (((n.gs.getD ((node - n.fst).toNat) an0).b) / 2) b2 bs') v_ pm_) | _ => True) [[], [], [1], [], [2, 3], [4], [5], [6], [], [0, 7, 8]] [none, none, none, none, none, none, none, none, none, some 10] [rowE 4 1 v b2.length (b2.flatMap blC)] [0, 1, 2, 3, 4, 5, 6, 7, 8, 9] 10 (List.take_append_drop 10 _).symm (by kernel_rfl) (by kernel_rfl) (by kernel_rfl) rfl rfl ?_ ?_
    ·
     refine ⟨?_, ?_, ?_, ?_, ?_, ?_, ?_, ?_, ?_, ?_, trivial⟩
     ·
      intro vf pf hmu hR
      refine Or.inl ⟨rfl, ?_⟩
      show RunQ _ _ _ (([] : List Nat).flatMap pf ++ _) (envOf _ vf [] ++ _) _ _
      refine rq_less (sx 3 rfl (sub_nil _)) (List.sublist_append_right _ _) ?_
      exact rq_v (rv_loadN (cs := [.int .i64 n.ins, n.sv, n.av, n.ov]) rfl (by kernel_rfl) (by kernel_rfl) rfl rfl (box_part 0 rfl 0 rfl))
     ·
      intro vf pf hmu hR
      refine Or.inl ⟨rfl, ?_⟩
      show RunQ _ _ _ (([] : List Nat).flatMap pf ++ _) (envOf _ vf [] ++ _) _ _
      refine rq_less (sx 3 rfl (sub_nil _)) (List.sublist_append_right _ _) ?_
      exact rq_v (rv_field (k0 := 2) rfl (by kernel_rfl) rfl)
     ·
      intro vf pf hmu hR
      have e1 : (vf 1) = .pointer (some ⟨b1, 0 + 2, none⟩) ∧ (pf 1) = [] := hR 1 (by decide)
      refine Or.inl ⟨rfl, ?_⟩
      show RunQ _ _ _ (([1] : List Nat).flatMap pf ++ _) (envOf _ vf [1] ++ _) _ _
      refine rq_less (sx 31 (congrArg some e1.1) (sub_nil _)) (List.sublist_append_right _ _) ?_
      exact rq_v (rv_load rfl (by kernel_rfl) rfl (box_cell 0 rfl rfl))
     ·
      intro vf pf hmu hR
      refine Or.inl ⟨rfl, ?_⟩
      show RunQ _ _ _ (([] : List Nat).flatMap pf ++ _) (envOf _ vf [] ++ _) _ _
      refine rq_less (sx 6 rfl (sub_nil _)) (List.sublist_append_right _ _) ?_
      exact rq_v (rv_ev rfl)
     ·
      intro vf pf hmu hR
      have e2 : (vf 2) = n.av ∧ (pf 2) = [] := hR 2 (by decide)
      have e3 : (vf 3) = .int .i64 (node - n.fst) ∧ (pf 3) = [] := hR 3 (by decide)
      refine Or.inl ⟨rfl, ?_⟩
      show RunQ _ _ _ (([2, 3] : List Nat).flatMap pf ++ _) (envOf _ vf [2, 3] ++ _) _ _
      refine rq_less (sx 32 (congrArg some e2.1) (sx 33 (congrArg some e3.1) (sub_nil _))) (List.sublist_append_right _ _) ?_
      exact rq_v (rv_index (s := 2) rfl Try.underlying25 (by kernel_rfl) rfl rfl (rd_old hr.an) (by omega) (by first | omega | (simp only [List.length_set]; omega)))
     ·
      intro vf pf hmu hR
      have e4 : (vf 4) = elP n.av ((node - n.fst).toNat * 2) ∧ (pf 4) = [] := hR 4 (by decide)
      refine Or.inl ⟨rfl, ?_⟩
      show RunQ _ _ _ (([4] : List Nat).flatMap pf ++ _) (envOf _ vf [4] ++ _) _ _
      refine rq_less (sx 34 (congrArg some e4.1) (sub_nil _)) (List.sublist_append_right _ _) ?_
      exact rq_v (rv_fieldEl (k0 := 1) rfl (by kernel_rfl) rfl (rd_old hr.an) (by first | omega | (simp only [List.length_set]; omega)))
     ·
      intro vf pf hmu hR
      have e5 : (vf 5) = elP n.av ((node - n.fst).toNat * 2 + 1) ∧ (pf 5) = [] := hR 5 (by decide)
      refine Or.inl ⟨rfl, ?_⟩
      show RunQ _ _ _ (([5] : List Nat).flatMap pf ++ _) (envOf _ vf [5] ++ _) _ _
      refine rq_less (sx 35 (congrArg some e5.1) (sub_nil _)) (List.sublist_append_right _ _) ?_
      exact rq_v (rv_loadEl (u := .int .i64 ((n.gs.getD ((node - n.fst).toNat) an0).b)) rfl (by kernel_rfl) rfl (rd_old hr.an) ((flat_at anC 2 (fun _ => rfl) n.gs an0 (show (node - n.fst).toNat < _ by first | omega | (simp only [List.length_set]; omega)) (by decide)).trans rfl))
     ·
      intro vf pf hmu hR
      have e6 : (vf 6) = .int .i64 ((n.gs.getD ((node - n.fst).toNat) an0).b) ∧ (pf 6) = [] := hR 6 (by decide)
      refine Or.inl ⟨rfl, ?_⟩
      show RunQ _ _ _ (([6] : List Nat).flatMap pf ++ _) (envOf _ vf [6] ++ _) _ _
      refine rq_less (sx 36 (congrArg some e6.1) (sub_nil _)) (List.sublist_append_right _ _) ?_
      exact rq_v (rv_quo rfl rfl rfl (by refine ⟨?_, ?_, ?_⟩ <;> omega))
     ·
      intro vf pf hmu hR
      refine Or.inl ⟨rfl, ?_⟩
      show RunQ _ _ _ (([] : List Nat).flatMap pf ++ _) (envOf _ vf [] ++ _) _ _
      refine rq_less (sx 2 rfl (sub_nil _)) (List.sublist_append_right _ _) ?_
      exact rq_v (rv_ev rfl)
     ·
      intro vf pf hmu hR
      have e0 : (vf 0) = .agg #[.int .i64 n.ins, n.sv, n.av, n.ov] ∧ (pf 0) = [] := hR 0 (by decide)
      have e7 : (vf 7) = .int .i64 (((n.gs.getD ((node - n.fst).toNat) an0).b) / 2) ∧ (pf 7) = [] := hR 7 (by decide)
      have e8 : (vf 8) = v ∧ (pf 8) = [] := hR 8 (by decide)
      refine Or.inl ⟨rfl, ?_⟩
      show RunM _ _ _ (pf 10) (([0, 7, 8] : List Nat).flatMap pf ++ _) (envOf _ vf [0, 7, 8] ++ _) _ _
      rw [hmu]
      refine rm_less (X' := (boxE b1 #[.int .i64 n.ins, n.sv, n.av, n.ov] 28 :: l)) (sx 30 (congrArg some e0.1) (sx 37 (congrArg some e7.1) (sx 38 (congrArg some e8.1) (sub_nil _)))) (by first | (simp only [e0.2, e7.2, e8.2, List.flatMap_cons, List.flatMap_nil, List.append_nil, List.nil_append, List.cons_append]; exact List.Sublist.refl _) | simp [e0.2, e7.2, e8.2]) ?_
      exact rq_callM (R := (fun v_ p_ => ∃ bs' : List Bl, p_ = rowE 4 1 v (bs').length ((bs').flatMap blC) ∧ MkOk n (((n.gs.getD ((node - n.fst).toNat) an0).b) / 2) b2 bs')) (by kernel_rfl) rfl (fun L w hX hm => IH (((n.gs.getD ((node - n.fst).toNat) an0).b) / 2) b2 _ _ (by omega) (by omega) (by first | (rw [List.length_set]; done) | (rw [lb2, List.length_set])) hm)
    ·
     intro vf pf hmu hR
     have e9 : (∃ pm_, (pf 9) = [pm_] ∧ (fun v_ p_ => ∃ bs' : List Bl, p_ = rowE 4 1 v (bs').length ((bs').flatMap blC) ∧ MkOk n (((n.gs.getD ((node - n.fst).toNat) an0).b) / 2) b2 bs') (vf 9) pm_) := hR 9 (by decide)
     obtain ⟨p8, p9, hR9⟩ := e9
     obtain ⟨v7, v9⟩ : ∃ x, vf 9 = x := ⟨_, rfl⟩
     try rw [v9] at hR9
     obtain ⟨b3, rfl, hb3⟩ := hR9
     have lb3 := hb3.len
     have q0 : (vf 0) = .agg #[.int .i64 n.ins, n.sv, n.av, n.ov] ∧ (pf 0) = [] := hR 0 (by decide)
     have q1 : (vf 1) = .pointer (some ⟨b1, 0 + 2, none⟩) ∧ (pf 1) = [] := hR 1 (by decide)
     have q2 : (vf 2) = n.av ∧ (pf 2) = [] := hR 2 (by decide)
     have q3 : (vf 3) = .int .i64 (node - n.fst) ∧ (pf 3) = [] := hR 3 (by decide)
     have q4 : (vf 4) = elP n.av ((node - n.fst).toNat * 2) ∧ (pf 4) = [] := hR 4 (by decide)
     have q5 : (vf 5) = elP n.av ((node - n.fst).toNat * 2 + 1) ∧ (pf 5) = [] := hR 5 (by decide)
     have q6 : (vf 6) = .int .i64 ((n.gs.getD ((node - n.fst).toNat) an0).b) ∧ (pf 6) = [] := hR 6 (by decide)
     have q7 : (vf 7) = .int .i64 (((n.gs.getD ((node - n.fst).toNat) an0).b) / 2) ∧ (pf 7) = [] := hR 7 (by decide)
     have q8 : (vf 8) = v ∧ (pf 8) = [] := hR 8 (by decide)
     refine hl_less (l' := (rowE 4 1 v b3.length (b3.flatMap blC) :: boxE b1 #[.int .i64 n.ins, n.sv, n.av, n.ov] 28 :: l)) (sx 0 rfl (sx 1 rfl (sx 2 rfl (sx 3 rfl (sx 6 rfl (sx 10 rfl (sx 19 rfl (sub_nil _)))))))) (by first | (simp only [p9, v9, q0.2, q1.2, q2.2, q3.2, q4.2, q5.2, q6.2, q7.2, q8.2, List.flatMap_cons, List.flatMap_nil, List.append_nil, List.nil_append, List.cons_append]; exact List.Sublist.refl _) | simp [p9, v9, q0.2, q1.2, q2.2, q3.2, q4.2, q5.2, q6.2, q7.2, q8.2]) ?_
     simp only [List.drop_succ_cons, List.drop_zero]
     refine hl_less (sx 0 rfl (sx 1 rfl (sx 2 rfl (sx 3 rfl (sx 6 rfl (sx 10 rfl (sx 19 rfl (sub_nil _)))))))) (.refl _) ?_
     refine hl_nil ?_
     refine hq_normal ?_
     exact hq_ret (rs := []) (vs := []) rfl trivial rfl (fun w hm => ⟨_, rowE 4 1 v b3.length (b3.flatMap blC), rfl, ⟨_, rfl, mk_and hn (by omega) (by omega) (by omega) rfl hb2 hb3⟩, hm.sub ((.cons_cons _ (.cons _ (.refl _))))⟩)
  ·
   refine hl_less (sx 0 rfl (sx 1 rfl (sx 2 rfl (sx 3 rfl (sx 6 rfl (sx 10 rfl (sx 19 rfl (sub_nil _)))))))) (.refl _) ?_
   refine hl_nil ?_
   refine hq_then ?_
   refine hc_false rfl ?_
   refine hc_skip ?_
   refine hq_normal ?_
   exact hq_ret (rs := []) (vs := []) rfl trivial rfl (fun w hm => ⟨_, rowE 4 1 v ((bs.set ((node).toNat) { bs.getD ((node).toNat) bl0 with b := true }).length) ((bs.set ((node).toNat) { bs.getD ((node).toNat) bl0 with b := true }).flatMap blC), rfl, ⟨_, rfl, mk_leaf (by omega) (by omega) (by omega) (by omega) rfl⟩, hm.sub ((.cons _ (.cons_cons _ (.refl _))))⟩)
theorem markCone_mut (n : Nt) (v : Value) (w0 : World) (hr : RdsNt w0 n) (hn : NtOk n) : ∀ (k : Nat) (node : Int) (bs : List Bl) (l : List HP) (w : World), node.toNat < k → 0 ≤ node → node < n.cnt → (bs.length : Int) = n.cnt → Mem w0 (rowE 4 1 v (bs).length ((bs).flatMap blC) :: l) w →
    Calls Try.prog 131 #[n.agg, .int .i64 node, v] w (fun e_ w_ => ∃ v_ p_, e_ = .returned v_ ∧ (∃ bs' : List Bl, p_ = rowE 4 1 v (bs').length ((bs').flatMap blC) ∧ MkOk n node bs bs') ∧ Mem w0 (p_ :: l) w_)
  | 0, node, bs, l, w, hk, h0, h1, hl, hm => absurd hk (by omega)
  | k + 1, node, bs, l, w, hk, h0, h1, hl, hm => markCone_step n node bs v w0 l w hm hr hn ⟨h0, h1⟩ hl (fun m bs2 l2 w2 m0 m1 hb hm2 => markCone_mut n v w0 hr hn k m bs2 l2 w2 (by omega) m0 (by omega) (by omega) hm2)
set_option maxHeartbeats 4000000 in
set_option maxRecDepth 100000 in
theorem marked_ret (bs : List Bl) (v : Value) (w : World) (hv : RdsW w v 1 bs.length (bs.flatMap blC)) (hl : bs.length ≤ 1000000) :
  Calls Try.prog 132 #[v] w (Ret w (fun v' post => post = [rowE 3 1 v' (mkL bs bs.length).length ((mkL bs bs.length).map (Value.int .i64))])) := by
 refine calls_hc (N := 20) (args := [v]) Try.func132 rfl rfl ?_
 refine hc_less _ (sx 0 rfl (sub_nil _)) (.refl _) ?_
 refine hc_seq ?_
 refine hc_region ?_
 refine hl_v rfl rfl rfl (rv_ev rfl) ?_
 refine hl_less (sx 0 rfl (sx 2 rfl (sub_nil _))) (.refl _) ?_
 refine hl_nil ?_
 refine hq_then ?_
 refine hc_seq ?_
 refine hc_region ?_
 refine hl_nilRow 3 1 ?_
 refine hl_v rfl rfl rfl (rv_ev rfl) ?_
 refine hl_less (sx 0 rfl (sx 2 rfl (sx 3 rfl (sub_nil _)))) (.refl _) ?_
 refine hl_nil ?_
 refine hq_then ?_
 refine hc_seq ?_
 refine hc_seq ?_
 refine hc_region ?_
 refine hl_v rfl rfl rfl (rv_ev rfl) ?_
 refine hl_v rfl rfl rfl (rv_len rfl Try.underlying45 rfl (rd_old hv)) ?_
 refine hl_v rfl rfl rfl (rv_ev rfl) ?_
 refine hl_less (sx 0 rfl (sx 2 rfl (sx 3 rfl (sx 6 rfl (sx 7 rfl (sx 8 rfl (sub_nil _))))))) (.refl _) ?_
 refine hl_nil ?_
 refine hq_then ?_
 refine hc_block ?_
 refine hc_loop3 (α := Nat) (β := Value) (γ := List Int) (fun k u zs => [rowE 3 1 u zs.length (zs.map (Value.int .i64))]) (fun k u zs => [(0, v), (2, .slice none 0 0), (3, u), (6, v), (7, .int .i64 (bs.length : Int)), (8, .int .i64 (k : Int))]) (fun k u zs => k ≤ bs.length ∧ zs = mkL bs k) (fun k u zs => bs.length - k) 0 _ [] ⟨by omega, rfl⟩ (sx 0 rfl (sx 2 rfl (sx 3 rfl (sx 6 rfl (sx 7 rfl (sx 8 rfl (sub_nil _))))))) ((.cons_cons _ .slnil)) ?_
 intro k u zs hi2
 obtain ⟨hk, hz⟩ := hi2
 have hzl : zs.length ≤ k := by rw [hz]; exact mkL_len _ _
 refine hc_seq ?_
 refine hc_region ?_
 refine hl_lss rfl rfl rfl rfl rfl rfl (fun h3 => ?_) (fun h3 => ?_)
 ·
  refine hl_less (sx 0 rfl (sx 2 rfl (sx 3 rfl (sx 6 rfl (sx 7 rfl (sx 8 rfl (sx 9 rfl (sub_nil _)))))))) (.refl _) ?_
  refine hl_nil ?_
  refine hq_then ?_
  refine hc_seq ?_
  refine hc_true rfl ?_
  refine hc_skip ?_
  refine hq_then ?_
  refine hc_seq ?_
  refine hc_block ?_
  refine hc_seq ?_
  refine hc_region ?_
  refine hl_v rfl rfl rfl (rv_ev rfl) ?_
  refine hl_v rfl rfl rfl (rv_index (s := 1) rfl Try.underlying45 (by kernel_rfl) rfl rfl (rd_old hv) (by omega) (by first | omega | (simp only [List.length_set]; omega))) ?_
  refine hl_v rfl rfl rfl (rv_loadEl (u := .bool ((bs.getD k bl0).b)) rfl (by kernel_rfl) rfl (rd_old hv) (flat_one blC (fun r => .bool r.b) (fun _ => rfl) bs bl0 (show k < _ by first | omega | (simp only [List.length_set]; omega)))) ?_
  refine hl_bool (fun h4 => ?_) (fun h4 => ?_)
  ·
   refine hl_v rfl rfl rfl (rv_ev rfl) ?_
   refine hl_v rfl rfl rfl (rv_ev rfl) ?_
   refine hl_less (sx 0 rfl (sx 2 rfl (sx 3 rfl (sx 4 rfl (sx 5 rfl (sx 6 rfl (sx 7 rfl (sx 8 rfl (sx 9 rfl (sub_nil _)))))))))) (.refl _) ?_
   refine hl_nil ?_
   refine hq_then ?_
   refine hc_seq ?_
   refine hc_region ?_
   refine hl_v rfl rfl rfl (rv_ev rfl) ?_
   refine hl_less (sx 0 rfl (sx 2 rfl (sx 3 rfl (sx 4 rfl (sx 5 rfl (sx 6 rfl (sx 7 rfl (sx 8 rfl (sx 9 rfl (sx 13 rfl (sub_nil _))))))))))) (.refl _) ?_
   refine hl_nil ?_
   refine hq_then ?_
   refine hc_true rfl ?_
   refine hc_region ?_
   refine hl_v rfl rfl rfl (rv_ev rfl) ?_
   refine hl_v rfl rfl rfl (rv_ev rfl) ?_
   refine hl_row rfl rfl rfl (rq_buildSlice (z := .int .i64 0) (s := 1) (cs := ([(k : Int)].map (Value.int .i64))) rfl Try.underlying26 (by kernel_rfl) (by decide) rfl (by kernel_rfl) rfl) ?_
   intro g5
   refine hl_append (i := 1) (z := .int .i64 0) (bytes := 8) (n' := (zs ++ ([(k : Int)])).length) (xs' := ((zs ++ ([(k : Int)])).map (Value.int .i64))) (L := fun v6 => [rowE 3 1 (.slice (some ⟨g5, 0, none⟩) 1 1) 1 ([(k : Int)].map (Value.int .i64)), rowE 3 1 v6 ((zs ++ ([(k : Int)])).length) ((zs ++ ([(k : Int)])).map (Value.int .i64))]) rfl rfl rfl rfl Try.underlying26 (by kernel_rfl) (by kernel_rfl) rfl rfl rfl (rd_row 0 rfl) (ints_one _) (by first | omega | (simp; omega)) (len_app zs ([(k : Int)])) (ints_app zs ([(k : Int)])) (fun _ => rfl) ?_
   intro v6
   refine hl_v rfl rfl rfl (rv_ev rfl) ?_
   refine hl_less (sx 0 rfl (sx 2 rfl (sx 3 rfl (sx 4 rfl (sx 5 rfl (sx 6 rfl (sx 7 rfl (sx 8 rfl (sx 9 rfl (sx 13 rfl (sub_nil _))))))))))) (.refl _) ?_
   refine hl_nil ?_
   refine hq_block_normal ?_
   refine hq_then ?_
   refine hc_region ?_
   refine hl_v rfl rfl rfl (rv_add rfl rfl rfl (by constructor <;> omega)) ?_
   refine hl_v rfl rfl rfl (rv_ev rfl) ?_
   refine hl_less (sx 0 rfl (sx 2 rfl (sx 3 rfl (sx 4 rfl (sx 5 rfl (sx 6 rfl (sx 7 rfl (sx 8 rfl (sx 9 rfl (sx 13 rfl (sub_nil _))))))))))) (.refl _) ?_
   refine hl_nil ?_
   exact hq_round3 (k + 1) v6 (zs ++ ([(k : Int)])) ⟨by omega, by rw [hz]; exact mkL_yes (by assumption)⟩ (by omega) (sx 0 rfl (sx 2 rfl (sx 3 rfl (sx 6 rfl (sx 7 rfl (sx 8 rfl (sub_nil _))))))) ((.cons _ (.cons_cons _ .slnil)))
  ·
   refine hl_v rfl rfl rfl (rv_ev rfl) ?_
   refine hl_v rfl rfl rfl (rv_ev rfl) ?_
   refine hl_less (sx 0 rfl (sx 2 rfl (sx 3 rfl (sx 4 rfl (sx 5 rfl (sx 6 rfl (sx 7 rfl (sx 8 rfl (sx 9 rfl (sub_nil _)))))))))) (.refl _) ?_
   refine hl_nil ?_
   refine hq_then ?_
   refine hc_seq ?_
   refine hc_region ?_
   refine hl_v rfl rfl rfl (rv_ev rfl) ?_
   refine hl_less (sx 0 rfl (sx 2 rfl (sx 3 rfl (sx 4 rfl (sx 5 rfl (sx 6 rfl (sx 7 rfl (sx 8 rfl (sx 9 rfl (sx 13 rfl (sub_nil _))))))))))) (.refl _) ?_
   refine hl_nil ?_
   refine hq_then ?_
   refine hc_false rfl ?_
   refine hc_skip ?_
   refine hq_block_normal ?_
   refine hq_then ?_
   refine hc_region ?_
   refine hl_v rfl rfl rfl (rv_add rfl rfl rfl (by constructor <;> omega)) ?_
   refine hl_v rfl rfl rfl (rv_ev rfl) ?_
   refine hl_less (sx 0 rfl (sx 2 rfl (sx 3 rfl (sx 4 rfl (sx 5 rfl (sx 6 rfl (sx 7 rfl (sx 8 rfl (sx 9 rfl (sx 13 rfl (sub_nil _))))))))))) (.refl _) ?_
   refine hl_nil ?_
   exact hq_round3 (k + 1) u zs ⟨by omega, by rw [hz]; exact mkL_no (by assumption)⟩ (by omega) (sx 0 rfl (sx 2 rfl (sx 3 rfl (sx 6 rfl (sx 7 rfl (sx 8 rfl (sub_nil _))))))) ((.cons_cons _ .slnil))
 ·
  refine hl_less (sx 0 rfl (sx 2 rfl (sx 3 rfl (sx 6 rfl (sx 7 rfl (sx 8 rfl (sx 9 rfl (sub_nil _)))))))) (.refl _) ?_
  refine hl_nil ?_
  refine hq_then ?_
  refine hc_seq ?_
  refine hc_false rfl ?_
  refine hc_exit ?_
  refine hq_then_exit ?_
  refine hq_then_exit ?_
  refine hq_block_exit ?_
  refine hq_then ?_
  refine hc_seq ?_
  refine hc_region ?_
  refine hl_v rfl rfl rfl (rv_ev rfl) ?_
  refine hl_v rfl rfl rfl (rv_ev rfl) ?_
  refine hl_less (sx 0 rfl (sx 2 rfl (sx 3 rfl (sx 6 rfl (sx 7 rfl (sx 8 rfl (sx 9 rfl (sub_nil _)))))))) (.refl _) ?_
  refine hl_nil ?_
  refine hq_then ?_
  refine hc_ret ?_
  exact hq_retR (post := [rowE 3 1 u zs.length (zs.map (Value.int .i64))]) rfl rfl ((.cons_cons _ .slnil)) (by rw [hz, show k = bs.length by omega])
set_option maxHeartbeats 4000000 in
set_option maxRecDepth 100000 in
theorem cone_ret (n : Nt) (node : Int) (w : World) (hr : RdsNt w n) (hn : NtOk n) (hnd : 0 ≤ node ∧ node < n.cnt) :
  Calls Try.prog 85 #[.agg #[.int .i64 n.ins, n.sv, n.av, n.ov], .int .i64 node] w (Ret w (fun v' post => ∃ xs : List Int, post = [rowE 3 1 v' xs.length (xs.map (Value.int .i64))] ∧ ConeOk n node xs)) := by
 have hi0 := hn.i0
 have hi1 := hn.i1
 have hs1 := hn.s1
 have ha1 := hn.a1
 have ho1 := hn.o1
 have hcnt : n.cnt = 1 + n.ins + n.ss.length + n.gs.length := rfl
 have hfst : n.fst = 1 + n.ins + n.ss.length := rfl
 refine calls_hc (N := 15) (args := [.agg #[.int .i64 n.ins, n.sv, n.av, n.ov], .int .i64 node]) Try.func85 rfl rfl ?_
 refine hc_less _ (sx 0 rfl (sx 1 rfl (sub_nil _))) (.refl _) ?_
 refine hc_seq ?_
 refine hc_region ?_
 refine hl_box rfl rfl rfl (rq_box rfl rfl) ?_
 intro b1
 refine hl_v rfl rfl rfl (rv_ev rfl) ?_
 refine hl_less (sx 0 rfl (sx 1 rfl (sx 2 rfl (sx 4 rfl (sub_nil _))))) (.refl _) ?_
 refine hl_nil ?_
 refine hq_then ?_
 refine hc_seq ?_
 refine hc_region ?_
 refine hl_v rfl rfl rfl (rv_loadN (cs := [.int .i64 n.ins, n.sv, n.av, n.ov]) rfl (by kernel_rfl) (by kernel_rfl) rfl rfl (box_part 0 rfl 0 rfl)) ?_
 refine hl_callV rfl rfl rfl (rq_call (by kernel_rfl) rfl (fun w hm => ret_ans (implnodeCount_yes n w (hr.below hm.bel) hn))) ?_
 refine hl_row rfl rfl rfl (rq_make (z := .bool false) (s := 1) (bytes := 1) (n := (List.replicate (n.cnt).toNat bl0).length) (cs := ((List.replicate (n.cnt).toNat bl0).flatMap blC)) rfl Try.underlying45 (by kernel_rfl) (by decide) rfl rfl (by first | (rw [List.length_replicate]; done) | (rw [List.length_replicate]; omega)) (by first | (rw [List.length_replicate]; done) | (rw [List.length_replicate]; omega)) (by rw [List.length_replicate]; omega) (made_flat blC 1 (fun _ => rfl) bl0 _ rfl (n.cnt).toNat)) ?_
 intro g2
 refine hl_v rfl rfl rfl (rv_ev rfl) ?_
 refine hl_less (sx 0 rfl (sx 1 rfl (sx 2 rfl (sx 4 rfl (sx 5 rfl (sub_nil _)))))) (.refl _) ?_
 refine hl_nil ?_
 refine hq_then ?_
 refine hc_seq ?_
 refine hc_region ?_
 refine hl_v rfl rfl rfl (rv_loadN (cs := [.int .i64 n.ins, n.sv, n.av, n.ov]) rfl (by kernel_rfl) (by kernel_rfl) rfl rfl (box_part 1 rfl 0 rfl)) ?_
 refine hl_v rfl rfl rfl (rv_ev rfl) ?_
 refine hl_v rfl rfl rfl (rv_ev rfl) ?_
 refine hl_callM (R := (fun v_ p_ => ∃ bs' : List Bl, p_ = rowE 4 1 (.slice (some ⟨g2, 0, none⟩) ((List.replicate (n.cnt).toNat bl0).length) ((List.replicate (n.cnt).toNat bl0).length)) (bs').length ((bs').flatMap blC) ∧ MkOk n node (List.replicate (n.cnt).toNat bl0) bs')) 0 rfl rfl (by kernel_rfl) rfl rfl (fun l' w hm => markCone_mut n _ _ hr hn (node.toNat + 1) node (List.replicate (n.cnt).toNat bl0) _ _ (by omega) hnd.1 hnd.2 (by rw [List.length_replicate]; omega) hm) ?_
 intro v3 p4 hR5
 obtain ⟨bs, rfl, hmk⟩ := hR5
 have hbl := hmk.len
 rw [List.length_replicate] at hbl
 refine hl_eqL (l' := [rowE 4 1 (.slice (some ⟨g2, 0, none⟩) ((List.replicate (n.cnt).toNat bl0).length) ((List.replicate (n.cnt).toNat bl0).length)) bs.length (bs.flatMap blC), boxE b1 #[.int .i64 n.ins, n.sv, n.av, n.ov] 28]) rfl ?_
 refine hl_less (sx 0 rfl (sx 1 rfl (sx 2 rfl (sx 4 rfl (sx 5 rfl (sub_nil _)))))) (.refl _) ?_
 refine hl_nil ?_
 refine hq_then ?_
 refine hc_seq ?_
 refine hc_region ?_
 refine hl_v rfl rfl rfl (rv_ev rfl) ?_
 refine hl_q rfl rfl rfl (rq_call (by kernel_rfl) rfl (fun w hm => marked_ret bs _ w (rd_row 0 rfl w hm) (by omega))) ?_
 intro v6 p7 hR8
 subst hR8
 refine hl_v rfl rfl rfl (rv_ev rfl) ?_
 refine hl_less (sx 0 rfl (sx 1 rfl (sx 2 rfl (sx 4 rfl (sx 5 rfl (sub_nil _)))))) (.refl _) ?_
 refine hl_nil ?_
 refine hq_then ?_
 refine hc_ret ?_
 exact hq_retR (post := [rowE 3 1 v6 ((mkL bs bs.length).length) ((mkL bs bs.length).map (Value.int .i64))]) rfl rfl ((.cons_cons _ (.cons _ (.cons _ .slnil)))) ⟨_, rfl, cone_of hn hnd.1 hnd.2 hbl hmk⟩
def insI : List Int → Int → List Int
  | [], x => [x]
  | y :: ys, x => if y < x then y :: insI ys x else if y = x then y :: ys else x :: y :: ys
theorem insI_at (xs : List Int) (x : Int) (k : Nat) (hk : k ≤ xs.length) (h1 : ∀ j, j < k → xs.getD j 0 < x) (h2 : k < xs.length → x < xs.getD k 0) : insI xs x = xs.take k ++ [x] ++ xs.drop k := by
  induction xs generalizing k with
  | nil => simp at hk; subst hk; rfl
  | cons y ys ih =>
    cases k with
    | zero =>
      have := h2 (by simp)
      simp at this
      simp only [insI, List.take_zero, List.nil_append, List.drop_zero, List.singleton_append]
      rw [if_neg (by omega), if_neg (by omega)]
    | succ k =>
      have := h1 0 (by omega)
      simp at this
      simp only [insI]
      rw [if_pos this, ih k (by simpa using hk) (fun j hj => by have := h1 (j + 1) (by omega); simpa using this) (fun hlt => by have := h2 (by simpa using hlt); simpa using this)]
      simp
theorem insI_has (xs : List Int) (x : Int) (k : Nat) (hk : k < xs.length) (h1 : ∀ j, j < k → xs.getD j 0 < x) (h2 : xs.getD k 0 = x) : insI xs x = xs := by
  induction xs generalizing k with
  | nil => simp at hk
  | cons y ys ih =>
    cases k with
    | zero =>
      simp at h2
      simp only [insI]
      rw [if_neg (by omega), if_pos h2]
    | succ k =>
      have := h1 0 (by omega)
      simp at this
      simp only [insI]
      rw [if_pos this, ih k (by simpa using hk) (fun j hj => by have := h1 (j + 1) (by omega); simpa using this) (by simpa using h2)]
set_option maxHeartbeats 4000000 in
set_option maxRecDepth 100000 in
theorem insertInt_ret (v : Value) (xs : List Int) (x : Int) (w : World) (hv : RdsW w v 1 xs.length (xs.map (Value.int .i64))) (hn : xs.length ≤ 1000000) :
  Calls Try.prog 127 #[v, .int .i64 x] w (Ret w fun v' post => (v' = v ∧ post = [] ∧ insI xs x = xs) ∨ (post = [rowE 3 1 v' (insI xs x).length ((insI xs x).map (Value.int .i64))])) := by
 refine calls_hc (N := 48) (args := [v, .int .i64 x]) Try.func127 rfl rfl ?_
 refine hc_less _ (sx 0 rfl (sx 1 rfl (sub_nil _))) (.refl _) ?_
 refine hc_seq ?_
 refine hc_region ?_
 refine hl_v rfl rfl rfl (rv_ev rfl) ?_
 refine hl_less (sx 0 rfl (sx 1 rfl (sx 4 rfl (sub_nil _)))) (.refl _) ?_
 refine hl_nil ?_
 refine hq_then ?_
 refine hc_seq ?_
 refine hc_region ?_
 refine hl_v rfl rfl rfl (rv_ev rfl) ?_
 refine hl_less (sx 0 rfl (sx 1 rfl (sx 4 rfl (sx 5 rfl (sub_nil _))))) (.refl _) ?_
 refine hl_nil ?_
 refine hq_then ?_
 refine hc_seq ?_
 refine hc_block ?_
 refine hc_loop1 (α := Int) (fun k => []) (fun k => [(0, v), (1, .int .i64 x), (4, .slice none 0 0), (5, .int .i64 k)]) (fun k => 0 ≤ k ∧ k ≤ xs.length ∧ ∀ j, j < k.toNat → xs.getD j 0 < x) (fun k => ((xs.length : Int) - k).toNat) 0 ⟨by omega, by omega, fun j hj => absurd hj (by omega)⟩ (sx 0 rfl (sx 1 rfl (sx 4 rfl (sx 5 rfl (sub_nil _))))) (.slnil) ?_
 intro k hi1
 obtain ⟨hk0, hk1, hk2⟩ := hi1
 refine hc_seq ?_
 refine hc_seq ?_
 refine hc_region ?_
 refine hl_v rfl rfl rfl (rv_ev rfl) ?_
 refine hl_v rfl rfl rfl (rv_ev rfl) ?_
 refine hl_v rfl rfl rfl (rv_len rfl Try.underlying26 rfl (rd_old hv)) ?_
 refine hl_lss rfl rfl rfl rfl rfl rfl (fun h2 => ?_) (fun h2 => ?_)
 ·
  refine hl_v rfl rfl rfl (rv_ev rfl) ?_
  refine hl_v rfl rfl rfl (rv_ev rfl) ?_
  refine hl_v rfl rfl rfl (rv_ev rfl) ?_
  refine hl_v rfl rfl rfl (rv_index (s := 1) rfl Try.underlying26 (by kernel_rfl) rfl rfl (rd_old hv) (by omega) (by first | omega | (simp only [List.length_set]; omega))) ?_
  refine hl_v rfl rfl rfl (rv_loadEl (u := .int .i64 (xs.getD ((k).toNat) 0)) rfl (by kernel_rfl) rfl (rd_old hv) (ints_at1 (show _ < xs.length by first | omega | (simp only [List.length_set]; omega)))) ?_
  refine hl_v rfl rfl rfl (rv_ev rfl) ?_
  refine hl_lss rfl rfl rfl rfl rfl rfl (fun h3 => ?_) (fun h3 => ?_)
  ·
   refine hl_v rfl rfl rfl (rv_ev rfl) ?_
   refine hl_less (sx 0 rfl (sx 1 rfl (sx 4 rfl (sx 5 rfl (sx 18 rfl (sub_nil _)))))) (.refl _) ?_
   refine hl_nil ?_
   refine hq_then ?_
   refine hc_true rfl ?_
   refine hc_skip ?_
   refine hq_then ?_
   refine hc_block ?_
   refine hc_region ?_
   refine hl_v rfl rfl rfl (rv_ev rfl) ?_
   refine hl_v rfl rfl rfl (rv_add rfl rfl rfl (by constructor <;> omega)) ?_
   refine hl_v rfl rfl rfl (rv_ev rfl) ?_
   refine hl_less (sx 0 rfl (sx 1 rfl (sx 4 rfl (sx 5 rfl (sx 18 rfl (sub_nil _)))))) (.refl _) ?_
   refine hl_nil ?_
   refine hq_block_normal ?_
   exact hq_round1 (k + 1) ⟨by omega, by omega, fun j hj => by by_cases hjk : j = k.toNat; (subst hjk; assumption); exact hk2 j (by omega)⟩ (by omega) (sx 0 rfl (sx 1 rfl (sx 4 rfl (sx 5 rfl (sub_nil _))))) (.slnil)
  ·
   refine hl_v rfl rfl rfl (rv_ev rfl) ?_
   refine hl_less (sx 0 rfl (sx 1 rfl (sx 4 rfl (sx 5 rfl (sx 18 rfl (sub_nil _)))))) (.refl _) ?_
   refine hl_nil ?_
   refine hq_then ?_
   refine hc_false rfl ?_
   refine hc_exit ?_
   refine hq_then_exit ?_
   refine hq_then_exit ?_
   refine hq_block_exit ?_
   refine hq_then ?_
   refine hc_seq ?_
   refine hc_seq ?_
   refine hc_region ?_
   refine hl_v rfl rfl rfl (rv_ev rfl) ?_
   refine hl_v rfl rfl rfl (rv_ev rfl) ?_
   refine hl_v rfl rfl rfl (rv_len rfl Try.underlying26 rfl (rd_old hv)) ?_
   refine hl_lss rfl rfl rfl rfl rfl rfl (fun h4 => ?_) (fun h4 => ?_)
   ·
    refine hl_v rfl rfl rfl (rv_ev rfl) ?_
    refine hl_v rfl rfl rfl (rv_ev rfl) ?_
    refine hl_v rfl rfl rfl (rv_ev rfl) ?_
    refine hl_v rfl rfl rfl (rv_index (s := 1) rfl Try.underlying26 (by kernel_rfl) rfl rfl (rd_old hv) (by omega) (by first | omega | (simp only [List.length_set]; omega))) ?_
    refine hl_v rfl rfl rfl (rv_loadEl (u := .int .i64 (xs.getD ((k).toNat) 0)) rfl (by kernel_rfl) rfl (rd_old hv) (ints_at1 (show _ < xs.length by first | omega | (simp only [List.length_set]; omega)))) ?_
    refine hl_v rfl rfl rfl (rv_ev rfl) ?_
    refine hl_eql rfl rfl rfl rfl rfl rfl (fun h5 => ?_) (fun h5 => ?_)
    ·
     refine hl_v rfl rfl rfl (rv_ev rfl) ?_
     refine hl_less (sx 0 rfl (sx 1 rfl (sx 4 rfl (sx 5 rfl (sx 18 rfl (sx 32 rfl (sub_nil _))))))) (.refl _) ?_
     refine hl_nil ?_
     refine hq_then ?_
     refine hc_true rfl ?_
     refine hc_seq ?_
     refine hc_region ?_
     refine hl_v rfl rfl rfl (rv_ev rfl) ?_
     refine hl_v rfl rfl rfl (rv_ev rfl) ?_
     refine hl_less (sx 0 rfl (sx 1 rfl (sx 4 rfl (sx 5 rfl (sx 18 rfl (sx 32 rfl (sub_nil _))))))) (.refl _) ?_
     refine hl_nil ?_
     refine hq_then ?_
     refine hc_ret ?_
     refine hq_then_ret ?_
     exact hq_retR rfl rfl (List.nil_sublist _) (Or.inl ⟨rfl, rfl, insI_has xs x k.toNat (by omega) hk2 (by omega)⟩)
    ·
     refine hl_v rfl rfl rfl (rv_ev rfl) ?_
     refine hl_less (sx 0 rfl (sx 1 rfl (sx 4 rfl (sx 5 rfl (sx 18 rfl (sx 32 rfl (sub_nil _))))))) (.refl _) ?_
     refine hl_nil ?_
     refine hq_then ?_
     refine hc_false rfl ?_
     refine hc_skip ?_
     refine hq_then ?_
     refine hc_seq ?_
     refine hc_region ?_
     refine hl_row rfl rfl rfl (rq_slice0 (s := 1) rfl Try.underlying26 (by kernel_rfl)) ?_
     intro g6
     refine hl_v rfl rfl rfl (rv_ev rfl) ?_
     refine hl_v rfl rfl rfl (rv_ev rfl) ?_
     refine hl_v rfl rfl rfl (rv_slH rfl Try.underlying26 (by kernel_rfl) rfl rfl (rd_old hv) (by omega) (by omega)) ?_
     refine hl_append (i := 0) (z := .int .i64 0) (bytes := 8) (n' := (xs.take (k).toNat).length) (xs' := ((xs.take (k).toNat).map (Value.int .i64))) (L := fun v7 => [rowE 3 1 v7 ((xs.take (k).toNat).length) ((xs.take (k).toNat).map (Value.int .i64))]) rfl rfl rfl rfl Try.underlying26 (by kernel_rfl) (by kernel_rfl) rfl rfl rfl (rd_slH (rd_old hv) (by omega)) (ints_one _) (by first | omega | (simp; omega)) ((Nat.zero_add _)) ((List.nil_append _)) (fun _ => rfl) ?_
     intro v7
     refine hl_v rfl rfl rfl (rv_ev rfl) ?_
     refine hl_less (sx 0 rfl (sx 1 rfl (sx 4 rfl (sx 5 rfl (sx 6 rfl (sx 18 rfl (sx 32 rfl (sub_nil _)))))))) (.refl _) ?_
     refine hl_nil ?_
     refine hq_then ?_
     refine hc_seq ?_
     refine hc_region ?_
     refine hl_v rfl rfl rfl (rv_ev rfl) ?_
     refine hl_v rfl rfl rfl (rv_ev rfl) ?_
     refine hl_row rfl rfl rfl (rq_buildSlice (z := .int .i64 0) (s := 1) (cs := ([x].map (Value.int .i64))) rfl Try.underlying26 (by kernel_rfl) (by decide) rfl (by kernel_rfl) rfl) ?_
     intro g8
     refine hl_append (i := 1) (z := .int .i64 0) (bytes := 8) (n' := ((xs.take (k).toNat) ++ ([x])).length) (xs' := (((xs.take (k).toNat) ++ ([x])).map (Value.int .i64))) (L := fun v9 => [rowE 3 1 (.slice (some ⟨g8, 0, none⟩) 1 1) 1 ([x].map (Value.int .i64)), rowE 3 1 v9 (((xs.take (k).toNat) ++ ([x])).length) (((xs.take (k).toNat) ++ ([x])).map (Value.int .i64))]) rfl rfl rfl rfl Try.underlying26 (by kernel_rfl) (by kernel_rfl) rfl rfl rfl (rd_row 0 rfl) (ints_one _) (by first | omega | (simp; omega)) (len_app (xs.take (k).toNat) ([x])) (ints_app (xs.take (k).toNat) ([x])) (fun _ => rfl) ?_
     intro v9
     refine hl_v rfl rfl rfl (rv_ev rfl) ?_
     refine hl_less (sx 0 rfl (sx 1 rfl (sx 4 rfl (sx 5 rfl (sx 6 rfl (sx 18 rfl (sx 32 rfl (sub_nil _)))))))) (.refl _) ?_
     refine hl_nil ?_
     refine hq_then ?_
     refine hc_seq ?_
     refine hc_region ?_
     refine hl_v rfl rfl rfl (rv_ev rfl) ?_
     refine hl_v rfl rfl rfl (rv_ev rfl) ?_
     refine hl_v rfl rfl rfl (rv_ev rfl) ?_
     refine hl_v rfl rfl rfl (rv_slL rfl Try.underlying26 (by kernel_rfl) rfl rfl (rd_old hv) (by omega) (by omega)) ?_
     refine hl_append (i := 1) (z := .int .i64 0) (bytes := 8) (n' := (((xs.take (k).toNat) ++ ([x])) ++ (xs.drop (k).toNat)).length) (xs' := ((((xs.take (k).toNat) ++ ([x])) ++ (xs.drop (k).toNat)).map (Value.int .i64))) (L := fun v10 => [rowE 3 1 (.slice (some ⟨g8, 0, none⟩) 1 1) 1 ([x].map (Value.int .i64)), rowE 3 1 v10 ((((xs.take (k).toNat) ++ ([x])) ++ (xs.drop (k).toNat)).length) ((((xs.take (k).toNat) ++ ([x])) ++ (xs.drop (k).toNat)).map (Value.int .i64))]) rfl rfl rfl rfl Try.underlying26 (by kernel_rfl) (by kernel_rfl) rfl rfl rfl (rd_slL (rd_old hv) (by omega)) (ints_one _) (by first | omega | (simp; omega)) (len_app ((xs.take (k).toNat) ++ ([x])) (xs.drop (k).toNat)) (ints_app ((xs.take (k).toNat) ++ ([x])) (xs.drop (k).toNat)) (fun _ => rfl) ?_
     intro v10
     refine hl_v rfl rfl rfl (rv_ev rfl) ?_
     refine hl_less (sx 0 rfl (sx 1 rfl (sx 4 rfl (sx 5 rfl (sx 6 rfl (sx 18 rfl (sx 32 rfl (sub_nil _)))))))) (.refl _) ?_
     refine hl_nil ?_
     refine hq_then ?_
     refine hc_ret ?_
     have e := insI_at xs x k.toNat (by omega) hk2 (by omega)
     exact hq_retR (post := [rowE 3 1 v10 ((((xs.take (k).toNat) ++ ([x])) ++ (xs.drop (k).toNat)).length) ((((xs.take (k).toNat) ++ ([x])) ++ (xs.drop (k).toNat)).map (Value.int .i64))]) rfl rfl ((.cons _ (.cons_cons _ .slnil))) (Or.inr (by rw [e]))
   ·
    refine hl_v rfl rfl rfl (rv_ev rfl) ?_
    refine hl_skip rfl rfl rfl ?_
    refine hl_skip rfl rfl rfl ?_
    refine hl_skip rfl rfl rfl ?_
    refine hl_skip rfl rfl rfl ?_
    refine hl_skip rfl rfl rfl ?_
    refine hl_skip rfl rfl rfl ?_
    refine hl_v rfl rfl rfl (rv_ev rfl) ?_
    refine hl_less (sx 0 rfl (sx 1 rfl (sx 4 rfl (sx 5 rfl (sx 18 rfl (sx 32 rfl (sub_nil _))))))) (.refl _) ?_
    refine hl_nil ?_
    refine hq_then ?_
    refine hc_false rfl ?_
    refine hc_skip ?_
    refine hq_then ?_
    refine hc_seq ?_
    refine hc_region ?_
    refine hl_row rfl rfl rfl (rq_slice0 (s := 1) rfl Try.underlying26 (by kernel_rfl)) ?_
    intro g11
    refine hl_v rfl rfl rfl (rv_ev rfl) ?_
    refine hl_v rfl rfl rfl (rv_ev rfl) ?_
    refine hl_v rfl rfl rfl (rv_slH rfl Try.underlying26 (by kernel_rfl) rfl rfl (rd_old hv) (by omega) (by omega)) ?_
    refine hl_append (i := 0) (z := .int .i64 0) (bytes := 8) (n' := (xs.take (k).toNat).length) (xs' := ((xs.take (k).toNat).map (Value.int .i64))) (L := fun v12 => [rowE 3 1 v12 ((xs.take (k).toNat).length) ((xs.take (k).toNat).map (Value.int .i64))]) rfl rfl rfl rfl Try.underlying26 (by kernel_rfl) (by kernel_rfl) rfl rfl rfl (rd_slH (rd_old hv) (by omega)) (ints_one _) (by first | omega | (simp; omega)) ((Nat.zero_add _)) ((List.nil_append _)) (fun _ => rfl) ?_
    intro v12
    refine hl_v rfl rfl rfl (rv_ev rfl) ?_
    refine hl_less (sx 0 rfl (sx 1 rfl (sx 4 rfl (sx 5 rfl (sx 6 rfl (sx 18 rfl (sx 32 rfl (sub_nil _)))))))) (.refl _) ?_
    refine hl_nil ?_
    refine hq_then ?_
    refine hc_seq ?_
    refine hc_region ?_
    refine hl_v rfl rfl rfl (rv_ev rfl) ?_
    refine hl_v rfl rfl rfl (rv_ev rfl) ?_
    refine hl_row rfl rfl rfl (rq_buildSlice (z := .int .i64 0) (s := 1) (cs := ([x].map (Value.int .i64))) rfl Try.underlying26 (by kernel_rfl) (by decide) rfl (by kernel_rfl) rfl) ?_
    intro g13
    refine hl_append (i := 1) (z := .int .i64 0) (bytes := 8) (n' := ((xs.take (k).toNat) ++ ([x])).length) (xs' := (((xs.take (k).toNat) ++ ([x])).map (Value.int .i64))) (L := fun v14 => [rowE 3 1 (.slice (some ⟨g13, 0, none⟩) 1 1) 1 ([x].map (Value.int .i64)), rowE 3 1 v14 (((xs.take (k).toNat) ++ ([x])).length) (((xs.take (k).toNat) ++ ([x])).map (Value.int .i64))]) rfl rfl rfl rfl Try.underlying26 (by kernel_rfl) (by kernel_rfl) rfl rfl rfl (rd_row 0 rfl) (ints_one _) (by first | omega | (simp; omega)) (len_app (xs.take (k).toNat) ([x])) (ints_app (xs.take (k).toNat) ([x])) (fun _ => rfl) ?_
    intro v14
    refine hl_v rfl rfl rfl (rv_ev rfl) ?_
    refine hl_less (sx 0 rfl (sx 1 rfl (sx 4 rfl (sx 5 rfl (sx 6 rfl (sx 18 rfl (sx 32 rfl (sub_nil _)))))))) (.refl _) ?_
    refine hl_nil ?_
    refine hq_then ?_
    refine hc_seq ?_
    refine hc_region ?_
    refine hl_v rfl rfl rfl (rv_ev rfl) ?_
    refine hl_v rfl rfl rfl (rv_ev rfl) ?_
    refine hl_v rfl rfl rfl (rv_ev rfl) ?_
    refine hl_v rfl rfl rfl (rv_slL rfl Try.underlying26 (by kernel_rfl) rfl rfl (rd_old hv) (by omega) (by omega)) ?_
    refine hl_append (i := 1) (z := .int .i64 0) (bytes := 8) (n' := (((xs.take (k).toNat) ++ ([x])) ++ (xs.drop (k).toNat)).length) (xs' := ((((xs.take (k).toNat) ++ ([x])) ++ (xs.drop (k).toNat)).map (Value.int .i64))) (L := fun v15 => [rowE 3 1 (.slice (some ⟨g13, 0, none⟩) 1 1) 1 ([x].map (Value.int .i64)), rowE 3 1 v15 ((((xs.take (k).toNat) ++ ([x])) ++ (xs.drop (k).toNat)).length) ((((xs.take (k).toNat) ++ ([x])) ++ (xs.drop (k).toNat)).map (Value.int .i64))]) rfl rfl rfl rfl Try.underlying26 (by kernel_rfl) (by kernel_rfl) rfl rfl rfl (rd_slL (rd_old hv) (by omega)) (ints_one _) (by first | omega | (simp; omega)) (len_app ((xs.take (k).toNat) ++ ([x])) (xs.drop (k).toNat)) (ints_app ((xs.take (k).toNat) ++ ([x])) (xs.drop (k).toNat)) (fun _ => rfl) ?_
    intro v15
    refine hl_v rfl rfl rfl (rv_ev rfl) ?_
    refine hl_less (sx 0 rfl (sx 1 rfl (sx 4 rfl (sx 5 rfl (sx 6 rfl (sx 18 rfl (sx 32 rfl (sub_nil _)))))))) (.refl _) ?_
    refine hl_nil ?_
    refine hq_then ?_
    refine hc_ret ?_
    have e := insI_at xs x k.toNat (by omega) hk2 (by omega)
    exact hq_retR (post := [rowE 3 1 v15 ((((xs.take (k).toNat) ++ ([x])) ++ (xs.drop (k).toNat)).length) ((((xs.take (k).toNat) ++ ([x])) ++ (xs.drop (k).toNat)).map (Value.int .i64))]) rfl rfl ((.cons _ (.cons_cons _ .slnil))) (Or.inr (by rw [e]))
 ·
  refine hl_v rfl rfl rfl (rv_ev rfl) ?_
  refine hl_skip rfl rfl rfl ?_
  refine hl_skip rfl rfl rfl ?_
  refine hl_skip rfl rfl rfl ?_
  refine hl_skip rfl rfl rfl ?_
  refine hl_skip rfl rfl rfl ?_
  refine hl_skip rfl rfl rfl ?_
  refine hl_v rfl rfl rfl (rv_ev rfl) ?_
  refine hl_less (sx 0 rfl (sx 1 rfl (sx 4 rfl (sx 5 rfl (sx 18 rfl (sub_nil _)))))) (.refl _) ?_
  refine hl_nil ?_
  refine hq_then ?_
  refine hc_false rfl ?_
  refine hc_exit ?_
  refine hq_then_exit ?_
  refine hq_then_exit ?_
  refine hq_block_exit ?_
  refine hq_then ?_
  refine hc_seq ?_
  refine hc_seq ?_
  refine hc_region ?_
  refine hl_v rfl rfl rfl (rv_ev rfl) ?_
  refine hl_v rfl rfl rfl (rv_ev rfl) ?_
  refine hl_v rfl rfl rfl (rv_len rfl Try.underlying26 rfl (rd_old hv)) ?_
  refine hl_lss rfl rfl rfl rfl rfl rfl (fun h16 => ?_) (fun h16 => ?_)
  ·
   refine hl_v rfl rfl rfl (rv_ev rfl) ?_
   refine hl_v rfl rfl rfl (rv_ev rfl) ?_
   refine hl_v rfl rfl rfl (rv_ev rfl) ?_
   refine hl_v rfl rfl rfl (rv_index (s := 1) rfl Try.underlying26 (by kernel_rfl) rfl rfl (rd_old hv) (by omega) (by first | omega | (simp only [List.length_set]; omega))) ?_
   refine hl_v rfl rfl rfl (rv_loadEl (u := .int .i64 (xs.getD ((k).toNat) 0)) rfl (by kernel_rfl) rfl (rd_old hv) (ints_at1 (show _ < xs.length by first | omega | (simp only [List.length_set]; omega)))) ?_
   refine hl_v rfl rfl rfl (rv_ev rfl) ?_
   refine hl_eql rfl rfl rfl rfl rfl rfl (fun h17 => ?_) (fun h17 => ?_)
   ·
    refine hl_v rfl rfl rfl (rv_ev rfl) ?_
    refine hl_less (sx 0 rfl (sx 1 rfl (sx 4 rfl (sx 5 rfl (sx 18 rfl (sx 32 rfl (sub_nil _))))))) (.refl _) ?_
    refine hl_nil ?_
    refine hq_then ?_
    refine hc_true rfl ?_
    refine hc_seq ?_
    refine hc_region ?_
    refine hl_v rfl rfl rfl (rv_ev rfl) ?_
    refine hl_v rfl rfl rfl (rv_ev rfl) ?_
    refine hl_less (sx 0 rfl (sx 1 rfl (sx 4 rfl (sx 5 rfl (sx 18 rfl (sx 32 rfl (sub_nil _))))))) (.refl _) ?_
    refine hl_nil ?_
    refine hq_then ?_
    refine hc_ret ?_
    refine hq_then_ret ?_
    exact hq_retR rfl rfl (List.nil_sublist _) (Or.inl ⟨rfl, rfl, insI_has xs x k.toNat (by omega) hk2 (by omega)⟩)
   ·
    refine hl_v rfl rfl rfl (rv_ev rfl) ?_
    refine hl_less (sx 0 rfl (sx 1 rfl (sx 4 rfl (sx 5 rfl (sx 18 rfl (sx 32 rfl (sub_nil _))))))) (.refl _) ?_
    refine hl_nil ?_
    refine hq_then ?_
    refine hc_false rfl ?_
    refine hc_skip ?_
    refine hq_then ?_
    refine hc_seq ?_
    refine hc_region ?_
    refine hl_row rfl rfl rfl (rq_slice0 (s := 1) rfl Try.underlying26 (by kernel_rfl)) ?_
    intro g18
    refine hl_v rfl rfl rfl (rv_ev rfl) ?_
    refine hl_v rfl rfl rfl (rv_ev rfl) ?_
    refine hl_v rfl rfl rfl (rv_slH rfl Try.underlying26 (by kernel_rfl) rfl rfl (rd_old hv) (by omega) (by omega)) ?_
    refine hl_append (i := 0) (z := .int .i64 0) (bytes := 8) (n' := (xs.take (k).toNat).length) (xs' := ((xs.take (k).toNat).map (Value.int .i64))) (L := fun v19 => [rowE 3 1 v19 ((xs.take (k).toNat).length) ((xs.take (k).toNat).map (Value.int .i64))]) rfl rfl rfl rfl Try.underlying26 (by kernel_rfl) (by kernel_rfl) rfl rfl rfl (rd_slH (rd_old hv) (by omega)) (ints_one _) (by first | omega | (simp; omega)) ((Nat.zero_add _)) ((List.nil_append _)) (fun _ => rfl) ?_
    intro v19
    refine hl_v rfl rfl rfl (rv_ev rfl) ?_
    refine hl_less (sx 0 rfl (sx 1 rfl (sx 4 rfl (sx 5 rfl (sx 6 rfl (sx 18 rfl (sx 32 rfl (sub_nil _)))))))) (.refl _) ?_
    refine hl_nil ?_
    refine hq_then ?_
    refine hc_seq ?_
    refine hc_region ?_
    refine hl_v rfl rfl rfl (rv_ev rfl) ?_
    refine hl_v rfl rfl rfl (rv_ev rfl) ?_
    refine hl_row rfl rfl rfl (rq_buildSlice (z := .int .i64 0) (s := 1) (cs := ([x].map (Value.int .i64))) rfl Try.underlying26 (by kernel_rfl) (by decide) rfl (by kernel_rfl) rfl) ?_
    intro g20
    refine hl_append (i := 1) (z := .int .i64 0) (bytes := 8) (n' := ((xs.take (k).toNat) ++ ([x])).length) (xs' := (((xs.take (k).toNat) ++ ([x])).map (Value.int .i64))) (L := fun v21 => [rowE 3 1 (.slice (some ⟨g20, 0, none⟩) 1 1) 1 ([x].map (Value.int .i64)), rowE 3 1 v21 (((xs.take (k).toNat) ++ ([x])).length) (((xs.take (k).toNat) ++ ([x])).map (Value.int .i64))]) rfl rfl rfl rfl Try.underlying26 (by kernel_rfl) (by kernel_rfl) rfl rfl rfl (rd_row 0 rfl) (ints_one _) (by first | omega | (simp; omega)) (len_app (xs.take (k).toNat) ([x])) (ints_app (xs.take (k).toNat) ([x])) (fun _ => rfl) ?_
    intro v21
    refine hl_v rfl rfl rfl (rv_ev rfl) ?_
    refine hl_less (sx 0 rfl (sx 1 rfl (sx 4 rfl (sx 5 rfl (sx 6 rfl (sx 18 rfl (sx 32 rfl (sub_nil _)))))))) (.refl _) ?_
    refine hl_nil ?_
    refine hq_then ?_
    refine hc_seq ?_
    refine hc_region ?_
    refine hl_v rfl rfl rfl (rv_ev rfl) ?_
    refine hl_v rfl rfl rfl (rv_ev rfl) ?_
    refine hl_v rfl rfl rfl (rv_ev rfl) ?_
    refine hl_v rfl rfl rfl (rv_slL rfl Try.underlying26 (by kernel_rfl) rfl rfl (rd_old hv) (by omega) (by omega)) ?_
    refine hl_append (i := 1) (z := .int .i64 0) (bytes := 8) (n' := (((xs.take (k).toNat) ++ ([x])) ++ (xs.drop (k).toNat)).length) (xs' := ((((xs.take (k).toNat) ++ ([x])) ++ (xs.drop (k).toNat)).map (Value.int .i64))) (L := fun v22 => [rowE 3 1 (.slice (some ⟨g20, 0, none⟩) 1 1) 1 ([x].map (Value.int .i64)), rowE 3 1 v22 ((((xs.take (k).toNat) ++ ([x])) ++ (xs.drop (k).toNat)).length) ((((xs.take (k).toNat) ++ ([x])) ++ (xs.drop (k).toNat)).map (Value.int .i64))]) rfl rfl rfl rfl Try.underlying26 (by kernel_rfl) (by kernel_rfl) rfl rfl rfl (rd_slL (rd_old hv) (by omega)) (ints_one _) (by first | omega | (simp; omega)) (len_app ((xs.take (k).toNat) ++ ([x])) (xs.drop (k).toNat)) (ints_app ((xs.take (k).toNat) ++ ([x])) (xs.drop (k).toNat)) (fun _ => rfl) ?_
    intro v22
    refine hl_v rfl rfl rfl (rv_ev rfl) ?_
    refine hl_less (sx 0 rfl (sx 1 rfl (sx 4 rfl (sx 5 rfl (sx 6 rfl (sx 18 rfl (sx 32 rfl (sub_nil _)))))))) (.refl _) ?_
    refine hl_nil ?_
    refine hq_then ?_
    refine hc_ret ?_
    have e := insI_at xs x k.toNat (by omega) hk2 (by omega)
    exact hq_retR (post := [rowE 3 1 v22 ((((xs.take (k).toNat) ++ ([x])) ++ (xs.drop (k).toNat)).length) ((((xs.take (k).toNat) ++ ([x])) ++ (xs.drop (k).toNat)).map (Value.int .i64))]) rfl rfl ((.cons _ (.cons_cons _ .slnil))) (Or.inr (by rw [e]))
  ·
   refine hl_v rfl rfl rfl (rv_ev rfl) ?_
   refine hl_skip rfl rfl rfl ?_
   refine hl_skip rfl rfl rfl ?_
   refine hl_skip rfl rfl rfl ?_
   refine hl_skip rfl rfl rfl ?_
   refine hl_skip rfl rfl rfl ?_
   refine hl_skip rfl rfl rfl ?_
   refine hl_v rfl rfl rfl (rv_ev rfl) ?_
   refine hl_less (sx 0 rfl (sx 1 rfl (sx 4 rfl (sx 5 rfl (sx 18 rfl (sx 32 rfl (sub_nil _))))))) (.refl _) ?_
   refine hl_nil ?_
   refine hq_then ?_
   refine hc_false rfl ?_
   refine hc_skip ?_
   refine hq_then ?_
   refine hc_seq ?_
   refine hc_region ?_
   refine hl_row rfl rfl rfl (rq_slice0 (s := 1) rfl Try.underlying26 (by kernel_rfl)) ?_
   intro g23
   refine hl_v rfl rfl rfl (rv_ev rfl) ?_
   refine hl_v rfl rfl rfl (rv_ev rfl) ?_
   refine hl_v rfl rfl rfl (rv_slH rfl Try.underlying26 (by kernel_rfl) rfl rfl (rd_old hv) (by omega) (by omega)) ?_
   refine hl_append (i := 0) (z := .int .i64 0) (bytes := 8) (n' := (xs.take (k).toNat).length) (xs' := ((xs.take (k).toNat).map (Value.int .i64))) (L := fun v24 => [rowE 3 1 v24 ((xs.take (k).toNat).length) ((xs.take (k).toNat).map (Value.int .i64))]) rfl rfl rfl rfl Try.underlying26 (by kernel_rfl) (by kernel_rfl) rfl rfl rfl (rd_slH (rd_old hv) (by omega)) (ints_one _) (by first | omega | (simp; omega)) ((Nat.zero_add _)) ((List.nil_append _)) (fun _ => rfl) ?_
   intro v24
   refine hl_v rfl rfl rfl (rv_ev rfl) ?_
   refine hl_less (sx 0 rfl (sx 1 rfl (sx 4 rfl (sx 5 rfl (sx 6 rfl (sx 18 rfl (sx 32 rfl (sub_nil _)))))))) (.refl _) ?_
   refine hl_nil ?_
   refine hq_then ?_
   refine hc_seq ?_
   refine hc_region ?_
   refine hl_v rfl rfl rfl (rv_ev rfl) ?_
   refine hl_v rfl rfl rfl (rv_ev rfl) ?_
   refine hl_row rfl rfl rfl (rq_buildSlice (z := .int .i64 0) (s := 1) (cs := ([x].map (Value.int .i64))) rfl Try.underlying26 (by kernel_rfl) (by decide) rfl (by kernel_rfl) rfl) ?_
   intro g25
   refine hl_append (i := 1) (z := .int .i64 0) (bytes := 8) (n' := ((xs.take (k).toNat) ++ ([x])).length) (xs' := (((xs.take (k).toNat) ++ ([x])).map (Value.int .i64))) (L := fun v26 => [rowE 3 1 (.slice (some ⟨g25, 0, none⟩) 1 1) 1 ([x].map (Value.int .i64)), rowE 3 1 v26 (((xs.take (k).toNat) ++ ([x])).length) (((xs.take (k).toNat) ++ ([x])).map (Value.int .i64))]) rfl rfl rfl rfl Try.underlying26 (by kernel_rfl) (by kernel_rfl) rfl rfl rfl (rd_row 0 rfl) (ints_one _) (by first | omega | (simp; omega)) (len_app (xs.take (k).toNat) ([x])) (ints_app (xs.take (k).toNat) ([x])) (fun _ => rfl) ?_
   intro v26
   refine hl_v rfl rfl rfl (rv_ev rfl) ?_
   refine hl_less (sx 0 rfl (sx 1 rfl (sx 4 rfl (sx 5 rfl (sx 6 rfl (sx 18 rfl (sx 32 rfl (sub_nil _)))))))) (.refl _) ?_
   refine hl_nil ?_
   refine hq_then ?_
   refine hc_seq ?_
   refine hc_region ?_
   refine hl_v rfl rfl rfl (rv_ev rfl) ?_
   refine hl_v rfl rfl rfl (rv_ev rfl) ?_
   refine hl_v rfl rfl rfl (rv_ev rfl) ?_
   refine hl_v rfl rfl rfl (rv_slL rfl Try.underlying26 (by kernel_rfl) rfl rfl (rd_old hv) (by omega) (by omega)) ?_
   refine hl_append (i := 1) (z := .int .i64 0) (bytes := 8) (n' := (((xs.take (k).toNat) ++ ([x])) ++ (xs.drop (k).toNat)).length) (xs' := ((((xs.take (k).toNat) ++ ([x])) ++ (xs.drop (k).toNat)).map (Value.int .i64))) (L := fun v27 => [rowE 3 1 (.slice (some ⟨g25, 0, none⟩) 1 1) 1 ([x].map (Value.int .i64)), rowE 3 1 v27 ((((xs.take (k).toNat) ++ ([x])) ++ (xs.drop (k).toNat)).length) ((((xs.take (k).toNat) ++ ([x])) ++ (xs.drop (k).toNat)).map (Value.int .i64))]) rfl rfl rfl rfl Try.underlying26 (by kernel_rfl) (by kernel_rfl) rfl rfl rfl (rd_slL (rd_old hv) (by omega)) (ints_one _) (by first | omega | (simp; omega)) (len_app ((xs.take (k).toNat) ++ ([x])) (xs.drop (k).toNat)) (ints_app ((xs.take (k).toNat) ++ ([x])) (xs.drop (k).toNat)) (fun _ => rfl) ?_
   intro v27
   refine hl_v rfl rfl rfl (rv_ev rfl) ?_
   refine hl_less (sx 0 rfl (sx 1 rfl (sx 4 rfl (sx 5 rfl (sx 6 rfl (sx 18 rfl (sx 32 rfl (sub_nil _)))))))) (.refl _) ?_
   refine hl_nil ?_
   refine hq_then ?_
   refine hc_ret ?_
   have e := insI_at xs x k.toNat (by omega) hk2 (by omega)
   exact hq_retR (post := [rowE 3 1 v27 ((((xs.take (k).toNat) ++ ([x])) ++ (xs.drop (k).toNat)).length) ((((xs.take (k).toNat) ++ ([x])) ++ (xs.drop (k).toNat)).map (Value.int .i64))]) rfl rfl ((.cons _ (.cons_cons _ .slnil))) (Or.inr (by rw [e]))
theorem insI_len (xs : List Int) (x : Int) : (insI xs x).length ≤ xs.length + 1 := by
  induction xs with
  | nil => simp [insI]
  | cons y ys ih => simp only [insI]; split <;> (try split) <;> simp <;> omega
theorem insertInt_mut (v : Value) (xs : List Int) (x : Int) (hn : xs.length ≤ 1000000) {w0 : World} {l : List HP} (w : World) (hm : Mem w0 (rowE 3 1 v xs.length (xs.map (Value.int .i64)) :: l) w) :
    Calls Try.prog 127 #[v, .int .i64 x] w fun e w' => ∃ v' p', e = .returned v' ∧ p' = rowE 3 1 v' (insI xs x).length ((insI xs x).map (Value.int .i64)) ∧ Mem w0 (p' :: l) w' :=
  (insertInt_ret v xs x w (rdsW_own (hm.holds (rowE 3 1 v xs.length (xs.map (Value.int .i64))) List.mem_cons_self)) hn).mono fun e w' h => by
    obtain ⟨v', post, rfl, hR, hp⟩ := h
    rcases hR with ⟨rfl, rfl, he⟩ | rfl
    · exact ⟨v', _, rfl, rfl, by rw [he]; exact hm.step hp.bel⟩
    · exact ⟨v', _, rfl, rfl, (hm.app hp).sub (.cons_cons _ (.cons _ (.refl _)))⟩
theorem insI_mem (xs : List Int) (x y : Int) : y ∈ insI xs x ↔ y = x ∨ y ∈ xs := by
  induction xs with
  | nil => simp [insI]
  | cons z zs ih =>
    simp only [insI]
    split
    · rw [List.mem_cons, ih, List.mem_cons]
      constructor
      · rintro (h | h | h)
        · exact .inr (.inl h)
        · exact .inl h
        · exact .inr (.inr h)
      · rintro (h | h | h)
        · exact .inr (.inl h)
        · exact .inl h
        · exact .inr (.inr h)
    · split
      · rename_i h; subst h; simp
      · simp
theorem insI_sorted (xs : List Int) (x : Int) (h : xs.Pairwise (· < ·)) : (insI xs x).Pairwise (· < ·) := by
  induction xs with
  | nil => simp [insI]
  | cons z zs ih =>
    rw [List.pairwise_cons] at h
    simp only [insI]
    split
    · rw [List.pairwise_cons]
      refine ⟨fun y hy => ?_, ih h.2⟩
      rcases (insI_mem _ _ _).1 hy with rfl | hy
      · assumption
      · exact h.1 y hy
    · split
      · exact List.pairwise_cons.2 h
      · rw [List.pairwise_cons]
        refine ⟨fun y hy => ?_, List.pairwise_cons.2 h⟩
        rcases List.mem_cons.1 hy with rfl | hy
        · omega
        · have := h.1 y hy; omega
/-- v holds the values of the nodes of n -/
structure AndV (n : Nt) (v : List Int) : Prop where
  b01 : B01 v
  len : (v.length : Int) = n.cnt
  at_ : ∀ k, k < n.gs.length → v.getD (n.fst + k).toNat 0 = bitL v (n.gs.getD k an0).a * bitL v (n.gs.getD k an0).b
theorem vals_and {n : Nt} (h : NtOk n) {st : List Int} (hs : st.length = n.ss.length) (inp : Int) : AndV n (valsL n st inp) := by
  have hl := val_len n st inp n.gs.length (Nat.le_refl _)
  have hi := h.i0
  exact ⟨val01 h hs inp _ (Nat.le_refl _), by show ((valL n st inp n.gs.length).length : Int) = _; unfold Nt.cnt; omega, fun k hk => val_at h hs inp hk⟩
def wS : List Int → Nat
  | [] => 0
  | x :: xs => 3 ^ (x / 2).toNat + wS xs
theorem wS_app : ∀ (xs ys : List Int), wS (xs ++ ys) = wS xs + wS ys
  | [], ys => by simp [wS]
  | x :: xs, ys => by rw [List.cons_append, wS, wS, wS_app xs ys]; omega
theorem wS_ins : ∀ (xs : List Int) (x : Int), wS (insI xs x) ≤ wS xs + 3 ^ (x / 2).toNat
  | [], x => by simp [insI, wS]
  | y :: ys, x => by
    have := wS_ins ys x
    simp only [insI]
    split
    · simp only [wS]
      generalize 3 ^ (x / 2).toNat = p at *
      omega
    · split
      · simp only [wS]
        exact Nat.le_add_right _ _
      · simp only [wS]
        generalize 3 ^ (x / 2).toNat = p at *
        generalize 3 ^ (y / 2).toNat = q at *
        omega
theorem sorted_len : ∀ {xs : List Int} {lo hi : Int}, xs.Pairwise (· < ·) → (∀ x ∈ xs, lo ≤ x ∧ x < hi) → xs.length ≤ (hi - lo).toNat
  | [], lo, hi, _, _ => Nat.zero_le _
  | a :: t, lo, hi, h, hr => by
    rw [List.pairwise_cons] at h
    have ha := hr a List.mem_cons_self
    have := sorted_len (lo := a + 1) (hi := hi) h.2 (fun x hx => by have := h.1 x hx; have := hr x (List.mem_cons_of_mem _ hx); omega)
    rw [List.length_cons]; omega
theorem pow3_lt {a b k : Nat} (ha : a < k) (hb : b < k) : 3 ^ a + 3 ^ b < 3 ^ k := by
  obtain ⟨m, rfl⟩ : ∃ m, k = m + 1 := ⟨k - 1, by omega⟩
  have h1 : 3 ^ a ≤ 3 ^ m := Nat.pow_le_pow_right (by omega) (by omega)
  have h2 : 3 ^ b ≤ 3 ^ m := Nat.pow_le_pow_right (by omega) (by omega)
  have h3 : 0 < 3 ^ m := Nat.pow_pos (by omega)
  rw [Nat.pow_succ]; omega
structure CjInv (n : Nt) (node : Int) (xs : List Int) : Prop where
  srt : xs.Pairwise (· < ·)
  ne : 1 ≤ xs.length
  rng : ∀ x ∈ xs, 0 ≤ x ∧ x < 2 * n.cnt
  sem : ∀ v, AndV n v → ((∀ x ∈ xs, bitL v x = 1) ↔ v.getD node.toNat 0 = 1)
theorem CjInv.len {n : Nt} {node : Int} {xs : List Int} (h : CjInv n node xs) (hn : NtOk n) : xs.length ≤ 666 := by
  have := sorted_len h.srt (lo := 0) (hi := 2 * n.cnt) h.rng
  have h1 := hn.i1
  have h2 := hn.s1
  have h3 := hn.a1
  unfold Nt.cnt at this
  omega
theorem mul1 {a b : Int} (ha : a = 0 ∨ a = 1) (hb : b = 0 ∨ b = 1) : a * b = 1 ↔ a = 1 ∧ b = 1 := by
  rcases ha with e | e <;> rcases hb with e' | e' <;> rw [e, e'] <;> decide
theorem and_bits {n : Nt} (hn : NtOk n) {v : List Int} (hv : AndV n v) {k : Nat} (hk : k < n.gs.length) : (v.getD (n.fst + k).toNat 0 = 1 ↔ bitL v (n.gs.getD k an0).a = 1 ∧ bitL v (n.gs.getD k an0).b = 1) := by
  have ha := hn.an k hk
  unfold LtOk at ha
  have hl := hv.len
  have hc : n.cnt = n.fst + n.gs.length := by unfold Nt.cnt Nt.fst; omega
  rw [hv.at_ k hk]
  exact mul1 (bit01 hv.b01 ha.1.1 (by omega)) (bit01 hv.b01 ha.2.1 (by omega))
theorem split_at {xs : List Int} {j : Nat} (h : j < xs.length) : xs = xs.take j ++ [xs.getD j 0] ++ xs.drop (j + 1) := by
  rw [← take_snocG 0 h, List.take_append_drop]
theorem CjInv.step {n : Nt} (hn : NtOk n) {node : Int} {xs : List Int} (h : CjInv n node xs) {j : Nat} {l : Int} (hj : j < xs.length) (hl : xs.getD j 0 = l) (he : l % 2 = 0) (h0 : n.fst ≤ l / 2) (h1 : l / 2 < n.cnt) :
    CjInv n node (insI (insI (xs.take j ++ xs.drop (j + 1)) (n.gs.getD (l / 2 - n.fst).toNat an0).a) (n.gs.getD (l / 2 - n.fst).toNat an0).b) ∧ wS (insI (insI (xs.take j ++ xs.drop (j + 1)) (n.gs.getD (l / 2 - n.fst).toNat an0).a) (n.gs.getD (l / 2 - n.fst).toNat an0).b) < wS xs := by
  have hc : n.cnt = n.fst + n.gs.length := by unfold Nt.cnt Nt.fst; omega
  have hf : 0 ≤ n.fst := by have := hn.i0; unfold Nt.fst; omega
  have hk : (l / 2 - n.fst).toNat < n.gs.length := by omega
  have ha := hn.an _ hk
  unfold LtOk at ha
  have hsp := split_at hj
  rw [hl] at hsp
  have hmem : ∀ x, x ∈ xs ↔ x = l ∨ x ∈ xs.take j ++ xs.drop (j + 1) := fun x => by
    conv => lhs; rw [hsp]
    simp only [List.mem_append, List.mem_singleton]
    constructor
    · rintro ((h | h) | h)
      · exact .inr (.inl h)
      · exact .inl h
      · exact .inr (.inr h)
    · rintro (h | h | h)
      · exact .inl (.inr h)
      · exact .inl (.inl h)
      · exact .inr h
  have hsub : (xs.take j ++ xs.drop (j + 1)).Sublist xs := by
    conv => rhs; rw [hsp]
    exact (List.sublist_append_left _ _).append (List.Sublist.refl _)
  generalize hA : (n.gs.getD (l / 2 - n.fst).toNat an0).a = a at *
  generalize hB : (n.gs.getD (l / 2 - n.fst).toNat an0).b = b at *
  refine ⟨⟨insI_sorted _ _ (insI_sorted _ _ (h.srt.sublist hsub)), List.length_pos_of_mem ((insI_mem _ _ b).2 (.inl rfl)), fun x hx => ?_, fun v hv => ?_⟩, ?_⟩
  · rcases (insI_mem _ _ _).1 hx with rfl | hx
    · omega
    · rcases (insI_mem _ _ _).1 hx with rfl | hx
      · omega
      · exact h.rng x (hsub.subset hx)
  · rw [← h.sem v hv]
    have hb := and_bits hn hv hk
    rw [show (n.fst + ((l / 2 - n.fst).toNat : Nat)).toNat = (l / 2).toNat by omega, hA, hB] at hb
    have hbl : bitL v l = v.getD (l / 2).toNat 0 := by unfold bitL; rw [if_pos he]
    constructor
    · intro hx x hxm
      rcases (hmem x).1 hxm with rfl | hxm
      · rw [hbl, hb]; exact ⟨hx _ ((insI_mem _ _ _).2 (.inr ((insI_mem _ _ _).2 (.inl rfl)))), hx _ ((insI_mem _ _ _).2 (.inl rfl))⟩
      · exact hx x ((insI_mem _ _ _).2 (.inr ((insI_mem _ _ _).2 (.inr hxm))))
    · intro hx x hxm
      have hl1 := hx l ((hmem l).2 (.inl rfl))
      rw [hbl, hb] at hl1
      rcases (insI_mem _ _ _).1 hxm with rfl | hxm
      · exact hl1.2
      · rcases (insI_mem _ _ _).1 hxm with rfl | hxm
        · exact hl1.1
        · exact hx x ((hmem x).2 (.inr hxm))
  · have e : wS xs = wS (xs.take j ++ xs.drop (j + 1)) + 3 ^ (l / 2).toNat := by
      conv => lhs; rw [hsp]
      rw [wS_app, wS_app, wS_app]; simp only [wS]; omega
    have i1 := wS_ins (insI (xs.take j ++ xs.drop (j + 1)) a) b
    have i2 := wS_ins (xs.take j ++ xs.drop (j + 1)) a
    have i3 := pow3_lt (a := (a / 2).toNat) (b := (b / 2).toNat) (k := (l / 2).toNat) (by omega) (by omega)
    omega
noncomputable def pBc (p : Prop) : Bool := @decide p (Classical.propDecidable p)
theorem pBc_yes {p : Prop} (h : p) : pBc p = true := @decide_eq_true p (Classical.propDecidable p) h
theorem pBc_no {p : Prop} (h : ¬ p) : pBc p = false := @decide_eq_false p (Classical.propDecidable p) h
/-- ascending -/
def Asc (xs : List Int) : Prop := ∀ i, i + 1 < xs.length → xs.getD i 0 < xs.getD (i + 1) 0
theorem asc_pair : ∀ {xs : List Int}, Asc xs ↔ xs.Pairwise (· < ·)
  | [] => by simp [Asc]
  | [a] => by simp [Asc]
  | a :: b :: t => by
    have ih := asc_pair (xs := b :: t)
    rw [List.pairwise_cons]
    constructor
    · intro h
      have hp := ih.1 (fun i hi => by have := h (i + 1) (by simpa using hi); simpa using this)
      have h0 : a < b := by have := h 0 (by simp); simpa using this
      refine ⟨fun x hx => ?_, hp⟩
      rcases List.mem_cons.1 hx with rfl | hx
      · exact h0
      · have := (List.pairwise_cons.1 hp).1 x hx; omega
    · rintro ⟨h1, h2⟩ i hi
      cases i with
      | zero => have := h1 b List.mem_cons_self; simpa using this
      | succ i => have := ih.2 h2 i (by simpa using hi); simpa using this
/-- the nodes below one -/
inductive Rch (n : Nt) (top : Int) : Int → Prop
  | top : Rch n top top
  | a {k : Int} : Rch n top k → n.fst ≤ k → Rch n top (ndA n k / 2)
  | b {k : Int} : Rch n top k → n.fst ≤ k → Rch n top (ndB n k / 2)
theorem Rch.trans {n : Nt} {i j k : Int} (h : Rch n i j) (h' : Rch n j k) : Rch n i k := by
  induction h' with
  | top => exact h
  | a _ hf ih => exact .a ih hf
  | b _ hf ih => exact .b ih hf
theorem Rch.rng {n : Nt} (hn : NtOk n) {i k : Int} (h0 : 0 ≤ i) (h1 : i < n.cnt) (h : Rch n i k) : 0 ≤ k ∧ k ≤ i := by
  induction h with
  | top => omega
  | a _ hf ih => obtain ⟨o1, o2, o3, o4, o5, o6⟩ := nd_ok hn hf (by omega); omega
  | b _ hf ih => obtain ⟨o1, o2, o3, o4, o5, o6⟩ := nd_ok hn hf (by omega); omega
theorem cone_rch {n : Nt} {node : Int} {xs : List Int} (h : ConeOk n node xs) {k : Int} (hr : Rch n node k) : k ∈ xs := by
  induction hr with
  | top => exact h.top
  | a _ hf ih => exact (h.clo _ ih hf).1
  | b _ hf ih => exact (h.clo _ ih hf).2
/-- nothing escapes a cut -/
inductive Cov (n : Nt) (cut : List Int) : Int → Prop
  | zero : Cov n cut 0
  | mem {k : Int} : k ∈ cut → Cov n cut k
  | and {k : Int} : n.fst ≤ k → k < n.cnt → Cov n cut (ndA n k / 2) → Cov n cut (ndB n k / 2) → Cov n cut k
theorem Cov.mono {n : Nt} {c c' : List Int} (hs : ∀ k ∈ c, k ∈ c') {k : Int} (h : Cov n c k) : Cov n c' k := by
  induction h with
  | zero => exact .zero
  | mem hm => exact .mem (hs _ hm)
  | and h0 h1 _ _ ia ib => exact .and h0 h1 ia ib
structure IsCut (n : Nt) (node : Int) (xs : List Int) : Prop where
  asc : xs.Pairwise (· < ·)
  len : xs.length ≤ 4
  rch : ∀ k ∈ xs, Rch n node k
  cov : Cov n xs node
theorem cut_one (n : Nt) (k : Int) : IsCut n k [k] := ⟨by simp, by simp, fun x hx => by rw [List.mem_singleton] at hx; subst hx; exact .top, .mem (by simp)⟩
theorem cut_zero (n : Nt) : IsCut n 0 [] := ⟨by simp, by simp, fun x hx => (by cases hx), .zero⟩
structure JoinOk (a b u : List Int) : Prop where
  asc : u.Pairwise (· < ·)
  len : u.length ≤ 4
  mem : ∀ k, k ∈ u ↔ k ∈ a ∨ k ∈ b
theorem cut_and {n : Nt} {node : Int} {a b u : List Int} (h0 : n.fst ≤ node) (h1 : node < n.cnt) (ha : IsCut n (ndA n node / 2) a) (hb : IsCut n (ndB n node / 2) b) (h : JoinOk a b u) : IsCut n node u :=
  ⟨h.asc, h.len, fun k hk => by
    rcases (h.mem k).1 hk with hk | hk
    · exact (Rch.a .top h0).trans (ha.rch k hk)
    · exact (Rch.b .top h0).trans (hb.rch k hk), .and h0 h1 (ha.cov.mono fun k hk => (h.mem k).2 (.inl hk)) (hb.cov.mono fun k hk => (h.mem k).2 (.inr hk))⟩
theorem IsCut.rng {n : Nt} (hn : NtOk n) {node : Int} {xs : List Int} (h0 : 0 ≤ node) (h1 : node < n.cnt) (h : IsCut n node xs) {k : Int} (hk : k ∈ xs) : 0 ≤ k ∧ k ≤ node := (h.rch k hk).rng hn h0 h1
/-- the union of two lists as it grows -/
def insAll (a : List Int) (b : List Int) (i : Nat) : List Int := (b.take i).foldl insI a
theorem insAll_step (a b : List Int) {i : Nat} (h : i < b.length) : insI (insAll a b i) (b.getD i 0) = insAll a b (i + 1) := by
  unfold insAll; rw [take_snocG 0 h, List.foldl_append]; rfl
theorem insAll_ok (a b : List Int) (ha : a.Pairwise (· < ·)) : ∀ i, i ≤ b.length → (insAll a b i).Pairwise (· < ·) ∧ (∀ k, k ∈ insAll a b i ↔ k ∈ a ∨ k ∈ b.take i) ∧ (insAll a b i).length ≤ a.length + i
  | 0, _ => ⟨ha, fun k => by simp [insAll], by simp [insAll]⟩
  | i + 1, h => by
    obtain ⟨h1, h2, h3⟩ := insAll_ok a b ha i (by omega)
    rw [← insAll_step a b (by omega)]
    refine ⟨insI_sorted _ _ h1, fun k => ?_, ?_⟩
    · rw [insI_mem, h2, take_snocG 0 (show i < b.length by omega), List.mem_append, List.mem_singleton]
      constructor
      · rintro (h | h | h)
        · exact .inr (.inr h)
        · exact .inl h
        · exact .inr (.inl h)
      · rintro (h | h | h)
        · exact .inr (.inl h)
        · exact .inr (.inr h)
        · exact .inl h
    · have := insI_len (insAll a b i) (b.getD i 0); omega
theorem join_of {a b : List Int} (ha : a.Pairwise (· < ·)) (hl : (insAll a b b.length).length ≤ 4) : JoinOk a b (insAll a b b.length) := by
  obtain ⟨h1, h2, -⟩ := insAll_ok a b ha b.length (Nat.le_refl _)
  exact ⟨h1, hl, fun k => by rw [h2, List.take_length]⟩
/-- lists that are compared -/
def CLess (a b : List Int) : Prop := a.length < b.length ∨ a.length = b.length ∧ ∃ i, i < a.length ∧ (∀ j, j < i → a.getD j 0 = b.getD j 0) ∧ a.getD i 0 < b.getD i 0
theorem cless_len {a b : List Int} (h : a.length ≠ b.length) : pBc (CLess a b) = decide ((a.length : Int) < b.length) := by
  by_cases c : a.length < b.length
  · rw [pBc_yes (.inl c), decide_eq_true (by omega)]
  · rw [pBc_no (by rintro (h1 | h1) <;> omega), decide_eq_false (by omega)]
theorem cless_at {a b : List Int} {i : Nat} (h : a.length = b.length) (hi : i < a.length) (hj : ∀ j, j < i → a.getD j 0 = b.getD j 0) (hne : a.getD i 0 ≠ b.getD i 0) : pBc (CLess a b) = decide (a.getD i 0 < b.getD i 0) := by
  by_cases c : a.getD i 0 < b.getD i 0
  · rw [pBc_yes (.inr ⟨h, i, hi, hj, c⟩), decide_eq_true c]
  · rw [decide_eq_false c, pBc_no]
    rintro (h1 | ⟨-, k, hk, h1, h2⟩)
    · omega
    · rcases Nat.lt_trichotomy k i with e | e | e
      · have := hj k e; omega
      · subst e; exact c h2
      · exact hne (h1 i e)
theorem cless_eq {a b : List Int} (h : a.length = b.length) (hj : ∀ j, j < a.length → a.getD j 0 = b.getD j 0) : pBc (CLess a b) = false := pBc_no (by
  rintro (h1 | ⟨-, k, hk, h1, h2⟩)
  · omega
  · have := hj k hk; omega)
def bix (v : Int) (l : Int) : Int := if l % 2 = 0 then v else 1 - v
def cbit (cut : List Int) (idx : Int) (k : Int) : Int := idx / 2 ^ (cut.idxOf k) % 2
def vaF (n : Nt) (cut : List Int) (idx : Int) : Nat → Int → Int
  | 0, _ => 0
  | f + 1, k => if k ∈ cut then cbit cut idx k else if k < n.fst then 0 else bix (vaF n cut idx f (ndA n k / 2)) (ndA n k) * bix (vaF n cut idx f (ndB n k / 2)) (ndB n k)
theorem vaF_eq {n : Nt} (hn : NtOk n) (cut : List Int) (idx : Int) : ∀ (f g : Nat) (k : Int), k < n.cnt → k.toNat < f → k.toNat < g → vaF n cut idx f k = vaF n cut idx g k
  | 0, _, _, _, h, _ => absurd h (by omega)
  | _ + 1, 0, _, _, _, h => absurd h (by omega)
  | f + 1, g + 1, k, hc, hf, hg => by
    unfold vaF
    by_cases c1 : k ∈ cut
    · rw [if_pos c1, if_pos c1]
    · rw [if_neg c1, if_neg c1]
      by_cases c2 : k < n.fst
      · rw [if_pos c2, if_pos c2]
      · rw [if_neg c2, if_neg c2]
        obtain ⟨o1, o2, o3, o4, o5, o6⟩ := nd_ok hn (k := k) (by omega) hc
        rw [vaF_eq hn cut idx f g (ndA n k / 2) (by omega) (by omega) (by omega), vaF_eq hn cut idx f g (ndB n k / 2) (by omega) (by omega) (by omega)]
def va (n : Nt) (cut : List Int) (idx k : Int) : Int := vaF n cut idx (k.toNat + 1) k
theorem va_mem {n : Nt} {cut : List Int} {idx k : Int} (h : k ∈ cut) : va n cut idx k = cbit cut idx k := by unfold va vaF; rw [if_pos h]
theorem va_leaf {n : Nt} {cut : List Int} {idx k : Int} (h : ¬ k ∈ cut) (hf : k < n.fst) : va n cut idx k = 0 := by unfold va vaF; rw [if_neg h, if_pos hf]
theorem va_and {n : Nt} (hn : NtOk n) {cut : List Int} {idx k : Int} (h : ¬ k ∈ cut) (hf : n.fst ≤ k) (hc : k < n.cnt) : va n cut idx k = bix (va n cut idx (ndA n k / 2)) (ndA n k) * bix (va n cut idx (ndB n k / 2)) (ndB n k) := by
  obtain ⟨o1, o2, o3, o4, o5, o6⟩ := nd_ok hn hf hc
  unfold va
  rw [vaF, if_neg h, if_neg (by omega), vaF_eq hn cut idx k.toNat ((ndA n k / 2).toNat + 1) (ndA n k / 2) (by omega) (by omega) (by omega), vaF_eq hn cut idx k.toNat ((ndB n k / 2).toNat + 1) (ndB n k / 2) (by omega) (by omega) (by omega)]
theorem cbit01 (cut : List Int) (idx k : Int) : cbit cut idx k = 0 ∨ cbit cut idx k = 1 := by unfold cbit; omega
theorem bix01 {v : Int} (h : v = 0 ∨ v = 1) (l : Int) : bix v l = 0 ∨ bix v l = 1 := by unfold bix; split <;> omega
theorem mul01 {a b : Int} (ha : a = 0 ∨ a = 1) (hb : b = 0 ∨ b = 1) : a * b = 0 ∨ a * b = 1 := by
  rcases ha with e | e <;> rcases hb with e' | e' <;> rw [e, e'] <;> decide
theorem vaF01 (n : Nt) (cut : List Int) (idx : Int) : ∀ (f : Nat) (k : Int), vaF n cut idx f k = 0 ∨ vaF n cut idx f k = 1
  | 0, _ => .inl rfl
  | f + 1, k => by
    unfold vaF
    by_cases c1 : k ∈ cut
    · rw [if_pos c1]; exact cbit01 _ _ _
    · rw [if_neg c1]
      by_cases c2 : k < n.fst
      · rw [if_pos c2]; exact .inl rfl
      · rw [if_neg c2]; exact mul01 (bix01 (vaF01 n cut idx f _) _) (bix01 (vaF01 n cut idx f _) _)
theorem va01 (n : Nt) (cut : List Int) (idx k : Int) : va n cut idx k = 0 ∨ va n cut idx k = 1 := vaF01 _ _ _ _ _
theorem bix_bit (v : List Int) (l : Int) : bix (v.getD (l / 2).toNat 0) l = bitL v l := rfl
/-- with the values of the cut's nodes, a node above it has its own value -/
theorem va_val {n : Nt} (hn : NtOk n) {v : List Int} (hv : AndV n v) (h0 : v.getD 0 0 = 0) {cut : List Int} {idx : Int} (hb : ∀ k ∈ cut, 0 ≤ k → cbit cut idx k = v.getD k.toNat 0) {k : Int} (h : Cov n cut k) : 0 ≤ k → va n cut idx k = v.getD k.toNat 0 := by
  have hf0 : 1 ≤ n.fst := by have := hn.i0; unfold Nt.fst; omega
  induction h with
  | zero =>
    intro hk
    by_cases c : (0 : Int) ∈ cut
    · rw [va_mem c]; exact hb 0 c hk
    · rw [va_leaf c (by omega)]; exact h0.symm
  | mem hm => intro hk; rw [va_mem hm]; exact hb _ hm hk
  | @and k hf hc _ _ ia ib =>
    intro hk
    by_cases c : k ∈ cut
    · rw [va_mem c]; exact hb _ c hk
    · obtain ⟨o1, o2, o3, o4, o5, o6⟩ := nd_ok hn hf hc
      rw [va_and hn c hf hc, ia (by omega), ib (by omega), bix_bit, bix_bit]
      have := hv.at_ (k - n.fst).toNat o1
      rw [show n.fst + ((k - n.fst).toNat : Int) = k by omega] at this
      exact this.symm
/-- bits of a number that is put together -/
def pkI (b : Nat → Int) : Nat → Int
  | 0 => 0
  | k + 1 => pkI b k + b k * 2 ^ k
theorem pkI_rng {b : Nat → Int} : ∀ k, (∀ q, q < k → b q = 0 ∨ b q = 1) → 0 ≤ pkI b k ∧ pkI b k < 2 ^ k
  | 0, _ => ⟨Int.le_refl _, by show (0 : Int) < 2 ^ 0; decide⟩
  | k + 1, h => by
    have ih := pkI_rng k (fun q hq => h q (by omega))
    have hk := h k (by omega)
    have hp : (0 : Int) < 2 ^ k := Int.pow_pos (by decide)
    unfold pkI
    rw [Int.pow_succ]
    rcases hk with e | e <;> rw [e] <;> omega
theorem pkI_bit {b : Nat → Int} : ∀ k i, i < k → (∀ q, q < k → b q = 0 ∨ b q = 1) → pkI b k / 2 ^ i % 2 = b i
  | 0, i, h, _ => absurd h (by omega)
  | k + 1, i, h, hb => by
    have hp : (2 : Int) ^ i ≠ 0 := by have : (0 : Int) < 2 ^ i := Int.pow_pos (by decide); omega
    have hr := pkI_rng (b := b) k (fun q hq => hb q (by omega))
    unfold pkI
    by_cases c : i = k
    · subst c
      rw [Int.add_mul_ediv_right _ _ hp, Int.ediv_eq_zero_of_lt hr.1 hr.2]
      have := hb i (by omega); omega
    · obtain ⟨m, rfl⟩ : ∃ m, k = i + 1 + m := ⟨k - (i + 1), by omega⟩
      have e : b (i + 1 + m) * 2 ^ (i + 1 + m) = (b (i + 1 + m) * 2 ^ m * 2) * 2 ^ i := by
        rw [Int.pow_add, Int.pow_succ]; simp only [Int.mul_comm, Int.mul_left_comm, Int.mul_assoc]
      rw [e, Int.add_mul_ediv_right _ _ hp, Int.add_mul_emod_self_right]
      exact pkI_bit (i + 1 + m) i (by omega) (fun q hq => hb q (by omega))
theorem pkI_cut {cut v : List Int} (hv : B01 v) (hr : ∀ k ∈ cut, 0 ≤ k ∧ k < v.length) : ∀ k ∈ cut, 0 ≤ k → cbit cut (pkI (fun i => v.getD (cut.getD i 0).toNat 0) cut.length) k = v.getD k.toNat 0 := fun k hk h0 => by
  have hi : cut.idxOf k < cut.length := List.idxOf_lt_length_of_mem hk
  have he : cut.getD (cut.idxOf k) 0 = k := by rw [List.getD_eq_getElem?_getD, List.getElem?_eq_getElem hi, Option.getD_some, List.getElem_idxOf]
  unfold cbit
  rw [pkI_bit cut.length _ hi (fun q hq => by have := hr _ (getD_memX (d := (0 : Int)) hq); exact hv _ (by omega))]
  simp only [he]
structure MemoOk (n : Nt) (cut : List Int) (idx : Int) (ms : List Int) : Prop where
  len : (ms.length : Int) = n.cnt
  at_ : ∀ k, k < ms.length → ms.getD k 0 = 0 ∨ ms.getD k 0 = 1 + va n cut idx k
theorem memo_start {n : Nt} (hc : 0 ≤ n.cnt) (cut : List Int) (idx : Int) : MemoOk n cut idx (List.replicate n.cnt.toNat 0) :=
  ⟨by rw [List.length_replicate]; omega, fun k hk => .inl (by rw [List.getD_eq_getElem?_getD, List.getElem?_replicate]; split <;> rfl)⟩
theorem MemoOk.set {n : Nt} {cut : List Int} {idx : Int} {ms : List Int} (h : MemoOk n cut idx ms) {k : Nat} (hk : k < ms.length) {x : Int} (hx : x = 1 + va n cut idx k) : MemoOk n cut idx (ms.set k x) :=
  ⟨by rw [List.length_set]; exact h.len, fun j hj => by
    rw [List.length_set] at hj
    by_cases e : k = j
    · subst e; rw [getD_set_self' hk]; exact .inr hx
    · rw [List.getD_eq_getElem?_getD, List.getElem?_set_ne e, ← List.getD_eq_getElem?_getD]; exact h.at_ j hj⟩
theorem idxOf_first {cut : List Int} {k : Int} {i : Nat} (hi : i < cut.length) (he : cut.getD i 0 = k) (hj : ∀ j, j < i → cut.getD j 0 ≠ k) : cut.idxOf k = i := by
  have hm : k ∈ cut := by rw [← he]; exact getD_memX hi
  have h1 : cut.idxOf k < cut.length := List.idxOf_lt_length_of_mem hm
  have h2 : cut.getD (cut.idxOf k) 0 = k := by rw [List.getD_eq_getElem?_getD, List.getElem?_eq_getElem h1, Option.getD_some, List.getElem_idxOf]
  rcases Nat.lt_trichotomy (cut.idxOf k) i with e | e | e
  · exact absurd h2 (hj _ e)
  · exact e
  · exfalso
    have := List.not_of_lt_findIdx (p := (· == k)) (xs := cut) (i := i) (by simpa [List.idxOf] using e)
    rw [List.getD_eq_getElem?_getD, List.getElem?_eq_getElem hi, Option.getD_some] at he
    exact absurd he (by simpa using this)
theorem not_mem_of {cut : List Int} {k : Int} (hj : ∀ j, j < cut.length → cut.getD j 0 ≠ k) : ¬ k ∈ cut := fun hm => by
  obtain ⟨i, hi, he⟩ := List.getElem_of_mem hm
  refine hj i hi ?_
  rw [List.getD_eq_getElem?_getD, List.getElem?_eq_getElem hi, Option.getD_some]; exact he
def JoinsOf (ca cb : List CRow) (u : List Int) : Prop := ∃ x ∈ ca, ∃ y ∈ cb, JoinOk x.xs y.xs u
structure CandOk (ca cb : List CRow) (i j : Nat) (rs : List CRow) : Prop where
  len : rs.length ≤ i * cb.length + j
  ok : ∀ r ∈ rs, JoinsOf ca cb r.xs
/-- the cuts of a node -/
structure CutsOk (n : Nt) (node : Int) (rs : List CRow) : Prop where
  pos : 1 ≤ rs.length
  len : rs.length ≤ 8
  ok : ∀ r ∈ rs, IsCut n node r.xs
set_option maxHeartbeats 4000000 in
set_option maxRecDepth 100000 in
theorem DrawNode_ret (a : Option Addr) (len cap : Nat) (z : List Int) (w : World) (hb : BRow .u8 w a len cap z) (hlen : len ≤ 1048576) :
  Calls Try.prog 27 #[.slice a len cap] w (Ret w (fun v' post => ∃ (n : Nt) (node : Int), v' = .tuple #[n.agg, .int .i64 node] ∧ post = [ntE n] ∧ (n.sv.oneCell' = true ∧ n.av.oneCell' = true ∧ n.ov.oneCell' = true) ∧ NtOk n ∧ (n.ins ≤ 4 ∧ (n.ss.length : Int) ≤ 3 ∧ (n.gs.length : Int) ≤ 14) ∧ 0 ≤ node ∧ node < n.cnt)) := by
 refine calls_hc (N := 15) (args := [.slice a len cap]) Try.func27 rfl rfl ?_
 refine hc_less _ (sx 0 rfl (sub_nil _)) (.refl _) ?_
 refine hc_seq ?_
 refine hc_region ?_
 refine hl_box rfl rfl rfl (rq_alloc (z := .agg #[.int .i64 0, .slice none 0 0, .slice none 0 0, .slice none 0 0]) rfl (by kernel_rfl)) ?_
 intro b1
 refine hl_v rfl rfl rfl (rv_ev rfl) ?_
 refine hl_less (sx 0 rfl (sx 2 rfl (sx 3 rfl (sub_nil _)))) (.refl _) ?_
 refine hl_nil ?_
 refine hq_then ?_
 refine hc_seq ?_
 refine hc_region ?_
 refine hl_v rfl rfl rfl (rv_ev rfl) ?_
 refine hl_q rfl rfl rfl (rq_call (by kernel_rfl) rfl (fun w hm => new_ret (hb.below hm.bel) hlen)) ?_
 intro v2 p3 hR4
 obtain ⟨ghR4, rfl, rfl⟩ := hR4
 refine hl_v rfl rfl rfl (rv_ev rfl) ?_
 refine hl_less (sx 0 rfl (sx 2 rfl (sx 3 rfl (sx 4 rfl (sub_nil _))))) (.refl _) ?_
 refine hl_nil ?_
 refine hq_then ?_
 refine hc_seq ?_
 refine hc_region ?_
 refine hl_v rfl rfl rfl (rv_ev rfl) ?_
 refine hl_callM (R := (fun u_ p_ => ∃ n : Nt, u_ = n.agg ∧ p_ = bigE [curE ghR4 a len cap, ntE n] ∧ (n.sv.oneCell' = true ∧ n.av.oneCell' = true ∧ n.ov.oneCell' = true) ∧ NtOk n ∧ n.ins ≤ 4 ∧ (n.ss.length : Int) ≤ 3 ∧ (n.gs.length : Int) ≤ 14)) 0 rfl rfl (by kernel_rfl) rfl rfl (fun l' w hm => l08Net_mut ghR4 a len cap z _ _ _ hm hb) ?_
 intro v5 p6 hR7
 obtain ⟨n, rfl, rfl, ⟨o1n, o2n, o3n⟩, hn, hnq1, hnq2, hnq3⟩ := hR7
 refine hl_eqL (l' := [bigE [curE ghR4 a len cap, ntE n], boxE b1 #[.int .i64 0, .slice none 0 0, .slice none 0 0, .slice none 0 0] 28]) rfl ?_
 refine hl_box rfl rfl rfl (rq_alloc (z := .agg #[.int .i64 0, .slice none 0 0, .slice none 0 0, .slice none 0 0]) rfl (by kernel_rfl)) ?_
 intro b8
 refine hl_storeBoxN (i := 0) (off := 0) (us := [.int .i64 n.ins, n.sv, n.av, n.ov])  (l' := [boxE b8 #[.int .i64 n.ins, n.sv, n.av, n.ov] 28, bigE [curE ghR4 a len cap, ntE n], boxE b1 #[.int .i64 0, .slice none 0 0, .slice none 0 0, .slice none 0 0] 28]) rfl rfl rfl (by kernel_rfl) rfl rfl rfl (all_cons rfl (all_cons o1n (all_cons o2n (all_cons o3n all_nil)))) rfl rfl rfl ?_
 refine hl_less (sx 0 rfl (sx 2 rfl (sx 3 rfl (sx 4 rfl (sx 5 rfl (sub_nil _)))))) (.refl _) ?_
 refine hl_nil ?_
 refine hq_then ?_
 refine hc_seq ?_
 refine hc_conv [bigE [curE ghR4 a len cap, ntE n], boxE b8 #[.int .i64 n.ins, n.sv, n.av, n.ov] 28, boxE b1 #[.int .i64 0, .slice none 0 0, .slice none 0 0, .slice none 0 0] 28] (conv_pick (src := [boxE b8 #[.int .i64 n.ins, n.sv, n.av, n.ov] 28, bigE [curE ghR4 a len cap, ntE n], boxE b1 #[.int .i64 0, .slice none 0 0, .slice none 0 0, .slice none 0 0] 28]) (dst := [bigE [curE ghR4 a len cap, ntE n], boxE b8 #[.int .i64 n.ins, n.sv, n.av, n.ov] 28, boxE b1 #[.int .i64 0, .slice none 0 0, .slice none 0 0, .slice none 0 0] 28]) (l := []) [1, 0, 2] (by decide) rfl) ?_
 refine hc_conv [curE ghR4 a len cap, ntE n, boxE b8 #[.int .i64 n.ins, n.sv, n.av, n.ov] 28, boxE b1 #[.int .i64 0, .slice none 0 0, .slice none 0 0, .slice none 0 0] 28] conv_unbig ?_
 have hi0 := hn.i0
 have hi1 := hn.i1
 have hs1 := hn.s1
 have ha1 := hn.a1
 have ho1 := hn.o1
 have hcnt : n.cnt = 1 + n.ins + n.ss.length + n.gs.length := rfl
 have hfst : n.fst = 1 + n.ins + n.ss.length := rfl
 refine hc_draw2 (l := [ntE n, boxE b8 #[.int .i64 n.ins, n.sv, n.av, n.ov] 28, boxE b1 #[.int .i64 0, .slice none 0 0, .slice none 0 0, .slice none 0 0] 28]) (by kernel_rfl) 5 [0, 1, 2, 3, 4] (List.take 5 _) (List.drop 5 _) [[], [], [], [2], [1, 3]] [10, 11, 12, 13, 14] (fun i_ vs_ v_ p_ => match i_ with | 0 => v_ = .agg #[.int .i64 n.ins, n.sv, n.av, n.ov] ∧ p_ = [] | 1 => v_ = .pointer (some ⟨ghR4, 0, none⟩) ∧ p_ = [] | 2 => v_ = .agg #[.int .i64 n.ins, n.sv, n.av, n.ov] ∧ p_ = [] | 3 => v_ = .int .i64 n.cnt ∧ p_ = [] | 4 => (∃ pm_, p_ = [pm_] ∧ (fun u_ p_ => (∃ x_ : Int, u_ = .int .i64 x_ ∧ 0 ≤ x_ ∧ x_ < n.cnt) ∧ p_ = curE ghR4 a len cap) v_ pm_) | _ => True) [[], [], [], [2], [1, 3]] [none, none, none, none, some 7] [curE ghR4 a len cap] [0, 1, 2, 3, 4] 7 (List.take_append_drop 5 _).symm (by kernel_rfl) (by kernel_rfl) (by kernel_rfl) rfl rfl ?_ ?_
 ·
  refine ⟨?_, ?_, ?_, ?_, ?_, trivial⟩
  ·
   intro vf pf hmu hR
   refine Or.inl ⟨rfl, ?_⟩
   show RunQ _ _ _ (([] : List Nat).flatMap pf ++ _) (envOf _ vf [] ++ _) _ _
   refine rq_less (sx 5 rfl (sub_nil _)) (List.sublist_append_right _ _) ?_
   exact rq_v (rv_loadN (cs := [.int .i64 n.ins, n.sv, n.av, n.ov]) rfl (by kernel_rfl) (by kernel_rfl) rfl rfl (box_part 1 rfl 0 rfl))
  ·
   intro vf pf hmu hR
   refine Or.inl ⟨rfl, ?_⟩
   show RunQ _ _ _ (([] : List Nat).flatMap pf ++ _) (envOf _ vf [] ++ _) _ _
   refine rq_less (sx 4 rfl (sub_nil _)) (List.sublist_append_right _ _) ?_
   exact rq_v (rv_ev rfl)
  ·
   intro vf pf hmu hR
   refine Or.inl ⟨rfl, ?_⟩
   show RunQ _ _ _ (([] : List Nat).flatMap pf ++ _) (envOf _ vf [] ++ _) _ _
   refine rq_less (sx 5 rfl (sub_nil _)) (List.sublist_append_right _ _) ?_
   exact rq_v (rv_loadN (cs := [.int .i64 n.ins, n.sv, n.av, n.ov]) rfl (by kernel_rfl) (by kernel_rfl) rfl rfl (box_part 1 rfl 0 rfl))
  ·
   intro vf pf hmu hR
   have e2 : (vf 2) = .agg #[.int .i64 n.ins, n.sv, n.av, n.ov] ∧ (pf 2) = [] := hR 2 (by decide)
   refine Or.inl ⟨rfl, ?_⟩
   show RunQ _ _ _ (([2] : List Nat).flatMap pf ++ _) (envOf _ vf [2] ++ _) _ _
   refine rq_less (sx 12 (congrArg some e2.1) (sub_nil _)) (List.sublist_append_right _ _) ?_
   exact (rq_call (by kernel_rfl) rfl (fun w hm => ret_ans (specNodeCount_yes n w (nt_rds 0 rfl w hm) hn)))
  ·
   intro vf pf hmu hR
   have e1 : (vf 1) = .pointer (some ⟨ghR4, 0, none⟩) ∧ (pf 1) = [] := hR 1 (by decide)
   have e3 : (vf 3) = .int .i64 n.cnt ∧ (pf 3) = [] := hR 3 (by decide)
   refine Or.inl ⟨rfl, ?_⟩
   show RunM _ _ _ (pf 7) (([1, 3] : List Nat).flatMap pf ++ _) (envOf _ vf [1, 3] ++ _) _ _
   rw [hmu]
   refine rm_less (X' := [ntE n, boxE b8 #[.int .i64 n.ins, n.sv, n.av, n.ov] 28, boxE b1 #[.int .i64 0, .slice none 0 0, .slice none 0 0, .slice none 0 0] 28]) (sx 11 (congrArg some e1.1) (sx 13 (congrArg some e3.1) (sub_nil _))) (by first | (simp only [e1.2, e3.2, List.flatMap_cons, List.flatMap_nil, List.append_nil, List.nil_append, List.cons_append]; exact List.Sublist.refl _) | simp [e1.2, e3.2]) ?_
   exact rq_callM (R := (fun u_ p_ => (∃ x_ : Int, u_ = .int .i64 x_ ∧ 0 ≤ x_ ∧ x_ < n.cnt) ∧ p_ = curE ghR4 a len cap)) (by kernel_rfl) rfl (fun L w hX hm => belowN_mut ghR4 a len cap z n.cnt _ _ _ hm hb (by constructor <;> omega))
 ·
  intro vf pf hmu hR
  have e0 : (vf 0) = .agg #[.int .i64 n.ins, n.sv, n.av, n.ov] ∧ (pf 0) = [] := hR 0 (by decide)
  have e4 : (∃ pm_, (pf 4) = [pm_] ∧ (fun u_ p_ => (∃ x_ : Int, u_ = .int .i64 x_ ∧ 0 ≤ x_ ∧ x_ < n.cnt) ∧ p_ = curE ghR4 a len cap) (vf 4) pm_) := hR 4 (by decide)
  obtain ⟨p10, p4, hR11⟩ := e4
  obtain ⟨v9, v4⟩ : ∃ x, vf 4 = x := ⟨_, rfl⟩
  rw [v4] at hR11
  obtain ⟨⟨xhR11, rfl, xhR110, xhR111⟩, rfl⟩ := hR11
  have q0 : (vf 0) = .agg #[.int .i64 n.ins, n.sv, n.av, n.ov] ∧ (pf 0) = [] := hR 0 (by decide)
  have q1 : (vf 1) = .pointer (some ⟨ghR4, 0, none⟩) ∧ (pf 1) = [] := hR 1 (by decide)
  have q2 : (vf 2) = .agg #[.int .i64 n.ins, n.sv, n.av, n.ov] ∧ (pf 2) = [] := hR 2 (by decide)
  have q3 : (vf 3) = .int .i64 n.cnt ∧ (pf 3) = [] := hR 3 (by decide)
  refine hl_less (l' := [curE ghR4 a len cap, ntE n, boxE b8 #[.int .i64 n.ins, n.sv, n.av, n.ov] 28, boxE b1 #[.int .i64 0, .slice none 0 0, .slice none 0 0, .slice none 0 0] 28]) (sx 0 rfl (sx 2 rfl (sx 3 rfl (sx 4 rfl (sx 5 rfl (sx 10 (congrArg some e0.1) (sx 14 (congrArg some v4) (sub_nil _)))))))) (by first | (simp only [p4, v4, q0.2, q1.2, q2.2, q3.2, List.flatMap_cons, List.flatMap_nil, List.append_nil, List.nil_append, List.cons_append]; exact List.Sublist.refl _) | simp [p4, v4, q0.2, q1.2, q2.2, q3.2]) ?_
  simp only [List.drop_succ_cons, List.drop_zero]
  refine hl_storeBoxN (i := 3) (off := 0) (us := [.int .i64 n.ins, n.sv, n.av, n.ov])  (l' := [curE ghR4 a len cap, ntE n, boxE b8 #[.int .i64 n.ins, n.sv, n.av, n.ov] 28, boxE b1 #[.int .i64 n.ins, n.sv, n.av, n.ov] 28]) rfl rfl rfl (by kernel_rfl) rfl rfl rfl (all_cons rfl (all_cons o1n (all_cons o2n (all_cons o3n all_nil)))) rfl rfl rfl ?_
  refine hl_v rfl rfl rfl (rv_ev rfl) ?_
  refine hl_less (sx 0 rfl (sx 2 rfl (sx 3 rfl (sx 4 rfl (sx 5 rfl (sub_nil _)))))) (.refl _) ?_
  refine hl_nil ?_
  refine hq_then ?_
  refine hc_ret ?_
  exact hq_retM (rs := [.cell 2 28, .tmp 3]) (vs := [.agg #[.int .i64 n.ins, n.sv, n.av, n.ov], .int .i64 xhR11]) (post := [ntE n]) rfl ⟨⟨b1, 0, [.int .i64 n.ins, n.sv, n.av, n.ov], rfl, rfl, by kernel_rfl, by kernel_rfl, box_part 3 rfl 0 rfl⟩, rfl, trivial⟩ rfl ((.cons _ (.cons_cons _ (.cons _ (.cons _ .slnil))))) ⟨n, xhR11, rfl, rfl, ⟨o1n, o2n, o3n⟩, hn, ⟨hnq1, hnq2, hnq3⟩, by omega, by omega⟩
open Go.RowKit
theorem asc_step {xs : List Int} {j : Nat} (h1 : 1 ≤ j) (h : ∀ i, i + 1 < j → xs.getD i 0 < xs.getD (i + 1) 0) (hb : xs.getD ((j : Int) - 1).toNat 0 < xs.getD j 0) : ∀ i, i + 1 < j + 1 → xs.getD i 0 < xs.getD (i + 1) 0 := fun i hi => by
  by_cases e : i + 1 = j
  · rw [show ((j : Int) - 1).toNat = i by omega] at hb; rw [e]; exact hb
  · exact h i (by omega)
theorem asc_no {xs : List Int} {j : Nat} (h1 : 1 ≤ j) (hj : j < xs.length) (hb : xs.getD j 0 ≤ xs.getD ((j : Int) - 1).toNat 0) : ¬ Asc xs := fun h => by
  have := h (j - 1) (by omega)
  rw [show j - 1 + 1 = j by omega] at this
  rw [show ((j : Int) - 1).toNat = j - 1 by omega] at hb
  omega
theorem join_ofE {xs ys zs : List Int} {j : Nat} (hxa : xs.Pairwise (· < ·)) (hz : zs = insAll xs ys j) (hj : j = ys.length) (hl : zs.length ≤ 4) : JoinOk xs ys zs := by
  subst hj; subst hz; exact join_of hxa hl
theorem hasBC_mem {xs : List Int} {x : Int} : hasB xs x = true ↔ x ∈ xs := by unfold hasB; exact List.contains_iff_mem
theorem hasBC_no {xs : List Int} {x : Int} (h : ∀ i, i < xs.length → xs.getD i 0 ≠ x) : hasB xs x = false := by
  cases hb : hasB xs x with
  | false => rfl
  | true => exact absurd (hasBC_mem.1 hb) (not_mem_of h)
theorem hasBC_at {xs : List Int} {x : Int} {j : Nat} (hj : j < xs.length) (h : xs.getD j 0 = x) : hasB xs x = true := hasBC_mem.2 (by rw [← h]; exact getD_memX hj)
set_option maxHeartbeats 4000000 in
set_option maxRecDepth 100000 in
theorem hasIntC_ans (xs : List Int) (x : Int) (v : Value) (w : World) (hv : RdsW w v 1 xs.length (xs.map (Value.int .i64))) (hlen : xs.length ≤ 1000000000) :
  Calls Try.prog 137 #[v, .int .i64 x] w (Ans w (.bool (hasB xs x))) := by
 refine calls_hc (N := 17) (args := [v, .int .i64 x]) Try.func137 rfl rfl ?_
 refine hc_less _ (sx 0 rfl (sx 1 rfl (sub_nil _))) (.refl _) ?_
 refine hc_seq ?_
 refine hc_region ?_
 refine hl_v rfl rfl rfl (rv_ev rfl) ?_
 refine hl_less (sx 0 rfl (sx 1 rfl (sx 4 rfl (sub_nil _)))) (.refl _) ?_
 refine hl_nil ?_
 refine hq_then ?_
 refine hc_seq ?_
 refine hc_seq ?_
 refine hc_region ?_
 refine hl_v rfl rfl rfl (rv_ev rfl) ?_
 refine hl_v rfl rfl rfl (rv_len rfl Try.underlying26 rfl (rd_old hv)) ?_
 refine hl_v rfl rfl rfl (rv_ev rfl) ?_
 refine hl_less (sx 0 rfl (sx 1 rfl (sx 4 rfl (sx 7 rfl (sx 8 rfl (sx 9 rfl (sub_nil _))))))) (.refl _) ?_
 refine hl_nil ?_
 refine hq_then ?_
 refine hc_block ?_
 refine hc_loop1 (α := Nat) (fun j => []) (fun j => [(0, v), (1, .int .i64 x), (4, .bool false), (7, v), (8, .int .i64 (xs.length : Int)), (9, .int .i64 (j : Int))]) (fun j => j ≤ xs.length ∧ ∀ i, i < j → xs.getD i 0 ≠ x) (fun j => xs.length - j) 0 ⟨by omega, fun i hi => absurd hi (by omega)⟩ (sx 0 rfl (sx 1 rfl (sx 4 rfl (sx 7 rfl (sx 8 rfl (sx 9 rfl (sub_nil _))))))) (.slnil) ?_
 intro j hi1
 obtain ⟨hk1, hk2⟩ := hi1
 refine hc_seq ?_
 refine hc_region ?_
 refine hl_lss rfl rfl rfl rfl rfl rfl (fun h2 => ?_) (fun h2 => ?_)
 ·
  refine hl_less (sx 0 rfl (sx 1 rfl (sx 4 rfl (sx 7 rfl (sx 8 rfl (sx 9 rfl (sx 10 rfl (sub_nil _)))))))) (.refl _) ?_
  refine hl_nil ?_
  refine hq_then ?_
  refine hc_seq ?_
  refine hc_true rfl ?_
  refine hc_skip ?_
  refine hq_then ?_
  refine hc_seq ?_
  refine hc_block ?_
  refine hc_seq ?_
  refine hc_region ?_
  refine hl_v rfl rfl rfl (rv_index (s := 1) rfl Try.underlying26 (by kernel_rfl) rfl rfl (rd_old hv) (by omega) (by first | omega | (simp only [List.length_set]; omega))) ?_
  refine hl_v rfl rfl rfl (rv_loadEl (u := .int .i64 (xs.getD j 0)) rfl (by kernel_rfl) rfl (rd_old hv) (ints_at1 (show _ < xs.length by first | omega | (simp only [List.length_set]; omega)))) ?_
  refine hl_v rfl rfl rfl (rv_ev rfl) ?_
  refine hl_less (sx 0 rfl (sx 1 rfl (sx 4 rfl (sx 6 rfl (sx 7 rfl (sx 8 rfl (sx 9 rfl (sx 10 rfl (sub_nil _))))))))) (.refl _) ?_
  refine hl_nil ?_
  refine hq_then ?_
  refine hc_seq ?_
  refine hc_region ?_
  refine hl_v rfl rfl rfl (rv_ev rfl) ?_
  refine hl_v rfl rfl rfl (rv_ev rfl) ?_
  refine hl_eql rfl rfl rfl rfl rfl rfl (fun h3 => ?_) (fun h3 => ?_)
  ·
   refine hl_less (sx 0 rfl (sx 1 rfl (sx 4 rfl (sx 6 rfl (sx 7 rfl (sx 8 rfl (sx 9 rfl (sx 10 rfl (sx 15 rfl (sub_nil _)))))))))) (.refl _) ?_
   refine hl_nil ?_
   refine hq_then ?_
   refine hc_true rfl ?_
   refine hc_seq ?_
   refine hc_region ?_
   refine hl_v rfl rfl rfl (rv_ev rfl) ?_
   refine hl_less (sx 0 rfl (sx 1 rfl (sx 4 rfl (sx 6 rfl (sx 7 rfl (sx 8 rfl (sx 9 rfl (sx 10 rfl (sx 15 rfl (sub_nil _)))))))))) (.refl _) ?_
   refine hl_nil ?_
   refine hq_then ?_
   refine hc_ret ?_
   refine hq_block_ret ?_
   refine hq_then_ret ?_
   refine hq_then_ret ?_
   refine hq_block_ret ?_
   refine hq_then_ret ?_
   exact hq_ans rfl rfl (congrArg _ (hasBC_at (j := j) (by omega) (by assumption)).symm)
  ·
   refine hl_less (sx 0 rfl (sx 1 rfl (sx 4 rfl (sx 6 rfl (sx 7 rfl (sx 8 rfl (sx 9 rfl (sx 10 rfl (sx 15 rfl (sub_nil _)))))))))) (.refl _) ?_
   refine hl_nil ?_
   refine hq_then ?_
   refine hc_false rfl ?_
   refine hc_skip ?_
   refine hq_block_normal ?_
   refine hq_then ?_
   refine hc_region ?_
   refine hl_v rfl rfl rfl (rv_add rfl rfl rfl (by constructor <;> omega)) ?_
   refine hl_v rfl rfl rfl (rv_ev rfl) ?_
   refine hl_less (sx 0 rfl (sx 1 rfl (sx 4 rfl (sx 6 rfl (sx 7 rfl (sx 8 rfl (sx 9 rfl (sx 10 rfl (sx 15 rfl (sub_nil _)))))))))) (.refl _) ?_
   refine hl_nil ?_
   exact hq_round1 (j + 1) ⟨by omega, fun i hi => by by_cases hij : i = j; (subst hij; assumption); exact hk2 i (by omega)⟩ (by omega) (sx 0 rfl (sx 1 rfl (sx 4 rfl (sx 7 rfl (sx 8 rfl (sx 9 rfl (sub_nil _))))))) (.slnil)
 ·
  refine hl_less (sx 0 rfl (sx 1 rfl (sx 4 rfl (sx 7 rfl (sx 8 rfl (sx 9 rfl (sx 10 rfl (sub_nil _)))))))) (.refl _) ?_
  refine hl_nil ?_
  refine hq_then ?_
  refine hc_seq ?_
  refine hc_false rfl ?_
  refine hc_exit ?_
  refine hq_then_exit ?_
  refine hq_then_exit ?_
  refine hq_block_exit ?_
  refine hq_then ?_
  refine hc_seq ?_
  refine hc_region ?_
  refine hl_v rfl rfl rfl (rv_ev rfl) ?_
  refine hl_less (sx 0 rfl (sx 1 rfl (sx 4 rfl (sx 7 rfl (sx 8 rfl (sx 9 rfl (sx 10 rfl (sub_nil _)))))))) (.refl _) ?_
  refine hl_nil ?_
  refine hq_then ?_
  refine hc_ret ?_
  exact hq_ans rfl rfl (congrArg _ (hasBC_no (fun i hi => hk2 i (by omega))).symm)
set_option maxHeartbeats 4000000 in
set_option maxRecDepth 100000 in
theorem strAsc_ans (xs : List Int) (v : Value) (w : World) (hv : RdsW w v 1 xs.length (xs.map (Value.int .i64))) (hlen : xs.length ≤ 1000000) :
  Calls Try.prog 136 #[v] w (Ans w (.bool (pBc (Asc xs)))) := by
 refine calls_hc (N := 20) (args := [v]) Try.func136 rfl rfl ?_
 refine hc_less _ (sx 0 rfl (sub_nil _)) (.refl _) ?_
 refine hc_seq ?_
 refine hc_region ?_
 refine hl_v rfl rfl rfl (rv_ev rfl) ?_
 refine hl_less (sx 0 rfl (sx 2 rfl (sub_nil _))) (.refl _) ?_
 refine hl_nil ?_
 refine hq_then ?_
 refine hc_seq ?_
 refine hc_seq ?_
 refine hc_region ?_
 refine hl_v rfl rfl rfl (rv_ev rfl) ?_
 refine hl_less (sx 0 rfl (sx 2 rfl (sx 3 rfl (sub_nil _)))) (.refl _) ?_
 refine hl_nil ?_
 refine hq_then ?_
 refine hc_block ?_
 refine hc_loop1 (α := Nat) (fun j => []) (fun j => [(0, v), (2, .bool false), (3, .int .i64 (j : Int))]) (fun j => 1 ≤ j ∧ ∀ i, i + 1 < j → xs.getD i 0 < xs.getD (i + 1) 0) (fun j => xs.length - j) 1 ⟨by omega, fun i hi => absurd hi (by omega)⟩ (sx 0 rfl (sx 2 rfl (sx 3 rfl (sub_nil _)))) (.slnil) ?_
 intro j hi1
 obtain ⟨hk1, hk2⟩ := hi1
 refine hc_seq ?_
 refine hc_seq ?_
 refine hc_region ?_
 refine hl_v rfl rfl rfl (rv_ev rfl) ?_
 refine hl_v rfl rfl rfl (rv_ev rfl) ?_
 refine hl_v rfl rfl rfl (rv_len rfl Try.underlying26 rfl (rd_old hv)) ?_
 refine hl_lss rfl rfl rfl rfl rfl rfl (fun h2 => ?_) (fun h2 => ?_)
 ·
  refine hl_less (sx 0 rfl (sx 2 rfl (sx 3 rfl (sx 7 rfl (sub_nil _))))) (.refl _) ?_
  refine hl_nil ?_
  refine hq_then ?_
  refine hc_true rfl ?_
  refine hc_skip ?_
  refine hq_then ?_
  refine hc_seq ?_
  refine hc_block ?_
  refine hc_seq ?_
  rcases Bool.eq_false_or_eq_true (decide (xs.getD j 0 ≤ xs.getD (((j : Int) - 1).toNat) 0)) with hb3 | hb3
  ·
   have hb3p : xs.getD j 0 ≤ xs.getD (((j : Int) - 1).toNat) 0 := of_decide_eq_true hb3
   refine hc_draw (by kernel_rfl) 10 [0, 1, 2, 3, 4, 5, 6, 7, 8, 9] (List.take 10 _) (List.drop 10 _) [[], [], [1], [0, 2], [3], [], [], [5, 6], [7], [4, 8]] [10, 11, 12, 13, 14, 15, 16, 17, 18, 19] (fun i_ vs_ v_ p_ => match i_ with | 0 => v_ = v ∧ p_ = [] | 1 => v_ = .int .i64 (j : Int) ∧ p_ = [] | 2 => v_ = .int .i64 ((j : Int) - 1) ∧ p_ = [] | 3 => v_ = elP v (((j : Int) - 1).toNat * 1) ∧ p_ = [] | 4 => v_ = .int .i64 (xs.getD (((j : Int) - 1).toNat) 0) ∧ p_ = [] | 5 => v_ = v ∧ p_ = [] | 6 => v_ = .int .i64 (j : Int) ∧ p_ = [] | 7 => v_ = elP v (((j : Int)).toNat * 1) ∧ p_ = [] | 8 => v_ = .int .i64 (xs.getD j 0) ∧ p_ = [] | 9 => v_ = .bool true ∧ p_ = [] | _ => True) (List.take_append_drop 10 _).symm (by kernel_rfl) (by kernel_rfl) rfl rfl ?_ ?_
   ·
    refine ⟨?_, ?_, ?_, ?_, ?_, ?_, ?_, ?_, ?_, ?_, trivial⟩
    ·
     intro vf pf hR
     refine Or.inl ⟨rfl, ?_⟩
     refine rq_less (sx 0 rfl (sub_nil _)) (List.sublist_append_right _ _) ?_
     exact rq_v (rv_ev rfl)
    ·
     intro vf pf hR
     refine Or.inl ⟨rfl, ?_⟩
     refine rq_less (sx 3 rfl (sub_nil _)) (List.sublist_append_right _ _) ?_
     exact rq_v (rv_ev rfl)
    ·
     intro vf pf hR
     have e1 : (vf 1) = .int .i64 (j : Int) ∧ (pf 1) = [] := hR 1 (by decide)
     refine Or.inl ⟨rfl, ?_⟩
     refine rq_less (sx 11 (congrArg some e1.1) (sub_nil _)) (List.sublist_append_right _ _) ?_
     exact rq_v (rv_sub rfl rfl rfl (by constructor <;> omega))
    ·
     intro vf pf hR
     have e0 : (vf 0) = v ∧ (pf 0) = [] := hR 0 (by decide)
     have e2 : (vf 2) = .int .i64 ((j : Int) - 1) ∧ (pf 2) = [] := hR 2 (by decide)
     refine Or.inl ⟨rfl, ?_⟩
     refine rq_less (sx 10 (congrArg some e0.1) (sx 12 (congrArg some e2.1) (sub_nil _))) (List.sublist_append_right _ _) ?_
     exact rq_v (rv_index (s := 1) rfl Try.underlying26 (by kernel_rfl) rfl rfl (rd_old hv) (by omega) (by first | omega | (simp only [List.length_set]; omega)))
    ·
     intro vf pf hR
     have e3 : (vf 3) = elP v (((j : Int) - 1).toNat * 1) ∧ (pf 3) = [] := hR 3 (by decide)
     refine Or.inl ⟨rfl, ?_⟩
     refine rq_less (sx 13 (congrArg some e3.1) (sub_nil _)) (List.sublist_append_right _ _) ?_
     exact rq_v (rv_loadEl (u := .int .i64 (xs.getD (((j : Int) - 1).toNat) 0)) rfl (by kernel_rfl) rfl (rd_old hv) (ints_at1 (show _ < xs.length by first | omega | (simp only [List.length_set]; omega))))
    ·
     intro vf pf hR
     refine Or.inl ⟨rfl, ?_⟩
     refine rq_less (sx 0 rfl (sub_nil _)) (List.sublist_append_right _ _) ?_
     exact rq_v (rv_ev rfl)
    ·
     intro vf pf hR
     refine Or.inl ⟨rfl, ?_⟩
     refine rq_less (sx 3 rfl (sub_nil _)) (List.sublist_append_right _ _) ?_
     exact rq_v (rv_ev rfl)
    ·
     intro vf pf hR
     have e5 : (vf 5) = v ∧ (pf 5) = [] := hR 5 (by decide)
     have e6 : (vf 6) = .int .i64 (j : Int) ∧ (pf 6) = [] := hR 6 (by decide)
     refine Or.inl ⟨rfl, ?_⟩
     refine rq_less (sx 15 (congrArg some e5.1) (sx 16 (congrArg some e6.1) (sub_nil _))) (List.sublist_append_right _ _) ?_
     exact rq_v (rv_index (s := 1) rfl Try.underlying26 (by kernel_rfl) rfl rfl (rd_old hv) (by omega) (by first | omega | (simp only [List.length_set]; omega)))
    ·
     intro vf pf hR
     have e7 : (vf 7) = elP v (((j : Int)).toNat * 1) ∧ (pf 7) = [] := hR 7 (by decide)
     refine Or.inl ⟨rfl, ?_⟩
     refine rq_less (sx 17 (congrArg some e7.1) (sub_nil _)) (List.sublist_append_right _ _) ?_
     exact rq_v (rv_loadEl (u := .int .i64 (xs.getD j 0)) rfl (by kernel_rfl) rfl (rd_old hv) (ints_at1 (show _ < xs.length by first | omega | (simp only [List.length_set]; omega))))
    ·
     intro vf pf hR
     have e4 : (vf 4) = .int .i64 (xs.getD (((j : Int) - 1).toNat) 0) ∧ (pf 4) = [] := hR 4 (by decide)
     have e8 : (vf 8) = .int .i64 (xs.getD j 0) ∧ (pf 8) = [] := hR 8 (by decide)
     refine Or.inl ⟨rfl, ?_⟩
     refine rq_less (sx 14 (congrArg some e4.1) (sx 18 (congrArg some e8.1) (sub_nil _))) (List.sublist_append_right _ _) ?_
     exact rq_mono (rq_v (rv_cmp rfl rfl rfl rfl)) (fun _ _ h => ⟨h.1.trans (congrArg Value.bool hb3), h.2⟩)
   ·
    intro vf pf hR
    have e9 : (vf 9) = .bool true ∧ (pf 9) = [] := hR 9 (by decide)
    refine hl_less (l' := []) (sx 0 rfl (sx 2 rfl (sx 3 rfl (sx 7 rfl (sx 19 (congrArg some e9.1) (sub_nil _)))))) (List.sublist_append_right _ _) ?_
    simp only [List.drop_succ_cons, List.drop_zero]
    refine hl_less (sx 0 rfl (sx 2 rfl (sx 3 rfl (sx 7 rfl (sx 19 rfl (sub_nil _)))))) (.refl _) ?_
    refine hl_nil ?_
    refine hq_then ?_
    refine hc_true rfl ?_
    refine hc_seq ?_
    refine hc_region ?_
    refine hl_v rfl rfl rfl (rv_ev rfl) ?_
    refine hl_less (sx 0 rfl (sx 2 rfl (sx 3 rfl (sx 7 rfl (sx 19 rfl (sub_nil _)))))) (.refl _) ?_
    refine hl_nil ?_
    refine hq_then ?_
    refine hc_ret ?_
    refine hq_block_ret ?_
    refine hq_then_ret ?_
    refine hq_then_ret ?_
    refine hq_block_ret ?_
    refine hq_then_ret ?_
    exact hq_ans rfl rfl (congrArg _ (pBc_no (asc_no hk1 (by omega) (by omega))).symm)
  ·
   have hb3p : ¬ (xs.getD j 0 ≤ xs.getD (((j : Int) - 1).toNat) 0) := of_decide_eq_false hb3
   refine hc_draw (by kernel_rfl) 10 [0, 1, 2, 3, 4, 5, 6, 7, 8, 9] (List.take 10 _) (List.drop 10 _) [[], [], [1], [0, 2], [3], [], [], [5, 6], [7], [4, 8]] [10, 11, 12, 13, 14, 15, 16, 17, 18, 19] (fun i_ vs_ v_ p_ => match i_ with | 0 => v_ = v ∧ p_ = [] | 1 => v_ = .int .i64 (j : Int) ∧ p_ = [] | 2 => v_ = .int .i64 ((j : Int) - 1) ∧ p_ = [] | 3 => v_ = elP v (((j : Int) - 1).toNat * 1) ∧ p_ = [] | 4 => v_ = .int .i64 (xs.getD (((j : Int) - 1).toNat) 0) ∧ p_ = [] | 5 => v_ = v ∧ p_ = [] | 6 => v_ = .int .i64 (j : Int) ∧ p_ = [] | 7 => v_ = elP v (((j : Int)).toNat * 1) ∧ p_ = [] | 8 => v_ = .int .i64 (xs.getD j 0) ∧ p_ = [] | 9 => v_ = .bool false ∧ p_ = [] | _ => True) (List.take_append_drop 10 _).symm (by kernel_rfl) (by kernel_rfl) rfl rfl ?_ ?_
   ·
    refine ⟨?_, ?_, ?_, ?_, ?_, ?_, ?_, ?_, ?_, ?_, trivial⟩
    ·
     intro vf pf hR
     refine Or.inl ⟨rfl, ?_⟩
     refine rq_less (sx 0 rfl (sub_nil _)) (List.sublist_append_right _ _) ?_
     exact rq_v (rv_ev rfl)
    ·
     intro vf pf hR
     refine Or.inl ⟨rfl, ?_⟩
     refine rq_less (sx 3 rfl (sub_nil _)) (List.sublist_append_right _ _) ?_
     exact rq_v (rv_ev rfl)
    ·
     intro vf pf hR
     have e1 : (vf 1) = .int .i64 (j : Int) ∧ (pf 1) = [] := hR 1 (by decide)
     refine Or.inl ⟨rfl, ?_⟩
     refine rq_less (sx 11 (congrArg some e1.1) (sub_nil _)) (List.sublist_append_right _ _) ?_
     exact rq_v (rv_sub rfl rfl rfl (by constructor <;> omega))
    ·
     intro vf pf hR
     have e0 : (vf 0) = v ∧ (pf 0) = [] := hR 0 (by decide)
     have e2 : (vf 2) = .int .i64 ((j : Int) - 1) ∧ (pf 2) = [] := hR 2 (by decide)
     refine Or.inl ⟨rfl, ?_⟩
     refine rq_less (sx 10 (congrArg some e0.1) (sx 12 (congrArg some e2.1) (sub_nil _))) (List.sublist_append_right _ _) ?_
     exact rq_v (rv_index (s := 1) rfl Try.underlying26 (by kernel_rfl) rfl rfl (rd_old hv) (by omega) (by first | omega | (simp only [List.length_set]; omega)))
    ·
     intro vf pf hR
     have e3 : (vf 3) = elP v (((j : Int) - 1).toNat * 1) ∧ (pf 3) = [] := hR 3 (by decide)
     refine Or.inl ⟨rfl, ?_⟩
     refine rq_less (sx 13 (congrArg some e3.1) (sub_nil _)) (List.sublist_append_right _ _) ?_
     exact rq_v (rv_loadEl (u := .int .i64 (xs.getD (((j : Int) - 1).toNat) 0)) rfl (by kernel_rfl) rfl (rd_old hv) (ints_at1 (show _ < xs.length by first | omega | (simp only [List.length_set]; omega))))
    ·
     intro vf pf hR
     refine Or.inl ⟨rfl, ?_⟩
     refine rq_less (sx 0 rfl (sub_nil _)) (List.sublist_append_right _ _) ?_
     exact rq_v (rv_ev rfl)
    ·
     intro vf pf hR
     refine Or.inl ⟨rfl, ?_⟩
     refine rq_less (sx 3 rfl (sub_nil _)) (List.sublist_append_right _ _) ?_
     exact rq_v (rv_ev rfl)
    ·
     intro vf pf hR
     have e5 : (vf 5) = v ∧ (pf 5) = [] := hR 5 (by decide)
     have e6 : (vf 6) = .int .i64 (j : Int) ∧ (pf 6) = [] := hR 6 (by decide)
     refine Or.inl ⟨rfl, ?_⟩
     refine rq_less (sx 15 (congrArg some e5.1) (sx 16 (congrArg some e6.1) (sub_nil _))) (List.sublist_append_right _ _) ?_
     exact rq_v (rv_index (s := 1) rfl Try.underlying26 (by kernel_rfl) rfl rfl (rd_old hv) (by omega) (by first | omega | (simp only [List.length_set]; omega)))
    ·
     intro vf pf hR
     have e7 : (vf 7) = elP v (((j : Int)).toNat * 1) ∧ (pf 7) = [] := hR 7 (by decide)
     refine Or.inl ⟨rfl, ?_⟩
     refine rq_less (sx 17 (congrArg some e7.1) (sub_nil _)) (List.sublist_append_right _ _) ?_
     exact rq_v (rv_loadEl (u := .int .i64 (xs.getD j 0)) rfl (by kernel_rfl) rfl (rd_old hv) (ints_at1 (show _ < xs.length by first | omega | (simp only [List.length_set]; omega))))
    ·
     intro vf pf hR
     have e4 : (vf 4) = .int .i64 (xs.getD (((j : Int) - 1).toNat) 0) ∧ (pf 4) = [] := hR 4 (by decide)
     have e8 : (vf 8) = .int .i64 (xs.getD j 0) ∧ (pf 8) = [] := hR 8 (by decide)
     refine Or.inl ⟨rfl, ?_⟩
     refine rq_less (sx 14 (congrArg some e4.1) (sx 18 (congrArg some e8.1) (sub_nil _))) (List.sublist_append_right _ _) ?_
     exact rq_mono (rq_v (rv_cmp rfl rfl rfl rfl)) (fun _ _ h => ⟨h.1.trans (congrArg Value.bool hb3), h.2⟩)
   ·
    intro vf pf hR
    have e9 : (vf 9) = .bool false ∧ (pf 9) = [] := hR 9 (by decide)
    refine hl_less (l' := []) (sx 0 rfl (sx 2 rfl (sx 3 rfl (sx 7 rfl (sx 19 (congrArg some e9.1) (sub_nil _)))))) (List.sublist_append_right _ _) ?_
    simp only [List.drop_succ_cons, List.drop_zero]
    refine hl_less (sx 0 rfl (sx 2 rfl (sx 3 rfl (sx 7 rfl (sx 19 rfl (sub_nil _)))))) (.refl _) ?_
    refine hl_nil ?_
    refine hq_then ?_
    refine hc_false rfl ?_
    refine hc_skip ?_
    refine hq_block_normal ?_
    refine hq_then ?_
    refine hc_region ?_
    refine hl_v rfl rfl rfl (rv_ev rfl) ?_
    refine hl_v rfl rfl rfl (rv_add rfl rfl rfl (by constructor <;> omega)) ?_
    refine hl_v rfl rfl rfl (rv_ev rfl) ?_
    refine hl_less (sx 0 rfl (sx 2 rfl (sx 3 rfl (sx 7 rfl (sx 19 rfl (sub_nil _)))))) (.refl _) ?_
    refine hl_nil ?_
    exact hq_round1 (j + 1) ⟨by omega, asc_step hk1 hk2 (by omega)⟩ (by omega) (sx 0 rfl (sx 2 rfl (sx 3 rfl (sub_nil _)))) (.slnil)
 ·
  refine hl_less (sx 0 rfl (sx 2 rfl (sx 3 rfl (sx 7 rfl (sub_nil _))))) (.refl _) ?_
  refine hl_nil ?_
  refine hq_then ?_
  refine hc_false rfl ?_
  refine hc_exit ?_
  refine hq_then_exit ?_
  refine hq_then_exit ?_
  refine hq_block_exit ?_
  refine hq_then ?_
  refine hc_seq ?_
  refine hc_region ?_
  refine hl_v rfl rfl rfl (rv_ev rfl) ?_
  refine hl_less (sx 0 rfl (sx 2 rfl (sx 3 rfl (sx 7 rfl (sub_nil _))))) (.refl _) ?_
  refine hl_nil ?_
  refine hq_then ?_
  refine hc_ret ?_
  exact hq_ans rfl rfl (congrArg _ (pBc_yes (fun i hi => hk2 i (by omega))).symm)
set_option maxHeartbeats 4000000 in
set_option maxRecDepth 100000 in
theorem CutLess_ans (xs ys : List Int) (u v : Value) (w : World) (hu : RdsW w u 1 xs.length (xs.map (Value.int .i64))) (hv : RdsW w v 1 ys.length (ys.map (Value.int .i64))) (hlen : xs.length ≤ 1000000) :
  Calls Try.prog 170 #[u, v] w (Ans w (.bool (pBc (CLess xs ys)))) := by
 refine calls_hc (N := 40) (args := [u, v]) Try.func170 rfl rfl ?_
 refine hc_less _ (sx 0 rfl (sx 1 rfl (sub_nil _))) (.refl _) ?_
 refine hc_seq ?_
 refine hc_region ?_
 refine hl_v rfl rfl rfl (rv_ev rfl) ?_
 refine hl_less (sx 0 rfl (sx 1 rfl (sx 4 rfl (sub_nil _)))) (.refl _) ?_
 refine hl_nil ?_
 refine hq_then ?_
 refine hc_seq ?_
 refine hc_seq ?_
 refine hc_region ?_
 refine hl_v rfl rfl rfl (rv_ev rfl) ?_
 refine hl_v rfl rfl rfl (rv_len rfl Try.underlying26 rfl (rd_old hu)) ?_
 refine hl_v rfl rfl rfl (rv_ev rfl) ?_
 refine hl_v rfl rfl rfl (rv_len rfl Try.underlying26 rfl (rd_old hv)) ?_
 refine hl_neq rfl rfl rfl rfl rfl rfl (fun h1 => ?_) (fun h1 => ?_)
 ·
  refine hl_less (sx 0 rfl (sx 1 rfl (sx 4 rfl (sx 10 rfl (sub_nil _))))) (.refl _) ?_
  refine hl_nil ?_
  refine hq_then ?_
  refine hc_true rfl ?_
  refine hc_seq ?_
  refine hc_region ?_
  refine hl_v rfl rfl rfl (rv_ev rfl) ?_
  refine hl_v rfl rfl rfl (rv_len rfl Try.underlying26 rfl (rd_old hu)) ?_
  refine hl_v rfl rfl rfl (rv_ev rfl) ?_
  refine hl_v rfl rfl rfl (rv_len rfl Try.underlying26 rfl (rd_old hv)) ?_
  refine hl_lss rfl rfl rfl rfl rfl rfl (fun h2 => ?_) (fun h2 => ?_)
  ·
   refine hl_v rfl rfl rfl (rv_ev rfl) ?_
   refine hl_less (sx 0 rfl (sx 1 rfl (sx 4 rfl (sx 10 rfl (sub_nil _))))) (.refl _) ?_
   refine hl_nil ?_
   refine hq_then ?_
   refine hc_ret ?_
   refine hq_then_ret ?_
   exact hq_ans rfl rfl (congrArg _ (by first | exact (cless_eq (by omega) (fun j2 hj2 => hk2 j2 (by omega))).symm | (rw [cless_len (by omega)]; first | exact (decide_eq_true (by omega)).symm | exact (decide_eq_false (by omega)).symm) | (rw [cless_at (i := j) (by omega) (by omega) hk2 (by omega)]; first | exact (decide_eq_true (by omega)).symm | exact (decide_eq_false (by omega)).symm)))
  ·
   refine hl_v rfl rfl rfl (rv_ev rfl) ?_
   refine hl_less (sx 0 rfl (sx 1 rfl (sx 4 rfl (sx 10 rfl (sub_nil _))))) (.refl _) ?_
   refine hl_nil ?_
   refine hq_then ?_
   refine hc_ret ?_
   refine hq_then_ret ?_
   exact hq_ans rfl rfl (congrArg _ (by first | exact (cless_eq (by omega) (fun j2 hj2 => hk2 j2 (by omega))).symm | (rw [cless_len (by omega)]; first | exact (decide_eq_true (by omega)).symm | exact (decide_eq_false (by omega)).symm) | (rw [cless_at (i := j) (by omega) (by omega) hk2 (by omega)]; first | exact (decide_eq_true (by omega)).symm | exact (decide_eq_false (by omega)).symm)))
 ·
  refine hl_less (sx 0 rfl (sx 1 rfl (sx 4 rfl (sx 10 rfl (sub_nil _))))) (.refl _) ?_
  refine hl_nil ?_
  refine hq_then ?_
  refine hc_false rfl ?_
  refine hc_skip ?_
  refine hq_then ?_
  refine hc_seq ?_
  refine hc_seq ?_
  refine hc_region ?_
  refine hl_v rfl rfl rfl (rv_ev rfl) ?_
  refine hl_v rfl rfl rfl (rv_len rfl Try.underlying26 rfl (rd_old hu)) ?_
  refine hl_v rfl rfl rfl (rv_ev rfl) ?_
  refine hl_less (sx 0 rfl (sx 1 rfl (sx 4 rfl (sx 10 rfl (sx 17 rfl (sx 18 rfl (sub_nil _))))))) (.refl _) ?_
  refine hl_nil ?_
  refine hq_then ?_
  refine hc_block ?_
  refine hc_loop1 (α := Nat) (fun j => []) (fun j => [(0, u), (1, v), (4, .bool false), (10, .bool false), (17, .int .i64 (xs.length : Int)), (18, .int .i64 (j : Int))]) (fun j => j ≤ xs.length ∧ ∀ i, i < j → xs.getD i 0 = ys.getD i 0) (fun j => xs.length - j) 0 ⟨by omega, fun i hi => absurd hi (by omega)⟩ (sx 0 rfl (sx 1 rfl (sx 4 rfl (sx 10 rfl (sx 17 rfl (sx 18 rfl (sub_nil _))))))) (.slnil) ?_
  intro j hi3
  obtain ⟨hk1, hk2⟩ := hi3
  refine hc_seq ?_
  refine hc_region ?_
  refine hl_lss rfl rfl rfl rfl rfl rfl (fun h4 => ?_) (fun h4 => ?_)
  ·
   refine hl_less (sx 0 rfl (sx 1 rfl (sx 4 rfl (sx 10 rfl (sx 17 rfl (sx 18 rfl (sx 19 rfl (sub_nil _)))))))) (.refl _) ?_
   refine hl_nil ?_
   refine hq_then ?_
   refine hc_seq ?_
   refine hc_true rfl ?_
   refine hc_skip ?_
   refine hq_then ?_
   refine hc_seq ?_
   refine hc_block ?_
   refine hc_seq ?_
   refine hc_region ?_
   refine hl_v rfl rfl rfl (rv_ev rfl) ?_
   refine hl_v rfl rfl rfl (rv_ev rfl) ?_
   refine hl_less (sx 0 rfl (sx 1 rfl (sx 4 rfl (sx 5 rfl (sx 10 rfl (sx 17 rfl (sx 18 rfl (sx 19 rfl (sub_nil _))))))))) (.refl _) ?_
   refine hl_nil ?_
   refine hq_then ?_
   refine hc_seq ?_
   rcases Bool.eq_false_or_eq_true ((xs.getD j 0) != (ys.getD j 0)) with hb5 | hb5
   ·
    have hb5p : xs.getD j 0 ≠ ys.getD j 0 := bne_iff_ne.1 hb5
    refine hc_draw (by kernel_rfl) 9 [0, 1, 2, 3, 4, 5, 6, 7, 8] (List.take 9 _) (List.drop 9 _) [[], [], [0, 1], [2], [], [], [4, 5], [6], [3, 7]] [21, 22, 23, 24, 25, 26, 27, 28, 29] (fun i_ vs_ v_ p_ => match i_ with | 0 => v_ = u ∧ p_ = [] | 1 => v_ = .int .i64 (j : Int) ∧ p_ = [] | 2 => v_ = elP u (((j : Int)).toNat * 1) ∧ p_ = [] | 3 => v_ = .int .i64 (xs.getD j 0) ∧ p_ = [] | 4 => v_ = v ∧ p_ = [] | 5 => v_ = .int .i64 (j : Int) ∧ p_ = [] | 6 => v_ = elP v (((j : Int)).toNat * 1) ∧ p_ = [] | 7 => v_ = .int .i64 (ys.getD j 0) ∧ p_ = [] | 8 => v_ = .bool true ∧ p_ = [] | _ => True) (List.take_append_drop 9 _).symm (by kernel_rfl) (by kernel_rfl) rfl rfl ?_ ?_
    ·
     refine ⟨?_, ?_, ?_, ?_, ?_, ?_, ?_, ?_, ?_, trivial⟩
     ·
      intro vf pf hR
      refine Or.inl ⟨rfl, ?_⟩
      refine rq_less (sx 0 rfl (sub_nil _)) (List.sublist_append_right _ _) ?_
      exact rq_v (rv_ev rfl)
     ·
      intro vf pf hR
      refine Or.inl ⟨rfl, ?_⟩
      refine rq_less (sx 5 rfl (sub_nil _)) (List.sublist_append_right _ _) ?_
      exact rq_v (rv_ev rfl)
     ·
      intro vf pf hR
      have e0 : (vf 0) = u ∧ (pf 0) = [] := hR 0 (by decide)
      have e1 : (vf 1) = .int .i64 (j : Int) ∧ (pf 1) = [] := hR 1 (by decide)
      refine Or.inl ⟨rfl, ?_⟩
      refine rq_less (sx 21 (congrArg some e0.1) (sx 22 (congrArg some e1.1) (sub_nil _))) (List.sublist_append_right _ _) ?_
      exact rq_v (rv_index (s := 1) rfl Try.underlying26 (by kernel_rfl) rfl rfl (rd_old hu) (by omega) (by first | omega | (simp only [List.length_set]; omega)))
     ·
      intro vf pf hR
      have e2 : (vf 2) = elP u (((j : Int)).toNat * 1) ∧ (pf 2) = [] := hR 2 (by decide)
      refine Or.inl ⟨rfl, ?_⟩
      refine rq_less (sx 23 (congrArg some e2.1) (sub_nil _)) (List.sublist_append_right _ _) ?_
      exact rq_v (rv_loadEl (u := .int .i64 (xs.getD j 0)) rfl (by kernel_rfl) rfl (rd_old hu) (ints_at1 (show _ < xs.length by first | omega | (simp only [List.length_set]; omega))))
     ·
      intro vf pf hR
      refine Or.inl ⟨rfl, ?_⟩
      refine rq_less (sx 1 rfl (sub_nil _)) (List.sublist_append_right _ _) ?_
      exact rq_v (rv_ev rfl)
     ·
      intro vf pf hR
      refine Or.inl ⟨rfl, ?_⟩
      refine rq_less (sx 5 rfl (sub_nil _)) (List.sublist_append_right _ _) ?_
      exact rq_v (rv_ev rfl)
     ·
      intro vf pf hR
      have e4 : (vf 4) = v ∧ (pf 4) = [] := hR 4 (by decide)
      have e5 : (vf 5) = .int .i64 (j : Int) ∧ (pf 5) = [] := hR 5 (by decide)
      refine Or.inl ⟨rfl, ?_⟩
      refine rq_less (sx 25 (congrArg some e4.1) (sx 26 (congrArg some e5.1) (sub_nil _))) (List.sublist_append_right _ _) ?_
      exact rq_v (rv_index (s := 1) rfl Try.underlying26 (by kernel_rfl) rfl rfl (rd_old hv) (by omega) (by first | omega | (simp only [List.length_set]; omega)))
     ·
      intro vf pf hR
      have e6 : (vf 6) = elP v (((j : Int)).toNat * 1) ∧ (pf 6) = [] := hR 6 (by decide)
      refine Or.inl ⟨rfl, ?_⟩
      refine rq_less (sx 27 (congrArg some e6.1) (sub_nil _)) (List.sublist_append_right _ _) ?_
      exact rq_v (rv_loadEl (u := .int .i64 (ys.getD j 0)) rfl (by kernel_rfl) rfl (rd_old hv) (ints_at1 (show _ < ys.length by first | omega | (simp only [List.length_set]; omega))))
     ·
      intro vf pf hR
      have e3 : (vf 3) = .int .i64 (xs.getD j 0) ∧ (pf 3) = [] := hR 3 (by decide)
      have e7 : (vf 7) = .int .i64 (ys.getD j 0) ∧ (pf 7) = [] := hR 7 (by decide)
      refine Or.inl ⟨rfl, ?_⟩
      refine rq_less (sx 24 (congrArg some e3.1) (sx 28 (congrArg some e7.1) (sub_nil _))) (List.sublist_append_right _ _) ?_
      exact rq_mono (rq_v (rv_cmp rfl rfl rfl rfl)) (fun _ _ h => ⟨h.1.trans (congrArg Value.bool hb5), h.2⟩)
    ·
     intro vf pf hR
     have e8 : (vf 8) = .bool true ∧ (pf 8) = [] := hR 8 (by decide)
     refine hl_less (l' := []) (sx 0 rfl (sx 1 rfl (sx 4 rfl (sx 5 rfl (sx 10 rfl (sx 17 rfl (sx 18 rfl (sx 19 rfl (sx 29 (congrArg some e8.1) (sub_nil _)))))))))) (List.sublist_append_right _ _) ?_
     simp only [List.drop_succ_cons, List.drop_zero]
     refine hl_less (sx 0 rfl (sx 1 rfl (sx 4 rfl (sx 5 rfl (sx 10 rfl (sx 17 rfl (sx 18 rfl (sx 19 rfl (sx 29 rfl (sub_nil _)))))))))) (.refl _) ?_
     refine hl_nil ?_
     refine hq_then ?_
     refine hc_true rfl ?_
     refine hc_seq ?_
     rcases Bool.eq_false_or_eq_true (decide (xs.getD j 0 < ys.getD j 0)) with hb6 | hb6
     ·
      have hb6p : xs.getD j 0 < ys.getD j 0 := of_decide_eq_true hb6
      refine hc_draw (by kernel_rfl) 9 [0, 1, 2, 3, 4, 5, 6, 7, 8] (List.take 9 _) (List.drop 9 _) [[], [], [0, 1], [2], [], [], [4, 5], [6], [3, 7]] [30, 31, 32, 33, 34, 35, 36, 37, 38] (fun i_ vs_ v_ p_ => match i_ with | 0 => v_ = u ∧ p_ = [] | 1 => v_ = .int .i64 (j : Int) ∧ p_ = [] | 2 => v_ = elP u (((j : Int)).toNat * 1) ∧ p_ = [] | 3 => v_ = .int .i64 (xs.getD j 0) ∧ p_ = [] | 4 => v_ = v ∧ p_ = [] | 5 => v_ = .int .i64 (j : Int) ∧ p_ = [] | 6 => v_ = elP v (((j : Int)).toNat * 1) ∧ p_ = [] | 7 => v_ = .int .i64 (ys.getD j 0) ∧ p_ = [] | 8 => v_ = .bool true ∧ p_ = [] | _ => True) (List.take_append_drop 9 _).symm (by kernel_rfl) (by kernel_rfl) rfl rfl ?_ ?_
      ·
       refine ⟨?_, ?_, ?_, ?_, ?_, ?_, ?_, ?_, ?_, trivial⟩
       ·
        intro vf pf hR
        refine Or.inl ⟨rfl, ?_⟩
        refine rq_less (sx 0 rfl (sub_nil _)) (List.sublist_append_right _ _) ?_
        exact rq_v (rv_ev rfl)
       ·
        intro vf pf hR
        refine Or.inl ⟨rfl, ?_⟩
        refine rq_less (sx 5 rfl (sub_nil _)) (List.sublist_append_right _ _) ?_
        exact rq_v (rv_ev rfl)
       ·
        intro vf pf hR
        have e0 : (vf 0) = u ∧ (pf 0) = [] := hR 0 (by decide)
        have e1 : (vf 1) = .int .i64 (j : Int) ∧ (pf 1) = [] := hR 1 (by decide)
        refine Or.inl ⟨rfl, ?_⟩
        refine rq_less (sx 30 (congrArg some e0.1) (sx 31 (congrArg some e1.1) (sub_nil _))) (List.sublist_append_right _ _) ?_
        exact rq_v (rv_index (s := 1) rfl Try.underlying26 (by kernel_rfl) rfl rfl (rd_old hu) (by omega) (by first | omega | (simp only [List.length_set]; omega)))
       ·
        intro vf pf hR
        have e2 : (vf 2) = elP u (((j : Int)).toNat * 1) ∧ (pf 2) = [] := hR 2 (by decide)
        refine Or.inl ⟨rfl, ?_⟩
        refine rq_less (sx 32 (congrArg some e2.1) (sub_nil _)) (List.sublist_append_right _ _) ?_
        exact rq_v (rv_loadEl (u := .int .i64 (xs.getD j 0)) rfl (by kernel_rfl) rfl (rd_old hu) (ints_at1 (show _ < xs.length by first | omega | (simp only [List.length_set]; omega))))
       ·
        intro vf pf hR
        refine Or.inl ⟨rfl, ?_⟩
        refine rq_less (sx 1 rfl (sub_nil _)) (List.sublist_append_right _ _) ?_
        exact rq_v (rv_ev rfl)
       ·
        intro vf pf hR
        refine Or.inl ⟨rfl, ?_⟩
        refine rq_less (sx 5 rfl (sub_nil _)) (List.sublist_append_right _ _) ?_
        exact rq_v (rv_ev rfl)
       ·
        intro vf pf hR
        have e4 : (vf 4) = v ∧ (pf 4) = [] := hR 4 (by decide)
        have e5 : (vf 5) = .int .i64 (j : Int) ∧ (pf 5) = [] := hR 5 (by decide)
        refine Or.inl ⟨rfl, ?_⟩
        refine rq_less (sx 34 (congrArg some e4.1) (sx 35 (congrArg some e5.1) (sub_nil _))) (List.sublist_append_right _ _) ?_
        exact rq_v (rv_index (s := 1) rfl Try.underlying26 (by kernel_rfl) rfl rfl (rd_old hv) (by omega) (by first | omega | (simp only [List.length_set]; omega)))
       ·
        intro vf pf hR
        have e6 : (vf 6) = elP v (((j : Int)).toNat * 1) ∧ (pf 6) = [] := hR 6 (by decide)
        refine Or.inl ⟨rfl, ?_⟩
        refine rq_less (sx 36 (congrArg some e6.1) (sub_nil _)) (List.sublist_append_right _ _) ?_
        exact rq_v (rv_loadEl (u := .int .i64 (ys.getD j 0)) rfl (by kernel_rfl) rfl (rd_old hv) (ints_at1 (show _ < ys.length by first | omega | (simp only [List.length_set]; omega))))
       ·
        intro vf pf hR
        have e3 : (vf 3) = .int .i64 (xs.getD j 0) ∧ (pf 3) = [] := hR 3 (by decide)
        have e7 : (vf 7) = .int .i64 (ys.getD j 0) ∧ (pf 7) = [] := hR 7 (by decide)
        refine Or.inl ⟨rfl, ?_⟩
        refine rq_less (sx 33 (congrArg some e3.1) (sx 37 (congrArg some e7.1) (sub_nil _))) (List.sublist_append_right _ _) ?_
        exact rq_mono (rq_v (rv_cmp rfl rfl rfl rfl)) (fun _ _ h => ⟨h.1.trans (congrArg Value.bool hb6), h.2⟩)
      ·
       intro vf pf hR
       have e8 : (vf 8) = .bool true ∧ (pf 8) = [] := hR 8 (by decide)
       refine hl_less (l' := []) (sx 0 rfl (sx 1 rfl (sx 4 rfl (sx 5 rfl (sx 10 rfl (sx 17 rfl (sx 18 rfl (sx 19 rfl (sx 29 rfl (sx 38 (congrArg some e8.1) (sub_nil _))))))))))) (List.sublist_append_right _ _) ?_
       simp only [List.drop_succ_cons, List.drop_zero]
       refine hl_v rfl rfl rfl (rv_ev rfl) ?_
       refine hl_less (sx 0 rfl (sx 1 rfl (sx 4 rfl (sx 5 rfl (sx 10 rfl (sx 17 rfl (sx 18 rfl (sx 19 rfl (sx 29 rfl (sub_nil _)))))))))) (.refl _) ?_
       refine hl_nil ?_
       refine hq_then ?_
       refine hc_ret ?_
       refine hq_block_ret ?_
       refine hq_then_ret ?_
       refine hq_then_ret ?_
       refine hq_block_ret ?_
       refine hq_then_ret ?_
       exact hq_ans rfl rfl (congrArg _ (by first | exact (cless_eq (by omega) (fun j2 hj2 => hk2 j2 (by omega))).symm | (rw [cless_len (by omega)]; first | exact (decide_eq_true (by omega)).symm | exact (decide_eq_false (by omega)).symm) | (rw [cless_at (i := j) (by omega) (by omega) hk2 (by omega)]; first | exact (decide_eq_true (by omega)).symm | exact (decide_eq_false (by omega)).symm)))
     ·
      have hb6p : ¬ (xs.getD j 0 < ys.getD j 0) := of_decide_eq_false hb6
      refine hc_draw (by kernel_rfl) 9 [0, 1, 2, 3, 4, 5, 6, 7, 8] (List.take 9 _) (List.drop 9 _) [[], [], [0, 1], [2], [], [], [4, 5], [6], [3, 7]] [30, 31, 32, 33, 34, 35, 36, 37, 38] (fun i_ vs_ v_ p_ => match i_ with | 0 => v_ = u ∧ p_ = [] | 1 => v_ = .int .i64 (j : Int) ∧ p_ = [] | 2 => v_ = elP u (((j : Int)).toNat * 1) ∧ p_ = [] | 3 => v_ = .int .i64 (xs.getD j 0) ∧ p_ = [] | 4 => v_ = v ∧ p_ = [] | 5 => v_ = .int .i64 (j : Int) ∧ p_ = [] | 6 => v_ = elP v (((j : Int)).toNat * 1) ∧ p_ = [] | 7 => v_ = .int .i64 (ys.getD j 0) ∧ p_ = [] | 8 => v_ = .bool false ∧ p_ = [] | _ => True) (List.take_append_drop 9 _).symm (by kernel_rfl) (by kernel_rfl) rfl rfl ?_ ?_
      ·
       refine ⟨?_, ?_, ?_, ?_, ?_, ?_, ?_, ?_, ?_, trivial⟩
       ·
        intro vf pf hR
        refine Or.inl ⟨rfl, ?_⟩
        refine rq_less (sx 0 rfl (sub_nil _)) (List.sublist_append_right _ _) ?_
        exact rq_v (rv_ev rfl)
       ·
        intro vf pf hR
        refine Or.inl ⟨rfl, ?_⟩
        refine rq_less (sx 5 rfl (sub_nil _)) (List.sublist_append_right _ _) ?_
        exact rq_v (rv_ev rfl)
       ·
        intro vf pf hR
        have e0 : (vf 0) = u ∧ (pf 0) = [] := hR 0 (by decide)
        have e1 : (vf 1) = .int .i64 (j : Int) ∧ (pf 1) = [] := hR 1 (by decide)
        refine Or.inl ⟨rfl, ?_⟩
        refine rq_less (sx 30 (congrArg some e0.1) (sx 31 (congrArg some e1.1) (sub_nil _))) (List.sublist_append_right _ _) ?_
        exact rq_v (rv_index (s := 1) rfl Try.underlying26 (by kernel_rfl) rfl rfl (rd_old hu) (by omega) (by first | omega | (simp only [List.length_set]; omega)))
       ·
        intro vf pf hR
        have e2 : (vf 2) = elP u (((j : Int)).toNat * 1) ∧ (pf 2) = [] := hR 2 (by decide)
        refine Or.inl ⟨rfl, ?_⟩
        refine rq_less (sx 32 (congrArg some e2.1) (sub_nil _)) (List.sublist_append_right _ _) ?_
        exact rq_v (rv_loadEl (u := .int .i64 (xs.getD j 0)) rfl (by kernel_rfl) rfl (rd_old hu) (ints_at1 (show _ < xs.length by first | omega | (simp only [List.length_set]; omega))))
       ·
        intro vf pf hR
        refine Or.inl ⟨rfl, ?_⟩
        refine rq_less (sx 1 rfl (sub_nil _)) (List.sublist_append_right _ _) ?_
        exact rq_v (rv_ev rfl)
       ·
        intro vf pf hR
        refine Or.inl ⟨rfl, ?_⟩
        refine rq_less (sx 5 rfl (sub_nil _)) (List.sublist_append_right _ _) ?_
        exact rq_v (rv_ev rfl)
       ·
        intro vf pf hR
        have e4 : (vf 4) = v ∧ (pf 4) = [] := hR 4 (by decide)
        have e5 : (vf 5) = .int .i64 (j : Int) ∧ (pf 5) = [] := hR 5 (by decide)
        refine Or.inl ⟨rfl, ?_⟩
        refine rq_less (sx 34 (congrArg some e4.1) (sx 35 (congrArg some e5.1) (sub_nil _))) (List.sublist_append_right _ _) ?_
        exact rq_v (rv_index (s := 1) rfl Try.underlying26 (by kernel_rfl) rfl rfl (rd_old hv) (by omega) (by first | omega | (simp only [List.length_set]; omega)))
       ·
        intro vf pf hR
        have e6 : (vf 6) = elP v (((j : Int)).toNat * 1) ∧ (pf 6) = [] := hR 6 (by decide)
        refine Or.inl ⟨rfl, ?_⟩
        refine rq_less (sx 36 (congrArg some e6.1) (sub_nil _)) (List.sublist_append_right _ _) ?_
        exact rq_v (rv_loadEl (u := .int .i64 (ys.getD j 0)) rfl (by kernel_rfl) rfl (rd_old hv) (ints_at1 (show _ < ys.length by first | omega | (simp only [List.length_set]; omega))))
       ·
        intro vf pf hR
        have e3 : (vf 3) = .int .i64 (xs.getD j 0) ∧ (pf 3) = [] := hR 3 (by decide)
        have e7 : (vf 7) = .int .i64 (ys.getD j 0) ∧ (pf 7) = [] := hR 7 (by decide)
        refine Or.inl ⟨rfl, ?_⟩
        refine rq_less (sx 33 (congrArg some e3.1) (sx 37 (congrArg some e7.1) (sub_nil _))) (List.sublist_append_right _ _) ?_
        exact rq_mono (rq_v (rv_cmp rfl rfl rfl rfl)) (fun _ _ h => ⟨h.1.trans (congrArg Value.bool hb6), h.2⟩)
      ·
       intro vf pf hR
       have e8 : (vf 8) = .bool false ∧ (pf 8) = [] := hR 8 (by decide)
       refine hl_less (l' := []) (sx 0 rfl (sx 1 rfl (sx 4 rfl (sx 5 rfl (sx 10 rfl (sx 17 rfl (sx 18 rfl (sx 19 rfl (sx 29 rfl (sx 38 (congrArg some e8.1) (sub_nil _))))))))))) (List.sublist_append_right _ _) ?_
       simp only [List.drop_succ_cons, List.drop_zero]
       refine hl_v rfl rfl rfl (rv_ev rfl) ?_
       refine hl_less (sx 0 rfl (sx 1 rfl (sx 4 rfl (sx 5 rfl (sx 10 rfl (sx 17 rfl (sx 18 rfl (sx 19 rfl (sx 29 rfl (sub_nil _)))))))))) (.refl _) ?_
       refine hl_nil ?_
       refine hq_then ?_
       refine hc_ret ?_
       refine hq_block_ret ?_
       refine hq_then_ret ?_
       refine hq_then_ret ?_
       refine hq_block_ret ?_
       refine hq_then_ret ?_
       exact hq_ans rfl rfl (congrArg _ (by first | exact (cless_eq (by omega) (fun j2 hj2 => hk2 j2 (by omega))).symm | (rw [cless_len (by omega)]; first | exact (decide_eq_true (by omega)).symm | exact (decide_eq_false (by omega)).symm) | (rw [cless_at (i := j) (by omega) (by omega) hk2 (by omega)]; first | exact (decide_eq_true (by omega)).symm | exact (decide_eq_false (by omega)).symm)))
   ·
    have hb5p : xs.getD j 0 = ys.getD j 0 := by simpa using hb5
    refine hc_draw (by kernel_rfl) 9 [0, 1, 2, 3, 4, 5, 6, 7, 8] (List.take 9 _) (List.drop 9 _) [[], [], [0, 1], [2], [], [], [4, 5], [6], [3, 7]] [21, 22, 23, 24, 25, 26, 27, 28, 29] (fun i_ vs_ v_ p_ => match i_ with | 0 => v_ = u ∧ p_ = [] | 1 => v_ = .int .i64 (j : Int) ∧ p_ = [] | 2 => v_ = elP u (((j : Int)).toNat * 1) ∧ p_ = [] | 3 => v_ = .int .i64 (xs.getD j 0) ∧ p_ = [] | 4 => v_ = v ∧ p_ = [] | 5 => v_ = .int .i64 (j : Int) ∧ p_ = [] | 6 => v_ = elP v (((j : Int)).toNat * 1) ∧ p_ = [] | 7 => v_ = .int .i64 (ys.getD j 0) ∧ p_ = [] | 8 => v_ = .bool false ∧ p_ = [] | _ => True) (List.take_append_drop 9 _).symm (by kernel_rfl) (by kernel_rfl) rfl rfl ?_ ?_
    ·
     refine ⟨?_, ?_, ?_, ?_, ?_, ?_, ?_, ?_, ?_, trivial⟩
     ·
      intro vf pf hR
      refine Or.inl ⟨rfl, ?_⟩
      refine rq_less (sx 0 rfl (sub_nil _)) (List.sublist_append_right _ _) ?_
      exact rq_v (rv_ev rfl)
     ·
      intro vf pf hR
      refine Or.inl ⟨rfl, ?_⟩
      refine rq_less (sx 5 rfl (sub_nil _)) (List.sublist_append_right _ _) ?_
      exact rq_v (rv_ev rfl)
     ·
      intro vf pf hR
      have e0 : (vf 0) = u ∧ (pf 0) = [] := hR 0 (by decide)
      have e1 : (vf 1) = .int .i64 (j : Int) ∧ (pf 1) = [] := hR 1 (by decide)
      refine Or.inl ⟨rfl, ?_⟩
      refine rq_less (sx 21 (congrArg some e0.1) (sx 22 (congrArg some e1.1) (sub_nil _))) (List.sublist_append_right _ _) ?_
      exact rq_v (rv_index (s := 1) rfl Try.underlying26 (by kernel_rfl) rfl rfl (rd_old hu) (by omega) (by first | omega | (simp only [List.length_set]; omega)))
     ·
      intro vf pf hR
      have e2 : (vf 2) = elP u (((j : Int)).toNat * 1) ∧ (pf 2) = [] := hR 2 (by decide)
      refine Or.inl ⟨rfl, ?_⟩
      refine rq_less (sx 23 (congrArg some e2.1) (sub_nil _)) (List.sublist_append_right _ _) ?_
      exact rq_v (rv_loadEl (u := .int .i64 (xs.getD j 0)) rfl (by kernel_rfl) rfl (rd_old hu) (ints_at1 (show _ < xs.length by first | omega | (simp only [List.length_set]; omega))))
     ·
      intro vf pf hR
      refine Or.inl ⟨rfl, ?_⟩
      refine rq_less (sx 1 rfl (sub_nil _)) (List.sublist_append_right _ _) ?_
      exact rq_v (rv_ev rfl)
     ·
      intro vf pf hR
      refine Or.inl ⟨rfl, ?_⟩
      refine rq_less (sx 5 rfl (sub_nil _)) (List.sublist_append_right _ _) ?_
      exact rq_v (rv_ev rfl)
     ·
      intro vf pf hR
      have e4 : (vf 4) = v ∧ (pf 4) = [] := hR 4 (by decide)
      have e5 : (vf 5) = .int .i64 (j : Int) ∧ (pf 5) = [] := hR 5 (by decide)
      refine Or.inl ⟨rfl, ?_⟩
      refine rq_less (sx 25 (congrArg some e4.1) (sx 26 (congrArg some e5.1) (sub_nil _))) (List.sublist_append_right _ _) ?_
      exact rq_v (rv_index (s := 1) rfl Try.underlying26 (by kernel_rfl) rfl rfl (rd_old hv) (by omega) (by first | omega | (simp only [List.length_set]; omega)))
     ·
      intro vf pf hR
      have e6 : (vf 6) = elP v (((j : Int)).toNat * 1) ∧ (pf 6) = [] := hR 6 (by decide)
      refine Or.inl ⟨rfl, ?_⟩
      refine rq_less (sx 27 (congrArg some e6.1) (sub_nil _)) (List.sublist_append_right _ _) ?_
      exact rq_v (rv_loadEl (u := .int .i64 (ys.getD j 0)) rfl (by kernel_rfl) rfl (rd_old hv) (ints_at1 (show _ < ys.length by first | omega | (simp only [List.length_set]; omega))))
     ·
      intro vf pf hR
      have e3 : (vf 3) = .int .i64 (xs.getD j 0) ∧ (pf 3) = [] := hR 3 (by decide)
      have e7 : (vf 7) = .int .i64 (ys.getD j 0) ∧ (pf 7) = [] := hR 7 (by decide)
      refine Or.inl ⟨rfl, ?_⟩
      refine rq_less (sx 24 (congrArg some e3.1) (sx 28 (congrArg some e7.1) (sub_nil _))) (List.sublist_append_right _ _) ?_
      exact rq_mono (rq_v (rv_cmp rfl rfl rfl rfl)) (fun _ _ h => ⟨h.1.trans (congrArg Value.bool hb5), h.2⟩)
    ·
     intro vf pf hR
     have e8 : (vf 8) = .bool false ∧ (pf 8) = [] := hR 8 (by decide)
     refine hl_less (l' := []) (sx 0 rfl (sx 1 rfl (sx 4 rfl (sx 5 rfl (sx 10 rfl (sx 17 rfl (sx 18 rfl (sx 19 rfl (sx 29 (congrArg some e8.1) (sub_nil _)))))))))) (List.sublist_append_right _ _) ?_
     simp only [List.drop_succ_cons, List.drop_zero]
     refine hl_less (sx 0 rfl (sx 1 rfl (sx 4 rfl (sx 5 rfl (sx 10 rfl (sx 17 rfl (sx 18 rfl (sx 19 rfl (sx 29 rfl (sub_nil _)))))))))) (.refl _) ?_
     refine hl_nil ?_
     refine hq_then ?_
     refine hc_false rfl ?_
     refine hc_skip ?_
     refine hq_block_normal ?_
     refine hq_then ?_
     refine hc_region ?_
     refine hl_v rfl rfl rfl (rv_add rfl rfl rfl (by constructor <;> omega)) ?_
     refine hl_v rfl rfl rfl (rv_ev rfl) ?_
     refine hl_less (sx 0 rfl (sx 1 rfl (sx 4 rfl (sx 5 rfl (sx 10 rfl (sx 17 rfl (sx 18 rfl (sx 19 rfl (sx 29 rfl (sub_nil _)))))))))) (.refl _) ?_
     refine hl_nil ?_
     exact hq_round1 (j + 1) ⟨by omega, fun i hi => by by_cases hij : i = j; (subst hij; assumption); exact hk2 i (by omega)⟩ (by omega) (sx 0 rfl (sx 1 rfl (sx 4 rfl (sx 10 rfl (sx 17 rfl (sx 18 rfl (sub_nil _))))))) (.slnil)
  ·
   refine hl_less (sx 0 rfl (sx 1 rfl (sx 4 rfl (sx 10 rfl (sx 17 rfl (sx 18 rfl (sx 19 rfl (sub_nil _)))))))) (.refl _) ?_
   refine hl_nil ?_
   refine hq_then ?_
   refine hc_seq ?_
   refine hc_false rfl ?_
   refine hc_exit ?_
   refine hq_then_exit ?_
   refine hq_then_exit ?_
   refine hq_block_exit ?_
   refine hq_then ?_
   refine hc_seq ?_
   refine hc_region ?_
   refine hl_v rfl rfl rfl (rv_ev rfl) ?_
   refine hl_less (sx 0 rfl (sx 1 rfl (sx 4 rfl (sx 10 rfl (sx 17 rfl (sx 18 rfl (sx 19 rfl (sub_nil _)))))))) (.refl _) ?_
   refine hl_nil ?_
   refine hq_then ?_
   refine hc_ret ?_
   exact hq_ans rfl rfl (congrArg _ (by first | exact (cless_eq (by omega) (fun j2 hj2 => hk2 j2 (by omega))).symm | (rw [cless_len (by omega)]; first | exact (decide_eq_true (by omega)).symm | exact (decide_eq_false (by omega)).symm) | (rw [cless_at (i := j) (by omega) (by omega) hk2 (by omega)]; first | exact (decide_eq_true (by omega)).symm | exact (decide_eq_false (by omega)).symm)))
set_option maxHeartbeats 4000000 in
set_option maxRecDepth 100000 in
theorem containsAll_ans (xs ys : List Int) (u v : Value) (w : World) (hu : RdsW w u 1 xs.length (xs.map (Value.int .i64))) (hv : RdsW w v 1 ys.length (ys.map (Value.int .i64))) (hlen : xs.length ≤ 1000000 ∧ ys.length ≤ 1000000) :
  Calls Try.prog 171 #[u, v] w (Ans w (.bool (ys.all (hasB xs)))) := by
 have hlen2 : xs.length ≤ 1000000000 := by omega
 refine calls_hc (N := 18) (args := [u, v]) Try.func171 rfl rfl ?_
 refine hc_less _ (sx 0 rfl (sx 1 rfl (sub_nil _))) (.refl _) ?_
 refine hc_seq ?_
 refine hc_region ?_
 refine hl_v rfl rfl rfl (rv_ev rfl) ?_
 refine hl_less (sx 0 rfl (sx 1 rfl (sx 4 rfl (sub_nil _)))) (.refl _) ?_
 refine hl_nil ?_
 refine hq_then ?_
 refine hc_seq ?_
 refine hc_seq ?_
 refine hc_region ?_
 refine hl_v rfl rfl rfl (rv_ev rfl) ?_
 refine hl_v rfl rfl rfl (rv_len rfl Try.underlying26 rfl (rd_old hv)) ?_
 refine hl_v rfl rfl rfl (rv_ev rfl) ?_
 refine hl_less (sx 0 rfl (sx 1 rfl (sx 4 rfl (sx 7 rfl (sx 8 rfl (sx 9 rfl (sub_nil _))))))) (.refl _) ?_
 refine hl_nil ?_
 refine hq_then ?_
 refine hc_block ?_
 refine hc_loop1 (α := Nat) (fun j => []) (fun j => [(0, u), (1, v), (4, .bool false), (7, v), (8, .int .i64 (ys.length : Int)), (9, .int .i64 (j : Int))]) (fun j => j ≤ ys.length ∧ ∀ i, i < j → hasB xs (ys.getD i 0) = true) (fun j => ys.length - j) 0 ⟨by omega, fun i hi => absurd hi (by omega)⟩ (sx 0 rfl (sx 1 rfl (sx 4 rfl (sx 7 rfl (sx 8 rfl (sx 9 rfl (sub_nil _))))))) (.slnil) ?_
 intro j hi1
 obtain ⟨hk1, hk2⟩ := hi1
 refine hc_seq ?_
 refine hc_region ?_
 refine hl_lss rfl rfl rfl rfl rfl rfl (fun h2 => ?_) (fun h2 => ?_)
 ·
  refine hl_less (sx 0 rfl (sx 1 rfl (sx 4 rfl (sx 7 rfl (sx 8 rfl (sx 9 rfl (sx 10 rfl (sub_nil _)))))))) (.refl _) ?_
  refine hl_nil ?_
  refine hq_then ?_
  refine hc_seq ?_
  refine hc_true rfl ?_
  refine hc_skip ?_
  refine hq_then ?_
  refine hc_seq ?_
  refine hc_block ?_
  refine hc_seq ?_
  refine hc_region ?_
  refine hl_v rfl rfl rfl (rv_index (s := 1) rfl Try.underlying26 (by kernel_rfl) rfl rfl (rd_old hv) (by omega) (by first | omega | (simp only [List.length_set]; omega))) ?_
  refine hl_v rfl rfl rfl (rv_loadEl (u := .int .i64 (ys.getD j 0)) rfl (by kernel_rfl) rfl (rd_old hv) (ints_at1 (show _ < ys.length by first | omega | (simp only [List.length_set]; omega)))) ?_
  refine hl_v rfl rfl rfl (rv_ev rfl) ?_
  refine hl_less (sx 0 rfl (sx 1 rfl (sx 4 rfl (sx 6 rfl (sx 7 rfl (sx 8 rfl (sx 9 rfl (sx 10 rfl (sub_nil _))))))))) (.refl _) ?_
  refine hl_nil ?_
  refine hq_then ?_
  refine hc_seq ?_
  refine hc_region ?_
  refine hl_v rfl rfl rfl (rv_ev rfl) ?_
  refine hl_v rfl rfl rfl (rv_ev rfl) ?_
  refine hl_callV rfl rfl rfl (rq_call (by kernel_rfl) rfl (fun w hm => ret_ans (hasIntC_ans xs (ys.getD j 0) _ w ((rd_old hu) w hm) (by omega)))) ?_
  refine hl_bool (fun h3 => ?_) (fun h3 => ?_)
  ·
   refine hl_v rfl rfl rfl (rv_ev rfl) ?_
   refine hl_less (sx 0 rfl (sx 1 rfl (sx 4 rfl (sx 6 rfl (sx 7 rfl (sx 8 rfl (sx 9 rfl (sx 10 rfl (sx 16 rfl (sub_nil _)))))))))) (.refl _) ?_
   refine hl_nil ?_
   refine hq_then ?_
   refine hc_false rfl ?_
   refine hc_skip ?_
   refine hq_block_normal ?_
   refine hq_then ?_
   refine hc_region ?_
   refine hl_v rfl rfl rfl (rv_add rfl rfl rfl (by constructor <;> omega)) ?_
   refine hl_v rfl rfl rfl (rv_ev rfl) ?_
   refine hl_less (sx 0 rfl (sx 1 rfl (sx 4 rfl (sx 6 rfl (sx 7 rfl (sx 8 rfl (sx 9 rfl (sx 10 rfl (sx 16 rfl (sub_nil _)))))))))) (.refl _) ?_
   refine hl_nil ?_
   exact hq_round1 (j + 1) ⟨by omega, fun i hi => by by_cases hij : i = j; (subst hij; assumption); exact hk2 i (by omega)⟩ (by omega) (sx 0 rfl (sx 1 rfl (sx 4 rfl (sx 7 rfl (sx 8 rfl (sx 9 rfl (sub_nil _))))))) (.slnil)
  ·
   refine hl_v rfl rfl rfl (rv_ev rfl) ?_
   refine hl_less (sx 0 rfl (sx 1 rfl (sx 4 rfl (sx 6 rfl (sx 7 rfl (sx 8 rfl (sx 9 rfl (sx 10 rfl (sx 16 rfl (sub_nil _)))))))))) (.refl _) ?_
   refine hl_nil ?_
   refine hq_then ?_
   refine hc_true rfl ?_
   refine hc_seq ?_
   refine hc_region ?_
   refine hl_v rfl rfl rfl (rv_ev rfl) ?_
   refine hl_less (sx 0 rfl (sx 1 rfl (sx 4 rfl (sx 6 rfl (sx 7 rfl (sx 8 rfl (sx 9 rfl (sx 10 rfl (sx 16 rfl (sub_nil _)))))))))) (.refl _) ?_
   refine hl_nil ?_
   refine hq_then ?_
   refine hc_ret ?_
   refine hq_block_ret ?_
   refine hq_then_ret ?_
   refine hq_then_ret ?_
   refine hq_block_ret ?_
   refine hq_then_ret ?_
   exact hq_ans rfl rfl (congrArg _ (Bool.eq_false_iff.2 (fun h => by have h2 := List.all_eq_true.1 h _ (getD_mem' (es := ys) (i := j) (d := (0 : Int)) (by omega)); rw [show hasB xs (ys.getD j 0) = false by assumption] at h2; cases h2)).symm)
 ·
  refine hl_less (sx 0 rfl (sx 1 rfl (sx 4 rfl (sx 7 rfl (sx 8 rfl (sx 9 rfl (sx 10 rfl (sub_nil _)))))))) (.refl _) ?_
  refine hl_nil ?_
  refine hq_then ?_
  refine hc_seq ?_
  refine hc_false rfl ?_
  refine hc_exit ?_
  refine hq_then_exit ?_
  refine hq_then_exit ?_
  refine hq_block_exit ?_
  refine hq_then ?_
  refine hc_seq ?_
  refine hc_region ?_
  refine hl_v rfl rfl rfl (rv_ev rfl) ?_
  refine hl_less (sx 0 rfl (sx 1 rfl (sx 4 rfl (sx 7 rfl (sx 8 rfl (sx 9 rfl (sx 10 rfl (sub_nil _)))))))) (.refl _) ?_
  refine hl_nil ?_
  refine hq_then ?_
  refine hc_ret ?_
  exact hq_ans rfl rfl (congrArg _ (List.all_eq_true.2 (fun x hx => by obtain ⟨i, hi, rfl⟩ := List.mem_iff_getElem.1 hx; have := hk2 i (by omega); rwa [List.getD_eq_getElem?_getD, List.getElem?_eq_getElem hi] at this)).symm)
set_option maxHeartbeats 4000000 in
set_option maxRecDepth 100000 in
theorem sameIntsI_ans (xs ys : List Int) (u v : Value) (w : World) (hu : RdsW w u 1 xs.length (xs.map (Value.int .i64))) (hv : RdsW w v 1 ys.length (ys.map (Value.int .i64))) (hlen : xs.length ≤ 1000000000000) :
  Calls Try.prog 160 #[u, v] w (Ans w (.bool (decide (xs = ys)))) := by
 refine calls_hc (N := 26) (args := [u, v]) Try.func160 rfl rfl ?_
 refine hc_less _ (sx 0 rfl (sx 1 rfl (sub_nil _))) (.refl _) ?_
 refine hc_seq ?_
 refine hc_region ?_
 refine hl_v rfl rfl rfl (rv_ev rfl) ?_
 refine hl_less (sx 0 rfl (sx 1 rfl (sx 4 rfl (sub_nil _)))) (.refl _) ?_
 refine hl_nil ?_
 refine hq_then ?_
 refine hc_seq ?_
 refine hc_seq ?_
 refine hc_region ?_
 refine hl_v rfl rfl rfl (rv_ev rfl) ?_
 refine hl_v rfl rfl rfl (rv_len rfl Try.underlying26 rfl (rd_old hu)) ?_
 refine hl_v rfl rfl rfl (rv_ev rfl) ?_
 refine hl_v rfl rfl rfl (rv_len rfl Try.underlying26 rfl (rd_old hv)) ?_
 refine hl_neq rfl rfl rfl rfl rfl rfl (fun h1 => ?_) (fun h1 => ?_)
 ·
  refine hl_less (sx 0 rfl (sx 1 rfl (sx 4 rfl (sx 10 rfl (sub_nil _))))) (.refl _) ?_
  refine hl_nil ?_
  refine hq_then ?_
  refine hc_true rfl ?_
  refine hc_seq ?_
  refine hc_region ?_
  refine hl_v rfl rfl rfl (rv_ev rfl) ?_
  refine hl_less (sx 0 rfl (sx 1 rfl (sx 4 rfl (sx 10 rfl (sub_nil _))))) (.refl _) ?_
  refine hl_nil ?_
  refine hq_then ?_
  refine hc_ret ?_
  refine hq_then_ret ?_
  exact hq_ans rfl rfl (congrArg _ (decide_eq_false (fun he => by subst he; first | omega | contradiction | simp_all)).symm)
 ·
  refine hl_less (sx 0 rfl (sx 1 rfl (sx 4 rfl (sx 10 rfl (sub_nil _))))) (.refl _) ?_
  refine hl_nil ?_
  refine hq_then ?_
  refine hc_false rfl ?_
  refine hc_skip ?_
  refine hq_then ?_
  refine hc_seq ?_
  refine hc_seq ?_
  refine hc_region ?_
  refine hl_v rfl rfl rfl (rv_ev rfl) ?_
  refine hl_v rfl rfl rfl (rv_len rfl Try.underlying26 rfl (rd_old hu)) ?_
  refine hl_v rfl rfl rfl (rv_ev rfl) ?_
  refine hl_less (sx 0 rfl (sx 1 rfl (sx 4 rfl (sx 10 rfl (sx 12 rfl (sx 13 rfl (sub_nil _))))))) (.refl _) ?_
  refine hl_nil ?_
  refine hq_then ?_
  refine hc_block ?_
  refine hc_loop1 (α := Nat) (fun j => []) (fun j => [(0, u), (1, v), (4, .bool false), (10, .bool false), (12, .int .i64 (xs.length : Int)), (13, .int .i64 (j : Int))]) (fun j => j ≤ xs.length ∧ ∀ i, i < j → xs.getD i 0 = ys.getD i 0) (fun j => xs.length - j) 0 ⟨by omega, fun i hi => absurd hi (by omega)⟩ (sx 0 rfl (sx 1 rfl (sx 4 rfl (sx 10 rfl (sx 12 rfl (sx 13 rfl (sub_nil _))))))) (.slnil) ?_
  intro j hi2
  obtain ⟨hk1, hk2⟩ := hi2
  refine hc_seq ?_
  refine hc_region ?_
  refine hl_lss rfl rfl rfl rfl rfl rfl (fun h3 => ?_) (fun h3 => ?_)
  ·
   refine hl_less (sx 0 rfl (sx 1 rfl (sx 4 rfl (sx 10 rfl (sx 12 rfl (sx 13 rfl (sx 14 rfl (sub_nil _)))))))) (.refl _) ?_
   refine hl_nil ?_
   refine hq_then ?_
   refine hc_seq ?_
   refine hc_true rfl ?_
   refine hc_skip ?_
   refine hq_then ?_
   refine hc_seq ?_
   refine hc_block ?_
   refine hc_seq ?_
   refine hc_region ?_
   refine hl_v rfl rfl rfl (rv_ev rfl) ?_
   refine hl_v rfl rfl rfl (rv_ev rfl) ?_
   refine hl_less (sx 0 rfl (sx 1 rfl (sx 4 rfl (sx 5 rfl (sx 10 rfl (sx 12 rfl (sx 13 rfl (sx 14 rfl (sub_nil _))))))))) (.refl _) ?_
   refine hl_nil ?_
   refine hq_then ?_
   refine hc_seq ?_
   rcases Bool.eq_false_or_eq_true ((xs.getD j 0) != (ys.getD j 0)) with hb4 | hb4
   ·
    have hb4p : xs.getD j 0 ≠ ys.getD j 0 := bne_iff_ne.1 hb4
    refine hc_draw (by kernel_rfl) 9 [0, 1, 2, 3, 4, 5, 6, 7, 8] (List.take 9 _) (List.drop 9 _) [[], [], [0, 1], [2], [], [], [4, 5], [6], [3, 7]] [16, 17, 18, 19, 20, 21, 22, 23, 24] (fun i_ vs_ v_ p_ => match i_ with | 0 => v_ = u ∧ p_ = [] | 1 => v_ = .int .i64 (j : Int) ∧ p_ = [] | 2 => v_ = elP u (((j : Int)).toNat * 1) ∧ p_ = [] | 3 => v_ = .int .i64 (xs.getD j 0) ∧ p_ = [] | 4 => v_ = v ∧ p_ = [] | 5 => v_ = .int .i64 (j : Int) ∧ p_ = [] | 6 => v_ = elP v (((j : Int)).toNat * 1) ∧ p_ = [] | 7 => v_ = .int .i64 (ys.getD j 0) ∧ p_ = [] | 8 => v_ = .bool true ∧ p_ = [] | _ => True) (List.take_append_drop 9 _).symm (by kernel_rfl) (by kernel_rfl) rfl rfl ?_ ?_
    ·
     refine ⟨?_, ?_, ?_, ?_, ?_, ?_, ?_, ?_, ?_, trivial⟩
     ·
      intro vf pf hR
      refine Or.inl ⟨rfl, ?_⟩
      refine rq_less (sx 0 rfl (sub_nil _)) (List.sublist_append_right _ _) ?_
      exact rq_v (rv_ev rfl)
     ·
      intro vf pf hR
      refine Or.inl ⟨rfl, ?_⟩
      refine rq_less (sx 5 rfl (sub_nil _)) (List.sublist_append_right _ _) ?_
      exact rq_v (rv_ev rfl)
     ·
      intro vf pf hR
      have e0 : (vf 0) = u ∧ (pf 0) = [] := hR 0 (by decide)
      have e1 : (vf 1) = .int .i64 (j : Int) ∧ (pf 1) = [] := hR 1 (by decide)
      refine Or.inl ⟨rfl, ?_⟩
      refine rq_less (sx 16 (congrArg some e0.1) (sx 17 (congrArg some e1.1) (sub_nil _))) (List.sublist_append_right _ _) ?_
      exact rq_v (rv_index (s := 1) rfl Try.underlying26 (by kernel_rfl) rfl rfl (rd_old hu) (by omega) (by first | omega | (simp only [List.length_set]; omega)))
     ·
      intro vf pf hR
      have e2 : (vf 2) = elP u (((j : Int)).toNat * 1) ∧ (pf 2) = [] := hR 2 (by decide)
      refine Or.inl ⟨rfl, ?_⟩
      refine rq_less (sx 18 (congrArg some e2.1) (sub_nil _)) (List.sublist_append_right _ _) ?_
      exact rq_v (rv_loadEl (u := .int .i64 (xs.getD j 0)) rfl (by kernel_rfl) rfl (rd_old hu) (ints_at1 (show _ < xs.length by first | omega | (simp only [List.length_set]; omega))))
     ·
      intro vf pf hR
      refine Or.inl ⟨rfl, ?_⟩
      refine rq_less (sx 1 rfl (sub_nil _)) (List.sublist_append_right _ _) ?_
      exact rq_v (rv_ev rfl)
     ·
      intro vf pf hR
      refine Or.inl ⟨rfl, ?_⟩
      refine rq_less (sx 5 rfl (sub_nil _)) (List.sublist_append_right _ _) ?_
      exact rq_v (rv_ev rfl)
     ·
      intro vf pf hR
      have e4 : (vf 4) = v ∧ (pf 4) = [] := hR 4 (by decide)
      have e5 : (vf 5) = .int .i64 (j : Int) ∧ (pf 5) = [] := hR 5 (by decide)
      refine Or.inl ⟨rfl, ?_⟩
      refine rq_less (sx 20 (congrArg some e4.1) (sx 21 (congrArg some e5.1) (sub_nil _))) (List.sublist_append_right _ _) ?_
      exact rq_v (rv_index (s := 1) rfl Try.underlying26 (by kernel_rfl) rfl rfl (rd_old hv) (by omega) (by first | omega | (simp only [List.length_set]; omega)))
     ·
      intro vf pf hR
      have e6 : (vf 6) = elP v (((j : Int)).toNat * 1) ∧ (pf 6) = [] := hR 6 (by decide)
      refine Or.inl ⟨rfl, ?_⟩
      refine rq_less (sx 22 (congrArg some e6.1) (sub_nil _)) (List.sublist_append_right _ _) ?_
      exact rq_v (rv_loadEl (u := .int .i64 (ys.getD j 0)) rfl (by kernel_rfl) rfl (rd_old hv) (ints_at1 (show _ < ys.length by first | omega | (simp only [List.length_set]; omega))))
     ·
      intro vf pf hR
      have e3 : (vf 3) = .int .i64 (xs.getD j 0) ∧ (pf 3) = [] := hR 3 (by decide)
      have e7 : (vf 7) = .int .i64 (ys.getD j 0) ∧ (pf 7) = [] := hR 7 (by decide)
      refine Or.inl ⟨rfl, ?_⟩
      refine rq_less (sx 19 (congrArg some e3.1) (sx 23 (congrArg some e7.1) (sub_nil _))) (List.sublist_append_right _ _) ?_
      exact rq_mono (rq_v (rv_cmp rfl rfl rfl rfl)) (fun _ _ h => ⟨h.1.trans (congrArg Value.bool hb4), h.2⟩)
    ·
     intro vf pf hR
     have e8 : (vf 8) = .bool true ∧ (pf 8) = [] := hR 8 (by decide)
     refine hl_less (l' := []) (sx 0 rfl (sx 1 rfl (sx 4 rfl (sx 5 rfl (sx 10 rfl (sx 12 rfl (sx 13 rfl (sx 14 rfl (sx 24 (congrArg some e8.1) (sub_nil _)))))))))) (List.sublist_append_right _ _) ?_
     simp only [List.drop_succ_cons, List.drop_zero]
     refine hl_less (sx 0 rfl (sx 1 rfl (sx 4 rfl (sx 5 rfl (sx 10 rfl (sx 12 rfl (sx 13 rfl (sx 14 rfl (sx 24 rfl (sub_nil _)))))))))) (.refl _) ?_
     refine hl_nil ?_
     refine hq_then ?_
     refine hc_true rfl ?_
     refine hc_seq ?_
     refine hc_region ?_
     refine hl_v rfl rfl rfl (rv_ev rfl) ?_
     refine hl_less (sx 0 rfl (sx 1 rfl (sx 4 rfl (sx 5 rfl (sx 10 rfl (sx 12 rfl (sx 13 rfl (sx 14 rfl (sx 24 rfl (sub_nil _)))))))))) (.refl _) ?_
     refine hl_nil ?_
     refine hq_then ?_
     refine hc_ret ?_
     refine hq_block_ret ?_
     refine hq_then_ret ?_
     refine hq_then_ret ?_
     refine hq_block_ret ?_
     refine hq_then_ret ?_
     exact hq_ans rfl rfl (congrArg _ (decide_eq_false (fun he => by subst he; first | omega | contradiction | simp_all)).symm)
   ·
    have hb4p : xs.getD j 0 = ys.getD j 0 := by simpa using hb4
    refine hc_draw (by kernel_rfl) 9 [0, 1, 2, 3, 4, 5, 6, 7, 8] (List.take 9 _) (List.drop 9 _) [[], [], [0, 1], [2], [], [], [4, 5], [6], [3, 7]] [16, 17, 18, 19, 20, 21, 22, 23, 24] (fun i_ vs_ v_ p_ => match i_ with | 0 => v_ = u ∧ p_ = [] | 1 => v_ = .int .i64 (j : Int) ∧ p_ = [] | 2 => v_ = elP u (((j : Int)).toNat * 1) ∧ p_ = [] | 3 => v_ = .int .i64 (xs.getD j 0) ∧ p_ = [] | 4 => v_ = v ∧ p_ = [] | 5 => v_ = .int .i64 (j : Int) ∧ p_ = [] | 6 => v_ = elP v (((j : Int)).toNat * 1) ∧ p_ = [] | 7 => v_ = .int .i64 (ys.getD j 0) ∧ p_ = [] | 8 => v_ = .bool false ∧ p_ = [] | _ => True) (List.take_append_drop 9 _).symm (by kernel_rfl) (by kernel_rfl) rfl rfl ?_ ?_
    ·
     refine ⟨?_, ?_, ?_, ?_, ?_, ?_, ?_, ?_, ?_, trivial⟩
     ·
      intro vf pf hR
      refine Or.inl ⟨rfl, ?_⟩
      refine rq_less (sx 0 rfl (sub_nil _)) (List.sublist_append_right _ _) ?_
      exact rq_v (rv_ev rfl)
     ·
      intro vf pf hR
      refine Or.inl ⟨rfl, ?_⟩
      refine rq_less (sx 5 rfl (sub_nil _)) (List.sublist_append_right _ _) ?_
      exact rq_v (rv_ev rfl)
     ·
      intro vf pf hR
      have e0 : (vf 0) = u ∧ (pf 0) = [] := hR 0 (by decide)
      have e1 : (vf 1) = .int .i64 (j : Int) ∧ (pf 1) = [] := hR 1 (by decide)
      refine Or.inl ⟨rfl, ?_⟩
      refine rq_less (sx 16 (congrArg some e0.1) (sx 17 (congrArg some e1.1) (sub_nil _))) (List.sublist_append_right _ _) ?_
      exact rq_v (rv_index (s := 1) rfl Try.underlying26 (by kernel_rfl) rfl rfl (rd_old hu) (by omega) (by first | omega | (simp only [List.length_set]; omega)))
     ·
      intro vf pf hR
      have e2 : (vf 2) = elP u (((j : Int)).toNat * 1) ∧ (pf 2) = [] := hR 2 (by decide)
      refine Or.inl ⟨rfl, ?_⟩
      refine rq_less (sx 18 (congrArg some e2.1) (sub_nil _)) (List.sublist_append_right _ _) ?_
      exact rq_v (rv_loadEl (u := .int .i64 (xs.getD j 0)) rfl (by kernel_rfl) rfl (rd_old hu) (ints_at1 (show _ < xs.length by first | omega | (simp only [List.length_set]; omega))))
     ·
      intro vf pf hR
      refine Or.inl ⟨rfl, ?_⟩
      refine rq_less (sx 1 rfl (sub_nil _)) (List.sublist_append_right _ _) ?_
      exact rq_v (rv_ev rfl)
     ·
      intro vf pf hR
      refine Or.inl ⟨rfl, ?_⟩
      refine rq_less (sx 5 rfl (sub_nil _)) (List.sublist_append_right _ _) ?_
      exact rq_v (rv_ev rfl)
     ·
      intro vf pf hR
      have e4 : (vf 4) = v ∧ (pf 4) = [] := hR 4 (by decide)
      have e5 : (vf 5) = .int .i64 (j : Int) ∧ (pf 5) = [] := hR 5 (by decide)
      refine Or.inl ⟨rfl, ?_⟩
      refine rq_less (sx 20 (congrArg some e4.1) (sx 21 (congrArg some e5.1) (sub_nil _))) (List.sublist_append_right _ _) ?_
      exact rq_v (rv_index (s := 1) rfl Try.underlying26 (by kernel_rfl) rfl rfl (rd_old hv) (by omega) (by first | omega | (simp only [List.length_set]; omega)))
     ·
      intro vf pf hR
      have e6 : (vf 6) = elP v (((j : Int)).toNat * 1) ∧ (pf 6) = [] := hR 6 (by decide)
      refine Or.inl ⟨rfl, ?_⟩
      refine rq_less (sx 22 (congrArg some e6.1) (sub_nil _)) (List.sublist_append_right _ _) ?_
      exact rq_v (rv_loadEl (u := .int .i64 (ys.getD j 0)) rfl (by kernel_rfl) rfl (rd_old hv) (ints_at1 (show _ < ys.length by first | omega | (simp only [List.length_set]; omega))))
     ·
      intro vf pf hR
      have e3 : (vf 3) = .int .i64 (xs.getD j 0) ∧ (pf 3) = [] := hR 3 (by decide)
      have e7 : (vf 7) = .int .i64 (ys.getD j 0) ∧ (pf 7) = [] := hR 7 (by decide)
      refine Or.inl ⟨rfl, ?_⟩
      refine rq_less (sx 19 (congrArg some e3.1) (sx 23 (congrArg some e7.1) (sub_nil _))) (List.sublist_append_right _ _) ?_
      exact rq_mono (rq_v (rv_cmp rfl rfl rfl rfl)) (fun _ _ h => ⟨h.1.trans (congrArg Value.bool hb4), h.2⟩)
    ·
     intro vf pf hR
     have e8 : (vf 8) = .bool false ∧ (pf 8) = [] := hR 8 (by decide)
     refine hl_less (l' := []) (sx 0 rfl (sx 1 rfl (sx 4 rfl (sx 5 rfl (sx 10 rfl (sx 12 rfl (sx 13 rfl (sx 14 rfl (sx 24 (congrArg some e8.1) (sub_nil _)))))))))) (List.sublist_append_right _ _) ?_
     simp only [List.drop_succ_cons, List.drop_zero]
     refine hl_less (sx 0 rfl (sx 1 rfl (sx 4 rfl (sx 5 rfl (sx 10 rfl (sx 12 rfl (sx 13 rfl (sx 14 rfl (sx 24 rfl (sub_nil _)))))))))) (.refl _) ?_
     refine hl_nil ?_
     refine hq_then ?_
     refine hc_false rfl ?_
     refine hc_skip ?_
     refine hq_block_normal ?_
     refine hq_then ?_
     refine hc_region ?_
     refine hl_v rfl rfl rfl (rv_add rfl rfl rfl (by constructor <;> omega)) ?_
     refine hl_v rfl rfl rfl (rv_ev rfl) ?_
     refine hl_less (sx 0 rfl (sx 1 rfl (sx 4 rfl (sx 5 rfl (sx 10 rfl (sx 12 rfl (sx 13 rfl (sx 14 rfl (sx 24 rfl (sub_nil _)))))))))) (.refl _) ?_
     refine hl_nil ?_
     exact hq_round1 (j + 1) ⟨by omega, fun i hi => by by_cases hij : i = j; (subst hij; assumption); exact hk2 i (by omega)⟩ (by omega) (sx 0 rfl (sx 1 rfl (sx 4 rfl (sx 10 rfl (sx 12 rfl (sx 13 rfl (sub_nil _))))))) (.slnil)
  ·
   refine hl_less (sx 0 rfl (sx 1 rfl (sx 4 rfl (sx 10 rfl (sx 12 rfl (sx 13 rfl (sx 14 rfl (sub_nil _)))))))) (.refl _) ?_
   refine hl_nil ?_
   refine hq_then ?_
   refine hc_seq ?_
   refine hc_false rfl ?_
   refine hc_exit ?_
   refine hq_then_exit ?_
   refine hq_then_exit ?_
   refine hq_block_exit ?_
   refine hq_then ?_
   refine hc_seq ?_
   refine hc_region ?_
   refine hl_v rfl rfl rfl (rv_ev rfl) ?_
   refine hl_less (sx 0 rfl (sx 1 rfl (sx 4 rfl (sx 10 rfl (sx 12 rfl (sx 13 rfl (sx 14 rfl (sub_nil _)))))))) (.refl _) ?_
   refine hl_nil ?_
   refine hq_then ?_
   refine hc_ret ?_
   exact hq_ans rfl rfl (congrArg _ (decide_eq_true (ext_getD (d := 0) (by omega) (fun i hi => hk2 i (by omega)))).symm)
set_option maxHeartbeats 4000000 in
set_option maxRecDepth 100000 in
theorem MergeCuts_ret (xs ys : List Int) (u v : Value) (w : World) (hu : RdsW w u 1 xs.length (xs.map (Value.int .i64))) (hv : RdsW w v 1 ys.length (ys.map (Value.int .i64))) (hxl : xs.length ≤ 4) (hyl : ys.length ≤ 4) (hxa : xs.Pairwise (· < ·)) (hya : ys.Pairwise (· < ·)) (hx0 : ∀ k ∈ xs, 0 ≤ k) (hy0 : ∀ k ∈ ys, 0 ≤ k) :
  Calls Try.prog 169 #[u, v] w (Ret w (fun u_ p_ => ∃ (mv : Value) (us : List Int) (mb : Bool), u_ = .tuple #[mv, .bool mb] ∧ p_ = [rowE 3 1 mv us.length (us.map (Value.int .i64))] ∧ us.length ≤ 8 ∧ (mb = true → JoinOk xs ys us))) := by
 refine calls_hc (N := 55) (args := [u, v]) Try.func169 rfl rfl ?_
 refine hc_less _ (sx 0 rfl (sx 1 rfl (sub_nil _))) (.refl _) ?_
 refine hc_seq ?_
 refine hc_region ?_
 refine hl_v rfl rfl rfl (rv_ev rfl) ?_
 refine hl_v rfl rfl rfl (rv_ev rfl) ?_
 refine hl_less (sx 0 rfl (sx 1 rfl (sx 4 rfl (sx 5 rfl (sub_nil _))))) (.refl _) ?_
 refine hl_nil ?_
 refine hq_then ?_
 refine hc_seq ?_
 refine hc_seq ?_
 refine hc_region ?_
 refine hl_v rfl rfl rfl (rv_ev rfl) ?_
 refine hl_callV rfl rfl rfl (rq_call (by kernel_rfl) rfl (fun w hm => ret_ans (strAsc_ans xs _ w ((rd_old hu) w hm) (by omega)))) ?_
 refine hl_bool (fun h1 => ?_) (fun h1 => absurd (((pBc_yes (asc_pair.2 hxa))).symm.trans h1) (by decide))
 refine hl_v rfl rfl rfl (rv_ev rfl) ?_
 refine hl_v rfl rfl rfl (rv_ev rfl) ?_
 refine hl_v rfl rfl rfl (rv_ev rfl) ?_
 refine hl_callV rfl rfl rfl (rq_call (by kernel_rfl) rfl (fun w hm => ret_ans (strAsc_ans ys _ w ((rd_old hv) w hm) (by omega)))) ?_
 refine hl_bool (fun h2 => ?_) (fun h2 => absurd (((pBc_yes (asc_pair.2 hya))).symm.trans h2) (by decide))
 refine hl_v rfl rfl rfl (rv_ev rfl) ?_
 refine hl_v rfl rfl rfl (rv_ev rfl) ?_
 refine hl_v rfl rfl rfl (rv_ev rfl) ?_
 refine hl_v rfl rfl rfl (rv_ev rfl) ?_
 refine hl_v rfl rfl rfl (rv_len rfl Try.underlying26 rfl (rd_old hu)) ?_
 refine hl_gtr rfl rfl rfl rfl rfl rfl (fun h3 => ?_) (fun h3 => ?_)
 ·
  refine hl_v rfl rfl rfl (rv_ev rfl) ?_
  refine hl_v rfl rfl rfl (rv_ev rfl) ?_
  refine hl_v rfl rfl rfl (rv_index (s := 1) rfl Try.underlying26 (by kernel_rfl) rfl rfl (rd_old hu) (by omega) (by first | omega | (simp only [List.length_set]; omega))) ?_
  have hx00 := hx0 _ (getD_memX (d := (0 : Int)) (show 0 < xs.length by omega))
  refine hl_v rfl rfl rfl (rv_loadEl (u := .int .i64 (xs.getD 0 0)) rfl (by kernel_rfl) rfl (rd_old hu) (ints_at1 (show _ < xs.length by first | omega | (simp only [List.length_set]; omega)))) ?_
  refine hl_lss rfl rfl rfl rfl rfl rfl (fun h4 => absurd h4 (by omega)) (fun h4 => ?_)
  refine hl_v rfl rfl rfl (rv_ev rfl) ?_
  refine hl_v rfl rfl rfl (rv_ev rfl) ?_
  refine hl_v rfl rfl rfl (rv_ev rfl) ?_
  refine hl_v rfl rfl rfl (rv_ev rfl) ?_
  refine hl_v rfl rfl rfl (rv_len rfl Try.underlying26 rfl (rd_old hv)) ?_
  refine hl_gtr rfl rfl rfl rfl rfl rfl (fun h5 => ?_) (fun h5 => ?_)
  ·
   refine hl_v rfl rfl rfl (rv_ev rfl) ?_
   refine hl_v rfl rfl rfl (rv_ev rfl) ?_
   refine hl_v rfl rfl rfl (rv_index (s := 1) rfl Try.underlying26 (by kernel_rfl) rfl rfl (rd_old hv) (by omega) (by first | omega | (simp only [List.length_set]; omega))) ?_
   have hy00 := hy0 _ (getD_memX (d := (0 : Int)) (show 0 < ys.length by omega))
   refine hl_v rfl rfl rfl (rv_loadEl (u := .int .i64 (ys.getD 0 0)) rfl (by kernel_rfl) rfl (rd_old hv) (ints_at1 (show _ < ys.length by first | omega | (simp only [List.length_set]; omega)))) ?_
   refine hl_lss rfl rfl rfl rfl rfl rfl (fun h6 => absurd h6 (by omega)) (fun h6 => ?_)
   refine hl_v rfl rfl rfl (rv_ev rfl) ?_
   refine hl_v rfl rfl rfl (rv_ev rfl) ?_
   refine hl_less (sx 0 rfl (sx 1 rfl (sx 4 rfl (sx 5 rfl (sx 38 rfl (sub_nil _)))))) (.refl _) ?_
   refine hl_nil ?_
   refine hq_then ?_
   refine hc_false rfl ?_
   refine hc_skip ?_
   refine hq_then ?_
   refine hc_seq ?_
   refine hc_region ?_
   refine hl_v rfl rfl rfl (rv_ev rfl) ?_
   refine hl_q rfl rfl rfl (rq_call (by kernel_rfl) rfl (fun w hm => copyIntsN_ret xs _ w ((rd_old hu) w hm) (by omega))) ?_
   intro v7 p8 hR9
   subst hR9
   refine hl_v rfl rfl rfl (rv_ev rfl) ?_
   refine hl_less (sx 0 rfl (sx 1 rfl (sx 4 rfl (sx 5 rfl (sx 6 rfl (sx 38 rfl (sub_nil _))))))) (.refl _) ?_
   refine hl_nil ?_
   refine hq_then ?_
   refine hc_seq ?_
   refine hc_seq ?_
   refine hc_region ?_
   refine hl_v rfl rfl rfl (rv_ev rfl) ?_
   refine hl_v rfl rfl rfl (rv_len rfl Try.underlying26 rfl (rd_old hv)) ?_
   refine hl_v rfl rfl rfl (rv_ev rfl) ?_
   refine hl_less (sx 0 rfl (sx 1 rfl (sx 4 rfl (sx 5 rfl (sx 6 rfl (sx 38 rfl (sx 41 rfl (sx 42 rfl (sx 43 rfl (sub_nil _)))))))))) (.refl _) ?_
   refine hl_nil ?_
   refine hq_then ?_
   refine hc_block ?_
   refine hc_loop3 (α := Nat) (β := Value) (γ := List Int) (fun j gu zs => [rowE 3 1 gu zs.length (zs.map (Value.int .i64))]) (fun j gu zs => [(0, u), (1, v), (4, .slice none 0 0), (5, .bool false), (6, gu), (38, .bool false), (41, v), (42, .int .i64 (ys.length : Int)), (43, .int .i64 (j : Int))]) (fun j gu zs => j ≤ ys.length ∧ zs = insAll xs ys j) (fun j gu zs => ys.length - j) 0 _ xs ⟨by omega, rfl⟩ (sx 0 rfl (sx 1 rfl (sx 4 rfl (sx 5 rfl (sx 6 rfl (sx 38 rfl (sx 41 rfl (sx 42 rfl (sx 43 rfl (sub_nil _)))))))))) ((.cons_cons _ .slnil)) ?_
   intro j gu zs hi10
   obtain ⟨hk, hz⟩ := hi10
   have hzl : zs.length ≤ xs.length + j := by rw [hz]; exact (insAll_ok xs ys hxa j hk).2.2
   refine hc_seq ?_
   refine hc_region ?_
   refine hl_lss rfl rfl rfl rfl rfl rfl (fun h11 => ?_) (fun h11 => ?_)
   ·
    refine hl_less (sx 0 rfl (sx 1 rfl (sx 4 rfl (sx 5 rfl (sx 6 rfl (sx 38 rfl (sx 41 rfl (sx 42 rfl (sx 43 rfl (sx 44 rfl (sub_nil _))))))))))) (.refl _) ?_
    refine hl_nil ?_
    refine hq_then ?_
    refine hc_seq ?_
    refine hc_true rfl ?_
    refine hc_skip ?_
    refine hq_then ?_
    refine hc_seq ?_
    refine hc_block ?_
    refine hc_seq ?_
    refine hc_region ?_
    refine hl_v rfl rfl rfl (rv_index (s := 1) rfl Try.underlying26 (by kernel_rfl) rfl rfl (rd_old hv) (by omega) (by first | omega | (simp only [List.length_set]; omega))) ?_
    refine hl_v rfl rfl rfl (rv_loadEl (u := .int .i64 (ys.getD j 0)) rfl (by kernel_rfl) rfl (rd_old hv) (ints_at1 (show _ < ys.length by first | omega | (simp only [List.length_set]; omega)))) ?_
    refine hl_v rfl rfl rfl (rv_ev rfl) ?_
    refine hl_less (sx 0 rfl (sx 1 rfl (sx 4 rfl (sx 5 rfl (sx 6 rfl (sx 8 rfl (sx 38 rfl (sx 41 rfl (sx 42 rfl (sx 43 rfl (sx 44 rfl (sub_nil _)))))))))))) (.refl _) ?_
    refine hl_nil ?_
    refine hq_then ?_
    refine hc_region ?_
    refine hl_v rfl rfl rfl (rv_ev rfl) ?_
    refine hl_v rfl rfl rfl (rv_ev rfl) ?_
    refine hl_callM (R := (fun v' p' => p' = rowE 3 1 v' (insI zs (ys.getD j 0)).length ((insI zs (ys.getD j 0)).map (Value.int .i64)))) 0 rfl rfl (by kernel_rfl) rfl rfl (fun l' w hm => insertInt_mut _ zs _ (by omega) w hm) ?_
    intro v12 p13 hR14
    subst hR14
    refine hl_eqL (l' := [rowE 3 1 v12 ((insI zs (ys.getD j 0)).length) ((insI zs (ys.getD j 0)).map (Value.int .i64))]) rfl ?_
    refine hl_v rfl rfl rfl (rv_ev rfl) ?_
    refine hl_less (sx 0 rfl (sx 1 rfl (sx 4 rfl (sx 5 rfl (sx 6 rfl (sx 8 rfl (sx 38 rfl (sx 41 rfl (sx 42 rfl (sx 43 rfl (sx 44 rfl (sub_nil _)))))))))))) (.refl _) ?_
    refine hl_nil ?_
    refine hq_block_normal ?_
    refine hq_then ?_
    refine hc_region ?_
    refine hl_v rfl rfl rfl (rv_add rfl rfl rfl (by constructor <;> omega)) ?_
    refine hl_v rfl rfl rfl (rv_ev rfl) ?_
    refine hl_less (sx 0 rfl (sx 1 rfl (sx 4 rfl (sx 5 rfl (sx 6 rfl (sx 8 rfl (sx 38 rfl (sx 41 rfl (sx 42 rfl (sx 43 rfl (sx 44 rfl (sub_nil _)))))))))))) (.refl _) ?_
    refine hl_nil ?_
    exact hq_round3 (j + 1) v12 (insI zs (ys.getD j 0)) ⟨by omega, by rw [hz, insAll_step xs ys (by omega)]⟩ (by omega) (sx 0 rfl (sx 1 rfl (sx 4 rfl (sx 5 rfl (sx 6 rfl (sx 38 rfl (sx 41 rfl (sx 42 rfl (sx 43 rfl (sub_nil _)))))))))) ((.cons_cons _ .slnil))
   ·
    refine hl_less (sx 0 rfl (sx 1 rfl (sx 4 rfl (sx 5 rfl (sx 6 rfl (sx 38 rfl (sx 41 rfl (sx 42 rfl (sx 43 rfl (sx 44 rfl (sub_nil _))))))))))) (.refl _) ?_
    refine hl_nil ?_
    refine hq_then ?_
    refine hc_seq ?_
    refine hc_false rfl ?_
    refine hc_exit ?_
    refine hq_then_exit ?_
    refine hq_then_exit ?_
    refine hq_block_exit ?_
    refine hq_then ?_
    refine hc_seq ?_
    refine hc_seq ?_
    refine hc_region ?_
    refine hl_v rfl rfl rfl (rv_ev rfl) ?_
    refine hl_v rfl rfl rfl (rv_len rfl Try.underlying26 rfl (rd_row 0 rfl)) ?_
    refine hl_gtr rfl rfl rfl rfl rfl rfl (fun h15 => ?_) (fun h15 => ?_)
    ·
     refine hl_less (sx 0 rfl (sx 1 rfl (sx 4 rfl (sx 5 rfl (sx 6 rfl (sx 38 rfl (sx 41 rfl (sx 42 rfl (sx 43 rfl (sx 44 rfl (sx 53 rfl (sub_nil _)))))))))))) (.refl _) ?_
     refine hl_nil ?_
     refine hq_then ?_
     refine hc_true rfl ?_
     refine hc_seq ?_
     refine hc_region ?_
     refine hl_v rfl rfl rfl (rv_ev rfl) ?_
     refine hl_v rfl rfl rfl (rv_ev rfl) ?_
     refine hl_less (sx 0 rfl (sx 1 rfl (sx 4 rfl (sx 5 rfl (sx 6 rfl (sx 38 rfl (sx 41 rfl (sx 42 rfl (sx 43 rfl (sx 44 rfl (sx 53 rfl (sub_nil _)))))))))))) (.refl _) ?_
     refine hl_nil ?_
     refine hq_then ?_
     refine hc_ret ?_
     refine hq_then_ret ?_
     refine hq_conv [rowE 3 1 (.slice none 0 0) (([] : List Int).length) (([] : List Int).map (Value.int .i64)), rowE 3 1 gu zs.length (zs.map (Value.int .i64))] (fun w hm => hm.nilRow 3 1) ?_
     exact hq_retM (rs := [.tmp 4, .tmp 5]) (vs := [.slice none 0 0, .bool false]) (post := [rowE 3 1 (.slice none 0 0) (([] : List Int).length) (([] : List Int).map (Value.int .i64))]) rfl ⟨rfl, rfl, trivial⟩ rfl ((.cons_cons _ (.cons _ .slnil))) ⟨_, [], false, rfl, rfl, by simp, fun h => by cases h⟩
    ·
     refine hl_less (sx 0 rfl (sx 1 rfl (sx 4 rfl (sx 5 rfl (sx 6 rfl (sx 38 rfl (sx 41 rfl (sx 42 rfl (sx 43 rfl (sx 44 rfl (sx 53 rfl (sub_nil _)))))))))))) (.refl _) ?_
     refine hl_nil ?_
     refine hq_then ?_
     refine hc_false rfl ?_
     refine hc_skip ?_
     refine hq_then ?_
     refine hc_seq ?_
     refine hc_region ?_
     refine hl_v rfl rfl rfl (rv_ev rfl) ?_
     refine hl_v rfl rfl rfl (rv_ev rfl) ?_
     refine hl_v rfl rfl rfl (rv_ev rfl) ?_
     refine hl_less (sx 0 rfl (sx 1 rfl (sx 4 rfl (sx 5 rfl (sx 6 rfl (sx 38 rfl (sx 41 rfl (sx 42 rfl (sx 43 rfl (sx 44 rfl (sx 53 rfl (sub_nil _)))))))))))) (.refl _) ?_
     refine hl_nil ?_
     refine hq_then ?_
     refine hc_ret ?_
     exact hq_retM (rs := [.tmp 4, .tmp 5]) (vs := [gu, .bool true]) (post := [rowE 3 1 gu zs.length (zs.map (Value.int .i64))]) rfl ⟨rfl, rfl, trivial⟩ rfl ((.cons_cons _ .slnil)) ⟨_, _, true, rfl, rfl, by omega, fun _ => join_ofE hxa hz (by omega) (by omega)⟩
  ·
   refine hl_v rfl rfl rfl (rv_ev rfl) ?_
   refine hl_skip rfl rfl rfl ?_
   refine hl_skip rfl rfl rfl ?_
   refine hl_skip rfl rfl rfl ?_
   refine hl_skip rfl rfl rfl ?_
   refine hl_v rfl rfl rfl (rv_ev rfl) ?_
   refine hl_v rfl rfl rfl (rv_ev rfl) ?_
   refine hl_less (sx 0 rfl (sx 1 rfl (sx 4 rfl (sx 5 rfl (sx 38 rfl (sub_nil _)))))) (.refl _) ?_
   refine hl_nil ?_
   refine hq_then ?_
   refine hc_false rfl ?_
   refine hc_skip ?_
   refine hq_then ?_
   refine hc_seq ?_
   refine hc_region ?_
   refine hl_v rfl rfl rfl (rv_ev rfl) ?_
   refine hl_q rfl rfl rfl (rq_call (by kernel_rfl) rfl (fun w hm => copyIntsN_ret xs _ w ((rd_old hu) w hm) (by omega))) ?_
   intro v16 p17 hR18
   subst hR18
   refine hl_v rfl rfl rfl (rv_ev rfl) ?_
   refine hl_less (sx 0 rfl (sx 1 rfl (sx 4 rfl (sx 5 rfl (sx 6 rfl (sx 38 rfl (sub_nil _))))))) (.refl _) ?_
   refine hl_nil ?_
   refine hq_then ?_
   refine hc_seq ?_
   refine hc_seq ?_
   refine hc_region ?_
   refine hl_v rfl rfl rfl (rv_ev rfl) ?_
   refine hl_v rfl rfl rfl (rv_len rfl Try.underlying26 rfl (rd_old hv)) ?_
   refine hl_v rfl rfl rfl (rv_ev rfl) ?_
   refine hl_less (sx 0 rfl (sx 1 rfl (sx 4 rfl (sx 5 rfl (sx 6 rfl (sx 38 rfl (sx 41 rfl (sx 42 rfl (sx 43 rfl (sub_nil _)))))))))) (.refl _) ?_
   refine hl_nil ?_
   refine hq_then ?_
   refine hc_block ?_
   refine hc_loop3 (α := Nat) (β := Value) (γ := List Int) (fun j gu zs => [rowE 3 1 gu zs.length (zs.map (Value.int .i64))]) (fun j gu zs => [(0, u), (1, v), (4, .slice none 0 0), (5, .bool false), (6, gu), (38, .bool false), (41, v), (42, .int .i64 (ys.length : Int)), (43, .int .i64 (j : Int))]) (fun j gu zs => j ≤ ys.length ∧ zs = insAll xs ys j) (fun j gu zs => ys.length - j) 0 _ xs ⟨by omega, rfl⟩ (sx 0 rfl (sx 1 rfl (sx 4 rfl (sx 5 rfl (sx 6 rfl (sx 38 rfl (sx 41 rfl (sx 42 rfl (sx 43 rfl (sub_nil _)))))))))) ((.cons_cons _ .slnil)) ?_
   intro j gu zs hi19
   obtain ⟨hk, hz⟩ := hi19
   have hzl : zs.length ≤ xs.length + j := by rw [hz]; exact (insAll_ok xs ys hxa j hk).2.2
   refine hc_seq ?_
   refine hc_region ?_
   refine hl_lss rfl rfl rfl rfl rfl rfl (fun h20 => ?_) (fun h20 => ?_)
   ·
    refine hl_less (sx 0 rfl (sx 1 rfl (sx 4 rfl (sx 5 rfl (sx 6 rfl (sx 38 rfl (sx 41 rfl (sx 42 rfl (sx 43 rfl (sx 44 rfl (sub_nil _))))))))))) (.refl _) ?_
    refine hl_nil ?_
    refine hq_then ?_
    refine hc_seq ?_
    refine hc_true rfl ?_
    refine hc_skip ?_
    refine hq_then ?_
    refine hc_seq ?_
    refine hc_block ?_
    refine hc_seq ?_
    refine hc_region ?_
    refine hl_v rfl rfl rfl (rv_index (s := 1) rfl Try.underlying26 (by kernel_rfl) rfl rfl (rd_old hv) (by omega) (by first | omega | (simp only [List.length_set]; omega))) ?_
    refine hl_v rfl rfl rfl (rv_loadEl (u := .int .i64 (ys.getD j 0)) rfl (by kernel_rfl) rfl (rd_old hv) (ints_at1 (show _ < ys.length by first | omega | (simp only [List.length_set]; omega)))) ?_
    refine hl_v rfl rfl rfl (rv_ev rfl) ?_
    refine hl_less (sx 0 rfl (sx 1 rfl (sx 4 rfl (sx 5 rfl (sx 6 rfl (sx 8 rfl (sx 38 rfl (sx 41 rfl (sx 42 rfl (sx 43 rfl (sx 44 rfl (sub_nil _)))))))))))) (.refl _) ?_
    refine hl_nil ?_
    refine hq_then ?_
    refine hc_region ?_
    refine hl_v rfl rfl rfl (rv_ev rfl) ?_
    refine hl_v rfl rfl rfl (rv_ev rfl) ?_
    refine hl_callM (R := (fun v' p' => p' = rowE 3 1 v' (insI zs (ys.getD j 0)).length ((insI zs (ys.getD j 0)).map (Value.int .i64)))) 0 rfl rfl (by kernel_rfl) rfl rfl (fun l' w hm => insertInt_mut _ zs _ (by omega) w hm) ?_
    intro v21 p22 hR23
    subst hR23
    refine hl_eqL (l' := [rowE 3 1 v21 ((insI zs (ys.getD j 0)).length) ((insI zs (ys.getD j 0)).map (Value.int .i64))]) rfl ?_
    refine hl_v rfl rfl rfl (rv_ev rfl) ?_
    refine hl_less (sx 0 rfl (sx 1 rfl (sx 4 rfl (sx 5 rfl (sx 6 rfl (sx 8 rfl (sx 38 rfl (sx 41 rfl (sx 42 rfl (sx 43 rfl (sx 44 rfl (sub_nil _)))))))))))) (.refl _) ?_
    refine hl_nil ?_
    refine hq_block_normal ?_
    refine hq_then ?_
    refine hc_region ?_
    refine hl_v rfl rfl rfl (rv_add rfl rfl rfl (by constructor <;> omega)) ?_
    refine hl_v rfl rfl rfl (rv_ev rfl) ?_
    refine hl_less (sx 0 rfl (sx 1 rfl (sx 4 rfl (sx 5 rfl (sx 6 rfl (sx 8 rfl (sx 38 rfl (sx 41 rfl (sx 42 rfl (sx 43 rfl (sx 44 rfl (sub_nil _)))))))))))) (.refl _) ?_
    refine hl_nil ?_
    exact hq_round3 (j + 1) v21 (insI zs (ys.getD j 0)) ⟨by omega, by rw [hz, insAll_step xs ys (by omega)]⟩ (by omega) (sx 0 rfl (sx 1 rfl (sx 4 rfl (sx 5 rfl (sx 6 rfl (sx 38 rfl (sx 41 rfl (sx 42 rfl (sx 43 rfl (sub_nil _)))))))))) ((.cons_cons _ .slnil))
   ·
    refine hl_less (sx 0 rfl (sx 1 rfl (sx 4 rfl (sx 5 rfl (sx 6 rfl (sx 38 rfl (sx 41 rfl (sx 42 rfl (sx 43 rfl (sx 44 rfl (sub_nil _))))))))))) (.refl _) ?_
    refine hl_nil ?_
    refine hq_then ?_
    refine hc_seq ?_
    refine hc_false rfl ?_
    refine hc_exit ?_
    refine hq_then_exit ?_
    refine hq_then_exit ?_
    refine hq_block_exit ?_
    refine hq_then ?_
    refine hc_seq ?_
    refine hc_seq ?_
    refine hc_region ?_
    refine hl_v rfl rfl rfl (rv_ev rfl) ?_
    refine hl_v rfl rfl rfl (rv_len rfl Try.underlying26 rfl (rd_row 0 rfl)) ?_
    refine hl_gtr rfl rfl rfl rfl rfl rfl (fun h24 => ?_) (fun h24 => ?_)
    ·
     refine hl_less (sx 0 rfl (sx 1 rfl (sx 4 rfl (sx 5 rfl (sx 6 rfl (sx 38 rfl (sx 41 rfl (sx 42 rfl (sx 43 rfl (sx 44 rfl (sx 53 rfl (sub_nil _)))))))))))) (.refl _) ?_
     refine hl_nil ?_
     refine hq_then ?_
     refine hc_true rfl ?_
     refine hc_seq ?_
     refine hc_region ?_
     refine hl_v rfl rfl rfl (rv_ev rfl) ?_
     refine hl_v rfl rfl rfl (rv_ev rfl) ?_
     refine hl_less (sx 0 rfl (sx 1 rfl (sx 4 rfl (sx 5 rfl (sx 6 rfl (sx 38 rfl (sx 41 rfl (sx 42 rfl (sx 43 rfl (sx 44 rfl (sx 53 rfl (sub_nil _)))))))))))) (.refl _) ?_
     refine hl_nil ?_
     refine hq_then ?_
     refine hc_ret ?_
     refine hq_then_ret ?_
     refine hq_conv [rowE 3 1 (.slice none 0 0) (([] : List Int).length) (([] : List Int).map (Value.int .i64)), rowE 3 1 gu zs.length (zs.map (Value.int .i64))] (fun w hm => hm.nilRow 3 1) ?_
     exact hq_retM (rs := [.tmp 4, .tmp 5]) (vs := [.slice none 0 0, .bool false]) (post := [rowE 3 1 (.slice none 0 0) (([] : List Int).length) (([] : List Int).map (Value.int .i64))]) rfl ⟨rfl, rfl, trivial⟩ rfl ((.cons_cons _ (.cons _ .slnil))) ⟨_, [], false, rfl, rfl, by simp, fun h => by cases h⟩
    ·
     refine hl_less (sx 0 rfl (sx 1 rfl (sx 4 rfl (sx 5 rfl (sx 6 rfl (sx 38 rfl (sx 41 rfl (sx 42 rfl (sx 43 rfl (sx 44 rfl (sx 53 rfl (sub_nil _)))))))))))) (.refl _) ?_
     refine hl_nil ?_
     refine hq_then ?_
     refine hc_false rfl ?_
     refine hc_skip ?_
     refine hq_then ?_
     refine hc_seq ?_
     refine hc_region ?_
     refine hl_v rfl rfl rfl (rv_ev rfl) ?_
     refine hl_v rfl rfl rfl (rv_ev rfl) ?_
     refine hl_v rfl rfl rfl (rv_ev rfl) ?_
     refine hl_less (sx 0 rfl (sx 1 rfl (sx 4 rfl (sx 5 rfl (sx 6 rfl (sx 38 rfl (sx 41 rfl (sx 42 rfl (sx 43 rfl (sx 44 rfl (sx 53 rfl (sub_nil _)))))))))))) (.refl _) ?_
     refine hl_nil ?_
     refine hq_then ?_
     refine hc_ret ?_
     exact hq_retM (rs := [.tmp 4, .tmp 5]) (vs := [gu, .bool true]) (post := [rowE 3 1 gu zs.length (zs.map (Value.int .i64))]) rfl ⟨rfl, rfl, trivial⟩ rfl ((.cons_cons _ .slnil)) ⟨_, _, true, rfl, rfl, by omega, fun _ => join_ofE hxa hz (by omega) (by omega)⟩
 ·
  refine hl_v rfl rfl rfl (rv_ev rfl) ?_
  refine hl_skip rfl rfl rfl ?_
  refine hl_skip rfl rfl rfl ?_
  refine hl_skip rfl rfl rfl ?_
  refine hl_skip rfl rfl rfl ?_
  refine hl_v rfl rfl rfl (rv_ev rfl) ?_
  refine hl_v rfl rfl rfl (rv_ev rfl) ?_
  refine hl_v rfl rfl rfl (rv_ev rfl) ?_
  refine hl_v rfl rfl rfl (rv_ev rfl) ?_
  refine hl_v rfl rfl rfl (rv_len rfl Try.underlying26 rfl (rd_old hv)) ?_
  refine hl_gtr rfl rfl rfl rfl rfl rfl (fun h25 => ?_) (fun h25 => ?_)
  ·
   refine hl_v rfl rfl rfl (rv_ev rfl) ?_
   refine hl_v rfl rfl rfl (rv_ev rfl) ?_
   refine hl_v rfl rfl rfl (rv_index (s := 1) rfl Try.underlying26 (by kernel_rfl) rfl rfl (rd_old hv) (by omega) (by first | omega | (simp only [List.length_set]; omega))) ?_
   have hy00 := hy0 _ (getD_memX (d := (0 : Int)) (show 0 < ys.length by omega))
   refine hl_v rfl rfl rfl (rv_loadEl (u := .int .i64 (ys.getD 0 0)) rfl (by kernel_rfl) rfl (rd_old hv) (ints_at1 (show _ < ys.length by first | omega | (simp only [List.length_set]; omega)))) ?_
   refine hl_lss rfl rfl rfl rfl rfl rfl (fun h26 => absurd h26 (by omega)) (fun h26 => ?_)
   refine hl_v rfl rfl rfl (rv_ev rfl) ?_
   refine hl_v rfl rfl rfl (rv_ev rfl) ?_
   refine hl_less (sx 0 rfl (sx 1 rfl (sx 4 rfl (sx 5 rfl (sx 38 rfl (sub_nil _)))))) (.refl _) ?_
   refine hl_nil ?_
   refine hq_then ?_
   refine hc_false rfl ?_
   refine hc_skip ?_
   refine hq_then ?_
   refine hc_seq ?_
   refine hc_region ?_
   refine hl_v rfl rfl rfl (rv_ev rfl) ?_
   refine hl_q rfl rfl rfl (rq_call (by kernel_rfl) rfl (fun w hm => copyIntsN_ret xs _ w ((rd_old hu) w hm) (by omega))) ?_
   intro v27 p28 hR29
   subst hR29
   refine hl_v rfl rfl rfl (rv_ev rfl) ?_
   refine hl_less (sx 0 rfl (sx 1 rfl (sx 4 rfl (sx 5 rfl (sx 6 rfl (sx 38 rfl (sub_nil _))))))) (.refl _) ?_
   refine hl_nil ?_
   refine hq_then ?_
   refine hc_seq ?_
   refine hc_seq ?_
   refine hc_region ?_
   refine hl_v rfl rfl rfl (rv_ev rfl) ?_
   refine hl_v rfl rfl rfl (rv_len rfl Try.underlying26 rfl (rd_old hv)) ?_
   refine hl_v rfl rfl rfl (rv_ev rfl) ?_
   refine hl_less (sx 0 rfl (sx 1 rfl (sx 4 rfl (sx 5 rfl (sx 6 rfl (sx 38 rfl (sx 41 rfl (sx 42 rfl (sx 43 rfl (sub_nil _)))))))))) (.refl _) ?_
   refine hl_nil ?_
   refine hq_then ?_
   refine hc_block ?_
   refine hc_loop3 (α := Nat) (β := Value) (γ := List Int) (fun j gu zs => [rowE 3 1 gu zs.length (zs.map (Value.int .i64))]) (fun j gu zs => [(0, u), (1, v), (4, .slice none 0 0), (5, .bool false), (6, gu), (38, .bool false), (41, v), (42, .int .i64 (ys.length : Int)), (43, .int .i64 (j : Int))]) (fun j gu zs => j ≤ ys.length ∧ zs = insAll xs ys j) (fun j gu zs => ys.length - j) 0 _ xs ⟨by omega, rfl⟩ (sx 0 rfl (sx 1 rfl (sx 4 rfl (sx 5 rfl (sx 6 rfl (sx 38 rfl (sx 41 rfl (sx 42 rfl (sx 43 rfl (sub_nil _)))))))))) ((.cons_cons _ .slnil)) ?_
   intro j gu zs hi30
   obtain ⟨hk, hz⟩ := hi30
   have hzl : zs.length ≤ xs.length + j := by rw [hz]; exact (insAll_ok xs ys hxa j hk).2.2
   refine hc_seq ?_
   refine hc_region ?_
   refine hl_lss rfl rfl rfl rfl rfl rfl (fun h31 => ?_) (fun h31 => ?_)
   ·
    refine hl_less (sx 0 rfl (sx 1 rfl (sx 4 rfl (sx 5 rfl (sx 6 rfl (sx 38 rfl (sx 41 rfl (sx 42 rfl (sx 43 rfl (sx 44 rfl (sub_nil _))))))))))) (.refl _) ?_
    refine hl_nil ?_
    refine hq_then ?_
    refine hc_seq ?_
    refine hc_true rfl ?_
    refine hc_skip ?_
    refine hq_then ?_
    refine hc_seq ?_
    refine hc_block ?_
    refine hc_seq ?_
    refine hc_region ?_
    refine hl_v rfl rfl rfl (rv_index (s := 1) rfl Try.underlying26 (by kernel_rfl) rfl rfl (rd_old hv) (by omega) (by first | omega | (simp only [List.length_set]; omega))) ?_
    refine hl_v rfl rfl rfl (rv_loadEl (u := .int .i64 (ys.getD j 0)) rfl (by kernel_rfl) rfl (rd_old hv) (ints_at1 (show _ < ys.length by first | omega | (simp only [List.length_set]; omega)))) ?_
    refine hl_v rfl rfl rfl (rv_ev rfl) ?_
    refine hl_less (sx 0 rfl (sx 1 rfl (sx 4 rfl (sx 5 rfl (sx 6 rfl (sx 8 rfl (sx 38 rfl (sx 41 rfl (sx 42 rfl (sx 43 rfl (sx 44 rfl (sub_nil _)))))))))))) (.refl _) ?_
    refine hl_nil ?_
    refine hq_then ?_
    refine hc_region ?_
    refine hl_v rfl rfl rfl (rv_ev rfl) ?_
    refine hl_v rfl rfl rfl (rv_ev rfl) ?_
    refine hl_callM (R := (fun v' p' => p' = rowE 3 1 v' (insI zs (ys.getD j 0)).length ((insI zs (ys.getD j 0)).map (Value.int .i64)))) 0 rfl rfl (by kernel_rfl) rfl rfl (fun l' w hm => insertInt_mut _ zs _ (by omega) w hm) ?_
    intro v32 p33 hR34
    subst hR34
    refine hl_eqL (l' := [rowE 3 1 v32 ((insI zs (ys.getD j 0)).length) ((insI zs (ys.getD j 0)).map (Value.int .i64))]) rfl ?_
    refine hl_v rfl rfl rfl (rv_ev rfl) ?_
    refine hl_less (sx 0 rfl (sx 1 rfl (sx 4 rfl (sx 5 rfl (sx 6 rfl (sx 8 rfl (sx 38 rfl (sx 41 rfl (sx 42 rfl (sx 43 rfl (sx 44 rfl (sub_nil _)))))))))))) (.refl _) ?_
    refine hl_nil ?_
    refine hq_block_normal ?_
    refine hq_then ?_
    refine hc_region ?_
    refine hl_v rfl rfl rfl (rv_add rfl rfl rfl (by constructor <;> omega)) ?_
    refine hl_v rfl rfl rfl (rv_ev rfl) ?_
    refine hl_less (sx 0 rfl (sx 1 rfl (sx 4 rfl (sx 5 rfl (sx 6 rfl (sx 8 rfl (sx 38 rfl (sx 41 rfl (sx 42 rfl (sx 43 rfl (sx 44 rfl (sub_nil _)))))))))))) (.refl _) ?_
    refine hl_nil ?_
    exact hq_round3 (j + 1) v32 (insI zs (ys.getD j 0)) ⟨by omega, by rw [hz, insAll_step xs ys (by omega)]⟩ (by omega) (sx 0 rfl (sx 1 rfl (sx 4 rfl (sx 5 rfl (sx 6 rfl (sx 38 rfl (sx 41 rfl (sx 42 rfl (sx 43 rfl (sub_nil _)))))))))) ((.cons_cons _ .slnil))
   ·
    refine hl_less (sx 0 rfl (sx 1 rfl (sx 4 rfl (sx 5 rfl (sx 6 rfl (sx 38 rfl (sx 41 rfl (sx 42 rfl (sx 43 rfl (sx 44 rfl (sub_nil _))))))))))) (.refl _) ?_
    refine hl_nil ?_
    refine hq_then ?_
    refine hc_seq ?_
    refine hc_false rfl ?_
    refine hc_exit ?_
    refine hq_then_exit ?_
    refine hq_then_exit ?_
    refine hq_block_exit ?_
    refine hq_then ?_
    refine hc_seq ?_
    refine hc_seq ?_
    refine hc_region ?_
    refine hl_v rfl rfl rfl (rv_ev rfl) ?_
    refine hl_v rfl rfl rfl (rv_len rfl Try.underlying26 rfl (rd_row 0 rfl)) ?_
    refine hl_gtr rfl rfl rfl rfl rfl rfl (fun h35 => ?_) (fun h35 => ?_)
    ·
     refine hl_less (sx 0 rfl (sx 1 rfl (sx 4 rfl (sx 5 rfl (sx 6 rfl (sx 38 rfl (sx 41 rfl (sx 42 rfl (sx 43 rfl (sx 44 rfl (sx 53 rfl (sub_nil _)))))))))))) (.refl _) ?_
     refine hl_nil ?_
     refine hq_then ?_
     refine hc_true rfl ?_
     refine hc_seq ?_
     refine hc_region ?_
     refine hl_v rfl rfl rfl (rv_ev rfl) ?_
     refine hl_v rfl rfl rfl (rv_ev rfl) ?_
     refine hl_less (sx 0 rfl (sx 1 rfl (sx 4 rfl (sx 5 rfl (sx 6 rfl (sx 38 rfl (sx 41 rfl (sx 42 rfl (sx 43 rfl (sx 44 rfl (sx 53 rfl (sub_nil _)))))))))))) (.refl _) ?_
     refine hl_nil ?_
     refine hq_then ?_
     refine hc_ret ?_
     refine hq_then_ret ?_
     refine hq_conv [rowE 3 1 (.slice none 0 0) (([] : List Int).length) (([] : List Int).map (Value.int .i64)), rowE 3 1 gu zs.length (zs.map (Value.int .i64))] (fun w hm => hm.nilRow 3 1) ?_
     exact hq_retM (rs := [.tmp 4, .tmp 5]) (vs := [.slice none 0 0, .bool false]) (post := [rowE 3 1 (.slice none 0 0) (([] : List Int).length) (([] : List Int).map (Value.int .i64))]) rfl ⟨rfl, rfl, trivial⟩ rfl ((.cons_cons _ (.cons _ .slnil))) ⟨_, [], false, rfl, rfl, by simp, fun h => by cases h⟩
    ·
     refine hl_less (sx 0 rfl (sx 1 rfl (sx 4 rfl (sx 5 rfl (sx 6 rfl (sx 38 rfl (sx 41 rfl (sx 42 rfl (sx 43 rfl (sx 44 rfl (sx 53 rfl (sub_nil _)))))))))))) (.refl _) ?_
     refine hl_nil ?_
     refine hq_then ?_
     refine hc_false rfl ?_
     refine hc_skip ?_
     refine hq_then ?_
     refine hc_seq ?_
     refine hc_region ?_
     refine hl_v rfl rfl rfl (rv_ev rfl) ?_
     refine hl_v rfl rfl rfl (rv_ev rfl) ?_
     refine hl_v rfl rfl rfl (rv_ev rfl) ?_
     refine hl_less (sx 0 rfl (sx 1 rfl (sx 4 rfl (sx 5 rfl (sx 6 rfl (sx 38 rfl (sx 41 rfl (sx 42 rfl (sx 43 rfl (sx 44 rfl (sx 53 rfl (sub_nil _)))))))))))) (.refl _) ?_
     refine hl_nil ?_
     refine hq_then ?_
     refine hc_ret ?_
     exact hq_retM (rs := [.tmp 4, .tmp 5]) (vs := [gu, .bool true]) (post := [rowE 3 1 gu zs.length (zs.map (Value.int .i64))]) rfl ⟨rfl, rfl, trivial⟩ rfl ((.cons_cons _ .slnil)) ⟨_, _, true, rfl, rfl, by omega, fun _ => join_ofE hxa hz (by omega) (by omega)⟩
  ·
   refine hl_v rfl rfl rfl (rv_ev rfl) ?_
   refine hl_skip rfl rfl rfl ?_
   refine hl_skip rfl rfl rfl ?_
   refine hl_skip rfl rfl rfl ?_
   refine hl_skip rfl rfl rfl ?_
   refine hl_v rfl rfl rfl (rv_ev rfl) ?_
   refine hl_v rfl rfl rfl (rv_ev rfl) ?_
   refine hl_less (sx 0 rfl (sx 1 rfl (sx 4 rfl (sx 5 rfl (sx 38 rfl (sub_nil _)))))) (.refl _) ?_
   refine hl_nil ?_
   refine hq_then ?_
   refine hc_false rfl ?_
   refine hc_skip ?_
   refine hq_then ?_
   refine hc_seq ?_
   refine hc_region ?_
   refine hl_v rfl rfl rfl (rv_ev rfl) ?_
   refine hl_q rfl rfl rfl (rq_call (by kernel_rfl) rfl (fun w hm => copyIntsN_ret xs _ w ((rd_old hu) w hm) (by omega))) ?_
   intro v36 p37 hR38
   subst hR38
   refine hl_v rfl rfl rfl (rv_ev rfl) ?_
   refine hl_less (sx 0 rfl (sx 1 rfl (sx 4 rfl (sx 5 rfl (sx 6 rfl (sx 38 rfl (sub_nil _))))))) (.refl _) ?_
   refine hl_nil ?_
   refine hq_then ?_
   refine hc_seq ?_
   refine hc_seq ?_
   refine hc_region ?_
   refine hl_v rfl rfl rfl (rv_ev rfl) ?_
   refine hl_v rfl rfl rfl (rv_len rfl Try.underlying26 rfl (rd_old hv)) ?_
   refine hl_v rfl rfl rfl (rv_ev rfl) ?_
   refine hl_less (sx 0 rfl (sx 1 rfl (sx 4 rfl (sx 5 rfl (sx 6 rfl (sx 38 rfl (sx 41 rfl (sx 42 rfl (sx 43 rfl (sub_nil _)))))))))) (.refl _) ?_
   refine hl_nil ?_
   refine hq_then ?_
   refine hc_block ?_
   refine hc_loop3 (α := Nat) (β := Value) (γ := List Int) (fun j gu zs => [rowE 3 1 gu zs.length (zs.map (Value.int .i64))]) (fun j gu zs => [(0, u), (1, v), (4, .slice none 0 0), (5, .bool false), (6, gu), (38, .bool false), (41, v), (42, .int .i64 (ys.length : Int)), (43, .int .i64 (j : Int))]) (fun j gu zs => j ≤ ys.length ∧ zs = insAll xs ys j) (fun j gu zs => ys.length - j) 0 _ xs ⟨by omega, rfl⟩ (sx 0 rfl (sx 1 rfl (sx 4 rfl (sx 5 rfl (sx 6 rfl (sx 38 rfl (sx 41 rfl (sx 42 rfl (sx 43 rfl (sub_nil _)))))))))) ((.cons_cons _ .slnil)) ?_
   intro j gu zs hi39
   obtain ⟨hk, hz⟩ := hi39
   have hzl : zs.length ≤ xs.length + j := by rw [hz]; exact (insAll_ok xs ys hxa j hk).2.2
   refine hc_seq ?_
   refine hc_region ?_
   refine hl_lss rfl rfl rfl rfl rfl rfl (fun h40 => ?_) (fun h40 => ?_)
   ·
    refine hl_less (sx 0 rfl (sx 1 rfl (sx 4 rfl (sx 5 rfl (sx 6 rfl (sx 38 rfl (sx 41 rfl (sx 42 rfl (sx 43 rfl (sx 44 rfl (sub_nil _))))))))))) (.refl _) ?_
    refine hl_nil ?_
    refine hq_then ?_
    refine hc_seq ?_
    refine hc_true rfl ?_
    refine hc_skip ?_
    refine hq_then ?_
    refine hc_seq ?_
    refine hc_block ?_
    refine hc_seq ?_
    refine hc_region ?_
    refine hl_v rfl rfl rfl (rv_index (s := 1) rfl Try.underlying26 (by kernel_rfl) rfl rfl (rd_old hv) (by omega) (by first | omega | (simp only [List.length_set]; omega))) ?_
    refine hl_v rfl rfl rfl (rv_loadEl (u := .int .i64 (ys.getD j 0)) rfl (by kernel_rfl) rfl (rd_old hv) (ints_at1 (show _ < ys.length by first | omega | (simp only [List.length_set]; omega)))) ?_
    refine hl_v rfl rfl rfl (rv_ev rfl) ?_
    refine hl_less (sx 0 rfl (sx 1 rfl (sx 4 rfl (sx 5 rfl (sx 6 rfl (sx 8 rfl (sx 38 rfl (sx 41 rfl (sx 42 rfl (sx 43 rfl (sx 44 rfl (sub_nil _)))))))))))) (.refl _) ?_
    refine hl_nil ?_
    refine hq_then ?_
    refine hc_region ?_
    refine hl_v rfl rfl rfl (rv_ev rfl) ?_
    refine hl_v rfl rfl rfl (rv_ev rfl) ?_
    refine hl_callM (R := (fun v' p' => p' = rowE 3 1 v' (insI zs (ys.getD j 0)).length ((insI zs (ys.getD j 0)).map (Value.int .i64)))) 0 rfl rfl (by kernel_rfl) rfl rfl (fun l' w hm => insertInt_mut _ zs _ (by omega) w hm) ?_
    intro v41 p42 hR43
    subst hR43
    refine hl_eqL (l' := [rowE 3 1 v41 ((insI zs (ys.getD j 0)).length) ((insI zs (ys.getD j 0)).map (Value.int .i64))]) rfl ?_
    refine hl_v rfl rfl rfl (rv_ev rfl) ?_
    refine hl_less (sx 0 rfl (sx 1 rfl (sx 4 rfl (sx 5 rfl (sx 6 rfl (sx 8 rfl (sx 38 rfl (sx 41 rfl (sx 42 rfl (sx 43 rfl (sx 44 rfl (sub_nil _)))))))))))) (.refl _) ?_
    refine hl_nil ?_
    refine hq_block_normal ?_
    refine hq_then ?_
    refine hc_region ?_
    refine hl_v rfl rfl rfl (rv_add rfl rfl rfl (by constructor <;> omega)) ?_
    refine hl_v rfl rfl rfl (rv_ev rfl) ?_
    refine hl_less (sx 0 rfl (sx 1 rfl (sx 4 rfl (sx 5 rfl (sx 6 rfl (sx 8 rfl (sx 38 rfl (sx 41 rfl (sx 42 rfl (sx 43 rfl (sx 44 rfl (sub_nil _)))))))))))) (.refl _) ?_
    refine hl_nil ?_
    exact hq_round3 (j + 1) v41 (insI zs (ys.getD j 0)) ⟨by omega, by rw [hz, insAll_step xs ys (by omega)]⟩ (by omega) (sx 0 rfl (sx 1 rfl (sx 4 rfl (sx 5 rfl (sx 6 rfl (sx 38 rfl (sx 41 rfl (sx 42 rfl (sx 43 rfl (sub_nil _)))))))))) ((.cons_cons _ .slnil))
   ·
    refine hl_less (sx 0 rfl (sx 1 rfl (sx 4 rfl (sx 5 rfl (sx 6 rfl (sx 38 rfl (sx 41 rfl (sx 42 rfl (sx 43 rfl (sx 44 rfl (sub_nil _))))))))))) (.refl _) ?_
    refine hl_nil ?_
    refine hq_then ?_
    refine hc_seq ?_
    refine hc_false rfl ?_
    refine hc_exit ?_
    refine hq_then_exit ?_
    refine hq_then_exit ?_
    refine hq_block_exit ?_
    refine hq_then ?_
    refine hc_seq ?_
    refine hc_seq ?_
    refine hc_region ?_
    refine hl_v rfl rfl rfl (rv_ev rfl) ?_
    refine hl_v rfl rfl rfl (rv_len rfl Try.underlying26 rfl (rd_row 0 rfl)) ?_
    refine hl_gtr rfl rfl rfl rfl rfl rfl (fun h44 => ?_) (fun h44 => ?_)
    ·
     refine hl_less (sx 0 rfl (sx 1 rfl (sx 4 rfl (sx 5 rfl (sx 6 rfl (sx 38 rfl (sx 41 rfl (sx 42 rfl (sx 43 rfl (sx 44 rfl (sx 53 rfl (sub_nil _)))))))))))) (.refl _) ?_
     refine hl_nil ?_
     refine hq_then ?_
     refine hc_true rfl ?_
     refine hc_seq ?_
     refine hc_region ?_
     refine hl_v rfl rfl rfl (rv_ev rfl) ?_
     refine hl_v rfl rfl rfl (rv_ev rfl) ?_
     refine hl_less (sx 0 rfl (sx 1 rfl (sx 4 rfl (sx 5 rfl (sx 6 rfl (sx 38 rfl (sx 41 rfl (sx 42 rfl (sx 43 rfl (sx 44 rfl (sx 53 rfl (sub_nil _)))))))))))) (.refl _) ?_
     refine hl_nil ?_
     refine hq_then ?_
     refine hc_ret ?_
     refine hq_then_ret ?_
     refine hq_conv [rowE 3 1 (.slice none 0 0) (([] : List Int).length) (([] : List Int).map (Value.int .i64)), rowE 3 1 gu zs.length (zs.map (Value.int .i64))] (fun w hm => hm.nilRow 3 1) ?_
     exact hq_retM (rs := [.tmp 4, .tmp 5]) (vs := [.slice none 0 0, .bool false]) (post := [rowE 3 1 (.slice none 0 0) (([] : List Int).length) (([] : List Int).map (Value.int .i64))]) rfl ⟨rfl, rfl, trivial⟩ rfl ((.cons_cons _ (.cons _ .slnil))) ⟨_, [], false, rfl, rfl, by simp, fun h => by cases h⟩
    ·
     refine hl_less (sx 0 rfl (sx 1 rfl (sx 4 rfl (sx 5 rfl (sx 6 rfl (sx 38 rfl (sx 41 rfl (sx 42 rfl (sx 43 rfl (sx 44 rfl (sx 53 rfl (sub_nil _)))))))))))) (.refl _) ?_
     refine hl_nil ?_
     refine hq_then ?_
     refine hc_false rfl ?_
     refine hc_skip ?_
     refine hq_then ?_
     refine hc_seq ?_
     refine hc_region ?_
     refine hl_v rfl rfl rfl (rv_ev rfl) ?_
     refine hl_v rfl rfl rfl (rv_ev rfl) ?_
     refine hl_v rfl rfl rfl (rv_ev rfl) ?_
     refine hl_less (sx 0 rfl (sx 1 rfl (sx 4 rfl (sx 5 rfl (sx 6 rfl (sx 38 rfl (sx 41 rfl (sx 42 rfl (sx 43 rfl (sx 44 rfl (sx 53 rfl (sub_nil _)))))))))))) (.refl _) ?_
     refine hl_nil ?_
     refine hq_then ?_
     refine hc_ret ?_
     exact hq_retM (rs := [.tmp 4, .tmp 5]) (vs := [gu, .bool true]) (post := [rowE 3 1 gu zs.length (zs.map (Value.int .i64))]) rfl ⟨rfl, rfl, trivial⟩ rfl ((.cons_cons _ .slnil)) ⟨_, _, true, rfl, rfl, by omega, fun _ => join_ofE hxa hz (by omega) (by omega)⟩
theorem inr_yes {a b c : Int} (h1 : b ≤ a) (h2 : a ≤ c) (w : World) : Calls Try.prog 70 #[.int .i64 a, .int .i64 b, .int .i64 c] w (Ans w (.bool true)) := by
  rw [← inR_true h1 h2]; exact ans_of (inRange_any _ _ _ w)
structure Tab where
  N : Int
  B : Int
def pn (n : Int) : Nat := 2 ^ n.toNat
def qn (n : Int) : Int := 2 ^ (2 ^ n.toNat)
theorem five {n : Int} (h : 0 ≤ n ∧ n ≤ 4) : n = 0 ∨ n = 1 ∨ n = 2 ∨ n = 3 ∨ n = 4 := by omega
theorem pn_rng {n : Int} (h : 0 ≤ n ∧ n ≤ 4) : 1 ≤ pn n ∧ pn n ≤ 16 := by
  rcases five h with rfl | rfl | rfl | rfl | rfl <;> decide
theorem qn_rng {n : Int} (h : 0 ≤ n ∧ n ≤ 4) : 2 ≤ qn n ∧ qn n ≤ 65536 := by
  rcases five h with rfl | rfl | rfl | rfl | rfl <;> decide
theorem wr1 {n : Int} (h : 0 ≤ n ∧ n ≤ 4) : IntKind.i64.wrap (1 * 2 ^ n.toNat) = (pn n : Int) := by
  rcases five h with rfl | rfl | rfl | rfl | rfl <;> exact IntWalk.i64_in _ (by decide)
theorem wru {n : Int} (h : 0 ≤ n ∧ n ≤ 4) : IntKind.u64.wrap (1 * 2 ^ n.toNat) = (pn n : Int) := by
  rcases five h with rfl | rfl | rfl | rfl | rfl <;> exact IntWalk.u64_in _ (by decide)
theorem wr2 {n : Int} (h : 0 ≤ n ∧ n ≤ 4) : IntKind.i64.wrap (1 * 2 ^ ((pn n : Int)).toNat) = qn n := by
  rcases five h with rfl | rfl | rfl | rfl | rfl <;> exact IntWalk.i64_in _ (by decide)
def TabOk (t : Tab) : Prop := (0 ≤ t.N ∧ t.N ≤ 4) ∧ 0 ≤ t.B ∧ t.B ≤ qn t.N - 1
def tabB (t : Tab) (i : Nat) : Bool := decide (t.B / 2 ^ ((i : Nat) : Int).toNat % 2 = 1)
theorem andB {x : Int} (k : Nat) (h : 0 ≤ x ∧ x ≤ 65535) : bits .and .i64 (x / 2 ^ k) 1 = x / 2 ^ k % 2 := by
  have h1 : (0 : Int) ≤ x / 2 ^ k := Int.ediv_nonneg h.1 (Int.le_of_lt (Int.pow_pos (by decide)))
  have h2 : x / 2 ^ k ≤ x := Int.ediv_le_self _ h.1
  exact Bit.and_one _ h1 (by omega)
abbrev c0_o : Nat × Nat := (0, 0)
open Go.RowKit
set_option maxHeartbeats 4000000 in
set_option maxRecDepth 100000 in
theorem implTableOk_yes (t : Tab) (w : World) (ht : TabOk t) :
  Calls Try.prog 95 #[.agg #[.int .i64 t.N, .int .i64 t.B]] w (Ans w (.bool true)) := by
 obtain ⟨hn, hB0, hB1⟩ := ht
 have hp := pn_rng hn
 have hq := qn_rng hn
 refine calls_hc (N := 17) (args := [.agg #[.int .i64 t.N, .int .i64 t.B]]) Try.func95 rfl rfl ?_
 refine hc_less _ (sx 0 rfl (sub_nil _)) (.refl _) ?_
 refine hc_seq ?_
 refine hc_region ?_
 refine hl_box rfl rfl rfl (rq_box rfl rfl) ?_
 intro b1
 refine hl_v rfl rfl rfl (rv_ev rfl) ?_
 refine hl_less (sx 0 rfl (sx 1 rfl (sx 2 rfl (sub_nil _)))) (.refl _) ?_
 refine hl_nil ?_
 refine hq_then ?_
 refine hc_seq ?_
 refine hc_region ?_
 refine hl_v rfl rfl rfl (rv_field (k0 := 0) rfl (by kernel_rfl) rfl) ?_
 refine hl_v rfl rfl rfl (rv_load rfl (by kernel_rfl) rfl (box_cell 0 rfl rfl)) ?_
 refine hl_callV rfl rfl rfl (rq_call (by kernel_rfl) rfl (fun w hm => ret_ans (inr_yes (by omega) (by omega) w))) ?_
 refine hl_v rfl rfl rfl (rv_ev rfl) ?_
 refine hl_v rfl rfl rfl (rv_field (k0 := 1) rfl (by kernel_rfl) rfl) ?_
 refine hl_v rfl rfl rfl (rv_load rfl (by kernel_rfl) rfl (box_cell 0 rfl rfl)) ?_
 refine hl_v rfl rfl rfl (rv_field (k0 := 0) rfl (by kernel_rfl) rfl) ?_
 refine hl_v rfl rfl rfl (rv_load rfl (by kernel_rfl) rfl (box_cell 0 rfl rfl)) ?_
 refine hl_v rfl rfl rfl (rv_conv rfl Try.underlying3 Try.underlying98 rfl (IntWalk.u64_in _ (by omega))) ?_
 refine hl_v rfl rfl rfl (rv_shlG (k := .u64) (kk := .u64) (r := (pn t.N : Int)) rfl rfl rfl rfl (by omega) (wru hn)) ?_
 refine hl_v rfl rfl rfl (rv_shlG (k := .i64) (kk := .u64) (r := qn t.N) rfl rfl rfl rfl (by omega) (wr2 hn)) ?_
 refine hl_v rfl rfl rfl (rv_sub rfl rfl rfl (by constructor <;> omega)) ?_
 refine hl_callV rfl rfl rfl (rq_call (by kernel_rfl) rfl (fun w hm => ret_ans (inr_yes (by omega) (by omega) w))) ?_
 refine hl_v rfl rfl rfl (rv_ev rfl) ?_
 refine hl_v rfl rfl rfl (rv_ev rfl) ?_
 refine hl_less (sx 0 rfl (sx 1 rfl (sx 2 rfl (sub_nil _)))) (.refl _) ?_
 refine hl_nil ?_
 refine hq_then ?_
 refine hc_ret ?_
 exact hq_ans rfl rfl rfl
set_option maxHeartbeats 4000000 in
set_option maxRecDepth 100000 in
theorem implTableEval_ans (t : Tab) (i : Nat) (w : World) (ht : TabOk t) (hi : i < pn t.N) :
  Calls Try.prog 39 #[.agg #[.int .i64 t.N, .int .i64 t.B], .int .i64 (i : Int)] w (Ans w (.bool (tabB t i))) := by
 obtain ⟨hn, hB0, hB1⟩ := ht
 have hp := pn_rng hn
 have hq := qn_rng hn
 refine calls_hc (N := 25) (args := [.agg #[.int .i64 t.N, .int .i64 t.B], .int .i64 (i : Int)]) Try.func39 rfl rfl ?_
 refine hc_less _ (sx 0 rfl (sx 1 rfl (sub_nil _))) (.refl _) ?_
 refine hc_seq ?_
 refine hc_region ?_
 refine hl_box rfl rfl rfl (rq_box rfl rfl) ?_
 intro b1
 refine hl_v rfl rfl rfl (rv_ev rfl) ?_
 refine hl_less (sx 0 rfl (sx 1 rfl (sx 2 rfl (sx 4 rfl (sub_nil _))))) (.refl _) ?_
 refine hl_nil ?_
 refine hq_then ?_
 refine hc_seq ?_
 refine hc_region ?_
 refine hl_v rfl rfl rfl (rv_loadN (cs := [.int .i64 t.N, .int .i64 t.B]) rfl (by kernel_rfl) (by kernel_rfl) rfl rfl (box_part 0 rfl 0 rfl)) ?_
 refine hl_callV rfl rfl rfl (rq_call (by kernel_rfl) rfl (fun w hm => ret_ans (implTableOk_yes t w ⟨hn, hB0, hB1⟩))) ?_
 refine hl_v rfl rfl rfl (rv_ev rfl) ?_
 refine hl_v rfl rfl rfl (rv_ev rfl) ?_
 refine hl_v rfl rfl rfl (rv_field (k0 := 0) rfl (by kernel_rfl) rfl) ?_
 refine hl_v rfl rfl rfl (rv_load rfl (by kernel_rfl) rfl (box_cell 0 rfl rfl)) ?_
 refine hl_v rfl rfl rfl (rv_conv rfl Try.underlying3 Try.underlying98 rfl (IntWalk.u64_in _ (by omega))) ?_
 refine hl_v rfl rfl rfl (rv_shlG (k := .i64) (kk := .u64) (r := (pn t.N : Int)) rfl rfl rfl rfl (by omega) (wr1 hn)) ?_
 refine hl_v rfl rfl rfl (rv_sub rfl rfl rfl (by constructor <;> omega)) ?_
 refine hl_callV rfl rfl rfl (rq_call (by kernel_rfl) rfl (fun w hm => ret_ans (inr_yes (by omega) (by omega) w))) ?_
 refine hl_v rfl rfl rfl (rv_ev rfl) ?_
 refine hl_v rfl rfl rfl (rv_ev rfl) ?_
 refine hl_v rfl rfl rfl (rv_field (k0 := 1) rfl (by kernel_rfl) rfl) ?_
 refine hl_v rfl rfl rfl (rv_load rfl (by kernel_rfl) rfl (box_cell 0 rfl rfl)) ?_
 refine hl_v rfl rfl rfl (rv_ev rfl) ?_
 refine hl_v rfl rfl rfl (rv_conv rfl Try.underlying3 Try.underlying98 rfl (IntWalk.u64_in _ (by omega))) ?_
 refine hl_v rfl rfl rfl (rv_shr rfl rfl rfl (by omega)) ?_
 refine hl_v rfl rfl rfl (rv_bits rfl (by decide) rfl rfl (r := (t.B / 2 ^ ((i : Int) : Int).toNat) % 2) (andB _ (by omega))) ?_
 refine hl_eql rfl rfl rfl rfl rfl rfl (fun h2 => ?_) (fun h2 => ?_)
 ·
  refine hl_v rfl rfl rfl (rv_ev rfl) ?_
  refine hl_v rfl rfl rfl (rv_ev rfl) ?_
  refine hl_less (sx 0 rfl (sx 1 rfl (sx 2 rfl (sx 4 rfl (sub_nil _))))) (.refl _) ?_
  refine hl_nil ?_
  refine hq_then ?_
  refine hc_ret ?_
  exact hq_ans rfl rfl (congrArg _ (decide_eq_true (by assumption)).symm)
 ·
  refine hl_v rfl rfl rfl (rv_ev rfl) ?_
  refine hl_v rfl rfl rfl (rv_ev rfl) ?_
  refine hl_less (sx 0 rfl (sx 1 rfl (sx 2 rfl (sx 4 rfl (sub_nil _))))) (.refl _) ?_
  refine hl_nil ?_
  refine hq_then ?_
  refine hc_ret ?_
  exact hq_ans rfl rfl (congrArg _ (decide_eq_false (by assumption)).symm)
open Go.RowKit
open Go.RowKit
theorem pow_i {i : Nat} (h : i ≤ 16) : 1 ≤ (2 : Int) ^ i ∧ (2 : Int) ^ i ≤ 65536 := by
  have h1 : (2 : Nat) ^ i ≤ 2 ^ 16 := Nat.pow_le_pow_right (by decide) h
  have h2 : 1 ≤ (2 : Nat) ^ i := Nat.one_le_two_pow
  have h3 : ((2 ^ i : Nat) : Int) = (2 : Int) ^ i := by simp
  rw [← h3]; omega
theorem shl_i {b : Int} {i : Nat} (h : i ≤ 16) (hb : 0 ≤ b ∧ b ≤ 1) : IntKind.i64.wrap (b * 2 ^ ((i : Int)).toNat) = b * 2 ^ i := by
  have hp := pow_i h
  have hl : 0 ≤ b * 2 ^ i ∧ b * 2 ^ i ≤ 65536 := by
    rcases (show b = 0 ∨ b = 1 by omega) with e1 | e1 <;> rw [e1] <;> omega
  exact IntWalk.i64_in _ (by show _ ≤ b * 2 ^ i ∧ b * 2 ^ i ≤ _; omega)
/-- the complement of a literal -/
def xr (a : Int) : Int := if a % 2 = 0 then a + 1 else a - 1
theorem bit_xr (v : List Int) {a : Int} (h0 : 0 ≤ a) : bitL v (xr a) = 1 - bitL v a := by
  unfold bitL xr
  by_cases h : a % 2 = 0
  · rw [if_pos h, if_neg (by omega), if_pos h, show (a + 1) / 2 = a / 2 by omega]
  · rw [if_neg h, if_pos (by omega), if_neg h, show (a - 1) / 2 = a / 2 by omega]; omega
def withG (n : Nt) (gs : List An) : Nt := { n with gs := gs }
theorem vals_ext {n : Nt} {gs t : List An} (h : NtOk (withG n gs)) {st : List Int} (hs : st.length = n.ss.length) (inp : Int) : ∀ i, i < (n.fst + gs.length).toNat → (valsL (withG n (gs ++ t)) st inp).getD i 0 = (valsL (withG n gs) st inp).getD i 0 := fun i hi => by
  have hi0 : 0 ≤ n.ins := h.i0
  have hf : n.fst = 1 + n.ins + n.ss.length := rfl
  have e : valL (withG n (gs ++ t)) st inp gs.length = valsL (withG n gs) st inp := by
    show ((gs ++ t).take gs.length).foldl _ (leafL n st inp) = (gs.take gs.length).foldl _ (leafL n st inp)
    rw [List.take_left, List.take_length]
  have hl : (valL (withG n (gs ++ t)) st inp gs.length).length = 1 + n.ins.toNat + st.length + gs.length := val_len _ st inp _ (by show gs.length ≤ (gs ++ t).length; rw [List.length_append]; omega)
  have := val_pre (withG n (gs ++ t)) st inp (gs ++ t).length gs.length (by rw [List.length_append]; omega) (Nat.le_refl _) i (by omega)
  rw [e] at this; exact this
theorem bit_ext {n : Nt} {gs t : List An} (h : NtOk (withG n gs)) {st : List Int} (hs : st.length = n.ss.length) (inp : Int) {l : Int} (hl : LtOk l (n.fst + gs.length)) : bitL (valsL (withG n (gs ++ t)) st inp) l = bitL (valsL (withG n gs) st inp) l := by
  have hi0 : 0 ≤ n.ins := h.i0
  have hf : n.fst = 1 + n.ins + n.ss.length := rfl
  exact bit_pre (m := (n.fst + gs.length).toNat) (vals_ext h hs inp) hl.1 (by have := hl.2; omega)
/-- a literal added: the gates then, and what it computes of the values before -/
structure AddOk (n : Nt) (gs gs' : List An) (x : Int) (k : Nat) (f : (Int → Int) → Int) : Prop where
  ext : ∃ t, gs' = gs ++ t ∧ t.length ≤ k
  ok : NtOk (withG n gs')
  lit : LtOk x (n.fst + gs'.length)
  val : ∀ (st : List Int) (inp : Int), st.length = n.ss.length → bitL (valsL (withG n gs') st inp) x = f (bitL (valsL (withG n gs) st inp))
theorem AddOk.len {n : Nt} {gs gs' : List An} {x : Int} {k : Nat} {f : (Int → Int) → Int} (h : AddOk n gs gs' x k f) : gs.length ≤ gs'.length ∧ gs'.length ≤ gs.length + k := by
  obtain ⟨t, rfl, ht⟩ := h.ext; rw [List.length_append]; omega
theorem AddOk.keep {n : Nt} {gs gs' : List An} {x : Int} {k : Nat} {f : (Int → Int) → Int} (h : AddOk n gs gs' x k f) (h0 : NtOk (withG n gs)) {st : List Int} (hs : st.length = n.ss.length) (inp : Int) {l : Int} (hl : LtOk l (n.fst + gs.length)) : bitL (valsL (withG n gs') st inp) l = bitL (valsL (withG n gs) st inp) l := by
  obtain ⟨t, rfl, ht⟩ := h.ext; exact bit_ext h0 hs inp hl
theorem AddOk.lits {n : Nt} {gs gs' : List An} {x : Int} {k : Nat} {f : (Int → Int) → Int} (h : AddOk n gs gs' x k f) {l : Int} (hl : LtOk l (n.fst + gs.length)) : LtOk l (n.fst + gs'.length) := by
  have := h.len; exact ⟨hl.1, by have := hl.2; omega⟩
theorem bits01 {n : Nt} {gs : List An} (h : NtOk (withG n gs)) {st : List Int} (hs : st.length = n.ss.length) (inp : Int) {l : Int} (hl : LtOk l (n.fst + gs.length)) : bitL (valsL (withG n gs) st inp) l = 0 ∨ bitL (valsL (withG n gs) st inp) l = 1 := by
  have hi0 : 0 ≤ n.ins := h.i0
  have hf : n.fst = 1 + n.ins + n.ss.length := rfl
  have hlen : (valsL (withG n gs) st inp).length = 1 + n.ins.toNat + st.length + gs.length := val_len _ st inp _ (Nat.le_refl _)
  exact bit01 (v := valsL (withG n gs) st inp) (val01 h hs inp _ (Nat.le_refl _)) hl.1 (by have h9 := hl.2; rw [hlen]; omega)
abbrev fAnd (a b : Int) : (Int → Int) → Int := fun ev => ev a * ev b
theorem add_zero {n : Nt} {gs : List An} {a b : Int} (h : NtOk (withG n gs)) (ha : LtOk a (n.fst + gs.length)) (hb : LtOk b (n.fst + gs.length)) (hc : a = 0 ∨ b = 0 ∨ xr a = b) : AddOk n gs gs 0 1 (fAnd a b) := by
  have hi0 : 0 ≤ n.ins := h.i0
  have hf : n.fst = 1 + n.ins + n.ss.length := rfl
  have h0 : ∀ (st : List Int) (inp : Int), bitL (valsL (withG n gs) st inp) 0 = 0 := fun st inp => by unfold bitL; rw [if_pos (by decide)]; exact val0 (n := withG n gs) st inp
  refine ⟨⟨[], by simp, by simp⟩, h, ⟨by omega, by omega⟩, fun st inp hs => ?_⟩
  rw [h0]
  show 0 = _ * _
  rcases hc with rfl | rfl | rfl
  · rw [h0, Int.zero_mul]
  · rw [h0, Int.mul_zero]
  · rw [bit_xr _ ha.1]
    rcases bits01 h hs inp ha with e | e <;> rw [e] <;> decide
theorem AddOk.swap {n : Nt} {gs gs' : List An} {x a b : Int} {k : Nat} (h : AddOk n gs gs' x k (fAnd a b)) : AddOk n gs gs' x k (fAnd b a) := ⟨h.ext, h.ok, h.lit, fun st inp hs => by rw [h.val st inp hs]; exact Int.mul_comm _ _⟩
open Go.RowKit
theorem AddOk.like {n : Nt} {v : Value} {g0 g g2 : List An} {x : Int} {k : Nat} {f : (Int → Int) → Int} (h : AddOk { n with av := v, gs := g0 } g g2 x k f) : AddOk n g g2 x k f := ⟨h.ext, ⟨h.ok.i0, h.ok.i1, h.ok.s1, h.ok.a1, h.ok.o1, h.ok.sq, h.ok.xs, h.ok.an, h.ok.ou⟩, h.lit, h.val⟩
def Sq.val (s : Sq) : Int × Int × List Int := (s.kd, s.it, s.xs)
/-- a copy -/
structure Like (n n' : Nt) : Prop where
  ins : n'.ins = n.ins
  gs : n'.gs = n.gs
  os : n'.os = n.os
  ss : n'.ss.map Sq.val = n.ss.map Sq.val
theorem vals_len {ss ss' : List Sq} (h : ss'.map Sq.val = ss.map Sq.val) : ss'.length = ss.length := by simpa using congrArg List.length h
theorem vals_mem {ss ss' : List Sq} (h : ss'.map Sq.val = ss.map Sq.val) {s : Sq} (hs : s ∈ ss') : ∃ r ∈ ss, r.val = s.val := by
  have h1 : s.val ∈ ss.map Sq.val := h ▸ List.mem_map.2 ⟨s, hs, rfl⟩
  obtain ⟨r, hr, he⟩ := List.mem_map.1 h1
  exact ⟨r, hr, he⟩
theorem Like.fst {n n' : Nt} (h : Like n n') : n'.fst = n.fst := by show 1 + n'.ins + (n'.ss.length : Int) = 1 + n.ins + n.ss.length; rw [h.ins, vals_len h.ss]
theorem Like.cnt {n n' : Nt} (h : Like n n') : n'.cnt = n.cnt := by show n'.fst + (n'.gs.length : Int) = n.fst + n.gs.length; rw [h.fst, h.gs]
theorem Like.ok {n n' : Nt} (h : Like n n') (hn : NtOk n) : NtOk n' := by
  refine ⟨by rw [h.ins]; exact hn.i0, by rw [h.ins]; exact hn.i1, by rw [vals_len h.ss]; exact hn.s1, by rw [h.gs]; exact hn.a1, by rw [h.os]; exact hn.o1, fun s hs => ?_, fun s hs => ?_, by rw [h.gs, h.fst]; exact hn.an, by rw [h.os, h.cnt]; exact hn.ou⟩
  · obtain ⟨r, hr, he⟩ := vals_mem h.ss hs
    simp only [Sq.val, Prod.mk.injEq] at he
    have := hn.sq r hr
    exact ⟨by rw [← he.1, ← he.2.1, ← he.2.2]; exact this.kind⟩
  · obtain ⟨r, hr, he⟩ := vals_mem h.ss hs
    simp only [Sq.val, Prod.mk.injEq] at he
    rw [← he.2.2, h.cnt]; exact hn.xs r hr
/-- a net that has grown by at most k gates; f: what the literal x computes -/
structure Grow (n n' : Nt) (x : Int) (k : Nat) (f : (Int → Int) → Int) : Prop where
  ins : n'.ins = n.ins
  ss : n'.ss.map Sq.val = n.ss.map Sq.val
  ok : NtOk n'
  ext : ∃ t, n'.gs = n.gs ++ t ∧ t.length ≤ k
  lit : LtOk x n'.cnt
  val : ∀ (st : List Int) (inp : Int), st.length = n.ss.length → bitL (valsL n' st inp) x = f (bitL (valsL n st inp))
theorem Grow.len {n n' : Nt} {x : Int} {k : Nat} {f : (Int → Int) → Int} (h : Grow n n' x k f) : n.gs.length ≤ n'.gs.length ∧ n'.gs.length ≤ n.gs.length + k := by
  obtain ⟨t, h1, h2⟩ := h.ext; rw [h1, List.length_append]; omega
theorem Grow.fst {n n' : Nt} {x : Int} {k : Nat} {f : (Int → Int) → Int} (h : Grow n n' x k f) : n'.fst = n.fst := by show 1 + n'.ins + (n'.ss.length : Int) = 1 + n.ins + n.ss.length; rw [h.ins, vals_len h.ss]
theorem Grow.cnt {n n' : Nt} {x : Int} {k : Nat} {f : (Int → Int) → Int} (h : Grow n n' x k f) : n.cnt ≤ n'.cnt := by show n.fst + (n.gs.length : Int) ≤ n'.fst + n'.gs.length; have := h.len; rw [h.fst]; omega
theorem Grow.up {n n' : Nt} {x : Int} {k : Nat} {f : (Int → Int) → Int} (h : Grow n n' x k f) {l : Int} (hl : LtOk l n.cnt) : LtOk l n'.cnt := by have := h.cnt; exact ⟨hl.1, by have := hl.2; omega⟩
theorem Grow.pre {n n' : Nt} {x : Int} {k : Nat} {f : (Int → Int) → Int} (h : Grow n n' x k f) (hn : NtOk n) {st : List Int} (hs : st.length = n.ss.length) (inp : Int) : ∀ i, i < n.cnt.toNat → (valsL n' st inp).getD i 0 = (valsL n st inp).getD i 0 := fun i hi => by
  obtain ⟨t, h1, h2⟩ := h.ext
  have hn' : NtOk (withG n n.gs) := hn
  have e1 : valsL n' st inp = valsL (withG n (n.gs ++ t)) st inp := by rw [← h1]; unfold valsL valL leafL withG; rw [h.ins]
  rw [e1]
  exact vals_ext hn' hs inp i hi
theorem Grow.keep {n n' : Nt} {x : Int} {k : Nat} {f : (Int → Int) → Int} (h : Grow n n' x k f) (hn : NtOk n) {st : List Int} (hs : st.length = n.ss.length) (inp : Int) {l : Int} (hl : LtOk l n.cnt) : bitL (valsL n' st inp) l = bitL (valsL n st inp) l := by
  have hc : 0 ≤ n.cnt := by have := hn.i0; show 0 ≤ 1 + n.ins + (n.ss.length : Int) + n.gs.length; omega
  exact bit_pre (m := n.cnt.toNat) (h.pre hn hs inp) hl.1 (by have := hl.2; omega)
theorem box_lt {w0 : World} {l : List HP} {b : Nat} {cs : Array Value} {t : TypeId} (i : Nat) (h : l[i]? = some (boxE b cs t)) {w : World} (hm : Mem w0 l w) : b < w.heap.size := (hm.new _ (mem_at h) b rfl).2
/-- the bits of a table -/
def tbN (f : Nat → Bool) : Nat → Nat
  | 0 => 0
  | k + 1 => tbN f k + (if f k then 2 ^ k else 0)
theorem tbN_lt (f : Nat → Bool) : ∀ k, tbN f k < 2 ^ k
  | 0 => by simp [tbN]
  | k + 1 => by
    have := tbN_lt f k
    unfold tbN; rw [Nat.pow_succ]; split <;> omega
theorem tbN_at (f : Nat → Bool) : ∀ k i, i < k → tbN f k / 2 ^ i % 2 = if f i then 1 else 0
  | k + 1, i, h => by
    have hl := tbN_lt f k
    unfold tbN
    by_cases e : i = k
    · subst e
      cases f i
      · simp only [Bool.false_eq_true, if_false, Nat.add_zero]; rw [Nat.div_eq_of_lt hl]
      · simp only [if_true]
        rw [Nat.add_div_right _ (Nat.pow_pos (by decide)), Nat.div_eq_of_lt hl]
    · have hi : i < k := by omega
      have ih := tbN_at f k i hi
      cases f k
      · simp only [Bool.false_eq_true, if_false, Nat.add_zero]; exact ih
      · simp only [if_true]
        have e2 : 2 ^ k = 2 ^ i * (2 * 2 ^ (k - i - 1)) := by rw [← Nat.pow_succ', ← Nat.pow_add]; congr 1; omega
        rw [e2, Nat.add_mul_div_left _ _ (Nat.pow_pos (by decide)), Nat.add_mul_mod_self_left]; exact ih
theorem nat_bit_o (m i : Nat) : ((m : Nat) : Int) / 2 ^ i % 2 = ((m / 2 ^ i % 2 : Nat) : Int) := by simp
theorem or_high {a i : Nat} (h : a < 2 ^ i) (hi : i < 16) : bits .or .i64 (a : Int) ((2 : Int) ^ i) = ((a + 2 ^ i : Nat) : Int) := by
  have hp : 2 ^ i < 2 ^ 16 := Nat.pow_lt_pow_right (by decide) hi
  have e : (2 : Int) ^ i = ((2 ^ i : Nat) : Int) := by simp
  have h1 : (2 : Nat) ^ 16 = 65536 := by decide
  rw [e, Bit.or_nat _ _ (by omega) (by omega)]
  have := Bit.or_join a 1 i h
  rw [Nat.one_mul] at this
  rw [this]
theorem shl_1 {i : Nat} (h : i ≤ 16) : IntKind.i64.wrap (1 * 2 ^ ((i : Int)).toNat) = (2 : Int) ^ i := by
  have := shl_i (b := 1) h (by omega)
  rw [this, Int.one_mul]
theorem flat_take {α : Type} {f : α → List Value} {s : Nat} (hf : ∀ a, (f a).length = s) : ∀ (xs : List α) (k : Nat), (xs.flatMap f).take (k * s) = (xs.take k).flatMap f
  | [], k => by simp
  | x :: xs, 0 => by simp
  | x :: xs, k + 1 => by
    rw [List.flatMap_cons, List.take_succ_cons, List.flatMap_cons, List.take_append, hf x, Nat.succ_mul, Nat.add_sub_cancel, flat_take hf xs k, List.take_of_length_le (by rw [hf x]; omega)]
theorem flat_drop {α : Type} {f : α → List Value} {s : Nat} (hf : ∀ a, (f a).length = s) : ∀ (xs : List α) (k : Nat), (xs.flatMap f).drop (k * s) = (xs.drop k).flatMap f
  | [], k => by simp
  | x :: xs, 0 => by simp
  | x :: xs, k + 1 => by
    rw [List.flatMap_cons, List.drop_succ_cons, List.drop_append, hf x, Nat.succ_mul, Nat.add_sub_cancel, flat_drop hf xs k, List.drop_of_length_le (by rw [hf x]; omega), List.nil_append]
theorem rd_slHs {w0 : World} {l : List HP} {α : Type} {f : α → List Value} {s : Nat} (hf : ∀ a, (f a).length = s) {v : Value} {xs : List α} (h : Rd w0 l v s xs.length (xs.flatMap f)) {k : Nat} (hk : k ≤ xs.length) : Rd w0 l (slV v 0 k s) s (xs.take k).length ((xs.take k).flatMap f) := fun w hm => by
  have := rdW_sl (h w hm) (Nat.zero_le k) hk
  simp only [Nat.sub_zero, Nat.zero_mul, List.drop_zero] at this
  rw [flat_take hf] at this
  rw [List.length_take, Nat.min_eq_left hk]; exact this
theorem rd_slLs {w0 : World} {l : List HP} {α : Type} {f : α → List Value} {s : Nat} (hf : ∀ a, (f a).length = s) {v : Value} {xs : List α} (h : Rd w0 l v s xs.length (xs.flatMap f)) {k : Nat} (hk : k ≤ xs.length) : Rd w0 l (slV v k xs.length s) s (xs.drop k).length ((xs.drop k).flatMap f) := fun w hm => by
  have := rdW_sl (h w hm) hk (Nat.le_refl _)
  rw [flat_drop hf, List.take_of_length_le (by
    have h2 : ∀ (ys : List α), (ys.flatMap f).length = ys.length * s := fun ys => by induction ys with | nil => simp | cons y ys ih => rw [List.flatMap_cons, List.length_append, ih, hf, List.length_cons, Nat.succ_mul]; omega
    rw [h2, List.length_drop]; exact Nat.le_refl _)] at this
  rw [List.length_drop]; exact this
theorem rq_box1 {P : Program} {N : Nat} {w0 : World} {l : List HP} {env : List (Nat × Value)} {o : Oper} {t : TypeId} {x : Operand} {v : Value} (ho : o.op = .box t x) (hx : ev env x = some v) (h1 : v.oneCell' = true) : RunQ P N w0 l env o (IsBox #[v] t) := by
  have hcs : v.cells = #[v] := by cases v <;> first | rfl | (cases h1; done)
  rw [← hcs]; exact rq_box ho hx
theorem cellW {w0 w : World} {l : List HP} (hm : Mem w0 l w) (i : Nat) {b : Nat} {cs : Array Value} {t : TypeId} (h : l[i]? = some (boxE b cs t)) {o : Nat} {v : Value} (hc : cs[o]? = some v) : w.cell? ⟨b, o, none⟩ = some v := box_cell i h hc w hm
/-- a cube holds an index; a cover does -/
def cvr (d : Nat × Nat) (i : Nat) : Bool := i &&& d.1 == d.2
def covB (cs : List (Nat × Nat)) (i : Nat) : Bool := cs.any (fun d => cvr d i)
def CubsOk (n : Nat) (cs : List (Nat × Nat)) : Prop := ∀ d ∈ cs, d.1 < n ∧ d.2 < n ∧ d.2 &&& d.1 = d.2
/-- cubes from k on that no other one makes needless -/
def Priv (n k : Nat) (cs : List (Nat × Nat)) : Prop := ∀ q, k ≤ q → q < cs.length → ∃ i, i < n ∧ cvr (cs.getD q c0_o) i = true ∧ ∀ r, r < cs.length → r ≠ q → cvr (cs.getD r c0_o) i = false
structure MinOk (t : Tab) (k : Nat) (cs : List (Nat × Nat)) : Prop where
  ok : CubsOk (pn t.N) cs
  cov : ∀ i, i < pn t.N → covB cs i = tabB t i
  priv : Priv (pn t.N) k cs
theorem pigeon : ∀ (n m : Nat) (f : Nat → Nat), (∀ q, q < m → f q < n) → (∀ q r, q < m → r < m → f q = f r → q = r) → m ≤ n
  | 0, m, f, h, _ => by
    cases m with
    | zero => omega
    | succ m => have := h 0 (by omega); omega
  | n + 1, 0, f, _, _ => by omega
  | n + 1, m + 1, f, h, hi => by
    have := pigeon n m (fun q => if f q = n then f m else f q) (fun q hq => by
      show (if f q = n then f m else f q) < n
      have h1 := h q (by omega); have h2 := h m (by omega)
      split
      · rename_i e
        have : f m ≠ n := fun e2 => by have := hi q m (by omega) (by omega) (by omega); omega
        omega
      · omega) (fun q r hq hr he => by
      have he : (if f q = n then f m else f q) = (if f r = n then f m else f r) := he
      split at he <;> split at he
      · exact hi q r (by omega) (by omega) (by omega)
      · have := hi m r (by omega) (by omega) he; omega
      · have := hi q m (by omega) (by omega) he; omega
      · exact hi q r (by omega) (by omega) he)
    omega
theorem MinOk.len {t : Tab} {cs : List (Nat × Nat)} (hn : 0 ≤ t.N ∧ t.N ≤ 4) (h : MinOk t 0 cs) : cs.length ≤ 16 := by
  have hp := pn_rng hn
  have hx : ∀ q, ∃ i, q < cs.length → i < pn t.N ∧ cvr (cs.getD q c0_o) i = true ∧ ∀ r, r < cs.length → r ≠ q → cvr (cs.getD r c0_o) i = false := fun q => by
    by_cases hq : q < cs.length
    · obtain ⟨i, hi⟩ := h.priv q (by omega) hq
      exact ⟨i, fun _ => hi⟩
    · exact ⟨0, fun h => absurd h hq⟩
  have := pigeon (pn t.N) cs.length (fun q => Classical.choose (hx q)) (fun q hq => (Classical.choose_spec (hx q) hq).1) (fun q r hq hr he => by
    apply Classical.byContradiction
    intro hne
    have h1 := (Classical.choose_spec (hx q) hq).2.1
    have h2 := (Classical.choose_spec (hx r) hr).2.2 q hq hne
    have he : Classical.choose (hx q) = Classical.choose (hx r) := he
    rw [he] at h1
    rw [h1] at h2; cases h2)
  omega
theorem AddOk.zero {n : Nt} {g : List An} (h : NtOk (withG n g)) : AddOk n g g 0 0 (fun _ => 0) := by
  have hi0 : 0 ≤ n.ins := h.i0
  have hf : n.fst = 1 + n.ins + n.ss.length := rfl
  refine ⟨⟨[], by simp, by simp⟩, h, ⟨by omega, by omega⟩, fun st inp hs => ?_⟩
  unfold bitL; rw [if_pos (by decide)]; exact val0 (n := withG n g) st inp
theorem AddOk.one {n : Nt} {g : List An} (h : NtOk (withG n g)) : AddOk n g g 1 0 (fun _ => 1) := by
  have hi0 : 0 ≤ n.ins := h.i0
  have hf : n.fst = 1 + n.ins + n.ss.length := rfl
  refine ⟨⟨[], by simp, by simp⟩, h, ⟨by omega, by omega⟩, fun st inp hs => ?_⟩
  have h1 := bit_xr (valsL (withG n g) st inp) (a := 0) (Int.le_refl _)
  rw [show xr 0 = 1 by decide] at h1
  rw [h1, (AddOk.zero h).val st inp hs]; rfl
theorem AddOk.more {n : Nt} {g0 g1 g2 : List An} {s q : Int} {K k : Nat} {f f2 : (Int → Int) → Int} (h1 : AddOk n g0 g1 s K f) (h2 : AddOk n g1 g2 q k f2) : AddOk n g0 g2 s (K + k) f := by
  obtain ⟨t1, e1, l1⟩ := h1.ext
  obtain ⟨t2, e2, l2⟩ := h2.ext
  refine ⟨⟨t1 ++ t2, by rw [e2, e1, List.append_assoc], by rw [List.length_append]; omega⟩, h2.ok, h2.lits h1.lit, fun st inp hs => ?_⟩
  rw [h2.keep h1.ok hs inp h1.lit, h1.val st inp hs]
theorem AddOk.one' {n : Nt} {g0 g1 : List An} {s : Int} {K : Nat} {f : (Int → Int) → Int} (h : AddOk n g0 g1 s K f) : AddOk n g0 g1 1 K (fun _ => 1) := by
  have h1 := AddOk.one h.ok
  exact ⟨h.ext, h.ok, h1.lit, fun st inp hs => h1.val st inp hs⟩
/-- what a cube computes -/
def cb_o (d : Nat × Nat) (i : Nat) : Nat → Bool
  | 0 => true
  | k + 1 => cb_o d i k && (d.1 / 2 ^ k % 2 == 0 || d.2 / 2 ^ k % 2 == i / 2 ^ k % 2)
set_option maxHeartbeats 4000000 in
set_option maxRecDepth 100000 in
theorem tableOf_ret (n : Int) (F : FuncId) (fs : List Value) (fb : Nat → Bool) (w : World) (hn : 0 ≤ n ∧ n ≤ 4) (hgo : goesB Try.prog F = true) (hf : ∀ (i : Nat) (w1 : World), i < pn n → Below w.heap.size w w1 → Calls Try.prog F ([Value.int .i64 (i : Int)] ++ fs).toArray w1 (Ans w1 (.bool (fb i)))) :
  Calls Try.prog 139 #[.int .i64 n, .func (.func F) #[] fs.toArray] w (Ret w (fun u_ p_ => u_ = .agg #[.int .i64 n, .int .i64 (tbN fb (pn n) : Int)] ∧ p_ = [])) := by
 have hp := pn_rng hn
 refine calls_hc (N := 27) (args := [.int .i64 n, .func (.func F) #[] fs.toArray]) Try.func139 rfl rfl ?_
 refine hc_less _ (sx 0 rfl (sx 1 rfl (sub_nil _))) (.refl _) ?_
 refine hc_seq ?_
 refine hc_region ?_
 refine hl_box rfl rfl rfl (rq_alloc (z := .agg #[.int .i64 0, .int .i64 0]) rfl (by kernel_rfl)) ?_
 intro b1
 refine hl_less (sx 0 rfl (sx 1 rfl (sx 4 rfl (sub_nil _)))) (.refl _) ?_
 refine hl_nil ?_
 refine hq_then ?_
 refine hc_seq ?_
 refine hc_region ?_
 refine hl_v rfl rfl rfl (rv_ev rfl) ?_
 refine hl_v rfl rfl rfl (rv_build (cs := #[.int .i64 n, .int .i64 0]) rfl rfl (by kernel_rfl)) ?_
 refine hl_box rfl rfl rfl (rq_alloc (z := .agg #[.int .i64 0, .int .i64 0]) rfl (by kernel_rfl)) ?_
 intro b2
 refine hl_storeBoxN (i := 0) (off := 0) (us := [.int .i64 n, .int .i64 0])  (l' := [boxE b2 #[.int .i64 n, .int .i64 0] 55, boxE b1 #[.int .i64 0, .int .i64 0] 55]) rfl rfl rfl (by kernel_rfl) rfl rfl rfl (all_cons rfl (all_cons rfl all_nil)) rfl rfl rfl ?_
 refine hl_less (sx 0 rfl (sx 1 rfl (sx 4 rfl (sx 5 rfl (sub_nil _))))) (.refl _) ?_
 refine hl_nil ?_
 refine hq_then ?_
 refine hc_seq ?_
 refine hc_seq ?_
 refine hc_region ?_
 refine hl_v rfl rfl rfl (rv_ev rfl) ?_
 refine hl_less (sx 0 rfl (sx 1 rfl (sx 4 rfl (sx 5 rfl (sx 6 rfl (sub_nil _)))))) (.refl _) ?_
 refine hl_nil ?_
 refine hq_then ?_
 refine hc_block ?_
 refine hc_loop1 (α := Nat) (fun k => [boxE b2 #[.int .i64 n, .int .i64 (tbN fb k : Int)] 55, boxE b1 #[.int .i64 0, .int .i64 0] 55]) (fun k => [(0, .int .i64 n), (1, .func (.func F) #[] fs.toArray), (4, .pointer (some ⟨b1, 0, none⟩)), (5, .pointer (some ⟨b2, 0, none⟩)), (6, .int .i64 (k : Int))]) (fun k => k ≤ pn n) (fun k => pn n - k) 0 (Nat.zero_le _) (sx 0 rfl (sx 1 rfl (sx 4 rfl (sx 5 rfl (sx 6 rfl (sub_nil _)))))) ((.cons_cons _ (.cons_cons _ .slnil))) ?_
 intro k hi3
 have hk := hi3
 refine hc_seq ?_
 refine hc_seq ?_
 refine hc_region ?_
 refine hl_v rfl rfl rfl (rv_ev rfl) ?_
 refine hl_v rfl rfl rfl (rv_ev rfl) ?_
 refine hl_v rfl rfl rfl (rv_conv rfl Try.underlying3 Try.underlying98 rfl (IntWalk.u64_in _ (by omega))) ?_
 refine hl_v rfl rfl rfl (rv_shlG (k := .i64) (kk := .u64) (r := (pn n : Int)) rfl rfl rfl rfl (by omega) (wr1 hn)) ?_
 refine hl_lss rfl rfl rfl rfl rfl rfl (fun h4 => ?_) (fun h4 => ?_)
 ·
  refine hl_less (sx 0 rfl (sx 1 rfl (sx 4 rfl (sx 5 rfl (sx 6 rfl (sx 13 rfl (sub_nil _))))))) (.refl _) ?_
  refine hl_nil ?_
  refine hq_then ?_
  refine hc_true rfl ?_
  refine hc_skip ?_
  refine hq_then ?_
  refine hc_seq ?_
  refine hc_block ?_
  refine hc_seq ?_
  refine hc_region ?_
  refine hl_v rfl rfl rfl (rv_ev rfl) ?_
  refine hl_v rfl rfl rfl (rv_ev rfl) ?_
  refine hl_callV rfl rfl rfl (rq_callF hgo rfl rfl (fun w hm => ret_ans (hf k w (by omega) hm.bel))) ?_
  refine hl_bool (fun h5 => ?_) (fun h5 => ?_)
  ·
   refine hl_less (sx 0 rfl (sx 1 rfl (sx 4 rfl (sx 5 rfl (sx 6 rfl (sx 13 rfl (sx 18 rfl (sub_nil _)))))))) (.refl _) ?_
   refine hl_nil ?_
   refine hq_then ?_
   refine hc_true rfl ?_
   refine hc_region ?_
   refine hl_v rfl rfl rfl (rv_field (k0 := 1) rfl (by kernel_rfl) rfl) ?_
   refine hl_v rfl rfl rfl (rv_load rfl (by kernel_rfl) rfl (box_cell 0 rfl rfl)) ?_
   refine hl_v rfl rfl rfl (rv_ev rfl) ?_
   refine hl_v rfl rfl rfl (rv_conv rfl Try.underlying3 Try.underlying98 rfl (IntWalk.u64_in _ (by omega))) ?_
   refine hl_v rfl rfl rfl (rv_shlG (k := .i64) (kk := .u64) (r := (2 : Int) ^ k) rfl rfl rfl rfl (by omega) (shl_1 (by omega))) ?_
   refine hl_v rfl rfl rfl (rv_bits rfl (by decide) rfl rfl (r := ((tbN fb k + 2 ^ k : Nat) : Int)) (or_high (tbN_lt fb k) (by omega))) ?_
   refine hl_v rfl rfl rfl (rv_field (k0 := 1) rfl (by kernel_rfl) rfl) ?_
   refine hl_storeBox (i := 0) (l' := [boxE b2 #[.int .i64 n, .int .i64 ((tbN fb k + 2 ^ k : Nat) : Int)] 55, boxE b1 #[.int .i64 0, .int .i64 0] 55]) rfl rfl rfl (by kernel_rfl) rfl rfl rfl rfl rfl rfl ?_
   refine hl_less (sx 0 rfl (sx 1 rfl (sx 4 rfl (sx 5 rfl (sx 6 rfl (sx 13 rfl (sx 18 rfl (sub_nil _)))))))) (.refl _) ?_
   refine hl_nil ?_
   refine hq_block_normal ?_
   refine hq_then ?_
   refine hc_region ?_
   refine hl_v rfl rfl rfl (rv_ev rfl) ?_
   refine hl_v rfl rfl rfl (rv_add rfl rfl rfl (by constructor <;> omega)) ?_
   refine hl_v rfl rfl rfl (rv_ev rfl) ?_
   refine hl_less (sx 0 rfl (sx 1 rfl (sx 4 rfl (sx 5 rfl (sx 6 rfl (sx 13 rfl (sx 18 rfl (sub_nil _)))))))) (.refl _) ?_
   refine hl_nil ?_
   rw [show (((tbN fb k + 2 ^ k : Nat)) : Int) = (tbN fb (k + 1) : Int) by show _ = ((tbN fb k + (if fb k then 2 ^ k else 0) : Nat) : Int); rw [h5]; rfl]
   exact hq_round1 (k + 1) (by omega) (by omega) (sx 0 rfl (sx 1 rfl (sx 4 rfl (sx 5 rfl (sx 6 rfl (sub_nil _)))))) ((.cons_cons _ (.cons_cons _ .slnil)))
  ·
   refine hl_less (sx 0 rfl (sx 1 rfl (sx 4 rfl (sx 5 rfl (sx 6 rfl (sx 13 rfl (sx 18 rfl (sub_nil _)))))))) (.refl _) ?_
   refine hl_nil ?_
   refine hq_then ?_
   refine hc_false rfl ?_
   refine hc_skip ?_
   refine hq_block_normal ?_
   refine hq_then ?_
   refine hc_region ?_
   refine hl_v rfl rfl rfl (rv_ev rfl) ?_
   refine hl_v rfl rfl rfl (rv_add rfl rfl rfl (by constructor <;> omega)) ?_
   refine hl_v rfl rfl rfl (rv_ev rfl) ?_
   refine hl_less (sx 0 rfl (sx 1 rfl (sx 4 rfl (sx 5 rfl (sx 6 rfl (sx 13 rfl (sx 18 rfl (sub_nil _)))))))) (.refl _) ?_
   refine hl_nil ?_
   rw [show (tbN fb k : Int) = (tbN fb (k + 1) : Int) by show _ = ((tbN fb k + (if fb k then 2 ^ k else 0) : Nat) : Int); rw [h5]; rfl]
   exact hq_round1 (k + 1) (by omega) (by omega) (sx 0 rfl (sx 1 rfl (sx 4 rfl (sx 5 rfl (sx 6 rfl (sub_nil _)))))) ((.cons_cons _ (.cons_cons _ .slnil)))
 ·
  refine hl_less (sx 0 rfl (sx 1 rfl (sx 4 rfl (sx 5 rfl (sx 6 rfl (sx 13 rfl (sub_nil _))))))) (.refl _) ?_
  refine hl_nil ?_
  refine hq_then ?_
  refine hc_false rfl ?_
  refine hc_exit ?_
  refine hq_then_exit ?_
  refine hq_then_exit ?_
  refine hq_block_exit ?_
  refine hq_then ?_
  refine hc_seq ?_
  refine hc_region ?_
  refine hl_v rfl rfl rfl (rv_loadN (cs := [.int .i64 n, .int .i64 (tbN fb k : Int)]) rfl (by kernel_rfl) (by kernel_rfl) rfl rfl (box_part 0 rfl 0 rfl)) ?_
  refine hl_storeBoxN (i := 1) (off := 0) (us := [.int .i64 n, .int .i64 (tbN fb k : Int)])  (l' := [boxE b2 #[.int .i64 n, .int .i64 (tbN fb k : Int)] 55, boxE b1 #[.int .i64 n, .int .i64 (tbN fb k : Int)] 55]) rfl rfl rfl (by kernel_rfl) rfl rfl rfl (all_cons rfl (all_cons rfl all_nil)) rfl rfl rfl ?_
  refine hl_less (sx 0 rfl (sx 1 rfl (sx 4 rfl (sx 5 rfl (sx 6 rfl (sx 13 rfl (sub_nil _))))))) (.refl _) ?_
  refine hl_nil ?_
  refine hq_then ?_
  refine hc_ret ?_
  have hke : k = pn n := by omega
  exact hq_retM (rs := [.cell 4 55]) (vs := [.agg #[.int .i64 n, .int .i64 (tbN fb k : Int)]]) (post := []) rfl ⟨⟨b1, 0, [.int .i64 n, .int .i64 (tbN fb k : Int)], rfl, rfl, by kernel_rfl, by kernel_rfl, box_part 1 rfl 0 rfl⟩, trivial⟩ rfl ((.cons _ (.cons _ .slnil))) ⟨by rw [hke]; rfl, rfl⟩
open Go.RowKit
theorem cov_inv {n : Nt} {cut : List Int} {k : Int} (h : Cov n cut k) (h0 : k ≠ 0) (hb : hasB cut k = false) : n.fst ≤ k ∧ k < n.cnt ∧ Cov n cut (ndA n k / 2) ∧ Cov n cut (ndB n k / 2) := by
  cases h with
  | zero => exact absurd rfl h0
  | mem hm => rw [hasBC_mem.2 hm] at hb; cases hb
  | and h1 h2 ha hb => exact ⟨h1, h2, ha, hb⟩
theorem va_here {n : Nt} {cut : List Int} {x node : Int} {j : Nat} (hj : j < cut.length) (he : cut.getD j 0 = node) (hk : ∀ i, i < j → cut.getD i 0 ≠ node) (h0 : 0 ≤ x) (h1 : x ≤ 65535) : bits .and .i64 (x / 2 ^ ((j : Nat) : Int).toNat) 1 = va n cut x node := by
  rw [va_mem (show node ∈ cut by rw [← he]; exact getD_memX hj), cbit, idxOf_first hj he hk, Int.toNat_natCast]
  exact andB j ⟨h0, h1⟩
theorem va_andL {n : Nt} (hn : NtOk n) {cut : List Int} {x node : Int} (hno : ∀ i, i < cut.length → cut.getD i 0 ≠ node) (h0 : n.fst ≤ node) (h1 : node < n.cnt) : bits .and .i64 (bix (va n cut x (ndA n node / 2)) (ndA n node)) (bix (va n cut x (ndB n node / 2)) (ndB n node)) = va n cut x node :=
  (and01 (bix01 (va01 _ _ _ _) _) (bix01 (va01 _ _ _ _) _)).trans (va_and hn (not_mem_of hno) h0 h1).symm
set_option maxHeartbeats 4000000 in
set_option maxRecDepth 100000 in
theorem escapes_step (n : Nt) (node : Int) (cut : List Int) (bs : List Bl) (cv v : Value) (w0 : World) (l : List HP) (w : World) (hm0 : Mem w0 (rowE 4 1 v bs.length (bs.flatMap blC) :: l) w) (hr : RdsNt w0 n) (hn : NtOk n) (hcr : RdsW w0 cv 1 cut.length (cut.map (Value.int .i64))) (hcl : cut.length ≤ 4) (hnd : 0 ≤ node ∧ node < n.cnt) (hbl : (bs.length : Int) = n.cnt) (hcov : Cov n cut node) (IH : ∀ (m : Int) (bs2 : List Bl) (l2 : List HP) (w2 : World), 0 ≤ m → m < node → Cov n cut m → bs2.length = bs.length → Mem w0 (rowE 4 1 v (bs2).length ((bs2).flatMap blC) :: l2) w2 → Calls Try.prog 138 #[n.agg, .int .i64 m, cv, v] w2 (fun e_ w_ => ∃ v_ p_, e_ = .returned v_ ∧ (v_ = .bool false ∧ ∃ bs' : List Bl, p_ = rowE 4 1 v (bs').length ((bs').flatMap blC) ∧ bs'.length = bs.length) ∧ Mem w0 (p_ :: l2) w_)) :
  Calls Try.prog 138 #[.agg #[.int .i64 n.ins, n.sv, n.av, n.ov], .int .i64 node, cv, v] w (fun e_ w_ => ∃ v_ p_, e_ = .returned v_ ∧ (fun v_ p_ => v_ = .bool false ∧ ∃ bs' : List Bl, p_ = rowE 4 1 v (bs').length ((bs').flatMap blC) ∧ bs'.length = bs.length) v_ p_ ∧ Mem w0 (p_ :: l) w_) := by
 have hi0 := hn.i0
 have hi1 := hn.i1
 have hs1 := hn.s1
 have ha1 := hn.a1
 have ho1 := hn.o1
 have hcnt : n.cnt = 1 + n.ins + n.ss.length + n.gs.length := rfl
 have hfst : n.fst = 1 + n.ins + n.ss.length := rfl
 refine calls_hcM (N := 54) (args := [.agg #[.int .i64 n.ins, n.sv, n.av, n.ov], .int .i64 node, cv, v]) Try.func138 rfl rfl hm0 ?_
 refine hc_less _ (sx 0 rfl (sx 1 rfl (sx 2 rfl (sx 3 rfl (sub_nil _))))) (.refl _) ?_
 refine hc_seq ?_
 refine hc_region ?_
 refine hl_box rfl rfl rfl (rq_box rfl rfl) ?_
 intro b1
 refine hl_v rfl rfl rfl (rv_ev rfl) ?_
 refine hl_less (sx 0 rfl (sx 1 rfl (sx 2 rfl (sx 3 rfl (sx 4 rfl (sx 8 rfl (sub_nil _))))))) (.refl _) ?_
 refine hl_nil ?_
 refine hq_then ?_
 refine hc_seq ?_
 refine hc_seq ?_
 refine hc_region ?_
 refine hl_v rfl rfl rfl (rv_ev rfl) ?_
 refine hl_eql rfl rfl rfl rfl rfl rfl (fun h2 => ?_) (fun h2 => ?_)
 ·
  refine hl_v rfl rfl rfl (rv_ev rfl) ?_
  refine hl_skip rfl rfl rfl ?_
  refine hl_skip rfl rfl rfl ?_
  refine hl_skip rfl rfl rfl ?_
  refine hl_skip rfl rfl rfl ?_
  refine hl_v rfl rfl rfl (rv_ev rfl) ?_
  refine hl_v rfl rfl rfl (rv_ev rfl) ?_
  refine hl_skip rfl rfl rfl ?_
  refine hl_skip rfl rfl rfl ?_
  refine hl_skip rfl rfl rfl ?_
  refine hl_v rfl rfl rfl (rv_ev rfl) ?_
  refine hl_less (sx 0 rfl (sx 1 rfl (sx 2 rfl (sx 3 rfl (sx 4 rfl (sx 8 rfl (sx 22 rfl (sub_nil _)))))))) (.refl _) ?_
  refine hl_nil ?_
  refine hq_then ?_
  refine hc_true rfl ?_
  refine hc_seq ?_
  refine hc_region ?_
  refine hl_v rfl rfl rfl (rv_ev rfl) ?_
  refine hl_less (sx 0 rfl (sx 1 rfl (sx 2 rfl (sx 3 rfl (sx 4 rfl (sx 8 rfl (sx 22 rfl (sub_nil _)))))))) (.refl _) ?_
  refine hl_nil ?_
  refine hq_then ?_
  refine hc_ret ?_
  refine hq_then_ret ?_
  exact hq_ret (rs := [.tmp 8]) (vs := [.bool false]) rfl ⟨rfl, trivial⟩ rfl (fun w hm => ⟨_, rowE 4 1 v bs.length (bs.flatMap blC), rfl, ⟨rfl, _, rfl, rfl⟩, hm.sub ((.cons _ (.cons_cons _ (.refl _))))⟩)
 ·
  refine hl_v rfl rfl rfl (rv_ev rfl) ?_
  refine hl_v rfl rfl rfl (rv_ev rfl) ?_
  refine hl_v rfl rfl rfl (rv_ev rfl) ?_
  refine hl_v rfl rfl rfl (rv_index (s := 1) rfl Try.underlying45 (by kernel_rfl) rfl rfl (rd_row 1 rfl) (by omega) (by first | omega | (simp only [List.length_set]; omega))) ?_
  refine hl_v rfl rfl rfl (rv_loadEl (u := .bool ((bs.getD ((node).toNat) bl0).b)) rfl (by kernel_rfl) rfl (rd_row 1 rfl) (flat_one blC (fun r => .bool r.b) (fun _ => rfl) bs bl0 (show (node).toNat < _ by first | omega | (simp only [List.length_set]; omega)))) ?_
  refine hl_bool (fun h3 => ?_) (fun h3 => ?_)
  ·
   refine hl_v rfl rfl rfl (rv_ev rfl) ?_
   refine hl_v rfl rfl rfl (rv_ev rfl) ?_
   refine hl_skip rfl rfl rfl ?_
   refine hl_skip rfl rfl rfl ?_
   refine hl_skip rfl rfl rfl ?_
   refine hl_v rfl rfl rfl (rv_ev rfl) ?_
   refine hl_less (sx 0 rfl (sx 1 rfl (sx 2 rfl (sx 3 rfl (sx 4 rfl (sx 8 rfl (sx 22 rfl (sub_nil _)))))))) (.refl _) ?_
   refine hl_nil ?_
   refine hq_then ?_
   refine hc_true rfl ?_
   refine hc_seq ?_
   refine hc_region ?_
   refine hl_v rfl rfl rfl (rv_ev rfl) ?_
   refine hl_less (sx 0 rfl (sx 1 rfl (sx 2 rfl (sx 3 rfl (sx 4 rfl (sx 8 rfl (sx 22 rfl (sub_nil _)))))))) (.refl _) ?_
   refine hl_nil ?_
   refine hq_then ?_
   refine hc_ret ?_
   refine hq_then_ret ?_
   exact hq_ret (rs := [.tmp 8]) (vs := [.bool false]) rfl ⟨rfl, trivial⟩ rfl (fun w hm => ⟨_, rowE 4 1 v bs.length (bs.flatMap blC), rfl, ⟨rfl, _, rfl, rfl⟩, hm.sub ((.cons _ (.cons_cons _ (.refl _))))⟩)
  ·
   refine hl_v rfl rfl rfl (rv_ev rfl) ?_
   refine hl_v rfl rfl rfl (rv_ev rfl) ?_
   refine hl_v rfl rfl rfl (rv_ev rfl) ?_
   refine hl_v rfl rfl rfl (rv_ev rfl) ?_
   refine hl_callV rfl rfl rfl (rq_call (by kernel_rfl) rfl (fun w hm => ret_ans (hasIntC_ans cut node _ w ((rd_old hcr) w hm) (by omega)))) ?_
   refine hl_bool (fun h4 => ?_) (fun h4 => ?_)
   ·
    refine hl_v rfl rfl rfl (rv_ev rfl) ?_
    refine hl_less (sx 0 rfl (sx 1 rfl (sx 2 rfl (sx 3 rfl (sx 4 rfl (sx 8 rfl (sx 22 rfl (sub_nil _)))))))) (.refl _) ?_
    refine hl_nil ?_
    refine hq_then ?_
    refine hc_true rfl ?_
    refine hc_seq ?_
    refine hc_region ?_
    refine hl_v rfl rfl rfl (rv_ev rfl) ?_
    refine hl_less (sx 0 rfl (sx 1 rfl (sx 2 rfl (sx 3 rfl (sx 4 rfl (sx 8 rfl (sx 22 rfl (sub_nil _)))))))) (.refl _) ?_
    refine hl_nil ?_
    refine hq_then ?_
    refine hc_ret ?_
    refine hq_then_ret ?_
    exact hq_ret (rs := [.tmp 8]) (vs := [.bool false]) rfl ⟨rfl, trivial⟩ rfl (fun w hm => ⟨_, rowE 4 1 v bs.length (bs.flatMap blC), rfl, ⟨rfl, _, rfl, rfl⟩, hm.sub ((.cons _ (.cons_cons _ (.refl _))))⟩)
   ·
    refine hl_v rfl rfl rfl (rv_ev rfl) ?_
    refine hl_less (sx 0 rfl (sx 1 rfl (sx 2 rfl (sx 3 rfl (sx 4 rfl (sx 8 rfl (sx 22 rfl (sub_nil _)))))))) (.refl _) ?_
    refine hl_nil ?_
    refine hq_then ?_
    refine hc_false rfl ?_
    refine hc_skip ?_
    refine hq_then ?_
    refine hc_seq ?_
    refine hc_region ?_
    refine hl_v rfl rfl rfl (rv_ev rfl) ?_
    refine hl_v rfl rfl rfl (rv_ev rfl) ?_
    refine hl_v rfl rfl rfl (rv_index (s := 1) rfl Try.underlying45 (by kernel_rfl) rfl rfl (rd_row 1 rfl) (by omega) (by first | omega | (simp only [List.length_set]; omega))) ?_
    refine hl_storeEl (i := 1) (n' := (bs.set ((node).toNat) { bs.getD ((node).toNat) bl0 with b := true }).length) (xs' := ((bs.set ((node).toNat) { bs.getD ((node).toNat) bl0 with b := true }).flatMap blC)) (l' := (boxE b1 #[.int .i64 n.ins, n.sv, n.av, n.ov] 28 :: rowE 4 1 v ((bs.set ((node).toNat) { bs.getD ((node).toNat) bl0 with b := true }).length) ((bs.set ((node).toNat) { bs.getD ((node).toNat) bl0 with b := true }).flatMap blC) :: l)) rfl rfl rfl (by kernel_rfl) rfl rfl rfl rfl (by first | omega | (simp only [List.length_set]; omega)) List.length_set.symm (flat_set1 blC (fun r => .bool r.b) (fun _ => rfl) _ ({ bs.getD ((node).toNat) bl0 with b := true }) rfl) rfl ?_
    refine hl_less (sx 0 rfl (sx 1 rfl (sx 2 rfl (sx 3 rfl (sx 4 rfl (sx 8 rfl (sx 22 rfl (sub_nil _)))))))) (.refl _) ?_
    refine hl_nil ?_
    refine hq_then ?_
    refine hc_seq ?_
    refine hc_seq ?_
    refine hc_region ?_
    refine hl_v rfl rfl rfl (rv_loadN (cs := [.int .i64 n.ins, n.sv, n.av, n.ov]) rfl (by kernel_rfl) (by kernel_rfl) rfl rfl (box_part 0 rfl 0 rfl)) ?_
    refine hl_v rfl rfl rfl (rv_ev rfl) ?_
    obtain ⟨hc1, hc2, hcvA, hcvB⟩ := cov_inv hcov (by omega) (by assumption)
    obtain ⟨o1, o2, o3, o4, o5, o6⟩ := nd_ok hn hc1 hc2
    have ea : ndA n node = (n.gs.getD ((node - n.fst).toNat) an0).a := rfl
    have eb : ndB n node = (n.gs.getD ((node - n.fst).toNat) an0).b := rfl
    rw [ea] at o3 o4
    rw [eb] at o5 o6
    refine hl_callV rfl rfl rfl (rq_call (by kernel_rfl) rfl (fun w hm => ret_ans (isAnd_yes n node w (hr.below hm.bel) hn))) ?_
    refine hl_bool (fun h5 => ?_) (fun h5 => absurd (((isAnd_iff.2 ⟨by omega, by omega⟩)).symm.trans h5) (by decide))
    refine hl_v rfl rfl rfl (rv_ev rfl) ?_
    refine hl_less (sx 0 rfl (sx 1 rfl (sx 2 rfl (sx 3 rfl (sx 4 rfl (sx 8 rfl (sx 22 rfl (sx 29 rfl (sub_nil _))))))))) (.refl _) ?_
    refine hl_nil ?_
    refine hq_then ?_
    refine hc_false rfl ?_
    refine hc_skip ?_
    refine hq_then ?_
    refine hc_seq ?_
    refine hc_draw (by kernel_rfl) 9 [0, 1, 2, 3, 4, 5, 6, 7, 8] (List.take 9 _) (List.drop 9 _) [[], [0], [], [], [3], [2, 4], [1, 5], [6], []] [30, 31, 32, 33, 34, 35, 36, 37, 9] (fun i_ vs_ v_ p_ => match i_ with | 0 => v_ = .pointer (some ⟨b1, 0 + 2, none⟩) ∧ p_ = [] | 1 => v_ = n.av ∧ p_ = [] | 2 => v_ = .int .i64 node ∧ p_ = [] | 3 => v_ = .agg #[.int .i64 n.ins, n.sv, n.av, n.ov] ∧ p_ = [] | 4 => v_ = .int .i64 n.fst ∧ p_ = [] | 5 => v_ = .int .i64 (node - n.fst) ∧ p_ = [] | 6 => v_ = elP n.av ((node - n.fst).toNat * 2) ∧ p_ = [] | 7 => v_ = .agg #[.int .i64 ((n.gs.getD ((node - n.fst).toNat) an0).a), .int .i64 ((n.gs.getD ((node - n.fst).toNat) an0).b)] ∧ p_ = [] | 8 => IsBox #[.int .i64 0, .int .i64 0] 80 v_ p_ | _ => True) (List.take_append_drop 9 _).symm (by kernel_rfl) (by kernel_rfl) rfl rfl ?_ ?_
    ·
     refine ⟨?_, ?_, ?_, ?_, ?_, ?_, ?_, ?_, ?_, trivial⟩
     ·
      intro vf pf hR
      refine Or.inl ⟨rfl, ?_⟩
      refine rq_less (sx 4 rfl (sub_nil _)) (List.sublist_append_right _ _) ?_
      exact rq_v (rv_field (k0 := 2) rfl (by kernel_rfl) rfl)
     ·
      intro vf pf hR
      have e0 : (vf 0) = .pointer (some ⟨b1, 0 + 2, none⟩) ∧ (pf 0) = [] := hR 0 (by decide)
      refine Or.inl ⟨rfl, ?_⟩
      refine rq_less (sx 30 (congrArg some e0.1) (sub_nil _)) (List.sublist_append_right _ _) ?_
      exact rq_v (rv_load rfl (by kernel_rfl) rfl (box_cell 0 rfl rfl))
     ·
      intro vf pf hR
      refine Or.inl ⟨rfl, ?_⟩
      refine rq_less (sx 1 rfl (sub_nil _)) (List.sublist_append_right _ _) ?_
      exact rq_v (rv_ev rfl)
     ·
      intro vf pf hR
      refine Or.inl ⟨rfl, ?_⟩
      refine rq_less (sx 4 rfl (sub_nil _)) (List.sublist_append_right _ _) ?_
      exact rq_v (rv_loadN (cs := [.int .i64 n.ins, n.sv, n.av, n.ov]) rfl (by kernel_rfl) (by kernel_rfl) rfl rfl (box_part 0 rfl 0 rfl))
     ·
      intro vf pf hR
      have e3 : (vf 3) = .agg #[.int .i64 n.ins, n.sv, n.av, n.ov] ∧ (pf 3) = [] := hR 3 (by decide)
      refine Or.inl ⟨rfl, ?_⟩
      refine rq_less (sx 33 (congrArg some e3.1) (sub_nil _)) (List.sublist_append_right _ _) ?_
      exact (rq_call (by kernel_rfl) rfl (fun w hm => ret_ans (firstAnd_yes n w (hr.below hm.bel) hn)))
     ·
      intro vf pf hR
      have e2 : (vf 2) = .int .i64 node ∧ (pf 2) = [] := hR 2 (by decide)
      have e4 : (vf 4) = .int .i64 n.fst ∧ (pf 4) = [] := hR 4 (by decide)
      refine Or.inl ⟨rfl, ?_⟩
      refine rq_less (sx 32 (congrArg some e2.1) (sx 34 (congrArg some e4.1) (sub_nil _))) (List.sublist_append_right _ _) ?_
      exact rq_v (rv_sub rfl rfl rfl (by constructor <;> omega))
     ·
      intro vf pf hR
      have e1 : (vf 1) = n.av ∧ (pf 1) = [] := hR 1 (by decide)
      have e5 : (vf 5) = .int .i64 (node - n.fst) ∧ (pf 5) = [] := hR 5 (by decide)
      refine Or.inl ⟨rfl, ?_⟩
      refine rq_less (sx 31 (congrArg some e1.1) (sx 35 (congrArg some e5.1) (sub_nil _))) (List.sublist_append_right _ _) ?_
      exact rq_v (rv_index (s := 2) rfl Try.underlying25 (by kernel_rfl) rfl rfl (rd_old hr.an) (by omega) (by first | omega | (simp only [List.length_set]; omega)))
     ·
      intro vf pf hR
      have e6 : (vf 6) = elP n.av ((node - n.fst).toNat * 2) ∧ (pf 6) = [] := hR 6 (by decide)
      refine Or.inl ⟨rfl, ?_⟩
      refine rq_less (sx 36 (congrArg some e6.1) (sub_nil _)) (List.sublist_append_right _ _) ?_
      exact rq_v (rv_loadElN (us := [.int .i64 ((n.gs.getD ((node - n.fst).toNat) an0).a), .int .i64 ((n.gs.getD ((node - n.fst).toNat) an0).b)]) rfl (by kernel_rfl) (by kernel_rfl) rfl (rd_old hr.an) (by omega) rfl (flat_atN anC 2 (fun _ => rfl) n.gs an0 (show (node - n.fst).toNat < _ by first | omega | (simp only [List.length_set]; omega)) rfl))
     ·
      intro vf pf hR
      refine Or.inl ⟨rfl, ?_⟩
      refine rq_less (sub_nil _) (List.sublist_append_right _ _) ?_
      exact rq_alloc (z := .agg #[.int .i64 0, .int .i64 0]) rfl (by kernel_rfl)
    ·
     intro vf pf hR
     have e7 : (vf 7) = .agg #[.int .i64 ((n.gs.getD ((node - n.fst).toNat) an0).a), .int .i64 ((n.gs.getD ((node - n.fst).toNat) an0).b)] ∧ (pf 7) = [] := hR 7 (by decide)
     have e8 : IsBox #[.int .i64 0, .int .i64 0] 80 (vf 8) (pf 8) := hR 8 (by decide)
     obtain ⟨b6, v8, p8⟩ := e8
     have q0 : (vf 0) = .pointer (some ⟨b1, 0 + 2, none⟩) ∧ (pf 0) = [] := hR 0 (by decide)
     have q1 : (vf 1) = n.av ∧ (pf 1) = [] := hR 1 (by decide)
     have q2 : (vf 2) = .int .i64 node ∧ (pf 2) = [] := hR 2 (by decide)
     have q3 : (vf 3) = .agg #[.int .i64 n.ins, n.sv, n.av, n.ov] ∧ (pf 3) = [] := hR 3 (by decide)
     have q4 : (vf 4) = .int .i64 n.fst ∧ (pf 4) = [] := hR 4 (by decide)
     have q5 : (vf 5) = .int .i64 (node - n.fst) ∧ (pf 5) = [] := hR 5 (by decide)
     have q6 : (vf 6) = elP n.av ((node - n.fst).toNat * 2) ∧ (pf 6) = [] := hR 6 (by decide)
     have q7 : (vf 7) = .agg #[.int .i64 ((n.gs.getD ((node - n.fst).toNat) an0).a), .int .i64 ((n.gs.getD ((node - n.fst).toNat) an0).b)] ∧ (pf 7) = [] := hR 7 (by decide)
     refine hl_less (l' := (boxE b6 #[.int .i64 0, .int .i64 0] 80 :: boxE b1 #[.int .i64 n.ins, n.sv, n.av, n.ov] 28 :: rowE 4 1 v ((bs.set ((node).toNat) { bs.getD ((node).toNat) bl0 with b := true }).length) ((bs.set ((node).toNat) { bs.getD ((node).toNat) bl0 with b := true }).flatMap blC) :: l)) (sx 0 rfl (sx 1 rfl (sx 2 rfl (sx 3 rfl (sx 4 rfl (sx 8 rfl (sx 9 (congrArg some v8) (sx 22 rfl (sx 29 rfl (sx 37 (congrArg some e7.1) (sub_nil _))))))))))) (by first | (simp only [p8, v8, q0.2, q1.2, q2.2, q3.2, q4.2, q5.2, q6.2, q7.2, List.flatMap_cons, List.flatMap_nil, List.append_nil, List.nil_append, List.cons_append]; exact List.Sublist.refl _) | simp [p8, v8, q0.2, q1.2, q2.2, q3.2, q4.2, q5.2, q6.2, q7.2]) ?_
     simp only [List.drop_succ_cons, List.drop_zero]
     refine hl_storeBoxN (i := 0) (off := 0) (us := [.int .i64 ((n.gs.getD ((node - n.fst).toNat) an0).a), .int .i64 ((n.gs.getD ((node - n.fst).toNat) an0).b)])  (l' := (boxE b6 #[.int .i64 ((n.gs.getD ((node - n.fst).toNat) an0).a), .int .i64 ((n.gs.getD ((node - n.fst).toNat) an0).b)] 80 :: boxE b1 #[.int .i64 n.ins, n.sv, n.av, n.ov] 28 :: rowE 4 1 v ((bs.set ((node).toNat) { bs.getD ((node).toNat) bl0 with b := true }).length) ((bs.set ((node).toNat) { bs.getD ((node).toNat) bl0 with b := true }).flatMap blC) :: l)) rfl rfl rfl (by kernel_rfl) rfl rfl rfl (all_cons rfl (all_cons rfl all_nil)) rfl rfl rfl ?_
     refine hl_less (sx 0 rfl (sx 1 rfl (sx 2 rfl (sx 3 rfl (sx 4 rfl (sx 8 rfl (sx 9 rfl (sx 22 rfl (sx 29 rfl (sub_nil _)))))))))) (.refl _) ?_
     refine hl_nil ?_
     refine hq_then ?_
     refine hc_seq ?_
     refine hc_region ?_
     refine hl_v rfl rfl rfl (rv_loadN (cs := [.int .i64 n.ins, n.sv, n.av, n.ov]) rfl (by kernel_rfl) (by kernel_rfl) rfl rfl (box_part 1 rfl 0 rfl)) ?_
     refine hl_v rfl rfl rfl (rv_field (k0 := 0) rfl (by kernel_rfl) rfl) ?_
     refine hl_v rfl rfl rfl (rv_load rfl (by kernel_rfl) rfl (box_cell 0 rfl rfl)) ?_
     refine hl_v rfl rfl rfl (rv_quo rfl rfl rfl (by refine ⟨?_, ?_, ?_⟩ <;> omega)) ?_
     refine hl_v rfl rfl rfl (rv_ev rfl) ?_
     refine hl_v rfl rfl rfl (rv_ev rfl) ?_
     refine hl_callM (R := (fun v_ p_ => v_ = .bool false ∧ ∃ bs' : List Bl, p_ = rowE 4 1 v (bs').length ((bs').flatMap blC) ∧ bs'.length = bs.length)) 2 rfl rfl (by kernel_rfl) rfl rfl (fun l' w hm => IH (((n.gs.getD ((node - n.fst).toNat) an0).a) / 2) (bs.set ((node).toNat) { bs.getD ((node).toNat) bl0 with b := true }) _ _ (by omega) (by omega) hcvA (by first | (rw [List.length_set]; done) | omega) hm) ?_
     intro v7 p8 hR9
     obtain ⟨rfl, b2, rfl, hb2⟩ := hR9
     refine hl_eqL (l' := (boxE b6 #[.int .i64 ((n.gs.getD ((node - n.fst).toNat) an0).a), .int .i64 ((n.gs.getD ((node - n.fst).toNat) an0).b)] 80 :: boxE b1 #[.int .i64 n.ins, n.sv, n.av, n.ov] 28 :: rowE 4 1 v b2.length (b2.flatMap blC) :: l)) rfl ?_
     refine hl_v rfl rfl rfl (rv_ev rfl) ?_
     refine hl_v rfl rfl rfl (rv_loadN (cs := [.int .i64 n.ins, n.sv, n.av, n.ov]) rfl (by kernel_rfl) (by kernel_rfl) rfl rfl (box_part 1 rfl 0 rfl)) ?_
     refine hl_v rfl rfl rfl (rv_field (k0 := 1) rfl (by kernel_rfl) rfl) ?_
     refine hl_v rfl rfl rfl (rv_load rfl (by kernel_rfl) rfl (box_cell 0 rfl rfl)) ?_
     refine hl_v rfl rfl rfl (rv_quo rfl rfl rfl (by refine ⟨?_, ?_, ?_⟩ <;> omega)) ?_
     refine hl_v rfl rfl rfl (rv_ev rfl) ?_
     refine hl_v rfl rfl rfl (rv_ev rfl) ?_
     refine hl_callM (R := (fun v_ p_ => v_ = .bool false ∧ ∃ bs' : List Bl, p_ = rowE 4 1 v (bs').length ((bs').flatMap blC) ∧ bs'.length = bs.length)) 2 rfl rfl (by kernel_rfl) rfl rfl (fun l' w hm => IH (((n.gs.getD ((node - n.fst).toNat) an0).b) / 2) b2 _ _ (by omega) (by omega) hcvB (by first | (rw [List.length_set]; done) | omega) hm) ?_
     intro v10 p11 hR12
     obtain ⟨rfl, b3, rfl, hb3⟩ := hR12
     refine hl_eqL (l' := (boxE b6 #[.int .i64 ((n.gs.getD ((node - n.fst).toNat) an0).a), .int .i64 ((n.gs.getD ((node - n.fst).toNat) an0).b)] 80 :: boxE b1 #[.int .i64 n.ins, n.sv, n.av, n.ov] 28 :: rowE 4 1 v b3.length (b3.flatMap blC) :: l)) rfl ?_
     refine hl_v rfl rfl rfl (rv_ev rfl) ?_
     refine hl_v rfl rfl rfl (rv_ev rfl) ?_
     refine hl_less (sx 0 rfl (sx 1 rfl (sx 2 rfl (sx 3 rfl (sx 4 rfl (sx 8 rfl (sx 9 rfl (sx 22 rfl (sx 29 rfl (sub_nil _)))))))))) (.refl _) ?_
     refine hl_nil ?_
     refine hq_then ?_
     refine hc_ret ?_
     exact hq_ret (rs := [.tmp 8]) (vs := [.bool false]) rfl ⟨rfl, trivial⟩ rfl (fun w hm => ⟨_, rowE 4 1 v b3.length (b3.flatMap blC), rfl, ⟨rfl, _, rfl, by rw [hb3]⟩, hm.sub ((.cons _ (.cons _ (.cons_cons _ (.refl _)))))⟩)
theorem escapes_mut (n : Nt) (cut : List Int) (cv v : Value) (w0 : World) (hr : RdsNt w0 n) (hn : NtOk n) (hcr : RdsW w0 cv 1 cut.length (cut.map (Value.int .i64))) (hcl : cut.length ≤ 4) : ∀ (k : Nat) (node : Int) (bs : List Bl) (l : List HP) (w : World), node.toNat < k → 0 ≤ node → node < n.cnt → (bs.length : Int) = n.cnt → Cov n cut node → Mem w0 (rowE 4 1 v (bs).length ((bs).flatMap blC) :: l) w →
    Calls Try.prog 138 #[n.agg, .int .i64 node, cv, v] w (fun e_ w_ => ∃ v_ p_, e_ = .returned v_ ∧ (v_ = .bool false ∧ ∃ bs' : List Bl, p_ = rowE 4 1 v (bs').length ((bs').flatMap blC) ∧ bs'.length = bs.length) ∧ Mem w0 (p_ :: l) w_)
  | 0, node, bs, l, w, hk, h0, h1, hl, hc, hm => absurd hk (by omega)
  | k + 1, node, bs, l, w, hk, h0, h1, hl, hc, hm => escapes_step n node cut bs cv v w0 l w hm hr hn hcr hcl ⟨h0, h1⟩ hl hc (fun m bs2 l2 w2 m0 m1 hc2 hb hm2 => by have := escapes_mut n cut cv v w0 hr hn hcr hcl k m bs2 l2 w2 (by omega) m0 (by omega) (by omega) hc2 hm2; rwa [hb] at this)
end Go.Proofs.Ytakbbebpimlnpaa
