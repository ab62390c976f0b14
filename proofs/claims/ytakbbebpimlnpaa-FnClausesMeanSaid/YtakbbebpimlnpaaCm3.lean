/- Texts of the law FnClausesMean, part 3: what it uses. -/
import Derived.Test.YtakbbebpimlnpaaCm2
set_option linter.unusedVariables false
set_option linter.unusedSimpArgs false
namespace Go.Proofs.Ytakbbebpimlnpaa
open Go.RowKit Go.ChangeShapes
open Go.RowKit
set_option maxHeartbeats 4000000 in
set_option maxRecDepth 100000 in
theorem implNetOk_yes (n : Nt) (w : World) (hr : RdsNt w n) (hn : NtOk n) :
  Calls Try.prog 67 #[.agg #[.int .i64 n.ins, n.sv, n.av, n.ov]] w (Ans w (.bool true)) := by
 have hi0 := hn.i0
 have hi1 := hn.i1
 have hs1 := hn.s1
 have ha1 := hn.a1
 have ho1 := hn.o1
 have hcnt : n.cnt = 1 + n.ins + n.ss.length + n.gs.length := rfl
 have hfst : n.fst = 1 + n.ins + n.ss.length := rfl
 refine calls_hc (N := 67) (args := [.agg #[.int .i64 n.ins, n.sv, n.av, n.ov]]) Try.func67 rfl rfl ?_
 refine hc_less _ (sx 0 rfl (sub_nil _)) (.refl _) ?_
 refine hc_seq ?_
 refine hc_region ?_
 refine hl_box rfl rfl rfl (rq_box rfl rfl) ?_
 intro b1
 refine hl_v rfl rfl rfl (rv_ev rfl) ?_
 refine hl_less (sx 0 rfl (sx 1 rfl (sx 2 rfl (sub_nil _)))) (.refl _) ?_
 refine hl_nil ?_
 refine hq_then ?_
 refine hc_seq ?_
 refine hc_region ?_
 refine hl_v rfl rfl rfl (rv_loadN (cs := [.int .i64 n.ins, n.sv, n.av, n.ov]) rfl (by kernel_rfl) (by kernel_rfl) rfl rfl (box_part 0 rfl 0 rfl)) ?_
 refine hl_callV rfl rfl rfl (rq_call (by kernel_rfl) rfl (fun w hm => ret_ans (implNodeCount_yes n w (hr.below hm.bel) hn))) ?_
 refine hl_v rfl rfl rfl (rv_ev rfl) ?_
 refine hl_less (sx 0 rfl (sx 1 rfl (sx 2 rfl (sx 3 rfl (sub_nil _))))) (.refl _) ?_
 refine hl_nil ?_
 refine hq_then ?_
 refine hc_seq ?_
 refine hc_seq ?_
 refine hc_region ?_
 refine hl_v rfl rfl rfl (rv_ev rfl) ?_
 refine hl_eql rfl rfl rfl rfl rfl rfl (fun h2 => absurd h2 (by omega)) (fun h2 => ?_)
 refine hl_less (sx 0 rfl (sx 1 rfl (sx 2 rfl (sx 3 rfl (sx 14 rfl (sub_nil _)))))) (.refl _) ?_
 refine hl_nil ?_
 refine hq_then ?_
 refine hc_false rfl ?_
 refine hc_skip ?_
 refine hq_then ?_
 refine hc_seq ?_
 refine hc_seq ?_
 refine hc_region ?_
 refine hl_v rfl rfl rfl (rv_field (k0 := 1) rfl (by kernel_rfl) rfl) ?_
 refine hl_v rfl rfl rfl (rv_load rfl (by kernel_rfl) rfl (box_cell 0 rfl rfl)) ?_
 refine hl_v rfl rfl rfl (rv_len rfl Try.underlying24 rfl (rd_old hr.sq)) ?_
 refine hl_v rfl rfl rfl (rv_ev rfl) ?_
 refine hl_less (sx 0 rfl (sx 1 rfl (sx 2 rfl (sx 3 rfl (sx 14 rfl (sx 16 rfl (sx 17 rfl (sx 18 rfl (sub_nil _))))))))) (.refl _) ?_
 refine hl_nil ?_
 refine hq_then ?_
 refine hc_block ?_
 refine hc_loop1 (α := Nat) (fun k => [boxE b1 #[.int .i64 n.ins, n.sv, n.av, n.ov] 28]) (fun k => [(0, .agg #[.int .i64 n.ins, n.sv, n.av, n.ov]), (1, .pointer (some ⟨b1, 0, none⟩)), (2, .bool false), (3, .int .i64 n.cnt), (14, .bool false), (16, n.sv), (17, .int .i64 (n.ss.length : Int)), (18, .int .i64 (k : Int))]) (fun k => k ≤ n.ss.length) (fun k => n.ss.length - k) 0 (Nat.zero_le _) (sx 0 rfl (sx 1 rfl (sx 2 rfl (sx 3 rfl (sx 14 rfl (sx 16 rfl (sx 17 rfl (sx 18 rfl (sub_nil _))))))))) ((.cons_cons _ .slnil)) ?_
 intro k hi3
 have hk := hi3
 refine hc_seq ?_
 refine hc_region ?_
 refine hl_lss rfl rfl rfl rfl rfl rfl (fun h4 => ?_) (fun h4 => ?_)
 ·
  refine hl_less (sx 0 rfl (sx 1 rfl (sx 2 rfl (sx 3 rfl (sx 14 rfl (sx 16 rfl (sx 17 rfl (sx 18 rfl (sx 19 rfl (sub_nil _)))))))))) (.refl _) ?_
  refine hl_nil ?_
  refine hq_then ?_
  refine hc_seq ?_
  refine hc_true rfl ?_
  refine hc_skip ?_
  refine hq_then ?_
  refine hc_seq ?_
  refine hc_block ?_
  refine hc_seq ?_
  refine hc_region ?_
  refine hl_v rfl rfl rfl (rv_index (s := 3) rfl Try.underlying24 (by kernel_rfl) rfl rfl (rd_old hr.sq) (by omega) (by first | omega | (simp only [List.length_set]; omega))) ?_
  refine hl_v rfl rfl rfl (rv_loadElN (us := [.int .i64 ((n.ss.getD k sq0).kd), .int .i64 ((n.ss.getD k sq0).it), (n.ss.getD k sq0).iv]) rfl (by kernel_rfl) (by kernel_rfl) rfl (rd_old hr.sq) (by omega) rfl (flat_atN sqC 3 (fun _ => rfl) n.ss sq0 (show k < _ by first | omega | (simp only [List.length_set]; omega)) rfl)) ?_
  refine hl_box rfl rfl rfl (rq_alloc (z := .agg #[.int .i64 0, .int .i64 0, .slice none 0 0]) rfl (by kernel_rfl)) ?_
  intro b5
  refine hl_storeBoxN (i := 0) (off := 0) (us := [.int .i64 ((n.ss.getD k sq0).kd), .int .i64 ((n.ss.getD k sq0).it), (n.ss.getD k sq0).iv]) (l' := [boxE b5 #[.int .i64 ((n.ss.getD k sq0).kd), .int .i64 ((n.ss.getD k sq0).it), (n.ss.getD k sq0).iv] 83, boxE b1 #[.int .i64 n.ins, n.sv, n.av, n.ov] 28]) rfl rfl rfl (by kernel_rfl) rfl rfl rfl (all_cons rfl (all_cons rfl (all_cons (hr.at (k := k) (by omega)).one all_nil))) rfl rfl rfl ?_
  refine hl_less (sx 0 rfl (sx 1 rfl (sx 2 rfl (sx 3 rfl (sx 5 rfl (sx 14 rfl (sx 16 rfl (sx 17 rfl (sx 18 rfl (sx 19 rfl (sub_nil _))))))))))) (.refl _) ?_
  refine hl_nil ?_
  refine hq_then ?_
  refine hc_seq ?_
  refine hc_region ?_
  refine hl_v rfl rfl rfl (rv_loadN (cs := [.int .i64 ((n.ss.getD k sq0).kd), .int .i64 ((n.ss.getD k sq0).it), (n.ss.getD k sq0).iv]) rfl (by kernel_rfl) (by kernel_rfl) rfl rfl (box_part 0 rfl 0 rfl)) ?_
  refine hl_callV rfl rfl rfl (rq_call (by kernel_rfl) rfl (fun w hm => ret_ans (seqOk_yes (n.ss.getD k sq0) w (hn.sq _ (getD_memX (d := sq0) (by omega))) ((hr.at (k := k) (by omega)).below hm.bel)))) ?_
  refine hl_v rfl rfl rfl (rv_ev rfl) ?_
  refine hl_less (sx 0 rfl (sx 1 rfl (sx 2 rfl (sx 3 rfl (sx 5 rfl (sx 14 rfl (sx 16 rfl (sx 17 rfl (sx 18 rfl (sx 19 rfl (sx 24 rfl (sub_nil _)))))))))))) (.refl _) ?_
  refine hl_nil ?_
  refine hq_then ?_
  refine hc_false rfl ?_
  refine hc_skip ?_
  refine hq_block_normal ?_
  refine hq_then ?_
  refine hc_region ?_
  refine hl_v rfl rfl rfl (rv_add rfl rfl rfl (by constructor <;> omega)) ?_
  refine hl_v rfl rfl rfl (rv_ev rfl) ?_
  refine hl_less (sx 0 rfl (sx 1 rfl (sx 2 rfl (sx 3 rfl (sx 5 rfl (sx 14 rfl (sx 16 rfl (sx 17 rfl (sx 18 rfl (sx 19 rfl (sx 24 rfl (sub_nil _)))))))))))) (.refl _) ?_
  refine hl_nil ?_
  exact hq_round1 (k + 1) (by omega) (by omega) (sx 0 rfl (sx 1 rfl (sx 2 rfl (sx 3 rfl (sx 14 rfl (sx 16 rfl (sx 17 rfl (sx 18 rfl (sub_nil _))))))))) ((.cons _ (.cons_cons _ .slnil)))
 ·
  refine hl_less (sx 0 rfl (sx 1 rfl (sx 2 rfl (sx 3 rfl (sx 14 rfl (sx 16 rfl (sx 17 rfl (sx 18 rfl (sx 19 rfl (sub_nil _)))))))))) (.refl _) ?_
  refine hl_nil ?_
  refine hq_then ?_
  refine hc_seq ?_
  refine hc_false rfl ?_
  refine hc_exit ?_
  refine hq_then_exit ?_
  refine hq_then_exit ?_
  refine hq_block_exit ?_
  refine hq_then ?_
  refine hc_seq ?_
  refine hc_seq ?_
  refine hc_region ?_
  refine hl_v rfl rfl rfl (rv_loadN (cs := [.int .i64 n.ins, n.sv, n.av, n.ov]) rfl (by kernel_rfl) (by kernel_rfl) rfl rfl (box_part 0 rfl 0 rfl)) ?_
  refine hl_q rfl rfl rfl (rq_call (by kernel_rfl) rfl (fun w hm => roots_ret n w (hr.below hm.bel) hn)) ?_
  intro v6 p7 hR8
  subst hR8
  refine hl_v rfl rfl rfl (rv_len rfl Try.underlying26 rfl (rd_row 0 rfl)) ?_
  have hzl := rts_len hn n.ss.length (Nat.le_refl _)
  refine hl_v rfl rfl rfl (rv_ev rfl) ?_
  refine hl_less (sx 0 rfl (sx 1 rfl (sx 2 rfl (sx 3 rfl (sx 14 rfl (sx 16 rfl (sx 17 rfl (sx 18 rfl (sx 19 rfl (sx 27 rfl (sx 28 rfl (sx 29 rfl (sub_nil _))))))))))))) (.refl _) ?_
  refine hl_nil ?_
  refine hq_then ?_
  refine hc_block ?_
  refine hc_loop1 (α := Nat) (fun q => [rowE 3 1 v6 ((rtsL n n.ss.length).length) ((rtsL n n.ss.length).map (Value.int .i64)), boxE b1 #[.int .i64 n.ins, n.sv, n.av, n.ov] 28]) (fun q => [(0, .agg #[.int .i64 n.ins, n.sv, n.av, n.ov]), (1, .pointer (some ⟨b1, 0, none⟩)), (2, .bool false), (3, .int .i64 n.cnt), (14, .bool false), (16, n.sv), (17, .int .i64 (n.ss.length : Int)), (18, .int .i64 (k : Int)), (19, .bool false), (27, v6), (28, .int .i64 ((rtsL n n.ss.length).length : Int)), (29, .int .i64 (q : Int))]) (fun q => q ≤ (rtsL n n.ss.length).length) (fun q => (rtsL n n.ss.length).length - q) 0 (Nat.zero_le _) (sx 0 rfl (sx 1 rfl (sx 2 rfl (sx 3 rfl (sx 14 rfl (sx 16 rfl (sx 17 rfl (sx 18 rfl (sx 19 rfl (sx 27 rfl (sx 28 rfl (sx 29 rfl (sub_nil _))))))))))))) ((.cons_cons _ (.cons_cons _ .slnil))) ?_
  intro q hi9
  have hq := hi9
  refine hc_seq ?_
  refine hc_region ?_
  refine hl_lss rfl rfl rfl rfl rfl rfl (fun h10 => ?_) (fun h10 => ?_)
  ·
   refine hl_less (sx 0 rfl (sx 1 rfl (sx 2 rfl (sx 3 rfl (sx 14 rfl (sx 16 rfl (sx 17 rfl (sx 18 rfl (sx 19 rfl (sx 27 rfl (sx 28 rfl (sx 29 rfl (sx 30 rfl (sub_nil _)))))))))))))) (.refl _) ?_
   refine hl_nil ?_
   refine hq_then ?_
   refine hc_seq ?_
   refine hc_true rfl ?_
   refine hc_skip ?_
   refine hq_then ?_
   refine hc_seq ?_
   refine hc_block ?_
   refine hc_seq ?_
   refine hc_region ?_
   refine hl_v rfl rfl rfl (rv_index (s := 1) rfl Try.underlying26 (by kernel_rfl) rfl rfl (rd_row 0 rfl) (by omega) (by first | omega | (simp only [List.length_set]; omega))) ?_
   refine hl_v rfl rfl rfl (rv_loadEl (u := .int .i64 ((rtsL n n.ss.length).getD q 0)) rfl (by kernel_rfl) rfl (rd_row 0 rfl) (ints_at1 (show _ < (rtsL n n.ss.length).length by first | omega | (simp only [List.length_set]; omega)))) ?_
   refine hl_v rfl rfl rfl (rv_ev rfl) ?_
   refine hl_less (sx 0 rfl (sx 1 rfl (sx 2 rfl (sx 3 rfl (sx 7 rfl (sx 14 rfl (sx 16 rfl (sx 17 rfl (sx 18 rfl (sx 19 rfl (sx 27 rfl (sx 28 rfl (sx 29 rfl (sx 30 rfl (sub_nil _))))))))))))))) (.refl _) ?_
   refine hl_nil ?_
   refine hq_then ?_
   refine hc_seq ?_
   refine hc_region ?_
   have hlk := rts_ok hn (i := q) (by omega)
   obtain ⟨hlk1, hlk2⟩ := hlk
   refine hl_v rfl rfl rfl (rv_ev rfl) ?_
   refine hl_v rfl rfl rfl (rv_ev rfl) ?_
   refine hl_v rfl rfl rfl (rv_mul rfl rfl rfl (by constructor <;> omega)) ?_
   refine hl_v rfl rfl rfl (rv_sub rfl rfl rfl (by constructor <;> omega)) ?_
   refine hl_callV rfl rfl rfl (rq_call (by kernel_rfl) rfl (fun w hm => ret_ans (ans_of (inRange_any _ _ _ w)))) ?_
   refine hl_bool (fun h11 => ?_) (fun h11 => absurd ((((inR_iff _ _ _).2 (by omega))).symm.trans h11) (by decide))
   refine hl_v rfl rfl rfl (rv_ev rfl) ?_
   refine hl_less (sx 0 rfl (sx 1 rfl (sx 2 rfl (sx 3 rfl (sx 7 rfl (sx 14 rfl (sx 16 rfl (sx 17 rfl (sx 18 rfl (sx 19 rfl (sx 27 rfl (sx 28 rfl (sx 29 rfl (sx 30 rfl (sx 38 rfl (sub_nil _)))))))))))))))) (.refl _) ?_
   refine hl_nil ?_
   refine hq_then ?_
   refine hc_false rfl ?_
   refine hc_skip ?_
   refine hq_block_normal ?_
   refine hq_then ?_
   refine hc_region ?_
   refine hl_v rfl rfl rfl (rv_add rfl rfl rfl (by constructor <;> omega)) ?_
   have hzl := rts_len hn n.ss.length (Nat.le_refl _)
   refine hl_v rfl rfl rfl (rv_ev rfl) ?_
   refine hl_less (sx 0 rfl (sx 1 rfl (sx 2 rfl (sx 3 rfl (sx 7 rfl (sx 14 rfl (sx 16 rfl (sx 17 rfl (sx 18 rfl (sx 19 rfl (sx 27 rfl (sx 28 rfl (sx 29 rfl (sx 30 rfl (sx 38 rfl (sub_nil _)))))))))))))))) (.refl _) ?_
   refine hl_nil ?_
   exact hq_round1 (q + 1) (by omega) (by omega) (sx 0 rfl (sx 1 rfl (sx 2 rfl (sx 3 rfl (sx 14 rfl (sx 16 rfl (sx 17 rfl (sx 18 rfl (sx 19 rfl (sx 27 rfl (sx 28 rfl (sx 29 rfl (sub_nil _))))))))))))) ((.cons_cons _ (.cons_cons _ .slnil)))
  ·
   refine hl_less (sx 0 rfl (sx 1 rfl (sx 2 rfl (sx 3 rfl (sx 14 rfl (sx 16 rfl (sx 17 rfl (sx 18 rfl (sx 19 rfl (sx 27 rfl (sx 28 rfl (sx 29 rfl (sx 30 rfl (sub_nil _)))))))))))))) (.refl _) ?_
   refine hl_nil ?_
   refine hq_then ?_
   refine hc_seq ?_
   refine hc_false rfl ?_
   refine hc_exit ?_
   refine hq_then_exit ?_
   refine hq_then_exit ?_
   refine hq_block_exit ?_
   refine hq_then ?_
   refine hc_seq ?_
   refine hc_seq ?_
   refine hc_region ?_
   refine hl_v rfl rfl rfl (rv_field (k0 := 2) rfl (by kernel_rfl) rfl) ?_
   refine hl_v rfl rfl rfl (rv_load rfl (by kernel_rfl) rfl (box_cell 1 rfl rfl)) ?_
   refine hl_v rfl rfl rfl (rv_len rfl Try.underlying25 rfl (rd_old hr.an)) ?_
   refine hl_v rfl rfl rfl (rv_ev rfl) ?_
   refine hl_less (sx 0 rfl (sx 1 rfl (sx 2 rfl (sx 3 rfl (sx 14 rfl (sx 16 rfl (sx 17 rfl (sx 18 rfl (sx 19 rfl (sx 27 rfl (sx 28 rfl (sx 29 rfl (sx 30 rfl (sx 41 rfl (sx 42 rfl (sx 43 rfl (sub_nil _))))))))))))))))) (.refl _) ?_
   refine hl_nil ?_
   refine hq_then ?_
   refine hc_block ?_
   refine hc_loop1 (α := Nat) (fun j => [rowE 3 1 v6 ((rtsL n n.ss.length).length) ((rtsL n n.ss.length).map (Value.int .i64)), boxE b1 #[.int .i64 n.ins, n.sv, n.av, n.ov] 28]) (fun j => [(0, .agg #[.int .i64 n.ins, n.sv, n.av, n.ov]), (1, .pointer (some ⟨b1, 0, none⟩)), (2, .bool false), (3, .int .i64 n.cnt), (14, .bool false), (16, n.sv), (17, .int .i64 (n.ss.length : Int)), (18, .int .i64 (k : Int)), (19, .bool false), (27, v6), (28, .int .i64 ((rtsL n n.ss.length).length : Int)), (29, .int .i64 (q : Int)), (30, .bool false), (41, n.av), (42, .int .i64 (n.gs.length : Int)), (43, .int .i64 (j : Int))]) (fun j => j ≤ n.gs.length) (fun j => n.gs.length - j) 0 (Nat.zero_le _) (sx 0 rfl (sx 1 rfl (sx 2 rfl (sx 3 rfl (sx 14 rfl (sx 16 rfl (sx 17 rfl (sx 18 rfl (sx 19 rfl (sx 27 rfl (sx 28 rfl (sx 29 rfl (sx 30 rfl (sx 41 rfl (sx 42 rfl (sx 43 rfl (sub_nil _))))))))))))))))) ((.cons_cons _ (.cons_cons _ .slnil))) ?_
   intro j hi12
   have hj := hi12
   refine hc_seq ?_
   refine hc_region ?_
   refine hl_lss rfl rfl rfl rfl rfl rfl (fun h13 => ?_) (fun h13 => ?_)
   ·
    refine hl_less (sx 0 rfl (sx 1 rfl (sx 2 rfl (sx 3 rfl (sx 14 rfl (sx 16 rfl (sx 17 rfl (sx 18 rfl (sx 19 rfl (sx 27 rfl (sx 28 rfl (sx 29 rfl (sx 30 rfl (sx 41 rfl (sx 42 rfl (sx 43 rfl (sx 44 rfl (sub_nil _)))))))))))))))))) (.refl _) ?_
    refine hl_nil ?_
    refine hq_then ?_
    refine hc_seq ?_
    refine hc_true rfl ?_
    refine hc_skip ?_
    refine hq_then ?_
    refine hc_seq ?_
    refine hc_block ?_
    refine hc_seq ?_
    refine hc_region ?_
    refine hl_v rfl rfl rfl (rv_ev rfl) ?_
    refine hl_v rfl rfl rfl (rv_index (s := 2) rfl Try.underlying25 (by kernel_rfl) rfl rfl (rd_old hr.an) (by omega) (by first | omega | (simp only [List.length_set]; omega))) ?_
    refine hl_v rfl rfl rfl (rv_loadElN (us := [.int .i64 ((n.gs.getD j an0).a), .int .i64 ((n.gs.getD j an0).b)]) rfl (by kernel_rfl) (by kernel_rfl) rfl (rd_old hr.an) (by omega) rfl (flat_atN anC 2 (fun _ => rfl) n.gs an0 (show j < _ by first | omega | (simp only [List.length_set]; omega)) rfl)) ?_
    refine hl_box rfl rfl rfl (rq_alloc (z := .agg #[.int .i64 0, .int .i64 0]) rfl (by kernel_rfl)) ?_
    intro b14
    refine hl_v rfl rfl rfl (rv_ev rfl) ?_
    refine hl_storeBoxN (i := 0) (off := 0) (us := [.int .i64 ((n.gs.getD j an0).a), .int .i64 ((n.gs.getD j an0).b)]) (l' := [boxE b14 #[.int .i64 ((n.gs.getD j an0).a), .int .i64 ((n.gs.getD j an0).b)] 80, rowE 3 1 v6 ((rtsL n n.ss.length).length) ((rtsL n n.ss.length).map (Value.int .i64)), boxE b1 #[.int .i64 n.ins, n.sv, n.av, n.ov] 28]) rfl rfl rfl (by kernel_rfl) rfl rfl rfl (all_cons rfl (all_cons rfl all_nil)) rfl rfl rfl ?_
    refine hl_less (sx 0 rfl (sx 1 rfl (sx 2 rfl (sx 3 rfl (sx 8 rfl (sx 9 rfl (sx 14 rfl (sx 16 rfl (sx 17 rfl (sx 18 rfl (sx 19 rfl (sx 27 rfl (sx 28 rfl (sx 29 rfl (sx 30 rfl (sx 41 rfl (sx 42 rfl (sx 43 rfl (sx 44 rfl (sub_nil _)))))))))))))))))))) (.refl _) ?_
    refine hl_nil ?_
    refine hq_then ?_
    refine hc_seq ?_
    refine hc_region ?_
    refine hl_v rfl rfl rfl (rv_loadN (cs := [.int .i64 n.ins, n.sv, n.av, n.ov]) rfl (by kernel_rfl) (by kernel_rfl) rfl rfl (box_part 2 rfl 0 rfl)) ?_
    refine hl_callV rfl rfl rfl (rq_call (by kernel_rfl) rfl (fun w hm => ret_ans (firstAnd_yes n w (hr.below hm.bel) hn))) ?_
    refine hl_v rfl rfl rfl (rv_ev rfl) ?_
    refine hl_v rfl rfl rfl (rv_add rfl rfl rfl (by constructor <;> omega)) ?_
    refine hl_v rfl rfl rfl (rv_mul rfl rfl rfl (by constructor <;> omega)) ?_
    refine hl_v rfl rfl rfl (rv_sub rfl rfl rfl (by constructor <;> omega)) ?_
    refine hl_v rfl rfl rfl (rv_ev rfl) ?_
    refine hl_less (sx 0 rfl (sx 1 rfl (sx 2 rfl (sx 3 rfl (sx 8 rfl (sx 9 rfl (sx 10 rfl (sx 14 rfl (sx 16 rfl (sx 17 rfl (sx 18 rfl (sx 19 rfl (sx 27 rfl (sx 28 rfl (sx 29 rfl (sx 30 rfl (sx 41 rfl (sx 42 rfl (sx 43 rfl (sx 44 rfl (sub_nil _))))))))))))))))))))) (.refl _) ?_
    refine hl_nil ?_
    refine hq_then ?_
    refine hc_seq ?_
    refine hc_region ?_
    have hlj := hn.an j (by omega)
    obtain ⟨⟨hlj1, hlj2⟩, hlj3, hlj4⟩ := hlj
    refine hl_v rfl rfl rfl (rv_field (k0 := 0) rfl (by kernel_rfl) rfl) ?_
    refine hl_v rfl rfl rfl (rv_load rfl (by kernel_rfl) rfl (box_cell 0 rfl rfl)) ?_
    refine hl_v rfl rfl rfl (rv_ev rfl) ?_
    refine hl_callV rfl rfl rfl (rq_call (by kernel_rfl) rfl (fun w hm => ret_ans (ans_of (inRange_any _ _ _ w)))) ?_
    refine hl_bool (fun h15 => ?_) (fun h15 => absurd ((((inR_iff _ _ _).2 (by omega))).symm.trans h15) (by decide))
    refine hl_v rfl rfl rfl (rv_ev rfl) ?_
    refine hl_v rfl rfl rfl (rv_ev rfl) ?_
    refine hl_v rfl rfl rfl (rv_field (k0 := 1) rfl (by kernel_rfl) rfl) ?_
    refine hl_v rfl rfl rfl (rv_load rfl (by kernel_rfl) rfl (box_cell 0 rfl rfl)) ?_
    refine hl_v rfl rfl rfl (rv_ev rfl) ?_
    refine hl_callV rfl rfl rfl (rq_call (by kernel_rfl) rfl (fun w hm => ret_ans (ans_of (inRange_any _ _ _ w)))) ?_
    refine hl_bool (fun h16 => ?_) (fun h16 => absurd ((((inR_iff _ _ _).2 (by omega))).symm.trans h16) (by decide))
    refine hl_v rfl rfl rfl (rv_ev rfl) ?_
    refine hl_v rfl rfl rfl (rv_ev rfl) ?_
    refine hl_less (sx 0 rfl (sx 1 rfl (sx 2 rfl (sx 3 rfl (sx 8 rfl (sx 9 rfl (sx 10 rfl (sx 14 rfl (sx 16 rfl (sx 17 rfl (sx 18 rfl (sx 19 rfl (sx 27 rfl (sx 28 rfl (sx 29 rfl (sx 30 rfl (sx 41 rfl (sx 42 rfl (sx 43 rfl (sx 44 rfl (sx 65 rfl (sub_nil _)))))))))))))))))))))) (.refl _) ?_
    refine hl_nil ?_
    refine hq_then ?_
    refine hc_false rfl ?_
    refine hc_skip ?_
    refine hq_block_normal ?_
    refine hq_then ?_
    refine hc_region ?_
    refine hl_v rfl rfl rfl (rv_add rfl rfl rfl (by constructor <;> omega)) ?_
    refine hl_v rfl rfl rfl (rv_ev rfl) ?_
    refine hl_less (sx 0 rfl (sx 1 rfl (sx 2 rfl (sx 3 rfl (sx 8 rfl (sx 9 rfl (sx 10 rfl (sx 14 rfl (sx 16 rfl (sx 17 rfl (sx 18 rfl (sx 19 rfl (sx 27 rfl (sx 28 rfl (sx 29 rfl (sx 30 rfl (sx 41 rfl (sx 42 rfl (sx 43 rfl (sx 44 rfl (sx 65 rfl (sub_nil _)))))))))))))))))))))) (.refl _) ?_
    refine hl_nil ?_
    exact hq_round1 (j + 1) (by omega) (by omega) (sx 0 rfl (sx 1 rfl (sx 2 rfl (sx 3 rfl (sx 14 rfl (sx 16 rfl (sx 17 rfl (sx 18 rfl (sx 19 rfl (sx 27 rfl (sx 28 rfl (sx 29 rfl (sx 30 rfl (sx 41 rfl (sx 42 rfl (sx 43 rfl (sub_nil _))))))))))))))))) ((.cons _ (.cons_cons _ (.cons_cons _ .slnil))))
   ·
    refine hl_less (sx 0 rfl (sx 1 rfl (sx 2 rfl (sx 3 rfl (sx 14 rfl (sx 16 rfl (sx 17 rfl (sx 18 rfl (sx 19 rfl (sx 27 rfl (sx 28 rfl (sx 29 rfl (sx 30 rfl (sx 41 rfl (sx 42 rfl (sx 43 rfl (sx 44 rfl (sub_nil _)))))))))))))))))) (.refl _) ?_
    refine hl_nil ?_
    refine hq_then ?_
    refine hc_seq ?_
    refine hc_false rfl ?_
    refine hc_exit ?_
    refine hq_then_exit ?_
    refine hq_then_exit ?_
    refine hq_block_exit ?_
    refine hq_then ?_
    refine hc_seq ?_
    refine hc_region ?_
    refine hl_v rfl rfl rfl (rv_ev rfl) ?_
    refine hl_less (sx 0 rfl (sx 1 rfl (sx 2 rfl (sx 3 rfl (sx 14 rfl (sx 16 rfl (sx 17 rfl (sx 18 rfl (sx 19 rfl (sx 27 rfl (sx 28 rfl (sx 29 rfl (sx 30 rfl (sx 41 rfl (sx 42 rfl (sx 43 rfl (sx 44 rfl (sub_nil _)))))))))))))))))) (.refl _) ?_
    refine hl_nil ?_
    refine hq_then ?_
    refine hc_ret ?_
    exact hq_ans rfl rfl rfl
set_option maxHeartbeats 4000000 in
set_option maxRecDepth 100000 in
theorem l08Net_mut (g : Nat) (a : Option Addr) (len cap : Nat) (z : List Int) (w0 : World) (l : List HP) (w : World) (hm0 : Mem w0 (curE g a len cap :: l) w) (hb : BRow .u8 w0 a len cap z) :
  Calls Try.prog 61 #[.pointer (some ⟨g, 0, none⟩)] w (fun e_ w_ => ∃ v_ p_, e_ = .returned v_ ∧ (fun u_ p_ => ∃ n : Nt, u_ = n.agg ∧ p_ = bigE [curE g a len cap, ntE n] ∧ (n.sv.oneCell' = true ∧ n.av.oneCell' = true ∧ n.ov.oneCell' = true) ∧ NtOk n ∧ n.ins ≤ 4 ∧ (n.ss.length : Int) ≤ 3 ∧ (n.gs.length : Int) ≤ 14) v_ p_ ∧ Mem w0 (p_ :: l) w_) := by
 refine calls_hcM (N := 5) (args := [.pointer (some ⟨g, 0, none⟩)]) Try.func61 rfl rfl hm0 ?_
 refine hc_less _ (sx 0 rfl (sub_nil _)) (.refl _) ?_
 refine hc_seq ?_
 refine hc_region ?_
 refine hl_box rfl rfl rfl (rq_alloc (z := .agg #[.int .i64 0, .slice none 0 0, .slice none 0 0, .slice none 0 0]) rfl (by kernel_rfl)) ?_
 intro b1
 refine hl_less (sx 0 rfl (sx 2 rfl (sub_nil _))) (.refl _) ?_
 refine hl_nil ?_
 refine hq_then ?_
 refine hc_seq ?_
 refine hc_region ?_
 refine hl_v rfl rfl rfl (rv_ev rfl) ?_
 refine hl_callM (R := (fun u_ p_ => ∃ n : Nt, u_ = n.agg ∧ p_ = bigE [curE g a len cap, ntE n] ∧ (n.sv.oneCell' = true ∧ n.av.oneCell' = true ∧ n.ov.oneCell' = true) ∧ NtOk n ∧ n.ins ≤ 4 ∧ (n.ss.length : Int) ≤ 3 ∧ (n.gs.length : Int) ≤ 14)) 1 rfl rfl (by kernel_rfl) rfl rfl (fun l' w hm => l08Sized_mut g a len cap z 4 3 14 _ _ _ hm hb (by decide) (by decide) (by decide)) ?_
 intro v2 p3 hR4
 obtain ⟨n, rfl, rfl, ⟨o1n, o2n, o3n⟩, hn, hnq1, hnq2, hnq3⟩ := hR4
 refine hl_eqL (l' := (boxE b1 #[.int .i64 0, .slice none 0 0, .slice none 0 0, .slice none 0 0] 28 :: bigE [curE g a len cap, ntE n] :: l)) rfl ?_
 refine hl_storeBoxN (i := 0) (off := 0) (us := [.int .i64 n.ins, n.sv, n.av, n.ov]) (l' := (boxE b1 #[.int .i64 n.ins, n.sv, n.av, n.ov] 28 :: bigE [curE g a len cap, ntE n] :: l)) rfl rfl rfl (by kernel_rfl) rfl rfl rfl (all_cons rfl (all_cons o1n (all_cons o2n (all_cons o3n all_nil)))) rfl rfl rfl ?_
 refine hl_less (sx 0 rfl (sx 2 rfl (sub_nil _))) (.refl _) ?_
 refine hl_nil ?_
 refine hq_then ?_
 refine hc_ret ?_
 exact hq_ret (rs := [.cell 2 28]) (vs := [.agg #[.int .i64 n.ins, n.sv, n.av, n.ov]]) rfl ⟨⟨b1, 0, [.int .i64 n.ins, n.sv, n.av, n.ov], rfl, rfl, by kernel_rfl, by kernel_rfl, box_part 0 rfl 0 rfl⟩, trivial⟩ rfl (fun w hm => ⟨_, bigE [curE g a len cap, ntE n], rfl, ⟨n, rfl, rfl, ⟨o1n, o2n, o3n⟩, hn, hnq1, hnq2, hnq3⟩, hm.sub ((.cons _ (.cons_cons _ (.refl _))))⟩)
theorem conv_snoc {w0 : World} {ps l : List HP} {p : HP} : Conv w0 (bigE ps :: p :: l) (bigE (ps ++ [p]) :: l) := fun w hm => by
  have h1 : Mem w0 (ps ++ (p :: l)) w := hm.unbig
  have h2 : Mem w0 ((ps ++ [p]) ++ l) w := by simpa using h1
  exact h2.big
structure CRow where
  v : Value
  xs : List Int
abbrev crow0 : CRow := ⟨.slice none 0 0, []⟩
def crowC (r : CRow) : List Value := [r.v]
abbrev cPart (r : CRow) : HP := rowE 3 1 r.v r.xs.length (r.xs.map (Value.int .i64))
abbrev clE (v : Value) (rs : List CRow) : HP := bigE [bigE (rs.map cPart), rowE 26 1 v rs.length (rs.flatMap crowC)]
structure RdsCl (w : World) (v : Value) (rs : List CRow) : Prop where
  row : RdsW w v 1 rs.length (rs.flatMap crowC)
  xs : ∀ r ∈ rs, RdsW w r.v 1 r.xs.length (r.xs.map (Value.int .i64))
theorem RdsCl.below {w w' : World} {v : Value} {rs : List CRow} (h : RdsCl w v rs) (hb : Below w.heap.size w w') : RdsCl w' v rs := ⟨h.row.below hb, fun r hr => (h.xs r hr).below hb⟩
theorem RdsCl.at {w : World} {v : Value} {rs : List CRow} (h : RdsCl w v rs) {k : Nat} (hk : k < rs.length) : RdsW w (rs.getD k crow0).v 1 (rs.getD k crow0).xs.length ((rs.getD k crow0).xs.map (Value.int .i64)) := h.xs _ (getD_mem' hk)
theorem cl_rds {w0 : World} {l : List HP} {v : Value} {rs : List CRow} (i : Nat) (hi : l[i]? = some (clE v rs)) (w : World) (hm : Mem w0 l w) : RdsCl w v rs := by
  obtain ⟨b1, -⟩ := hm.holds _ (mem_at hi)
  have c1 := (b1 _ (List.mem_cons_self)).2
  have c2 := (b1 _ (List.mem_cons_of_mem _ List.mem_cons_self)).2
  exact ⟨rdsW_own c2, fun r hr => rdsW_own (c1.1 (cPart r) (List.mem_map.2 ⟨r, hr, rfl⟩)).2⟩
def LitOk (n : Int) (xs : List Int) : Prop := xs.length ≤ 400 ∧ ∀ i, i < xs.length → xs.getD i 0 ≠ 0 ∧ -n ≤ xs.getD i 0 ∧ xs.getD i 0 ≤ n
structure ClOk (n : Int) (rs : List CRow) : Prop where
  n0 : 0 ≤ n
  n1 : n ≤ 400
  len : rs.length ≤ 1600
  ok : ∀ k, k < rs.length → LitOk n (rs.getD k crow0).xs
def valI (ps : List Int) (l : Int) : Int := if l < 0 then -(ps.getD (-l - 1).toNat 0) else ps.getD (l - 1).toNat 0
/-- what unitOf answers -/
structure UOk (xs ps : List Int) (u : Int) (cf : Bool) : Prop where
  conf : cf = true → u = 0 ∧ ∀ i, i < xs.length → valI ps (xs.getD i 0) = -1
  unit : u ≠ 0 → cf = false ∧ valI ps u = 0 ∧ (∃ i, i < xs.length ∧ xs.getD i 0 = u) ∧ ∀ i, i < xs.length → xs.getD i 0 = u ∨ valI ps (xs.getD i 0) = -1
  none : cf = false → u = 0 → ∃ i, i < xs.length ∧ valI ps (xs.getD i 0) ≠ -1
theorem UOk.rng {n : Int} {xs ps : List Int} {u : Int} {cf : Bool} (h : UOk xs ps u cf) (hx : LitOk n xs) (hu : u ≠ 0) : -n ≤ u ∧ u ≤ n := by
  obtain ⟨-, -, ⟨i, hi, rfl⟩, -⟩ := h.unit hu
  exact (hx.2 i hi).2
def litB (bs : List Bl) (l : Int) : Bool := if 0 < l then (bs.getD (l - 1).toNat bl0).b else !(bs.getD (-l - 1).toNat bl0).b
def clB (bs : List Bl) (xs : List Int) : Bool := xs.any (litB bs)
def cnfB (bs : List Bl) (rs : List CRow) : Bool := rs.all (fun r => clB bs r.xs)
open Go.RowKit
theorem inr_yes3 {a b c : Int} (h1 : b ≤ a) (h2 : a ≤ c) (w : World) : Calls Try.prog 70 #[.int .i64 a, .int .i64 b, .int .i64 c] w (Ans w (.bool true)) := by
  rw [← inR_true h1 h2]; exact ans_of (inRange_any _ _ _ w)
set_option maxHeartbeats 4000000 in
set_option maxRecDepth 100000 in
theorem clauseOk_yes (n : Int) (xs : List Int) (v : Value) (w : World) (hv : RdsW w v 1 xs.length (xs.map (Value.int .i64))) (hx : LitOk n xs) (hn : 0 ≤ n ∧ n ≤ 400) :
  Calls Try.prog 87 #[v, .int .i64 n] w (Ans w (.bool true)) := by
 have hxl := hx.1
 refine calls_hc (N := 27) (args := [v, .int .i64 n]) Try.func87 rfl rfl ?_
 refine hc_less _ (sx 0 rfl (sx 1 rfl (sub_nil _))) (.refl _) ?_
 refine hc_seq ?_
 refine hc_region ?_
 refine hl_v rfl rfl rfl (rv_ev rfl) ?_
 refine hl_less (sx 0 rfl (sx 1 rfl (sx 4 rfl (sub_nil _)))) (.refl _) ?_
 refine hl_nil ?_
 refine hq_then ?_
 refine hc_seq ?_
 refine hc_seq ?_
 refine hc_region ?_
 refine hl_v rfl rfl rfl (rv_ev rfl) ?_
 refine hl_v rfl rfl rfl (rv_len rfl Try.underlying26 rfl (rd_old hv)) ?_
 refine hl_gtr rfl rfl rfl rfl rfl rfl (fun h1 => absurd h1 (by omega)) (fun h1 => ?_)
 refine hl_less (sx 0 rfl (sx 1 rfl (sx 4 rfl (sx 9 rfl (sub_nil _))))) (.refl _) ?_
 refine hl_nil ?_
 refine hq_then ?_
 refine hc_false rfl ?_
 refine hc_skip ?_
 refine hq_then ?_
 refine hc_seq ?_
 refine hc_seq ?_
 refine hc_region ?_
 refine hl_v rfl rfl rfl (rv_ev rfl) ?_
 refine hl_v rfl rfl rfl (rv_len rfl Try.underlying26 rfl (rd_old hv)) ?_
 refine hl_v rfl rfl rfl (rv_ev rfl) ?_
 refine hl_less (sx 0 rfl (sx 1 rfl (sx 4 rfl (sx 9 rfl (sx 10 rfl (sx 11 rfl (sx 12 rfl (sub_nil _)))))))) (.refl _) ?_
 refine hl_nil ?_
 refine hq_then ?_
 refine hc_block ?_
 refine hc_loop1 (α := Nat) (fun j => []) (fun j => [(0, v), (1, .int .i64 n), (4, .bool false), (9, .bool false), (10, v), (11, .int .i64 (xs.length : Int)), (12, .int .i64 (j : Int))]) (fun j => j ≤ xs.length) (fun j => xs.length - j) 0 (Nat.zero_le _) (sx 0 rfl (sx 1 rfl (sx 4 rfl (sx 9 rfl (sx 10 rfl (sx 11 rfl (sx 12 rfl (sub_nil _)))))))) (.slnil) ?_
 intro j hi2
 have hj := hi2
 refine hc_seq ?_
 refine hc_region ?_
 refine hl_lss rfl rfl rfl rfl rfl rfl (fun h3 => ?_) (fun h3 => ?_)
 ·
  refine hl_less (sx 0 rfl (sx 1 rfl (sx 4 rfl (sx 9 rfl (sx 10 rfl (sx 11 rfl (sx 12 rfl (sx 13 rfl (sub_nil _))))))))) (.refl _) ?_
  refine hl_nil ?_
  refine hq_then ?_
  refine hc_seq ?_
  refine hc_true rfl ?_
  refine hc_skip ?_
  refine hq_then ?_
  refine hc_seq ?_
  refine hc_block ?_
  refine hc_seq ?_
  refine hc_region ?_
  refine hl_v rfl rfl rfl (rv_index (s := 1) rfl Try.underlying26 (by kernel_rfl) rfl rfl (rd_old hv) (by omega) (by first | omega | (simp only [List.length_set]; omega))) ?_
  refine hl_v rfl rfl rfl (rv_loadEl (u := .int .i64 (xs.getD j 0)) rfl (by kernel_rfl) rfl (rd_old hv) (ints_at1 (show _ < xs.length by first | omega | (simp only [List.length_set]; omega)))) ?_
  refine hl_v rfl rfl rfl (rv_ev rfl) ?_
  refine hl_less (sx 0 rfl (sx 1 rfl (sx 4 rfl (sx 6 rfl (sx 9 rfl (sx 10 rfl (sx 11 rfl (sx 12 rfl (sx 13 rfl (sub_nil _)))))))))) (.refl _) ?_
  refine hl_nil ?_
  refine hq_then ?_
  refine hc_seq ?_
  refine hc_region ?_
  have hxj := hx.2 j (by omega)
  refine hl_v rfl rfl rfl (rv_ev rfl) ?_
  refine hl_eql rfl rfl rfl rfl rfl rfl (fun h4 => absurd h4 (by omega)) (fun h4 => ?_)
  have hxj := hx.2 j (by omega)
  refine hl_v rfl rfl rfl (rv_ev rfl) ?_
  have hxj := hx.2 j (by omega)
  refine hl_v rfl rfl rfl (rv_ev rfl) ?_
  have hxj := hx.2 j (by omega)
  refine hl_v rfl rfl rfl (rv_ev rfl) ?_
  refine hl_v rfl rfl rfl (rv_neg rfl rfl (by omega) (by omega)) ?_
  have hxj := hx.2 j (by omega)
  refine hl_v rfl rfl rfl (rv_ev rfl) ?_
  refine hl_callV rfl rfl rfl (rq_call (by kernel_rfl) rfl (fun w hm => ret_ans (inr_yes3 (by omega) (by omega) w))) ?_
  refine hl_v rfl rfl rfl (rv_ev rfl) ?_
  refine hl_v rfl rfl rfl (rv_ev rfl) ?_
  refine hl_less (sx 0 rfl (sx 1 rfl (sx 4 rfl (sx 6 rfl (sx 9 rfl (sx 10 rfl (sx 11 rfl (sx 12 rfl (sx 13 rfl (sx 25 rfl (sub_nil _))))))))))) (.refl _) ?_
  refine hl_nil ?_
  refine hq_then ?_
  refine hc_false rfl ?_
  refine hc_skip ?_
  refine hq_block_normal ?_
  refine hq_then ?_
  refine hc_region ?_
  refine hl_v rfl rfl rfl (rv_add rfl rfl rfl (by constructor <;> omega)) ?_
  refine hl_v rfl rfl rfl (rv_ev rfl) ?_
  refine hl_less (sx 0 rfl (sx 1 rfl (sx 4 rfl (sx 6 rfl (sx 9 rfl (sx 10 rfl (sx 11 rfl (sx 12 rfl (sx 13 rfl (sx 25 rfl (sub_nil _))))))))))) (.refl _) ?_
  refine hl_nil ?_
  exact hq_round1 (j + 1) (by omega) (by omega) (sx 0 rfl (sx 1 rfl (sx 4 rfl (sx 9 rfl (sx 10 rfl (sx 11 rfl (sx 12 rfl (sub_nil _)))))))) (.slnil)
 ·
  refine hl_less (sx 0 rfl (sx 1 rfl (sx 4 rfl (sx 9 rfl (sx 10 rfl (sx 11 rfl (sx 12 rfl (sx 13 rfl (sub_nil _))))))))) (.refl _) ?_
  refine hl_nil ?_
  refine hq_then ?_
  refine hc_seq ?_
  refine hc_false rfl ?_
  refine hc_exit ?_
  refine hq_then_exit ?_
  refine hq_then_exit ?_
  refine hq_block_exit ?_
  refine hq_then ?_
  refine hc_seq ?_
  refine hc_region ?_
  refine hl_v rfl rfl rfl (rv_ev rfl) ?_
  refine hl_less (sx 0 rfl (sx 1 rfl (sx 4 rfl (sx 9 rfl (sx 10 rfl (sx 11 rfl (sx 12 rfl (sx 13 rfl (sub_nil _))))))))) (.refl _) ?_
  refine hl_nil ?_
  refine hq_then ?_
  refine hc_ret ?_
  exact hq_ans rfl rfl rfl
set_option maxHeartbeats 4000000 in
set_option maxRecDepth 100000 in
theorem implCnfOk_yes (n : Int) (rs : List CRow) (v : Value) (w : World) (hr : ClOk n rs) (hv : RdsCl w v rs) :
  Calls Try.prog 30 #[.agg #[.int .i64 n, v]] w (Ans w (.bool true)) := by
 have hn0 := hr.n0
 have hn1 := hr.n1
 have hrl := hr.len
 refine calls_hc (N := 28) (args := [.agg #[.int .i64 n, v]]) Try.func30 rfl rfl ?_
 refine hc_less _ (sx 0 rfl (sub_nil _)) (.refl _) ?_
 refine hc_seq ?_
 refine hc_region ?_
 refine hl_box rfl rfl rfl (rq_box rfl rfl) ?_
 intro b1
 refine hl_v rfl rfl rfl (rv_ev rfl) ?_
 refine hl_less (sx 0 rfl (sx 1 rfl (sx 2 rfl (sub_nil _)))) (.refl _) ?_
 refine hl_nil ?_
 refine hq_then ?_
 refine hc_seq ?_
 refine hc_seq ?_
 refine hc_region ?_
 refine hl_v rfl rfl rfl (rv_field (k0 := 0) rfl (by kernel_rfl) rfl) ?_
 refine hl_v rfl rfl rfl (rv_load rfl (by kernel_rfl) rfl (box_cell 0 rfl rfl)) ?_
 refine hl_callV rfl rfl rfl (rq_call (by kernel_rfl) rfl (fun w hm => ret_ans (inr_yes3 (by omega) (by omega) w))) ?_
 refine hl_v rfl rfl rfl (rv_ev rfl) ?_
 refine hl_v rfl rfl rfl (rv_ev rfl) ?_
 refine hl_v rfl rfl rfl (rv_field (k0 := 1) rfl (by kernel_rfl) rfl) ?_
 refine hl_v rfl rfl rfl (rv_load rfl (by kernel_rfl) rfl (box_cell 0 rfl rfl)) ?_
 refine hl_v rfl rfl rfl (rv_len rfl Try.underlying40 rfl (rd_old hv.row)) ?_
 refine hl_gtr rfl rfl rfl rfl rfl rfl (fun h2 => absurd h2 (by omega)) (fun h2 => ?_)
 refine hl_v rfl rfl rfl (rv_ev rfl) ?_
 refine hl_less (sx 0 rfl (sx 1 rfl (sx 2 rfl (sx 14 rfl (sub_nil _))))) (.refl _) ?_
 refine hl_nil ?_
 refine hq_then ?_
 refine hc_false rfl ?_
 refine hc_skip ?_
 refine hq_then ?_
 refine hc_seq ?_
 refine hc_seq ?_
 refine hc_region ?_
 refine hl_v rfl rfl rfl (rv_field (k0 := 1) rfl (by kernel_rfl) rfl) ?_
 refine hl_v rfl rfl rfl (rv_load rfl (by kernel_rfl) rfl (box_cell 0 rfl rfl)) ?_
 refine hl_v rfl rfl rfl (rv_len rfl Try.underlying40 rfl (rd_old hv.row)) ?_
 refine hl_v rfl rfl rfl (rv_ev rfl) ?_
 refine hl_less (sx 0 rfl (sx 1 rfl (sx 2 rfl (sx 14 rfl (sx 16 rfl (sx 17 rfl (sx 18 rfl (sub_nil _)))))))) (.refl _) ?_
 refine hl_nil ?_
 refine hq_then ?_
 refine hc_block ?_
 refine hc_loop1 (α := Nat) (fun k => [boxE b1 #[.int .i64 n, v] 42]) (fun k => [(0, .agg #[.int .i64 n, v]), (1, .pointer (some ⟨b1, 0, none⟩)), (2, .bool false), (14, .bool false), (16, v), (17, .int .i64 (rs.length : Int)), (18, .int .i64 (k : Int))]) (fun k => k ≤ rs.length) (fun k => rs.length - k) 0 (Nat.zero_le _) (sx 0 rfl (sx 1 rfl (sx 2 rfl (sx 14 rfl (sx 16 rfl (sx 17 rfl (sx 18 rfl (sub_nil _)))))))) ((.cons_cons _ .slnil)) ?_
 intro k hi3
 have hk := hi3
 refine hc_seq ?_
 refine hc_region ?_
 refine hl_lss rfl rfl rfl rfl rfl rfl (fun h4 => ?_) (fun h4 => ?_)
 ·
  refine hl_less (sx 0 rfl (sx 1 rfl (sx 2 rfl (sx 14 rfl (sx 16 rfl (sx 17 rfl (sx 18 rfl (sx 19 rfl (sub_nil _))))))))) (.refl _) ?_
  refine hl_nil ?_
  refine hq_then ?_
  refine hc_seq ?_
  refine hc_true rfl ?_
  refine hc_skip ?_
  refine hq_then ?_
  refine hc_seq ?_
  refine hc_block ?_
  refine hc_seq ?_
  refine hc_region ?_
  refine hl_v rfl rfl rfl (rv_index (s := 1) rfl Try.underlying40 (by kernel_rfl) rfl rfl (rd_old hv.row) (by omega) (by first | omega | (simp only [List.length_set]; omega))) ?_
  refine hl_v rfl rfl rfl (rv_loadEl (u := (rs.getD k crow0).v) rfl (by kernel_rfl) rfl (rd_old hv.row) (flat_one crowC (fun r => r.v) (fun _ => rfl) rs crow0 (show k < _ by first | omega | (simp only [List.length_set]; omega)))) ?_
  refine hl_v rfl rfl rfl (rv_ev rfl) ?_
  refine hl_less (sx 0 rfl (sx 1 rfl (sx 2 rfl (sx 4 rfl (sx 14 rfl (sx 16 rfl (sx 17 rfl (sx 18 rfl (sx 19 rfl (sub_nil _)))))))))) (.refl _) ?_
  refine hl_nil ?_
  refine hq_then ?_
  refine hc_seq ?_
  refine hc_region ?_
  refine hl_v rfl rfl rfl (rv_ev rfl) ?_
  refine hl_v rfl rfl rfl (rv_field (k0 := 0) rfl (by kernel_rfl) rfl) ?_
  refine hl_v rfl rfl rfl (rv_load rfl (by kernel_rfl) rfl (box_cell 0 rfl rfl)) ?_
  refine hl_callV rfl rfl rfl (rq_call (by kernel_rfl) rfl (fun w hm => ret_ans (clauseOk_yes n (rs.getD k crow0).xs _ w ((hv.at (by omega)).below hm.bel) (hr.ok k (by omega)) ⟨hn0, hn1⟩))) ?_
  refine hl_v rfl rfl rfl (rv_ev rfl) ?_
  refine hl_less (sx 0 rfl (sx 1 rfl (sx 2 rfl (sx 4 rfl (sx 14 rfl (sx 16 rfl (sx 17 rfl (sx 18 rfl (sx 19 rfl (sx 26 rfl (sub_nil _))))))))))) (.refl _) ?_
  refine hl_nil ?_
  refine hq_then ?_
  refine hc_false rfl ?_
  refine hc_skip ?_
  refine hq_block_normal ?_
  refine hq_then ?_
  refine hc_region ?_
  refine hl_v rfl rfl rfl (rv_add rfl rfl rfl (by constructor <;> omega)) ?_
  refine hl_v rfl rfl rfl (rv_ev rfl) ?_
  refine hl_less (sx 0 rfl (sx 1 rfl (sx 2 rfl (sx 4 rfl (sx 14 rfl (sx 16 rfl (sx 17 rfl (sx 18 rfl (sx 19 rfl (sx 26 rfl (sub_nil _))))))))))) (.refl _) ?_
  refine hl_nil ?_
  exact hq_round1 (k + 1) (by omega) (by omega) (sx 0 rfl (sx 1 rfl (sx 2 rfl (sx 14 rfl (sx 16 rfl (sx 17 rfl (sx 18 rfl (sub_nil _)))))))) ((.cons_cons _ .slnil))
 ·
  refine hl_less (sx 0 rfl (sx 1 rfl (sx 2 rfl (sx 14 rfl (sx 16 rfl (sx 17 rfl (sx 18 rfl (sx 19 rfl (sub_nil _))))))))) (.refl _) ?_
  refine hl_nil ?_
  refine hq_then ?_
  refine hc_seq ?_
  refine hc_false rfl ?_
  refine hc_exit ?_
  refine hq_then_exit ?_
  refine hq_then_exit ?_
  refine hq_block_exit ?_
  refine hq_then ?_
  refine hc_seq ?_
  refine hc_region ?_
  refine hl_v rfl rfl rfl (rv_ev rfl) ?_
  refine hl_less (sx 0 rfl (sx 1 rfl (sx 2 rfl (sx 14 rfl (sx 16 rfl (sx 17 rfl (sx 18 rfl (sx 19 rfl (sub_nil _))))))))) (.refl _) ?_
  refine hl_nil ?_
  refine hq_then ?_
  refine hc_ret ?_
  exact hq_ans rfl rfl rfl
abbrev ndA (n : Nt) (k : Int) : Int := (n.gs.getD (k - n.fst).toNat an0).a
abbrev ndB (n : Nt) (k : Int) : Int := (n.gs.getD (k - n.fst).toNat an0).b
abbrev mk (bs : List Bl) (k : Int) : Prop := (bs.getD k.toNat bl0).b = true
theorem nd_ok {n : Nt} (hn : NtOk n) {k : Int} (h0 : n.fst ≤ k) (h1 : k < n.cnt) : (k - n.fst).toNat < n.gs.length ∧ 0 ≤ n.fst ∧ 0 ≤ ndA n k ∧ ndA n k < 2 * k ∧ 0 ≤ ndB n k ∧ ndB n k < 2 * k := by
  have hc : n.cnt = n.fst + n.gs.length := by unfold Nt.cnt Nt.fst; omega
  have hf : 0 ≤ n.fst := by have := hn.i0; unfold Nt.fst; omega
  have ha := hn.an (k - n.fst).toNat (by omega)
  unfold LtOk at ha
  unfold ndA ndB
  omega
structure MkOk (n : Nt) (node : Int) (bs bs' : List Bl) : Prop where
  len : bs'.length = bs.length
  mono : ∀ k : Int, 0 ≤ k → mk bs k → mk bs' k
  at_ : mk bs' node
  new : ∀ k : Int, n.fst ≤ k → k < n.cnt → mk bs' k → mk bs k ∨ (mk bs' (ndA n k / 2) ∧ mk bs' (ndB n k / 2))
theorem mk_set {bs : List Bl} {j : Nat} {b : Bl} (hj : j < bs.length) (hb : b.b = true) {k : Int} : mk (bs.set j b) k ↔ k.toNat = j ∨ mk bs k := by
  unfold mk
  by_cases e : k.toNat = j
  · rw [e, getD_set_self' hj]; exact ⟨fun _ => .inl rfl, fun _ => hb⟩
  · rw [List.getD_eq_getElem?_getD, List.getElem?_set_ne (fun h => e h.symm), ← List.getD_eq_getElem?_getD]
    exact ⟨fun h => .inr h, fun h => h.resolve_left e⟩
theorem mk_same {n : Nt} {node : Int} {bs : List Bl} (h : mk bs node) : MkOk n node bs bs := ⟨rfl, fun _ _ h => h, h, fun k _ _ h => .inl h⟩
theorem mk_leaf {n : Nt} {node : Int} {bs : List Bl} {b : Bl} (h0 : 0 ≤ node) (h1 : node.toNat < bs.length) (hf : 0 ≤ n.fst) (hl : node < n.fst) (hb : b.b = true) : MkOk n node bs (bs.set node.toNat b) :=
  ⟨by simp, fun k k0 h => (mk_set h1 hb).2 (.inr h), (mk_set h1 hb).2 (.inl rfl), fun k k0 k1 h => by
    rcases (mk_set h1 hb).1 h with h | h
    · omega
    · exact .inl h⟩
theorem mk_and {n : Nt} (hn : NtOk n) {node : Int} {bs b2 b3 : List Bl} {b : Bl} (h0 : n.fst ≤ node) (h9 : node < n.cnt) (h1 : node.toNat < bs.length) (hb : b.b = true) (ha : MkOk n (ndA n node / 2) (bs.set node.toNat b) b2) (hc : MkOk n (ndB n node / 2) b2 b3) : MkOk n node bs b3 := by
  obtain ⟨o1, o2, o3, o4, o5, o6⟩ := nd_ok hn h0 h9
  have hm : ∀ k : Int, 0 ≤ k → mk (bs.set node.toNat b) k → mk b3 k := fun k k0 h => hc.mono k k0 (ha.mono k k0 h)
  refine ⟨by rw [hc.len, ha.len]; simp, fun k k0 h => hm k k0 ((mk_set h1 hb).2 (.inr h)), hm node (by omega) ((mk_set h1 hb).2 (.inl rfl)), fun k k0 k1 h => ?_⟩
  obtain ⟨p1, p2, p3, p4, p5, p6⟩ := nd_ok hn k0 k1
  rcases hc.new k k0 k1 h with h | h
  · rcases ha.new k k0 k1 h with h | h
    · rcases (mk_set h1 hb).1 h with h | h
      · have : k = node := by omega
        subst this
        exact .inr ⟨hc.mono _ (by omega) ha.at_, hc.at_⟩
      · exact .inl h
    · exact .inr ⟨hc.mono _ (by omega) h.1, hc.mono _ (by omega) h.2⟩
  · exact .inr h
/-- the marked ones -/
def mkL (bs : List Bl) (k : Nat) : List Int := ((List.range k).filter fun i : Nat => (bs.getD i bl0).b).map fun i : Nat => (i : Int)
theorem mkL_yes {bs : List Bl} {k : Nat} (h : (bs.getD k bl0).b = true) : mkL bs k ++ [(k : Int)] = mkL bs (k + 1) := by
  unfold mkL; rw [List.range_succ, List.filter_append, List.map_append, List.filter_cons_of_pos (p := fun i : Nat => (bs.getD i bl0).b) h]; rfl
theorem mkL_no {bs : List Bl} {k : Nat} (h : (bs.getD k bl0).b = false) : mkL bs k = mkL bs (k + 1) := by
  unfold mkL; rw [List.range_succ, List.filter_append, List.map_append, List.filter_cons_of_neg (p := fun i : Nat => (bs.getD i bl0).b) (by simpa using h)]; simp
theorem mkL_len (bs : List Bl) (k : Nat) : (mkL bs k).length ≤ k := by
  unfold mkL; rw [List.length_map]; have := List.length_filter_le (fun i => (bs.getD i bl0).b) (List.range k); simpa using this
theorem mkL_mem {bs : List Bl} {k : Nat} {x : Int} : x ∈ mkL bs k ↔ (0 ≤ x ∧ x < k) ∧ mk bs x := by
  unfold mkL mk
  simp only [List.mem_map, List.mem_filter, List.mem_range]
  constructor
  · rintro ⟨i, ⟨h1, h2⟩, rfl⟩
    exact ⟨⟨by omega, by omega⟩, by rw [Int.toNat_natCast]; exact h2⟩
  · rintro ⟨⟨h1, h2⟩, h3⟩
    exact ⟨x.toNat, ⟨by omega, h3⟩, by omega⟩
structure ConeOk (n : Nt) (node : Int) (xs : List Int) : Prop where
  len : xs.length ≤ n.cnt.toNat
  rng : ∀ x ∈ xs, 0 ≤ x ∧ x < n.cnt
  top : node ∈ xs
  clo : ∀ k ∈ xs, n.fst ≤ k → ndA n k / 2 ∈ xs ∧ ndB n k / 2 ∈ xs
theorem cone_of {n : Nt} (hn : NtOk n) {node : Int} {bs : List Bl} (h0 : 0 ≤ node) (h1 : node < n.cnt) (hl : bs.length = n.cnt.toNat) (h : MkOk n node (List.replicate n.cnt.toNat bl0) bs) : ConeOk n node (mkL bs bs.length) := by
  have hno : ∀ k : Int, ¬ mk (List.replicate n.cnt.toNat bl0) k := fun k hk => by
    unfold mk at hk
    rw [List.getD_eq_getElem?_getD, List.getElem?_replicate] at hk
    split at hk <;> exact absurd hk (by decide)
  refine ⟨by have := mkL_len bs bs.length; omega, fun x hx => by have := (mkL_mem.1 hx).1; omega, mkL_mem.2 ⟨by omega, h.at_⟩, fun k hk hf => ?_⟩
  obtain ⟨hk1, hk2⟩ := mkL_mem.1 hk
  obtain ⟨p1, p2, p3, p4, p5, p6⟩ := nd_ok hn hf (by omega)
  have := (h.new k hf (by omega) hk2).resolve_left (hno k)
  exact ⟨mkL_mem.2 ⟨by omega, this.1⟩, mkL_mem.2 ⟨by omega, this.2⟩⟩
set_option maxHeartbeats 4000000 in
set_option maxRecDepth 100000 in
theorem markCone_step (n : Nt) (node : Int) (bs : List Bl) (v : Value) (w0 : World) (l : List HP) (w : World) (hm0 : Mem w0 (rowE 4 1 v bs.length (bs.flatMap blC) :: l) w) (hr : RdsNt w0 n) (hn : NtOk n) (hnd : 0 ≤ node ∧ node < n.cnt) (hbl : (bs.length : Int) = n.cnt) (IH : ∀ (m : Int) (bs2 : List Bl) (l2 : List HP) (w2 : World), 0 ≤ m → m < node → bs2.length = bs.length → Mem w0 (rowE 4 1 v (bs2).length ((bs2).flatMap blC) :: l2) w2 → Calls Try.prog 131 #[n.agg, .int .i64 m, v] w2 (fun e_ w_ => ∃ v_ p_, e_ = .returned v_ ∧ (∃ bs' : List Bl, p_ = rowE 4 1 v (bs').length ((bs').flatMap blC) ∧ MkOk n m bs2 bs') ∧ Mem w0 (p_ :: l2) w_)) :
  Calls Try.prog 131 #[.agg #[.int .i64 n.ins, n.sv, n.av, n.ov], .int .i64 node, v] w (fun e_ w_ => ∃ v_ p_, e_ = .returned v_ ∧ (fun v_ p_ => ∃ bs' : List Bl, p_ = rowE 4 1 v (bs').length ((bs').flatMap blC) ∧ MkOk n node bs bs') v_ p_ ∧ Mem w0 (p_ :: l) w_) := by
 have hi0 := hn.i0
 have hi1 := hn.i1
 have hs1 := hn.s1
 have ha1 := hn.a1
 have ho1 := hn.o1
 have hcnt : n.cnt = 1 + n.ins + n.ss.length + n.gs.length := rfl
 have hfst : n.fst = 1 + n.ins + n.ss.length := rfl
 refine calls_hcM (N := 40) (args := [.agg #[.int .i64 n.ins, n.sv, n.av, n.ov], .int .i64 node, v]) Try.func131 rfl rfl hm0 ?_
 refine hc_less _ (sx 0 rfl (sx 1 rfl (sx 2 rfl (sub_nil _)))) (.refl _) ?_
 refine hc_seq ?_
 refine hc_region ?_
 refine hl_box rfl rfl rfl (rq_box rfl rfl) ?_
 intro b1
 refine hl_less (sx 0 rfl (sx 1 rfl (sx 2 rfl (sx 3 rfl (sub_nil _))))) (.refl _) ?_
 refine hl_nil ?_
 refine hq_then ?_
 refine hc_seq ?_
 refine hc_seq ?_
 refine hc_region ?_
 refine hl_v rfl rfl rfl (rv_ev rfl) ?_
 refine hl_v rfl rfl rfl (rv_ev rfl) ?_
 refine hl_v rfl rfl rfl (rv_index (s := 1) rfl Try.underlying45 (by kernel_rfl) rfl rfl (rd_row 1 rfl) (by omega) (by first | omega | (simp only [List.length_set]; omega))) ?_
 refine hl_v rfl rfl rfl (rv_loadEl (u := .bool ((bs.getD ((node).toNat) bl0).b)) rfl (by kernel_rfl) rfl (rd_row 1 rfl) (flat_one blC (fun r => .bool r.b) (fun _ => rfl) bs bl0 (show (node).toNat < _ by first | omega | (simp only [List.length_set]; omega)))) ?_
 refine hl_bool (fun h2 => ?_) (fun h2 => ?_)
 ·
  refine hl_less (sx 0 rfl (sx 1 rfl (sx 2 rfl (sx 3 rfl (sx 10 rfl (sub_nil _)))))) (.refl _) ?_
  refine hl_nil ?_
  refine hq_then ?_
  refine hc_true rfl ?_
  refine hc_ret ?_
  refine hq_then_ret ?_
  exact hq_ret (rs := []) (vs := []) rfl trivial rfl (fun w hm => ⟨_, rowE 4 1 v bs.length (bs.flatMap blC), rfl, ⟨_, rfl, mk_same (by unfold mk; assumption)⟩, hm.sub ((.cons _ (.cons_cons _ (.refl _))))⟩)
 ·
  refine hl_less (sx 0 rfl (sx 1 rfl (sx 2 rfl (sx 3 rfl (sx 10 rfl (sub_nil _)))))) (.refl _) ?_
  refine hl_nil ?_
  refine hq_then ?_
  refine hc_false rfl ?_
  refine hc_skip ?_
  refine hq_then ?_
  refine hc_seq ?_
  refine hc_region ?_
  refine hl_v rfl rfl rfl (rv_ev rfl) ?_
  refine hl_v rfl rfl rfl (rv_ev rfl) ?_
  refine hl_v rfl rfl rfl (rv_index (s := 1) rfl Try.underlying45 (by kernel_rfl) rfl rfl (rd_row 1 rfl) (by omega) (by first | omega | (simp only [List.length_set]; omega))) ?_
  refine hl_storeEl (i := 1) (n' := (bs.set ((node).toNat) { bs.getD ((node).toNat) bl0 with b := true }).length) (xs' := ((bs.set ((node).toNat) { bs.getD ((node).toNat) bl0 with b := true }).flatMap blC)) (l' := (boxE b1 #[.int .i64 n.ins, n.sv, n.av, n.ov] 28 :: rowE 4 1 v ((bs.set ((node).toNat) { bs.getD ((node).toNat) bl0 with b := true }).length) ((bs.set ((node).toNat) { bs.getD ((node).toNat) bl0 with b := true }).flatMap blC) :: l)) rfl rfl rfl (by kernel_rfl) rfl rfl rfl rfl (by first | omega | (simp only [List.length_set]; omega)) List.length_set.symm (flat_set1 blC (fun r => .bool r.b) (fun _ => rfl) _ ({ bs.getD ((node).toNat) bl0 with b := true }) rfl) rfl ?_
  refine hl_less (sx 0 rfl (sx 1 rfl (sx 2 rfl (sx 3 rfl (sx 10 rfl (sub_nil _)))))) (.refl _) ?_
  refine hl_nil ?_
  refine hq_then ?_
  refine hc_seq ?_
  refine hc_region ?_
  refine hl_v rfl rfl rfl (rv_ev rfl) ?_
  refine hl_v rfl rfl rfl (rv_loadN (cs := [.int .i64 n.ins, n.sv, n.av, n.ov]) rfl (by kernel_rfl) (by kernel_rfl) rfl rfl (box_part 0 rfl 0 rfl)) ?_
  refine hl_callV rfl rfl rfl (rq_call (by kernel_rfl) rfl (fun w hm => ret_ans (firstAnd_yes n w (hr.below hm.bel) hn))) ?_
  refine hl_v rfl rfl rfl (rv_sub rfl rfl rfl (by constructor <;> omega)) ?_
  refine hl_v rfl rfl rfl (rv_ev rfl) ?_
  refine hl_less (sx 0 rfl (sx 1 rfl (sx 2 rfl (sx 3 rfl (sx 6 rfl (sx 10 rfl (sub_nil _))))))) (.refl _) ?_
  refine hl_nil ?_
  refine hq_then ?_
  refine hc_seq ?_
  refine hc_region ?_
  refine hl_v rfl rfl rfl (rv_ev rfl) ?_
  refine hl_geq rfl rfl rfl rfl rfl rfl (fun h3 => ?_) (fun h3 => ?_)
  ·
   refine hl_less (sx 0 rfl (sx 1 rfl (sx 2 rfl (sx 3 rfl (sx 6 rfl (sx 10 rfl (sx 19 rfl (sub_nil _)))))))) (.refl _) ?_
   refine hl_nil ?_
   refine hq_then ?_
   refine hc_true rfl ?_
   refine hc_seq ?_
   obtain ⟨o1, o2, o3, o4, o5, o6⟩ := nd_ok hn (k := node) (by omega) (by omega)
   unfold ndA at o3 o4
   unfold ndB at o5 o6
   refine hc_conv (rowE 4 1 v ((bs.set ((node).toNat) { bs.getD ((node).toNat) bl0 with b := true }).length) ((bs.set ((node).toNat) { bs.getD ((node).toNat) bl0 with b := true }).flatMap blC) :: boxE b1 #[.int .i64 n.ins, n.sv, n.av, n.ov] 28 :: l) (conv_pick (src := [boxE b1 #[.int .i64 n.ins, n.sv, n.av, n.ov] 28, rowE 4 1 v ((bs.set ((node).toNat) { bs.getD ((node).toNat) bl0 with b := true }).length) ((bs.set ((node).toNat) { bs.getD ((node).toNat) bl0 with b := true }).flatMap blC)]) (dst := [rowE 4 1 v ((bs.set ((node).toNat) { bs.getD ((node).toNat) bl0 with b := true }).length) ((bs.set ((node).toNat) { bs.getD ((node).toNat) bl0 with b := true }).flatMap blC), boxE b1 #[.int .i64 n.ins, n.sv, n.av, n.ov] 28]) (l := l) [1, 0] (by decide) rfl) ?_
   refine hc_draw2 (l := (boxE b1 #[.int .i64 n.ins, n.sv, n.av, n.ov] 28 :: l)) (by kernel_rfl) 10 [0, 1, 2, 3, 4, 5, 6, 7, 8, 9] (List.take 10 _) (List.drop 10 _) [[], [], [1], [], [2, 3], [4], [5], [6], [], [0, 7, 8]] [20, 21, 22, 23, 24, 25, 26, 27, 28, 29] (fun i_ vs_ v_ p_ => match i_ with | 0 => v_ = .agg #[.int .i64 n.ins, n.sv, n.av, n.ov] ∧ p_ = [] | 1 => v_ = .pointer (some ⟨b1, 0 + 2, none⟩) ∧ p_ = [] | 2 => v_ = n.av ∧ p_ = [] | 3 => v_ = .int .i64 (node - n.fst) ∧ p_ = [] | 4 => v_ = elP n.av ((node - n.fst).toNat * 2) ∧ p_ = [] | 5 => v_ = elP n.av ((node - n.fst).toNat * 2 + 0) ∧ p_ = [] | 6 => v_ = .int .i64 ((n.gs.getD ((node - n.fst).toNat) an0).a) ∧ p_ = [] | 7 => v_ = .int .i64 (((n.gs.getD ((node - n.fst).toNat) an0).a) / 2) ∧ p_ = [] | 8 => v_ = v ∧ p_ = [] | 9 => (∃ pm_, p_ = [pm_] ∧ (fun v_ p_ => ∃ bs' : List Bl, p_ = rowE 4 1 v (bs').length ((bs').flatMap blC) ∧ MkOk n (((n.gs.getD ((node - n.fst).toNat) an0).a) / 2) (bs.set ((node).toNat) { bs.getD ((node).toNat) bl0 with b := true }) bs') v_ pm_) | _ => True) [[], [], [1], [], [2, 3], [4], [5], [6], [], [0, 7, 8]] [none, none, none, none, none, none, none, none, none, some 10] [rowE 4 1 v ((bs.set ((node).toNat) { bs.getD ((node).toNat) bl0 with b := true }).length) ((bs.set ((node).toNat) { bs.getD ((node).toNat) bl0 with b := true }).flatMap blC)] [0, 1, 2, 3, 4, 5, 6, 7, 8, 9] 10 (List.take_append_drop 10 _).symm (by kernel_rfl) (by kernel_rfl) (by kernel_rfl) rfl rfl ?_ ?_
   ·
    refine ⟨?_, ?_, ?_, ?_, ?_, ?_, ?_, ?_, ?_, ?_, trivial⟩
    ·
     intro vf pf hmu hR
     refine Or.inl ⟨rfl, ?_⟩
     show RunQ _ _ _ (([] : List Nat).flatMap pf ++ _) (envOf _ vf [] ++ _) _ _
     refine rq_less (sx 3 rfl (sub_nil _)) (List.sublist_append_right _ _) ?_
     exact rq_v (rv_loadN (cs := [.int .i64 n.ins, n.sv, n.av, n.ov]) rfl (by kernel_rfl) (by kernel_rfl) rfl rfl (box_part 0 rfl 0 rfl))
    ·
     intro vf pf hmu hR
     refine Or.inl ⟨rfl, ?_⟩
     show RunQ _ _ _ (([] : List Nat).flatMap pf ++ _) (envOf _ vf [] ++ _) _ _
     refine rq_less (sx 3 rfl (sub_nil _)) (List.sublist_append_right _ _) ?_
     exact rq_v (rv_field (k0 := 2) rfl (by kernel_rfl) rfl)
    ·
     intro vf pf hmu hR
     have e1 : (vf 1) = .pointer (some ⟨b1, 0 + 2, none⟩) ∧ (pf 1) = [] := hR 1 (by decide)
     refine Or.inl ⟨rfl, ?_⟩
     show RunQ _ _ _ (([1] : List Nat).flatMap pf ++ _) (envOf _ vf [1] ++ _) _ _
     refine rq_less (sx 21 (congrArg some e1.1) (sub_nil _)) (List.sublist_append_right _ _) ?_
     exact rq_v (rv_load rfl (by kernel_rfl) rfl (box_cell 0 rfl rfl))
    ·
     intro vf pf hmu hR
     refine Or.inl ⟨rfl, ?_⟩
     show RunQ _ _ _ (([] : List Nat).flatMap pf ++ _) (envOf _ vf [] ++ _) _ _
     refine rq_less (sx 6 rfl (sub_nil _)) (List.sublist_append_right _ _) ?_
     exact rq_v (rv_ev rfl)
    ·
     intro vf pf hmu hR
     have e2 : (vf 2) = n.av ∧ (pf 2) = [] := hR 2 (by decide)
     have e3 : (vf 3) = .int .i64 (node - n.fst) ∧ (pf 3) = [] := hR 3 (by decide)
     refine Or.inl ⟨rfl, ?_⟩
     show RunQ _ _ _ (([2, 3] : List Nat).flatMap pf ++ _) (envOf _ vf [2, 3] ++ _) _ _
     refine rq_less (sx 22 (congrArg some e2.1) (sx 23 (congrArg some e3.1) (sub_nil _))) (List.sublist_append_right _ _) ?_
     exact rq_v (rv_index (s := 2) rfl Try.underlying25 (by kernel_rfl) rfl rfl (rd_old hr.an) (by omega) (by first | omega | (simp only [List.length_set]; omega)))
    ·
     intro vf pf hmu hR
     have e4 : (vf 4) = elP n.av ((node - n.fst).toNat * 2) ∧ (pf 4) = [] := hR 4 (by decide)
     refine Or.inl ⟨rfl, ?_⟩
     show RunQ _ _ _ (([4] : List Nat).flatMap pf ++ _) (envOf _ vf [4] ++ _) _ _
     refine rq_less (sx 24 (congrArg some e4.1) (sub_nil _)) (List.sublist_append_right _ _) ?_
     exact rq_v (rv_fieldEl (k0 := 0) rfl (by kernel_rfl) rfl (rd_old hr.an) (by first | omega | (simp only [List.length_set]; omega)))
    ·
     intro vf pf hmu hR
     have e5 : (vf 5) = elP n.av ((node - n.fst).toNat * 2 + 0) ∧ (pf 5) = [] := hR 5 (by decide)
     refine Or.inl ⟨rfl, ?_⟩
     show RunQ _ _ _ (([5] : List Nat).flatMap pf ++ _) (envOf _ vf [5] ++ _) _ _
     refine rq_less (sx 25 (congrArg some e5.1) (sub_nil _)) (List.sublist_append_right _ _) ?_
     exact rq_v (rv_loadEl (u := .int .i64 ((n.gs.getD ((node - n.fst).toNat) an0).a)) rfl (by kernel_rfl) rfl (rd_old hr.an) ((flat_at anC 2 (fun _ => rfl) n.gs an0 (show (node - n.fst).toNat < _ by first | omega | (simp only [List.length_set]; omega)) (by decide)).trans rfl))
    ·
     intro vf pf hmu hR
     have e6 : (vf 6) = .int .i64 ((n.gs.getD ((node - n.fst).toNat) an0).a) ∧ (pf 6) = [] := hR 6 (by decide)
     refine Or.inl ⟨rfl, ?_⟩
     show RunQ _ _ _ (([6] : List Nat).flatMap pf ++ _) (envOf _ vf [6] ++ _) _ _
     refine rq_less (sx 26 (congrArg some e6.1) (sub_nil _)) (List.sublist_append_right _ _) ?_
     exact rq_v (rv_quo rfl rfl rfl (by refine ⟨?_, ?_, ?_⟩ <;> omega))
    ·
     intro vf pf hmu hR
     refine Or.inl ⟨rfl, ?_⟩
     show RunQ _ _ _ (([] : List Nat).flatMap pf ++ _) (envOf _ vf [] ++ _) _ _
     refine rq_less (sx 2 rfl (sub_nil _)) (List.sublist_append_right _ _) ?_
     exact rq_v (rv_ev rfl)
    ·
     intro vf pf hmu hR
     have e0 : (vf 0) = .agg #[.int .i64 n.ins, n.sv, n.av, n.ov] ∧ (pf 0) = [] := hR 0 (by decide)
     have e7 : (vf 7) = .int .i64 (((n.gs.getD ((node - n.fst).toNat) an0).a) / 2) ∧ (pf 7) = [] := hR 7 (by decide)
     have e8 : (vf 8) = v ∧ (pf 8) = [] := hR 8 (by decide)
     refine Or.inl ⟨rfl, ?_⟩
     show RunM _ _ _ (pf 10) (([0, 7, 8] : List Nat).flatMap pf ++ _) (envOf _ vf [0, 7, 8] ++ _) _ _
     rw [hmu]
     refine rm_less (X' := (boxE b1 #[.int .i64 n.ins, n.sv, n.av, n.ov] 28 :: l)) (sx 20 (congrArg some e0.1) (sx 27 (congrArg some e7.1) (sx 28 (congrArg some e8.1) (sub_nil _)))) (by first | (simp only [e0.2, e7.2, e8.2, List.flatMap_cons, List.flatMap_nil, List.append_nil, List.nil_append, List.cons_append]; exact List.Sublist.refl _) | simp [e0.2, e7.2, e8.2]) ?_
     exact rq_callM (R := (fun v_ p_ => ∃ bs' : List Bl, p_ = rowE 4 1 v (bs').length ((bs').flatMap blC) ∧ MkOk n (((n.gs.getD ((node - n.fst).toNat) an0).a) / 2) (bs.set ((node).toNat) { bs.getD ((node).toNat) bl0 with b := true }) bs')) (by kernel_rfl) rfl (fun L w hX hm => IH (((n.gs.getD ((node - n.fst).toNat) an0).a) / 2) (bs.set ((node).toNat) { bs.getD ((node).toNat) bl0 with b := true }) _ _ (by omega) (by omega) (by first | (rw [List.length_set]; done) | (rw [lb2, List.length_set])) hm)
   ·
    intro vf pf hmu hR
    have e9 : (∃ pm_, (pf 9) = [pm_] ∧ (fun v_ p_ => ∃ bs' : List Bl, p_ = rowE 4 1 v (bs').length ((bs').flatMap blC) ∧ MkOk n (((n.gs.getD ((node - n.fst).toNat) an0).a) / 2) (bs.set ((node).toNat) { bs.getD ((node).toNat) bl0 with b := true }) bs') (vf 9) pm_) := hR 9 (by decide)
    obtain ⟨p5, p9, hR6⟩ := e9
    obtain ⟨v4, v9⟩ : ∃ x, vf 9 = x := ⟨_, rfl⟩
    try rw [v9] at hR6
    obtain ⟨b2, rfl, hb2⟩ := hR6
    have lb2 := hb2.len
    have q0 : (vf 0) = .agg #[.int .i64 n.ins, n.sv, n.av, n.ov] ∧ (pf 0) = [] := hR 0 (by decide)
    have q1 : (vf 1) = .pointer (some ⟨b1, 0 + 2, none⟩) ∧ (pf 1) = [] := hR 1 (by decide)
    have q2 : (vf 2) = n.av ∧ (pf 2) = [] := hR 2 (by decide)
    have q3 : (vf 3) = .int .i64 (node - n.fst) ∧ (pf 3) = [] := hR 3 (by decide)
    have q4 : (vf 4) = elP n.av ((node - n.fst).toNat * 2) ∧ (pf 4) = [] := hR 4 (by decide)
    have q5 : (vf 5) = elP n.av ((node - n.fst).toNat * 2 + 0) ∧ (pf 5) = [] := hR 5 (by decide)
    have q6 : (vf 6) = .int .i64 ((n.gs.getD ((node - n.fst).toNat) an0).a) ∧ (pf 6) = [] := hR 6 (by decide)
    have q7 : (vf 7) = .int .i64 (((n.gs.getD ((node - n.fst).toNat) an0).a) / 2) ∧ (pf 7) = [] := hR 7 (by decide)
    have q8 : (vf 8) = v ∧ (pf 8) = [] := hR 8 (by decide)
    refine hl_less (l' := (rowE 4 1 v b2.length (b2.flatMap blC) :: boxE b1 #[.int .i64 n.ins, n.sv, n.av, n.ov] 28 :: l)) (sx 0 rfl (sx 1 rfl (sx 2 rfl (sx 3 rfl (sx 6 rfl (sx 10 rfl (sx 19 rfl (sub_nil _)))))))) (by first | (simp only [p9, v9, q0.2, q1.2, q2.2, q3.2, q4.2, q5.2, q6.2, q7.2, q8.2, List.flatMap_cons, List.flatMap_nil, List.append_nil, List.nil_append, List.cons_append]; exact List.Sublist.refl _) | simp [p9, v9, q0.2, q1.2, q2.2, q3.2, q4.2, q5.2, q6.2, q7.2, q8.2]) ?_
    simp only [List.drop_succ_cons, List.drop_zero]
    refine hl_less (sx 0 rfl (sx 1 rfl (sx 2 rfl (sx 3 rfl (sx 6 rfl (sx 10 rfl (sx 19 rfl (sub_nil _)))))))) (.refl _) ?_
    refine hl_nil ?_
    refine hq_then ?_
    refine hc_draw2 (l := (boxE b1 #[.int .i64 n.ins, n.sv, n.av, n.ov] 28 :: l)) (by kernel_rfl) 10 [0, 1, 2, 3, 4, 5, 6, 7, 8, 9] (List.take 10 _) (List.drop 10 _) [[], [], [1], [], [2, 3], [4], [5], [6], [], [0, 7, 8]] [30, 31, 32, 33, 34, 35, 36, 37, 38, 39] (fun i_ vs_ v_ p_ => match i_ with | 0 => v_ = .agg #[.int .i64 n.ins, n.sv, n.av, n.ov] ∧ p_ = [] | 1 => v_ = .pointer (some ⟨b1, 0 + 2, none⟩) ∧ p_ = [] | 2 => v_ = n.av ∧ p_ = [] | 3 => v_ = .int .i64 (node - n.fst) ∧ p_ = [] | 4 => v_ = elP n.av ((node - n.fst).toNat * 2) ∧ p_ = [] | 5 => v_ = elP n.av ((node - n.fst).toNat * 2 + 1) ∧ p_ = [] | 6 => v_ = .int .i64 ((n.gs.getD ((node - n.fst).toNat) an0).b) ∧ p_ = [] | 7 => v_ = .int .i64 (((n.gs.getD ((node - n.fst).toNat) an0).b) / 2) ∧ p_ = [] | 8 => v_ = v ∧ p_ = [] | 9 => (∃ pm_, p_ = [pm_] ∧ (fun v_ p_ => ∃ bs' : List Bl, p_ = rowE 4 1 v (bs').length ((bs').flatMap blC) ∧ MkOk n (((n.gs.getD ((node - n.fst).toNat) an0).b) / 2) b2 bs') v_ pm_) | _ => True) [[], [], [1], [], [2, 3], [4], [5], [6], [], [0, 7, 8]] [none, none, none, none, none, none, none, none, none, some 10] [rowE 4 1 v b2.length (b2.flatMap blC)] [0, 1, 2, 3, 4, 5, 6, 7, 8, 9] 10 (List.take_append_drop 10 _).symm (by kernel_rfl) (by kernel_rfl) (by kernel_rfl) rfl rfl ?_ ?_
    ·
     refine ⟨?_, ?_, ?_, ?_, ?_, ?_, ?_, ?_, ?_, ?_, trivial⟩
     ·
      intro vf pf hmu hR
      refine Or.inl ⟨rfl, ?_⟩
      show RunQ _ _ _ (([] : List Nat).flatMap pf ++ _) (envOf _ vf [] ++ _) _ _
      refine rq_less (sx 3 rfl (sub_nil _)) (List.sublist_append_right _ _) ?_
      exact rq_v (rv_loadN (cs := [.int .i64 n.ins, n.sv, n.av, n.ov]) rfl (by kernel_rfl) (by kernel_rfl) rfl rfl (box_part 0 rfl 0 rfl))
     ·
      intro vf pf hmu hR
      refine Or.inl ⟨rfl, ?_⟩
      show RunQ _ _ _ (([] : List Nat).flatMap pf ++ _) (envOf _ vf [] ++ _) _ _
      refine rq_less (sx 3 rfl (sub_nil _)) (List.sublist_append_right _ _) ?_
      exact rq_v (rv_field (k0 := 2) rfl (by kernel_rfl) rfl)
     ·
      intro vf pf hmu hR
      have e1 : (vf 1) = .pointer (some ⟨b1, 0 + 2, none⟩) ∧ (pf 1) = [] := hR 1 (by decide)
      refine Or.inl ⟨rfl, ?_⟩
      show RunQ _ _ _ (([1] : List Nat).flatMap pf ++ _) (envOf _ vf [1] ++ _) _ _
      refine rq_less (sx 31 (congrArg some e1.1) (sub_nil _)) (List.sublist_append_right _ _) ?_
      exact rq_v (rv_load rfl (by kernel_rfl) rfl (box_cell 0 rfl rfl))
     ·
      intro vf pf hmu hR
      refine Or.inl ⟨rfl, ?_⟩
      show RunQ _ _ _ (([] : List Nat).flatMap pf ++ _) (envOf _ vf [] ++ _) _ _
      refine rq_less (sx 6 rfl (sub_nil _)) (List.sublist_append_right _ _) ?_
      exact rq_v (rv_ev rfl)
     ·
      intro vf pf hmu hR
      have e2 : (vf 2) = n.av ∧ (pf 2) = [] := hR 2 (by decide)
      have e3 : (vf 3) = .int .i64 (node - n.fst) ∧ (pf 3) = [] := hR 3 (by decide)
      refine Or.inl ⟨rfl, ?_⟩
      show RunQ _ _ _ (([2, 3] : List Nat).flatMap pf ++ _) (envOf _ vf [2, 3] ++ _) _ _
      refine rq_less (sx 32 (congrArg some e2.1) (sx 33 (congrArg some e3.1) (sub_nil _))) (List.sublist_append_right _ _) ?_
      exact rq_v (rv_index (s := 2) rfl Try.underlying25 (by kernel_rfl) rfl rfl (rd_old hr.an) (by omega) (by first | omega | (simp only [List.length_set]; omega)))
     ·
      intro vf pf hmu hR
      have e4 : (vf 4) = elP n.av ((node - n.fst).toNat * 2) ∧ (pf 4) = [] := hR 4 (by decide)
      refine Or.inl ⟨rfl, ?_⟩
      show RunQ _ _ _ (([4] : List Nat).flatMap pf ++ _) (envOf _ vf [4] ++ _) _ _
      refine rq_less (sx 34 (congrArg some e4.1) (sub_nil _)) (List.sublist_append_right _ _) ?_
      exact rq_v (rv_fieldEl (k0 := 1) rfl (by kernel_rfl) rfl (rd_old hr.an) (by first | omega | (simp only [List.length_set]; omega)))
     ·
      intro vf pf hmu hR
      have e5 : (vf 5) = elP n.av ((node - n.fst).toNat * 2 + 1) ∧ (pf 5) = [] := hR 5 (by decide)
      refine Or.inl ⟨rfl, ?_⟩
      show RunQ _ _ _ (([5] : List Nat).flatMap pf ++ _) (envOf _ vf [5] ++ _) _ _
      refine rq_less (sx 35 (congrArg some e5.1) (sub_nil _)) (List.sublist_append_right _ _) ?_
      exact rq_v (rv_loadEl (u := .int .i64 ((n.gs.getD ((node - n.fst).toNat) an0).b)) rfl (by kernel_rfl) rfl (rd_old hr.an) ((flat_at anC 2 (fun _ => rfl) n.gs an0 (show (node - n.fst).toNat < _ by first | omega | (simp only [List.length_set]; omega)) (by decide)).trans rfl))
     ·
      intro vf pf hmu hR
      have e6 : (vf 6) = .int .i64 ((n.gs.getD ((node - n.fst).toNat) an0).b) ∧ (pf 6) = [] := hR 6 (by decide)
      refine Or.inl ⟨rfl, ?_⟩
      show RunQ _ _ _ (([6] : List Nat).flatMap pf ++ _) (envOf _ vf [6] ++ _) _ _
      refine rq_less (sx 36 (congrArg some e6.1) (sub_nil _)) (List.sublist_append_right _ _) ?_
      exact rq_v (rv_quo rfl rfl rfl (by refine ⟨?_, ?_, ?_⟩ <;> omega))
     ·
      intro vf pf hmu hR
      refine Or.inl ⟨rfl, ?_⟩
      show RunQ _ _ _ (([] : List Nat).flatMap pf ++ _) (envOf _ vf [] ++ _) _ _
      refine rq_less (sx 2 rfl (sub_nil _)) (List.sublist_append_right _ _) ?_
      exact rq_v (rv_ev rfl)
     ·
      intro vf pf hmu hR
      have e0 : (vf 0) = .agg #[.int .i64 n.ins, n.sv, n.av, n.ov] ∧ (pf 0) = [] := hR 0 (by decide)
      have e7 : (vf 7) = .int .i64 (((n.gs.getD ((node - n.fst).toNat) an0).b) / 2) ∧ (pf 7) = [] := hR 7 (by decide)
      have e8 : (vf 8) = v ∧ (pf 8) = [] := hR 8 (by decide)
      refine Or.inl ⟨rfl, ?_⟩
      show RunM _ _ _ (pf 10) (([0, 7, 8] : List Nat).flatMap pf ++ _) (envOf _ vf [0, 7, 8] ++ _) _ _
      rw [hmu]
      refine rm_less (X' := (boxE b1 #[.int .i64 n.ins, n.sv, n.av, n.ov] 28 :: l)) (sx 30 (congrArg some e0.1) (sx 37 (congrArg some e7.1) (sx 38 (congrArg some e8.1) (sub_nil _)))) (by first | (simp only [e0.2, e7.2, e8.2, List.flatMap_cons, List.flatMap_nil, List.append_nil, List.nil_append, List.cons_append]; exact List.Sublist.refl _) | simp [e0.2, e7.2, e8.2]) ?_
      exact rq_callM (R := (fun v_ p_ => ∃ bs' : List Bl, p_ = rowE 4 1 v (bs').length ((bs').flatMap blC) ∧ MkOk n (((n.gs.getD ((node - n.fst).toNat) an0).b) / 2) b2 bs')) (by kernel_rfl) rfl (fun L w hX hm => IH (((n.gs.getD ((node - n.fst).toNat) an0).b) / 2) b2 _ _ (by omega) (by omega) (by first | (rw [List.length_set]; done) | (rw [lb2, List.length_set])) hm)
    ·
     intro vf pf hmu hR
     have e9 : (∃ pm_, (pf 9) = [pm_] ∧ (fun v_ p_ => ∃ bs' : List Bl, p_ = rowE 4 1 v (bs').length ((bs').flatMap blC) ∧ MkOk n (((n.gs.getD ((node - n.fst).toNat) an0).b) / 2) b2 bs') (vf 9) pm_) := hR 9 (by decide)
     obtain ⟨p8, p9, hR9⟩ := e9
     obtain ⟨v7, v9⟩ : ∃ x, vf 9 = x := ⟨_, rfl⟩
     try rw [v9] at hR9
     obtain ⟨b3, rfl, hb3⟩ := hR9
     have lb3 := hb3.len
     have q0 : (vf 0) = .agg #[.int .i64 n.ins, n.sv, n.av, n.ov] ∧ (pf 0) = [] := hR 0 (by decide)
     have q1 : (vf 1) = .pointer (some ⟨b1, 0 + 2, none⟩) ∧ (pf 1) = [] := hR 1 (by decide)
     have q2 : (vf 2) = n.av ∧ (pf 2) = [] := hR 2 (by decide)
     have q3 : (vf 3) = .int .i64 (node - n.fst) ∧ (pf 3) = [] := hR 3 (by decide)
     have q4 : (vf 4) = elP n.av ((node - n.fst).toNat * 2) ∧ (pf 4) = [] := hR 4 (by decide)
     have q5 : (vf 5) = elP n.av ((node - n.fst).toNat * 2 + 1) ∧ (pf 5) = [] := hR 5 (by decide)
     have q6 : (vf 6) = .int .i64 ((n.gs.getD ((node - n.fst).toNat) an0).b) ∧ (pf 6) = [] := hR 6 (by decide)
     have q7 : (vf 7) = .int .i64 (((n.gs.getD ((node - n.fst).toNat) an0).b) / 2) ∧ (pf 7) = [] := hR 7 (by decide)
     have q8 : (vf 8) = v ∧ (pf 8) = [] := hR 8 (by decide)
     refine hl_less (l' := (rowE 4 1 v b3.length (b3.flatMap blC) :: boxE b1 #[.int .i64 n.ins, n.sv, n.av, n.ov] 28 :: l)) (sx 0 rfl (sx 1 rfl (sx 2 rfl (sx 3 rfl (sx 6 rfl (sx 10 rfl (sx 19 rfl (sub_nil _)))))))) (by first | (simp only [p9, v9, q0.2, q1.2, q2.2, q3.2, q4.2, q5.2, q6.2, q7.2, q8.2, List.flatMap_cons, List.flatMap_nil, List.append_nil, List.nil_append, List.cons_append]; exact List.Sublist.refl _) | simp [p9, v9, q0.2, q1.2, q2.2, q3.2, q4.2, q5.2, q6.2, q7.2, q8.2]) ?_
     simp only [List.drop_succ_cons, List.drop_zero]
     refine hl_less (sx 0 rfl (sx 1 rfl (sx 2 rfl (sx 3 rfl (sx 6 rfl (sx 10 rfl (sx 19 rfl (sub_nil _)))))))) (.refl _) ?_
     refine hl_nil ?_
     refine hq_normal ?_
     exact hq_ret (rs := []) (vs := []) rfl trivial rfl (fun w hm => ⟨_, rowE 4 1 v b3.length (b3.flatMap blC), rfl, ⟨_, rfl, mk_and hn (by omega) (by omega) (by omega) rfl hb2 hb3⟩, hm.sub ((.cons_cons _ (.cons _ (.refl _))))⟩)
  ·
   refine hl_less (sx 0 rfl (sx 1 rfl (sx 2 rfl (sx 3 rfl (sx 6 rfl (sx 10 rfl (sx 19 rfl (sub_nil _)))))))) (.refl _) ?_
   refine hl_nil ?_
   refine hq_then ?_
   refine hc_false rfl ?_
   refine hc_skip ?_
   refine hq_normal ?_
   exact hq_ret (rs := []) (vs := []) rfl trivial rfl (fun w hm => ⟨_, rowE 4 1 v ((bs.set ((node).toNat) { bs.getD ((node).toNat) bl0 with b := true }).length) ((bs.set ((node).toNat) { bs.getD ((node).toNat) bl0 with b := true }).flatMap blC), rfl, ⟨_, rfl, mk_leaf (by omega) (by omega) (by omega) (by omega) rfl⟩, hm.sub ((.cons _ (.cons_cons _ (.refl _))))⟩)
theorem markCone_mut (n : Nt) (v : Value) (w0 : World) (hr : RdsNt w0 n) (hn : NtOk n) : ∀ (k : Nat) (node : Int) (bs : List Bl) (l : List HP) (w : World), node.toNat < k → 0 ≤ node → node < n.cnt → (bs.length : Int) = n.cnt → Mem w0 (rowE 4 1 v (bs).length ((bs).flatMap blC) :: l) w →
    Calls Try.prog 131 #[n.agg, .int .i64 node, v] w (fun e_ w_ => ∃ v_ p_, e_ = .returned v_ ∧ (∃ bs' : List Bl, p_ = rowE 4 1 v (bs').length ((bs').flatMap blC) ∧ MkOk n node bs bs') ∧ Mem w0 (p_ :: l) w_)
  | 0, node, bs, l, w, hk, h0, h1, hl, hm => absurd hk (by omega)
  | k + 1, node, bs, l, w, hk, h0, h1, hl, hm => markCone_step n node bs v w0 l w hm hr hn ⟨h0, h1⟩ hl (fun m bs2 l2 w2 m0 m1 hb hm2 => markCone_mut n v w0 hr hn k m bs2 l2 w2 (by omega) m0 (by omega) (by omega) hm2)
set_option maxHeartbeats 4000000 in
set_option maxRecDepth 100000 in
theorem marked_ret (bs : List Bl) (v : Value) (w : World) (hv : RdsW w v 1 bs.length (bs.flatMap blC)) (hl : bs.length ≤ 1000000) :
  Calls Try.prog 132 #[v] w (Ret w (fun v' post => post = [rowE 3 1 v' (mkL bs bs.length).length ((mkL bs bs.length).map (Value.int .i64))])) := by
 refine calls_hc (N := 20) (args := [v]) Try.func132 rfl rfl ?_
 refine hc_less _ (sx 0 rfl (sub_nil _)) (.refl _) ?_
 refine hc_seq ?_
 refine hc_region ?_
 refine hl_v rfl rfl rfl (rv_ev rfl) ?_
 refine hl_less (sx 0 rfl (sx 2 rfl (sub_nil _))) (.refl _) ?_
 refine hl_nil ?_
 refine hq_then ?_
 refine hc_seq ?_
 refine hc_region ?_
 refine hl_nilRow 3 1 ?_
 refine hl_v rfl rfl rfl (rv_ev rfl) ?_
 refine hl_less (sx 0 rfl (sx 2 rfl (sx 3 rfl (sub_nil _)))) (.refl _) ?_
 refine hl_nil ?_
 refine hq_then ?_
 refine hc_seq ?_
 refine hc_seq ?_
 refine hc_region ?_
 refine hl_v rfl rfl rfl (rv_ev rfl) ?_
 refine hl_v rfl rfl rfl (rv_len rfl Try.underlying45 rfl (rd_old hv)) ?_
 refine hl_v rfl rfl rfl (rv_ev rfl) ?_
 refine hl_less (sx 0 rfl (sx 2 rfl (sx 3 rfl (sx 6 rfl (sx 7 rfl (sx 8 rfl (sub_nil _))))))) (.refl _) ?_
 refine hl_nil ?_
 refine hq_then ?_
 refine hc_block ?_
 refine hc_loop3 (α := Nat) (β := Value) (γ := List Int) (fun k u zs => [rowE 3 1 u zs.length (zs.map (Value.int .i64))]) (fun k u zs => [(0, v), (2, .slice none 0 0), (3, u), (6, v), (7, .int .i64 (bs.length : Int)), (8, .int .i64 (k : Int))]) (fun k u zs => k ≤ bs.length ∧ zs = mkL bs k) (fun k u zs => bs.length - k) 0 _ [] ⟨by omega, rfl⟩ (sx 0 rfl (sx 2 rfl (sx 3 rfl (sx 6 rfl (sx 7 rfl (sx 8 rfl (sub_nil _))))))) ((.cons_cons _ .slnil)) ?_
 intro k u zs hi2
 obtain ⟨hk, hz⟩ := hi2
 have hzl : zs.length ≤ k := by rw [hz]; exact mkL_len _ _
 refine hc_seq ?_
 refine hc_region ?_
 refine hl_lss rfl rfl rfl rfl rfl rfl (fun h3 => ?_) (fun h3 => ?_)
 ·
  refine hl_less (sx 0 rfl (sx 2 rfl (sx 3 rfl (sx 6 rfl (sx 7 rfl (sx 8 rfl (sx 9 rfl (sub_nil _)))))))) (.refl _) ?_
  refine hl_nil ?_
  refine hq_then ?_
  refine hc_seq ?_
  refine hc_true rfl ?_
  refine hc_skip ?_
  refine hq_then ?_
  refine hc_seq ?_
  refine hc_block ?_
  refine hc_seq ?_
  refine hc_region ?_
  refine hl_v rfl rfl rfl (rv_ev rfl) ?_
  refine hl_v rfl rfl rfl (rv_index (s := 1) rfl Try.underlying45 (by kernel_rfl) rfl rfl (rd_old hv) (by omega) (by first | omega | (simp only [List.length_set]; omega))) ?_
  refine hl_v rfl rfl rfl (rv_loadEl (u := .bool ((bs.getD k bl0).b)) rfl (by kernel_rfl) rfl (rd_old hv) (flat_one blC (fun r => .bool r.b) (fun _ => rfl) bs bl0 (show k < _ by first | omega | (simp only [List.length_set]; omega)))) ?_
  refine hl_bool (fun h4 => ?_) (fun h4 => ?_)
  ·
   refine hl_v rfl rfl rfl (rv_ev rfl) ?_
   refine hl_v rfl rfl rfl (rv_ev rfl) ?_
   refine hl_less (sx 0 rfl (sx 2 rfl (sx 3 rfl (sx 4 rfl (sx 5 rfl (sx 6 rfl (sx 7 rfl (sx 8 rfl (sx 9 rfl (sub_nil _)))))))))) (.refl _) ?_
   refine hl_nil ?_
   refine hq_then ?_
   refine hc_seq ?_
   refine hc_region ?_
   refine hl_v rfl rfl rfl (rv_ev rfl) ?_
   refine hl_less (sx 0 rfl (sx 2 rfl (sx 3 rfl (sx 4 rfl (sx 5 rfl (sx 6 rfl (sx 7 rfl (sx 8 rfl (sx 9 rfl (sx 13 rfl (sub_nil _))))))))))) (.refl _) ?_
   refine hl_nil ?_
   refine hq_then ?_
   refine hc_true rfl ?_
   refine hc_region ?_
   refine hl_v rfl rfl rfl (rv_ev rfl) ?_
   refine hl_v rfl rfl rfl (rv_ev rfl) ?_
   refine hl_row rfl rfl rfl (rq_buildSlice (z := .int .i64 0) (s := 1) (cs := ([(k : Int)].map (Value.int .i64))) rfl Try.underlying26 (by kernel_rfl) (by decide) rfl (by kernel_rfl) rfl) ?_
   intro g5
   refine hl_append (i := 1) (z := .int .i64 0) (bytes := 8) (n' := (zs ++ ([(k : Int)])).length) (xs' := ((zs ++ ([(k : Int)])).map (Value.int .i64))) (L := fun v6 => [rowE 3 1 (.slice (some ⟨g5, 0, none⟩) 1 1) 1 ([(k : Int)].map (Value.int .i64)), rowE 3 1 v6 ((zs ++ ([(k : Int)])).length) ((zs ++ ([(k : Int)])).map (Value.int .i64))]) rfl rfl rfl rfl Try.underlying26 (by kernel_rfl) (by kernel_rfl) rfl rfl rfl (rd_row 0 rfl) (ints_one _) (by first | omega | (simp; omega)) (len_app zs ([(k : Int)])) (ints_app zs ([(k : Int)])) (fun _ => rfl) ?_
   intro v6
   refine hl_v rfl rfl rfl (rv_ev rfl) ?_
   refine hl_less (sx 0 rfl (sx 2 rfl (sx 3 rfl (sx 4 rfl (sx 5 rfl (sx 6 rfl (sx 7 rfl (sx 8 rfl (sx 9 rfl (sx 13 rfl (sub_nil _))))))))))) (.refl _) ?_
   refine hl_nil ?_
   refine hq_block_normal ?_
   refine hq_then ?_
   refine hc_region ?_
   refine hl_v rfl rfl rfl (rv_add rfl rfl rfl (by constructor <;> omega)) ?_
   refine hl_v rfl rfl rfl (rv_ev rfl) ?_
   refine hl_less (sx 0 rfl (sx 2 rfl (sx 3 rfl (sx 4 rfl (sx 5 rfl (sx 6 rfl (sx 7 rfl (sx 8 rfl (sx 9 rfl (sx 13 rfl (sub_nil _))))))))))) (.refl _) ?_
   refine hl_nil ?_
   exact hq_round3 (k + 1) v6 (zs ++ ([(k : Int)])) ⟨by omega, by rw [hz]; exact mkL_yes (by assumption)⟩ (by omega) (sx 0 rfl (sx 2 rfl (sx 3 rfl (sx 6 rfl (sx 7 rfl (sx 8 rfl (sub_nil _))))))) ((.cons _ (.cons_cons _ .slnil)))
  ·
   refine hl_v rfl rfl rfl (rv_ev rfl) ?_
   refine hl_v rfl rfl rfl (rv_ev rfl) ?_
   refine hl_less (sx 0 rfl (sx 2 rfl (sx 3 rfl (sx 4 rfl (sx 5 rfl (sx 6 rfl (sx 7 rfl (sx 8 rfl (sx 9 rfl (sub_nil _)))))))))) (.refl _) ?_
   refine hl_nil ?_
   refine hq_then ?_
   refine hc_seq ?_
   refine hc_region ?_
   refine hl_v rfl rfl rfl (rv_ev rfl) ?_
   refine hl_less (sx 0 rfl (sx 2 rfl (sx 3 rfl (sx 4 rfl (sx 5 rfl (sx 6 rfl (sx 7 rfl (sx 8 rfl (sx 9 rfl (sx 13 rfl (sub_nil _))))))))))) (.refl _) ?_
   refine hl_nil ?_
   refine hq_then ?_
   refine hc_false rfl ?_
   refine hc_skip ?_
   refine hq_block_normal ?_
   refine hq_then ?_
   refine hc_region ?_
   refine hl_v rfl rfl rfl (rv_add rfl rfl rfl (by constructor <;> omega)) ?_
   refine hl_v rfl rfl rfl (rv_ev rfl) ?_
   refine hl_less (sx 0 rfl (sx 2 rfl (sx 3 rfl (sx 4 rfl (sx 5 rfl (sx 6 rfl (sx 7 rfl (sx 8 rfl (sx 9 rfl (sx 13 rfl (sub_nil _))))))))))) (.refl _) ?_
   refine hl_nil ?_
   exact hq_round3 (k + 1) u zs ⟨by omega, by rw [hz]; exact mkL_no (by assumption)⟩ (by omega) (sx 0 rfl (sx 2 rfl (sx 3 rfl (sx 6 rfl (sx 7 rfl (sx 8 rfl (sub_nil _))))))) ((.cons_cons _ .slnil))
 ·
  refine hl_less (sx 0 rfl (sx 2 rfl (sx 3 rfl (sx 6 rfl (sx 7 rfl (sx 8 rfl (sx 9 rfl (sub_nil _)))))))) (.refl _) ?_
  refine hl_nil ?_
  refine hq_then ?_
  refine hc_seq ?_
  refine hc_false rfl ?_
  refine hc_exit ?_
  refine hq_then_exit ?_
  refine hq_then_exit ?_
  refine hq_block_exit ?_
  refine hq_then ?_
  refine hc_seq ?_
  refine hc_region ?_
  refine hl_v rfl rfl rfl (rv_ev rfl) ?_
  refine hl_v rfl rfl rfl (rv_ev rfl) ?_
  refine hl_less (sx 0 rfl (sx 2 rfl (sx 3 rfl (sx 6 rfl (sx 7 rfl (sx 8 rfl (sx 9 rfl (sub_nil _)))))))) (.refl _) ?_
  refine hl_nil ?_
  refine hq_then ?_
  refine hc_ret ?_
  exact hq_retR (post := [rowE 3 1 u zs.length (zs.map (Value.int .i64))]) rfl rfl ((.cons_cons _ .slnil)) (by rw [hz, show k = bs.length by omega])
set_option maxHeartbeats 4000000 in
set_option maxRecDepth 100000 in
theorem cone_ret (n : Nt) (node : Int) (w : World) (hr : RdsNt w n) (hn : NtOk n) (hnd : 0 ≤ node ∧ node < n.cnt) :
  Calls Try.prog 85 #[.agg #[.int .i64 n.ins, n.sv, n.av, n.ov], .int .i64 node] w (Ret w (fun v' post => ∃ xs : List Int, post = [rowE 3 1 v' xs.length (xs.map (Value.int .i64))] ∧ ConeOk n node xs)) := by
 have hi0 := hn.i0
 have hi1 := hn.i1
 have hs1 := hn.s1
 have ha1 := hn.a1
 have ho1 := hn.o1
 have hcnt : n.cnt = 1 + n.ins + n.ss.length + n.gs.length := rfl
 have hfst : n.fst = 1 + n.ins + n.ss.length := rfl
 refine calls_hc (N := 15) (args := [.agg #[.int .i64 n.ins, n.sv, n.av, n.ov], .int .i64 node]) Try.func85 rfl rfl ?_
 refine hc_less _ (sx 0 rfl (sx 1 rfl (sub_nil _))) (.refl _) ?_
 refine hc_seq ?_
 refine hc_region ?_
 refine hl_box rfl rfl rfl (rq_box rfl rfl) ?_
 intro b1
 refine hl_v rfl rfl rfl (rv_ev rfl) ?_
 refine hl_less (sx 0 rfl (sx 1 rfl (sx 2 rfl (sx 4 rfl (sub_nil _))))) (.refl _) ?_
 refine hl_nil ?_
 refine hq_then ?_
 refine hc_seq ?_
 refine hc_region ?_
 refine hl_v rfl rfl rfl (rv_loadN (cs := [.int .i64 n.ins, n.sv, n.av, n.ov]) rfl (by kernel_rfl) (by kernel_rfl) rfl rfl (box_part 0 rfl 0 rfl)) ?_
 refine hl_callV rfl rfl rfl (rq_call (by kernel_rfl) rfl (fun w hm => ret_ans (implnodeCount_yes n w (hr.below hm.bel) hn))) ?_
 refine hl_row rfl rfl rfl (rq_make (z := .bool false) (s := 1) (bytes := 1) (n := (List.replicate (n.cnt).toNat bl0).length) (cs := ((List.replicate (n.cnt).toNat bl0).flatMap blC)) rfl Try.underlying45 (by kernel_rfl) (by decide) rfl rfl (by first | (rw [List.length_replicate]; done) | (rw [List.length_replicate]; omega)) (by first | (rw [List.length_replicate]; done) | (rw [List.length_replicate]; omega)) (by rw [List.length_replicate]; omega) (made_flat blC 1 (fun _ => rfl) bl0 _ rfl (n.cnt).toNat)) ?_
 intro g2
 refine hl_v rfl rfl rfl (rv_ev rfl) ?_
 refine hl_less (sx 0 rfl (sx 1 rfl (sx 2 rfl (sx 4 rfl (sx 5 rfl (sub_nil _)))))) (.refl _) ?_
 refine hl_nil ?_
 refine hq_then ?_
 refine hc_seq ?_
 refine hc_region ?_
 refine hl_v rfl rfl rfl (rv_loadN (cs := [.int .i64 n.ins, n.sv, n.av, n.ov]) rfl (by kernel_rfl) (by kernel_rfl) rfl rfl (box_part 1 rfl 0 rfl)) ?_
 refine hl_v rfl rfl rfl (rv_ev rfl) ?_
 refine hl_v rfl rfl rfl (rv_ev rfl) ?_
 refine hl_callM (R := (fun v_ p_ => ∃ bs' : List Bl, p_ = rowE 4 1 (.slice (some ⟨g2, 0, none⟩) ((List.replicate (n.cnt).toNat bl0).length) ((List.replicate (n.cnt).toNat bl0).length)) (bs').length ((bs').flatMap blC) ∧ MkOk n node (List.replicate (n.cnt).toNat bl0) bs')) 0 rfl rfl (by kernel_rfl) rfl rfl (fun l' w hm => markCone_mut n _ _ hr hn (node.toNat + 1) node (List.replicate (n.cnt).toNat bl0) _ _ (by omega) hnd.1 hnd.2 (by rw [List.length_replicate]; omega) hm) ?_
 intro v3 p4 hR5
 obtain ⟨bs, rfl, hmk⟩ := hR5
 have hbl := hmk.len
 rw [List.length_replicate] at hbl
 refine hl_eqL (l' := [rowE 4 1 (.slice (some ⟨g2, 0, none⟩) ((List.replicate (n.cnt).toNat bl0).length) ((List.replicate (n.cnt).toNat bl0).length)) bs.length (bs.flatMap blC), boxE b1 #[.int .i64 n.ins, n.sv, n.av, n.ov] 28]) rfl ?_
 refine hl_less (sx 0 rfl (sx 1 rfl (sx 2 rfl (sx 4 rfl (sx 5 rfl (sub_nil _)))))) (.refl _) ?_
 refine hl_nil ?_
 refine hq_then ?_
 refine hc_seq ?_
 refine hc_region ?_
 refine hl_v rfl rfl rfl (rv_ev rfl) ?_
 refine hl_q rfl rfl rfl (rq_call (by kernel_rfl) rfl (fun w hm => marked_ret bs _ w (rd_row 0 rfl w hm) (by omega))) ?_
 intro v6 p7 hR8
 subst hR8
 refine hl_v rfl rfl rfl (rv_ev rfl) ?_
 refine hl_less (sx 0 rfl (sx 1 rfl (sx 2 rfl (sx 4 rfl (sx 5 rfl (sub_nil _)))))) (.refl _) ?_
 refine hl_nil ?_
 refine hq_then ?_
 refine hc_ret ?_
 exact hq_retR (post := [rowE 3 1 v6 ((mkL bs bs.length).length) ((mkL bs bs.length).map (Value.int .i64))]) rfl rfl ((.cons_cons _ (.cons _ (.cons _ .slnil)))) ⟨_, rfl, cone_of hn hnd.1 hnd.2 hbl hmk⟩
def lvI (l : Int) : Int := if l % 2 = 1 then -(l / 2 + 1) else l / 2 + 1
set_option maxHeartbeats 4000000 in
set_option maxRecDepth 100000 in
theorem LitVar_ans (l : Int) (w : World) (hl : 0 ≤ l ∧ l ≤ 800) :
  Calls Try.prog 32 #[.int .i64 l] w (Ans w (.int .i64 (lvI l))) := by
 refine calls_hc (N := 16) (args := [.int .i64 l]) Try.func32 rfl rfl ?_
 refine hc_less _ (sx 0 rfl (sub_nil _)) (.refl _) ?_
 refine hc_seq ?_
 refine hc_region ?_
 refine hl_v rfl rfl rfl (rv_ev rfl) ?_
 refine hl_less (sx 0 rfl (sx 2 rfl (sub_nil _))) (.refl _) ?_
 refine hl_nil ?_
 refine hq_then ?_
 refine hc_seq ?_
 refine hc_seq ?_
 refine hc_region ?_
 refine hl_v rfl rfl rfl (rv_ev rfl) ?_
 refine hl_callV rfl rfl rfl (rq_call (by kernel_rfl) rfl (fun w hm => ret_ans (ans_of (inRange_any _ _ _ w)))) ?_
 refine hl_bool (fun h1 => ?_) (fun h1 => absurd ((((inR_iff _ _ _).2 (by omega))).symm.trans h1) (by decide))
 refine hl_v rfl rfl rfl (rv_ev rfl) ?_
 refine hl_less (sx 0 rfl (sx 2 rfl (sx 5 rfl (sub_nil _)))) (.refl _) ?_
 refine hl_nil ?_
 refine hq_then ?_
 refine hc_false rfl ?_
 refine hc_skip ?_
 refine hq_then ?_
 refine hc_seq ?_
 refine hc_seq ?_
 refine hc_region ?_
 refine hl_v rfl rfl rfl (rv_ev rfl) ?_
 refine hl_v rfl rfl rfl (rv_rem rfl rfl rfl (by constructor <;> omega)) ?_
 refine hl_eql rfl rfl rfl rfl rfl rfl (fun h2 => ?_) (fun h2 => ?_)
 ·
  refine hl_less (sx 0 rfl (sx 2 rfl (sx 5 rfl (sx 8 rfl (sub_nil _))))) (.refl _) ?_
  refine hl_nil ?_
  refine hq_then ?_
  refine hc_true rfl ?_
  refine hc_seq ?_
  refine hc_region ?_
  refine hl_v rfl rfl rfl (rv_ev rfl) ?_
  refine hl_v rfl rfl rfl (rv_quo rfl rfl rfl (by refine ⟨?_, ?_, ?_⟩ <;> omega)) ?_
  refine hl_v rfl rfl rfl (rv_add rfl rfl rfl (by constructor <;> omega)) ?_
  refine hl_v rfl rfl rfl (rv_neg rfl rfl (by omega) (by omega)) ?_
  refine hl_v rfl rfl rfl (rv_ev rfl) ?_
  refine hl_less (sx 0 rfl (sx 2 rfl (sx 5 rfl (sx 8 rfl (sub_nil _))))) (.refl _) ?_
  refine hl_nil ?_
  refine hq_then ?_
  refine hc_ret ?_
  refine hq_then_ret ?_
  exact hq_ans rfl rfl (congrArg _ (by unfold lvI; first | (rw [if_pos (by omega)]; done) | (rw [if_neg (by omega)]; done)))
 ·
  refine hl_less (sx 0 rfl (sx 2 rfl (sx 5 rfl (sx 8 rfl (sub_nil _))))) (.refl _) ?_
  refine hl_nil ?_
  refine hq_then ?_
  refine hc_false rfl ?_
  refine hc_skip ?_
  refine hq_then ?_
  refine hc_seq ?_
  refine hc_region ?_
  refine hl_v rfl rfl rfl (rv_ev rfl) ?_
  refine hl_v rfl rfl rfl (rv_quo rfl rfl rfl (by refine ⟨?_, ?_, ?_⟩ <;> omega)) ?_
  refine hl_v rfl rfl rfl (rv_add rfl rfl rfl (by constructor <;> omega)) ?_
  refine hl_v rfl rfl rfl (rv_ev rfl) ?_
  refine hl_less (sx 0 rfl (sx 2 rfl (sx 5 rfl (sx 8 rfl (sub_nil _))))) (.refl _) ?_
  refine hl_nil ?_
  refine hq_then ?_
  refine hc_ret ?_
  exact hq_ans rfl rfl (congrArg _ (by unfold lvI; first | (rw [if_pos (by omega)]; done) | (rw [if_neg (by omega)]; done)))
def naL (xs : List Int) (k : Nat) : List Bl := (xs.take k).map fun x => Bl.mk (decide (x = 1))
theorem naL_len {xs : List Int} {k : Nat} (h : k ≤ xs.length) : (naL xs k).length = k := by simp [naL]; omega
theorem naL_step {xs : List Int} {k : Nat} {b : Bool} (h : k < xs.length) (hb : b = decide (xs.getD k 0 = 1)) : naL xs k ++ [Bl.mk b] = naL xs (k + 1) := by
  unfold naL; rw [take_snocG 0 h, List.map_append, hb]; rfl
theorem naL_at {xs : List Int} {k : Nat} (h : k < xs.length) : ((naL xs xs.length).getD k bl0).b = decide (xs.getD k 0 = 1) := by
  unfold naL; rw [List.take_length, List.getD_eq_getElem?_getD, List.getElem?_map, List.getD_eq_getElem?_getD, List.getElem?_eq_getElem h]; rfl
set_option maxHeartbeats 4000000 in
set_option maxRecDepth 100000 in
theorem NodeAssignment_ret (xs : List Int) (v : Value) (w : World) (hv : RdsW w v 1 xs.length (xs.map (Value.int .i64))) (hl : xs.length ≤ 400) :
  Calls Try.prog 29 #[v] w (Ret w (fun v' post => post = [rowE 4 1 v' (naL xs xs.length).length ((naL xs xs.length).flatMap blC)])) := by
 refine calls_hc (N := 22) (args := [v]) Try.func29 rfl rfl ?_
 refine hc_less _ (sx 0 rfl (sub_nil _)) (.refl _) ?_
 refine hc_seq ?_
 refine hc_region ?_
 refine hl_v rfl rfl rfl (rv_ev rfl) ?_
 refine hl_less (sx 0 rfl (sx 2 rfl (sub_nil _))) (.refl _) ?_
 refine hl_nil ?_
 refine hq_then ?_
 refine hc_seq ?_
 refine hc_seq ?_
 refine hc_region ?_
 refine hl_v rfl rfl rfl (rv_ev rfl) ?_
 refine hl_v rfl rfl rfl (rv_len rfl Try.underlying26 rfl (rd_old hv)) ?_
 refine hl_gtr rfl rfl rfl rfl rfl rfl (fun h1 => absurd h1 (by omega)) (fun h1 => ?_)
 refine hl_less (sx 0 rfl (sx 2 rfl (sx 8 rfl (sub_nil _)))) (.refl _) ?_
 refine hl_nil ?_
 refine hq_then ?_
 refine hc_false rfl ?_
 refine hc_skip ?_
 refine hq_then ?_
 refine hc_seq ?_
 refine hc_region ?_
 refine hl_nilRow 4 1 ?_
 refine hl_eqL (l' := [rowE 4 1 (.slice none 0 0) (([] : List Bl).length) (([] : List Bl).flatMap blC)]) rfl ?_
 refine hl_v rfl rfl rfl (rv_ev rfl) ?_
 refine hl_less (sx 0 rfl (sx 2 rfl (sx 3 rfl (sx 8 rfl (sub_nil _))))) (.refl _) ?_
 refine hl_nil ?_
 refine hq_then ?_
 refine hc_seq ?_
 refine hc_seq ?_
 refine hc_region ?_
 refine hl_v rfl rfl rfl (rv_ev rfl) ?_
 refine hl_v rfl rfl rfl (rv_len rfl Try.underlying26 rfl (rd_old hv)) ?_
 refine hl_v rfl rfl rfl (rv_ev rfl) ?_
 refine hl_less (sx 0 rfl (sx 2 rfl (sx 3 rfl (sx 8 rfl (sx 9 rfl (sx 10 rfl (sx 11 rfl (sub_nil _)))))))) (.refl _) ?_
 refine hl_nil ?_
 refine hq_then ?_
 refine hc_block ?_
 refine hc_loop3 (α := Nat) (β := Value) (γ := List Bl) (fun k u zs => [rowE 4 1 u zs.length (zs.flatMap blC)]) (fun k u zs => [(0, v), (2, .slice none 0 0), (3, u), (8, .bool false), (9, v), (10, .int .i64 (xs.length : Int)), (11, .int .i64 (k : Int))]) (fun k u zs => k ≤ xs.length ∧ zs = naL xs k) (fun k u zs => xs.length - k) 0 _ [] ⟨by omega, rfl⟩ (sx 0 rfl (sx 2 rfl (sx 3 rfl (sx 8 rfl (sx 9 rfl (sx 10 rfl (sx 11 rfl (sub_nil _)))))))) ((.cons_cons _ .slnil)) ?_
 intro k u zs hi3
 obtain ⟨hk, hz⟩ := hi3
 have hzl : zs.length = k := by rw [hz]; exact naL_len hk
 refine hc_seq ?_
 refine hc_region ?_
 refine hl_lss rfl rfl rfl rfl rfl rfl (fun h4 => ?_) (fun h4 => ?_)
 ·
  refine hl_less (sx 0 rfl (sx 2 rfl (sx 3 rfl (sx 8 rfl (sx 9 rfl (sx 10 rfl (sx 11 rfl (sx 12 rfl (sub_nil _))))))))) (.refl _) ?_
  refine hl_nil ?_
  refine hq_then ?_
  refine hc_seq ?_
  refine hc_true rfl ?_
  refine hc_skip ?_
  refine hq_then ?_
  refine hc_seq ?_
  refine hc_block ?_
  refine hc_seq ?_
  refine hc_region ?_
  refine hl_v rfl rfl rfl (rv_index (s := 1) rfl Try.underlying26 (by kernel_rfl) rfl rfl (rd_old hv) (by omega) (by first | omega | (simp only [List.length_set]; omega))) ?_
  refine hl_v rfl rfl rfl (rv_loadEl (u := .int .i64 (xs.getD k 0)) rfl (by kernel_rfl) rfl (rd_old hv) (ints_at1 (show _ < xs.length by first | omega | (simp only [List.length_set]; omega)))) ?_
  refine hl_v rfl rfl rfl (rv_ev rfl) ?_
  refine hl_less (sx 0 rfl (sx 2 rfl (sx 3 rfl (sx 5 rfl (sx 8 rfl (sx 9 rfl (sx 10 rfl (sx 11 rfl (sx 12 rfl (sub_nil _)))))))))) (.refl _) ?_
  refine hl_nil ?_
  refine hq_then ?_
  refine hc_region ?_
  refine hl_v rfl rfl rfl (rv_ev rfl) ?_
  refine hl_v rfl rfl rfl (rv_ev rfl) ?_
  refine hl_eql rfl rfl rfl rfl rfl rfl (fun h5 => ?_) (fun h5 => ?_)
  ·
   refine hl_row rfl rfl rfl (rq_buildSlice (z := .bool false) (s := 1) (cs := [.bool true]) rfl Try.underlying45 (by kernel_rfl) (by decide) rfl (by kernel_rfl) rfl) ?_
   intro g6
   refine hl_append (i := 1) (z := .bool false) (bytes := 1) (n' := (zs ++ [(Bl.mk true)]).length) (xs' := ((zs ++ [(Bl.mk true)]).flatMap blC)) (L := fun v7 => [rowE 4 1 (.slice (some ⟨g6, 0, none⟩) 1 1) 1 ([.bool true]), rowE 4 1 v7 ((zs ++ [(Bl.mk true)]).length) ((zs ++ [(Bl.mk true)]).flatMap blC)]) rfl rfl rfl rfl Try.underlying45 (by kernel_rfl) (by kernel_rfl) rfl rfl rfl (rd_row 0 rfl) (by simp [Value.oneCell']) (by first | omega | (simp only [List.length_append, List.length_cons, List.length_nil]; omega)) (len_app zs [(Bl.mk true)]) (flat_app1 blC zs (Bl.mk true) _ rfl) (fun _ => rfl) ?_
   intro v7
   refine hl_v rfl rfl rfl (rv_ev rfl) ?_
   refine hl_less (sx 0 rfl (sx 2 rfl (sx 3 rfl (sx 5 rfl (sx 8 rfl (sx 9 rfl (sx 10 rfl (sx 11 rfl (sx 12 rfl (sub_nil _)))))))))) (.refl _) ?_
   refine hl_nil ?_
   refine hq_block_normal ?_
   refine hq_then ?_
   refine hc_region ?_
   refine hl_v rfl rfl rfl (rv_add rfl rfl rfl (by constructor <;> omega)) ?_
   refine hl_v rfl rfl rfl (rv_ev rfl) ?_
   refine hl_less (sx 0 rfl (sx 2 rfl (sx 3 rfl (sx 5 rfl (sx 8 rfl (sx 9 rfl (sx 10 rfl (sx 11 rfl (sx 12 rfl (sub_nil _)))))))))) (.refl _) ?_
   refine hl_nil ?_
   exact hq_round3 (k + 1) v7 (zs ++ [(Bl.mk true)]) ⟨by omega, by rw [hz]; exact naL_step (by omega) (by first | exact (decide_eq_true (by assumption)).symm | exact (decide_eq_false (by assumption)).symm)⟩ (by omega) (sx 0 rfl (sx 2 rfl (sx 3 rfl (sx 8 rfl (sx 9 rfl (sx 10 rfl (sx 11 rfl (sub_nil _)))))))) ((.cons _ (.cons_cons _ .slnil)))
  ·
   refine hl_row rfl rfl rfl (rq_buildSlice (z := .bool false) (s := 1) (cs := [.bool false]) rfl Try.underlying45 (by kernel_rfl) (by decide) rfl (by kernel_rfl) rfl) ?_
   intro g8
   refine hl_append (i := 1) (z := .bool false) (bytes := 1) (n' := (zs ++ [(Bl.mk false)]).length) (xs' := ((zs ++ [(Bl.mk false)]).flatMap blC)) (L := fun v9 => [rowE 4 1 (.slice (some ⟨g8, 0, none⟩) 1 1) 1 ([.bool false]), rowE 4 1 v9 ((zs ++ [(Bl.mk false)]).length) ((zs ++ [(Bl.mk false)]).flatMap blC)]) rfl rfl rfl rfl Try.underlying45 (by kernel_rfl) (by kernel_rfl) rfl rfl rfl (rd_row 0 rfl) (by simp [Value.oneCell']) (by first | omega | (simp only [List.length_append, List.length_cons, List.length_nil]; omega)) (len_app zs [(Bl.mk false)]) (flat_app1 blC zs (Bl.mk false) _ rfl) (fun _ => rfl) ?_
   intro v9
   refine hl_v rfl rfl rfl (rv_ev rfl) ?_
   refine hl_less (sx 0 rfl (sx 2 rfl (sx 3 rfl (sx 5 rfl (sx 8 rfl (sx 9 rfl (sx 10 rfl (sx 11 rfl (sx 12 rfl (sub_nil _)))))))))) (.refl _) ?_
   refine hl_nil ?_
   refine hq_block_normal ?_
   refine hq_then ?_
   refine hc_region ?_
   refine hl_v rfl rfl rfl (rv_add rfl rfl rfl (by constructor <;> omega)) ?_
   refine hl_v rfl rfl rfl (rv_ev rfl) ?_
   refine hl_less (sx 0 rfl (sx 2 rfl (sx 3 rfl (sx 5 rfl (sx 8 rfl (sx 9 rfl (sx 10 rfl (sx 11 rfl (sx 12 rfl (sub_nil _)))))))))) (.refl _) ?_
   refine hl_nil ?_
   exact hq_round3 (k + 1) v9 (zs ++ [(Bl.mk false)]) ⟨by omega, by rw [hz]; exact naL_step (by omega) (by first | exact (decide_eq_true (by assumption)).symm | exact (decide_eq_false (by assumption)).symm)⟩ (by omega) (sx 0 rfl (sx 2 rfl (sx 3 rfl (sx 8 rfl (sx 9 rfl (sx 10 rfl (sx 11 rfl (sub_nil _)))))))) ((.cons _ (.cons_cons _ .slnil)))
 ·
  refine hl_less (sx 0 rfl (sx 2 rfl (sx 3 rfl (sx 8 rfl (sx 9 rfl (sx 10 rfl (sx 11 rfl (sx 12 rfl (sub_nil _))))))))) (.refl _) ?_
  refine hl_nil ?_
  refine hq_then ?_
  refine hc_seq ?_
  refine hc_false rfl ?_
  refine hc_exit ?_
  refine hq_then_exit ?_
  refine hq_then_exit ?_
  refine hq_block_exit ?_
  refine hq_then ?_
  refine hc_seq ?_
  refine hc_region ?_
  refine hl_v rfl rfl rfl (rv_ev rfl) ?_
  refine hl_v rfl rfl rfl (rv_ev rfl) ?_
  refine hl_less (sx 0 rfl (sx 2 rfl (sx 3 rfl (sx 8 rfl (sx 9 rfl (sx 10 rfl (sx 11 rfl (sx 12 rfl (sub_nil _))))))))) (.refl _) ?_
  refine hl_nil ?_
  refine hq_then ?_
  refine hc_ret ?_
  exact hq_retR (post := [rowE 4 1 u zs.length (zs.flatMap blC)]) rfl rfl ((.cons_cons _ .slnil)) (by rw [hz, show k = xs.length by omega])
def insI : List Int → Int → List Int
  | [], x => [x]
  | y :: ys, x => if y < x then y :: insI ys x else if y = x then y :: ys else x :: y :: ys
theorem insI_mem (xs : List Int) (x y : Int) : y ∈ insI xs x ↔ y = x ∨ y ∈ xs := by
  induction xs with
  | nil => simp [insI]
  | cons z zs ih =>
    simp only [insI]
    split
    · rw [List.mem_cons, ih, List.mem_cons]
      constructor
      · rintro (h | h | h)
        · exact .inr (.inl h)
        · exact .inl h
        · exact .inr (.inr h)
      · rintro (h | h | h)
        · exact .inr (.inl h)
        · exact .inl h
        · exact .inr (.inr h)
    · split
      · rename_i h; subst h; simp
      · simp
theorem insI_sorted (xs : List Int) (x : Int) (h : xs.Pairwise (· < ·)) : (insI xs x).Pairwise (· < ·) := by
  induction xs with
  | nil => simp [insI]
  | cons z zs ih =>
    rw [List.pairwise_cons] at h
    simp only [insI]
    split
    · rw [List.pairwise_cons]
      refine ⟨fun y hy => ?_, ih h.2⟩
      rcases (insI_mem _ _ _).1 hy with rfl | hy
      · assumption
      · exact h.1 y hy
    · split
      · exact List.pairwise_cons.2 h
      · rw [List.pairwise_cons]
        refine ⟨fun y hy => ?_, List.pairwise_cons.2 h⟩
        rcases List.mem_cons.1 hy with rfl | hy
        · omega
        · have := h.1 y hy; omega
/-- v holds the values of the nodes of n -/
structure AndV (n : Nt) (v : List Int) : Prop where
  b01 : B01 v
  len : (v.length : Int) = n.cnt
  at_ : ∀ k, k < n.gs.length → v.getD (n.fst + k).toNat 0 = bitL v (n.gs.getD k an0).a * bitL v (n.gs.getD k an0).b
theorem vals_and {n : Nt} (h : NtOk n) {st : List Int} (hs : st.length = n.ss.length) (inp : Int) : AndV n (valsL n st inp) := by
  have hl := val_len n st inp n.gs.length (Nat.le_refl _)
  have hi := h.i0
  exact ⟨val01 h hs inp _ (Nat.le_refl _), by show ((valL n st inp n.gs.length).length : Int) = _; unfold Nt.cnt; omega, fun k hk => val_at h hs inp hk⟩
def wS : List Int → Nat
  | [] => 0
  | x :: xs => 3 ^ (x / 2).toNat + wS xs
theorem wS_app : ∀ (xs ys : List Int), wS (xs ++ ys) = wS xs + wS ys
  | [], ys => by simp [wS]
  | x :: xs, ys => by rw [List.cons_append, wS, wS, wS_app xs ys]; omega
theorem wS_ins : ∀ (xs : List Int) (x : Int), wS (insI xs x) ≤ wS xs + 3 ^ (x / 2).toNat
  | [], x => by simp [insI, wS]
  | y :: ys, x => by
    have := wS_ins ys x
    simp only [insI]
    split
    · simp only [wS]
      generalize 3 ^ (x / 2).toNat = p at *
      omega
    · split
      · simp only [wS]
        exact Nat.le_add_right _ _
      · simp only [wS]
        generalize 3 ^ (x / 2).toNat = p at *
        generalize 3 ^ (y / 2).toNat = q at *
        omega
theorem sorted_len : ∀ {xs : List Int} {lo hi : Int}, xs.Pairwise (· < ·) → (∀ x ∈ xs, lo ≤ x ∧ x < hi) → xs.length ≤ (hi - lo).toNat
  | [], lo, hi, _, _ => Nat.zero_le _
  | a :: t, lo, hi, h, hr => by
    rw [List.pairwise_cons] at h
    have ha := hr a List.mem_cons_self
    have := sorted_len (lo := a + 1) (hi := hi) h.2 (fun x hx => by have := h.1 x hx; have := hr x (List.mem_cons_of_mem _ hx); omega)
    rw [List.length_cons]; omega
theorem pow3_lt {a b k : Nat} (ha : a < k) (hb : b < k) : 3 ^ a + 3 ^ b < 3 ^ k := by
  obtain ⟨m, rfl⟩ : ∃ m, k = m + 1 := ⟨k - 1, by omega⟩
  have h1 : 3 ^ a ≤ 3 ^ m := Nat.pow_le_pow_right (by omega) (by omega)
  have h2 : 3 ^ b ≤ 3 ^ m := Nat.pow_le_pow_right (by omega) (by omega)
  have h3 : 0 < 3 ^ m := Nat.pow_pos (by omega)
  rw [Nat.pow_succ]; omega
structure CjInv (n : Nt) (node : Int) (xs : List Int) : Prop where
  srt : xs.Pairwise (· < ·)
  ne : 1 ≤ xs.length
  rng : ∀ x ∈ xs, 0 ≤ x ∧ x < 2 * n.cnt
  sem : ∀ v, AndV n v → ((∀ x ∈ xs, bitL v x = 1) ↔ v.getD node.toNat 0 = 1)
theorem CjInv.len {n : Nt} {node : Int} {xs : List Int} (h : CjInv n node xs) (hn : NtOk n) : xs.length ≤ 666 := by
  have := sorted_len h.srt (lo := 0) (hi := 2 * n.cnt) h.rng
  have h1 := hn.i1
  have h2 := hn.s1
  have h3 := hn.a1
  unfold Nt.cnt at this
  omega
theorem mul1 {a b : Int} (ha : a = 0 ∨ a = 1) (hb : b = 0 ∨ b = 1) : a * b = 1 ↔ a = 1 ∧ b = 1 := by
  rcases ha with e | e <;> rcases hb with e' | e' <;> rw [e, e'] <;> decide
theorem and_bits {n : Nt} (hn : NtOk n) {v : List Int} (hv : AndV n v) {k : Nat} (hk : k < n.gs.length) : (v.getD (n.fst + k).toNat 0 = 1 ↔ bitL v (n.gs.getD k an0).a = 1 ∧ bitL v (n.gs.getD k an0).b = 1) := by
  have ha := hn.an k hk
  unfold LtOk at ha
  have hl := hv.len
  have hc : n.cnt = n.fst + n.gs.length := by unfold Nt.cnt Nt.fst; omega
  rw [hv.at_ k hk]
  exact mul1 (bit01 hv.b01 ha.1.1 (by omega)) (bit01 hv.b01 ha.2.1 (by omega))
theorem split_at {xs : List Int} {j : Nat} (h : j < xs.length) : xs = xs.take j ++ [xs.getD j 0] ++ xs.drop (j + 1) := by
  rw [← take_snocG 0 h, List.take_append_drop]
theorem CjInv.step {n : Nt} (hn : NtOk n) {node : Int} {xs : List Int} (h : CjInv n node xs) {j : Nat} {l : Int} (hj : j < xs.length) (hl : xs.getD j 0 = l) (he : l % 2 = 0) (h0 : n.fst ≤ l / 2) (h1 : l / 2 < n.cnt) :
    CjInv n node (insI (insI (xs.take j ++ xs.drop (j + 1)) (n.gs.getD (l / 2 - n.fst).toNat an0).a) (n.gs.getD (l / 2 - n.fst).toNat an0).b) ∧ wS (insI (insI (xs.take j ++ xs.drop (j + 1)) (n.gs.getD (l / 2 - n.fst).toNat an0).a) (n.gs.getD (l / 2 - n.fst).toNat an0).b) < wS xs := by
  have hc : n.cnt = n.fst + n.gs.length := by unfold Nt.cnt Nt.fst; omega
  have hf : 0 ≤ n.fst := by have := hn.i0; unfold Nt.fst; omega
  have hk : (l / 2 - n.fst).toNat < n.gs.length := by omega
  have ha := hn.an _ hk
  unfold LtOk at ha
  have hsp := split_at hj
  rw [hl] at hsp
  have hmem : ∀ x, x ∈ xs ↔ x = l ∨ x ∈ xs.take j ++ xs.drop (j + 1) := fun x => by
    conv => lhs; rw [hsp]
    simp only [List.mem_append, List.mem_singleton]
    constructor
    · rintro ((h | h) | h)
      · exact .inr (.inl h)
      · exact .inl h
      · exact .inr (.inr h)
    · rintro (h | h | h)
      · exact .inl (.inr h)
      · exact .inl (.inl h)
      · exact .inr h
  have hsub : (xs.take j ++ xs.drop (j + 1)).Sublist xs := by
    conv => rhs; rw [hsp]
    exact (List.sublist_append_left _ _).append (List.Sublist.refl _)
  generalize hA : (n.gs.getD (l / 2 - n.fst).toNat an0).a = a at *
  generalize hB : (n.gs.getD (l / 2 - n.fst).toNat an0).b = b at *
  refine ⟨⟨insI_sorted _ _ (insI_sorted _ _ (h.srt.sublist hsub)), List.length_pos_of_mem ((insI_mem _ _ b).2 (.inl rfl)), fun x hx => ?_, fun v hv => ?_⟩, ?_⟩
  · rcases (insI_mem _ _ _).1 hx with rfl | hx
    · omega
    · rcases (insI_mem _ _ _).1 hx with rfl | hx
      · omega
      · exact h.rng x (hsub.subset hx)
  · rw [← h.sem v hv]
    have hb := and_bits hn hv hk
    rw [show (n.fst + ((l / 2 - n.fst).toNat : Nat)).toNat = (l / 2).toNat by omega, hA, hB] at hb
    have hbl : bitL v l = v.getD (l / 2).toNat 0 := by unfold bitL; rw [if_pos he]
    constructor
    · intro hx x hxm
      rcases (hmem x).1 hxm with rfl | hxm
      · rw [hbl, hb]; exact ⟨hx _ ((insI_mem _ _ _).2 (.inr ((insI_mem _ _ _).2 (.inl rfl)))), hx _ ((insI_mem _ _ _).2 (.inl rfl))⟩
      · exact hx x ((insI_mem _ _ _).2 (.inr ((insI_mem _ _ _).2 (.inr hxm))))
    · intro hx x hxm
      have hl1 := hx l ((hmem l).2 (.inl rfl))
      rw [hbl, hb] at hl1
      rcases (insI_mem _ _ _).1 hxm with rfl | hxm
      · exact hl1.2
      · rcases (insI_mem _ _ _).1 hxm with rfl | hxm
        · exact hl1.1
        · exact hx x ((hmem x).2 (.inr hxm))
  · have e : wS xs = wS (xs.take j ++ xs.drop (j + 1)) + 3 ^ (l / 2).toNat := by
      conv => lhs; rw [hsp]
      rw [wS_app, wS_app, wS_app]; simp only [wS]; omega
    have i1 := wS_ins (insI (xs.take j ++ xs.drop (j + 1)) a) b
    have i2 := wS_ins (xs.take j ++ xs.drop (j + 1)) a
    have i3 := pow3_lt (a := (a / 2).toNat) (b := (b / 2).toNat) (k := (l / 2).toNat) (by omega) (by omega)
    omega
def clK (n : Nt) (k : Int) : List (List Int) := [[-(k + 1), lvI (ndA n k)], [-(k + 1), lvI (ndB n k)], [k + 1, -lvI (ndA n k), -lvI (ndB n k)]]
def ncL (n : Nt) (xs : List Int) (i : Nat) : List (List Int) := [[-1]] ++ ((xs.take i).filter (isAndB n)).flatMap (clK n)
theorem ncL_yes {n : Nt} {xs : List Int} {i : Nat} (hi : i < xs.length) (h : isAndB n (xs.getD i 0) = true) : ncL n xs i ++ clK n (xs.getD i 0) = ncL n xs (i + 1) := by
  unfold ncL; rw [take_snocG 0 hi, List.filter_append, List.flatMap_append, List.append_assoc, List.filter_cons_of_pos h]; simp
theorem ncL_no {n : Nt} {xs : List Int} {i : Nat} (hi : i < xs.length) (h : isAndB n (xs.getD i 0) = false) : ncL n xs i = ncL n xs (i + 1) := by
  unfold ncL; rw [take_snocG 0 hi, List.filter_append, List.flatMap_append, List.filter_cons_of_neg (by rw [h]; decide)]; simp
theorem ncL_len (n : Nt) (xs : List Int) : ∀ i, i ≤ xs.length → (ncL n xs i).length ≤ 1 + 3 * i
  | 0, _ => by simp [ncL]
  | i + 1, h => by
    have ih := ncL_len n xs i (by omega)
    cases hb : isAndB n (xs.getD i 0) with
    | true => rw [← ncL_yes (by omega) hb, List.length_append]; simp [clK]; omega
    | false => rw [← ncL_no (by omega) hb]; omega
theorem lv_ok {l m : Int} (h0 : 0 ≤ l) (h1 : l < 2 * m) : lvI l ≠ 0 ∧ -m ≤ lvI l ∧ lvI l ≤ m ∧ -m ≤ -lvI l ∧ -lvI l ≤ m := by unfold lvI; split <;> omega
theorem litok_of {m : Int} {c : List Int} (hl : c.length ≤ 3) (h : ∀ x ∈ c, x ≠ 0 ∧ -m ≤ x ∧ x ≤ m) : LitOk m c := ⟨by omega, fun i hi => h _ (getD_memX hi)⟩
theorem clK_ok {n : Nt} (hn : NtOk n) {k : Int} (h : isAndB n k = true) : ∀ c ∈ clK n k, LitOk n.cnt c := by
  obtain ⟨k0, k1⟩ := isAnd_iff.1 h
  obtain ⟨o1, o2, o3, o4, o5, o6⟩ := nd_ok hn k0 k1
  have ha := lv_ok o3 (show ndA n k < 2 * n.cnt by omega)
  have hb := lv_ok o5 (show ndB n k < 2 * n.cnt by omega)
  intro c hc
  simp only [clK, List.mem_cons, List.not_mem_nil, or_false] at hc
  rcases hc with rfl | rfl | rfl
  · refine litok_of (by simp) (fun x hx => ?_)
    simp only [List.mem_cons, List.not_mem_nil, or_false] at hx
    rcases hx with rfl | rfl <;> omega
  · refine litok_of (by simp) (fun x hx => ?_)
    simp only [List.mem_cons, List.not_mem_nil, or_false] at hx
    rcases hx with rfl | rfl <;> omega
  · refine litok_of (by simp) (fun x hx => ?_)
    simp only [List.mem_cons, List.not_mem_nil, or_false] at hx
    rcases hx with rfl | rfl | rfl <;> omega
theorem ncL_ok {n : Nt} (hn : NtOk n) {xs : List Int} {i : Nat} {l : Int} (h0 : 0 ≤ l) (h1 : l < 2 * n.cnt) : ∀ c ∈ ncL n xs i ++ [[lvI l]], LitOk n.cnt c := fun c hc => by
  have hc1 : 1 ≤ n.cnt := by omega
  rcases List.mem_append.1 hc with hc | hc
  · unfold ncL at hc
    rcases List.mem_append.1 hc with hc | hc
    · rw [List.mem_singleton] at hc; subst hc
      exact litok_of (by simp) (fun x hx => by rw [List.mem_singleton] at hx; subst hx; omega)
    · obtain ⟨k, hk, hc⟩ := List.mem_flatMap.1 hc
      exact clK_ok hn (List.mem_filter.1 hk).2 c hc
  · rw [List.mem_singleton] at hc; subst hc
    have := lv_ok h0 h1
    exact litok_of (by simp) (fun x hx => by rw [List.mem_singleton] at hx; subst hx; omega)
structure NcOk (n : Nt) (l : Int) (rs : List CRow) (xs : List Int) : Prop where
  cone : ConeOk n (l / 2) xs
  rs : rs.map CRow.xs = ncL n xs xs.length ++ [[lvI l]]
theorem NcOk.cl {n : Nt} (hn : NtOk n) {l : Int} {rs : List CRow} {xs : List Int} (h : NcOk n l rs xs) (h0 : 0 ≤ l) (h1 : l < 2 * n.cnt) : ClOk n.cnt rs := by
  have hl := congrArg List.length h.rs
  have hx := ncL_len n xs xs.length (Nat.le_refl _)
  have hc := h.cone.len
  have hcn : n.cnt ≤ 333 := by have := hn.i1; have := hn.s1; have := hn.a1; unfold Nt.cnt; omega
  rw [List.length_map, List.length_append, List.length_singleton] at hl
  refine ⟨by omega, by omega, by omega, fun k hk => ?_⟩
  have hm : (rs.getD k crow0).xs ∈ rs.map CRow.xs := List.mem_map.2 ⟨_, getD_memX hk, rfl⟩
  rw [h.rs] at hm
  exact ncL_ok hn h0 h1 _ hm
theorem cnfB_map (bs : List Bl) (rs : List CRow) : cnfB bs rs = (rs.map CRow.xs).all (clB bs) := by unfold cnfB; rw [List.all_map]; rfl
theorem litB_lv {v : List Int} (h : B01 v) {l : Int} (h0 : 0 ≤ l) (h1 : l < 2 * v.length) : litB (naL v v.length) (lvI l) = decide (bitL v l = 1) ∧ litB (naL v v.length) (-lvI l) = !decide (bitL v l = 1) := by
  have hk : (l / 2).toNat < v.length := by omega
  have hb := h (l / 2).toNat hk
  have ha := naL_at hk
  unfold lvI bitL litB
  by_cases e : l % 2 = 1
  · rw [if_pos e, if_neg (show ¬ l % 2 = 0 by omega), if_neg (show ¬ 0 < -(l / 2 + 1) by omega), if_pos (show 0 < - -(l / 2 + 1) by omega), show (- -(l / 2 + 1) - 1) = l / 2 by omega, ha]
    rcases hb with e2 | e2 <;> rw [e2] <;> decide
  · rw [if_neg e, if_pos (show l % 2 = 0 by omega), if_pos (show 0 < l / 2 + 1 by omega), if_neg (show ¬ 0 < -(l / 2 + 1) by omega), show (- -(l / 2 + 1) - 1) = l / 2 by omega, show (l / 2 + 1 - 1) = l / 2 by omega, ha]
    rcases hb with e2 | e2 <;> rw [e2] <;> decide
theorem litB_nd {v : List Int} (h : B01 v) {k : Int} (h0 : 0 ≤ k) (h1 : k < v.length) : litB (naL v v.length) (k + 1) = decide (v.getD k.toNat 0 = 1) ∧ litB (naL v v.length) (-(k + 1)) = !decide (v.getD k.toNat 0 = 1) := by
  have h2 := litB_lv h (l := 2 * k) (by omega) (by omega)
  have e : lvI (2 * k) = k + 1 := by unfold lvI; rw [if_neg (by omega)]; omega
  have e2 : bitL v (2 * k) = v.getD k.toNat 0 := by unfold bitL; rw [if_pos (by omega), show 2 * k / 2 = k by omega]
  rw [e, e2] at h2
  exact h2
theorem clK_true {n : Nt} (hn : NtOk n) {v : List Int} (hv : AndV n v) {k : Int} (h : isAndB n k = true) : (clK n k).all (clB (naL v v.length)) = true := by
  obtain ⟨k0, k1⟩ := isAnd_iff.1 h
  obtain ⟨o1, o2, o3, o4, o5, o6⟩ := nd_ok hn k0 k1
  have hl := hv.len
  have ha := litB_lv hv.b01 o3 (by omega)
  have hb := litB_lv hv.b01 o5 (by omega)
  have hk := litB_nd hv.b01 (k := k) (by omega) (by omega)
  have hat := hv.at_ (k - n.fst).toNat o1
  rw [show (n.fst + ((k - n.fst).toNat : Nat)).toNat = k.toNat by omega] at hat
  have b1 := bit01 hv.b01 o3 (show ndA n k < 2 * v.length by omega)
  have b2 := bit01 hv.b01 o5 (show ndB n k < 2 * v.length by omega)
  have hat2 : v.getD k.toNat 0 = bitL v (ndA n k) * bitL v (ndB n k) := hat
  unfold clK
  simp only [List.all_cons, List.all_nil, Bool.and_true]
  unfold clB
  simp only [List.any_cons, List.any_nil, Bool.or_false]
  rw [ha.1, ha.2, hb.1, hb.2, hk.1, hk.2, hat2]
  rcases b1 with e | e <;> rcases b2 with e' | e' <;> rw [e, e'] <;> decide
theorem nc_true {n : Nt} (hn : NtOk n) {v : List Int} (hv : AndV n v) (hz : v.getD 0 0 = 0) {l : Int} {rs : List CRow} {xs : List Int} (h : NcOk n l rs xs) (h0 : 0 ≤ l) (h1 : l < 2 * n.cnt) : cnfB (naL v v.length) rs = decide (bitL v l = 1) := by
  have hl := hv.len
  have hb := litB_lv hv.b01 h0 (by omega)
  have hk := litB_nd hv.b01 (k := 0) (by omega) (by omega)
  rw [cnfB_map, h.rs, List.all_append]
  have e1 : (ncL n xs xs.length).all (clB (naL v v.length)) = true := by
    unfold ncL
    rw [List.all_append, Bool.and_eq_true]
    refine ⟨?_, ?_⟩
    · simp only [List.all_cons, List.all_nil, Bool.and_true]
      unfold clB
      simp only [List.any_cons, List.any_nil, Bool.or_false]
      have := hk.2
      rw [show (-(0 + 1) : Int) = -1 by decide] at this
      rw [this]
      show (!decide (v.getD 0 0 = 1)) = true
      rw [hz]; decide
    · rw [List.all_eq_true]
      intro c hc
      obtain ⟨k, hk2, hc⟩ := List.mem_flatMap.1 hc
      exact List.all_eq_true.1 (clK_true hn hv (List.mem_filter.1 hk2).2) c hc
  rw [e1, Bool.true_and]
  simp only [List.all_cons, List.all_nil, Bool.and_true]
  unfold clB
  simp only [List.any_cons, List.any_nil, Bool.or_false]
  exact hb.1
theorem conv_snoc3 {w0 : World} {ps l : List HP} {p q r : HP} : Conv w0 (bigE ps :: p :: q :: r :: l) (bigE (ps ++ [p, q, r]) :: l) := fun w hm => by
  have h1 : Mem w0 (ps ++ (p :: q :: r :: l)) w := hm.unbig
  have h2 : Mem w0 ((ps ++ [p, q, r]) ++ l) w := by simpa using h1
  exact h2.big
set_option maxHeartbeats 4000000 in
set_option maxRecDepth 100000 in
theorem implClauseTrue_ans (n : Int) (xs : List Int) (bs : List Bl) (v bv : Value) (w : World) (hv : RdsW w v 1 xs.length (xs.map (Value.int .i64))) (hbv : RdsW w bv 1 bs.length (bs.flatMap blC)) (hx : LitOk n xs) (hbl : (bs.length : Int) = n) (hn : n ≤ 400) :
  Calls Try.prog 88 #[v, bv] w (Ans w (.bool (clB bs xs))) := by
 have hxl := hx.1
 refine calls_hc (N := 49) (args := [v, bv]) Try.func88 rfl rfl ?_
 refine hc_less _ (sx 0 rfl (sx 1 rfl (sub_nil _))) (.refl _) ?_
 refine hc_seq ?_
 refine hc_region ?_
 refine hl_v rfl rfl rfl (rv_ev rfl) ?_
 refine hl_less (sx 0 rfl (sx 1 rfl (sx 4 rfl (sub_nil _)))) (.refl _) ?_
 refine hl_nil ?_
 refine hq_then ?_
 refine hc_seq ?_
 refine hc_seq ?_
 refine hc_region ?_
 refine hl_v rfl rfl rfl (rv_ev rfl) ?_
 refine hl_v rfl rfl rfl (rv_len rfl Try.underlying26 rfl (rd_old hv)) ?_
 refine hl_v rfl rfl rfl (rv_ev rfl) ?_
 refine hl_less (sx 0 rfl (sx 1 rfl (sx 4 rfl (sx 7 rfl (sx 8 rfl (sx 9 rfl (sub_nil _))))))) (.refl _) ?_
 refine hl_nil ?_
 refine hq_then ?_
 refine hc_block ?_
 refine hc_loop1 (α := Nat) (fun k => []) (fun k => [(0, v), (1, bv), (4, .bool false), (7, v), (8, .int .i64 (xs.length : Int)), (9, .int .i64 (k : Int))]) (fun k => k ≤ xs.length ∧ ∀ i, i < k → litB bs (xs.getD i 0) = false) (fun k => xs.length - k) 0 ⟨by omega, fun i hi => absurd hi (by omega)⟩ (sx 0 rfl (sx 1 rfl (sx 4 rfl (sx 7 rfl (sx 8 rfl (sx 9 rfl (sub_nil _))))))) (.slnil) ?_
 intro k hi1
 obtain ⟨hk, hno⟩ := hi1
 refine hc_seq ?_
 refine hc_region ?_
 refine hl_lss rfl rfl rfl rfl rfl rfl (fun h2 => ?_) (fun h2 => ?_)
 ·
  refine hl_less (sx 0 rfl (sx 1 rfl (sx 4 rfl (sx 7 rfl (sx 8 rfl (sx 9 rfl (sx 10 rfl (sub_nil _)))))))) (.refl _) ?_
  refine hl_nil ?_
  refine hq_then ?_
  refine hc_seq ?_
  refine hc_true rfl ?_
  refine hc_skip ?_
  refine hq_then ?_
  refine hc_seq ?_
  refine hc_block ?_
  refine hc_seq ?_
  refine hc_region ?_
  refine hl_v rfl rfl rfl (rv_index (s := 1) rfl Try.underlying26 (by kernel_rfl) rfl rfl (rd_old hv) (by omega) (by first | omega | (simp only [List.length_set]; omega))) ?_
  refine hl_v rfl rfl rfl (rv_loadEl (u := .int .i64 (xs.getD k 0)) rfl (by kernel_rfl) rfl (rd_old hv) (ints_at1 (show _ < xs.length by first | omega | (simp only [List.length_set]; omega)))) ?_
  refine hl_v rfl rfl rfl (rv_ev rfl) ?_
  refine hl_less (sx 0 rfl (sx 1 rfl (sx 4 rfl (sx 6 rfl (sx 7 rfl (sx 8 rfl (sx 9 rfl (sx 10 rfl (sub_nil _))))))))) (.refl _) ?_
  refine hl_nil ?_
  refine hq_then ?_
  refine hc_seq ?_
  refine hc_region ?_
  have hxk := hx.2 k (by omega)
  refine hl_v rfl rfl rfl (rv_ev rfl) ?_
  refine hl_gtr rfl rfl rfl rfl rfl rfl (fun h3 => ?_) (fun h3 => ?_)
  ·
   refine hl_v rfl rfl rfl (rv_ev rfl) ?_
   refine hl_v rfl rfl rfl (rv_ev rfl) ?_
   refine hl_v rfl rfl rfl (rv_ev rfl) ?_
   refine hl_v rfl rfl rfl (rv_len rfl Try.underlying45 rfl (rd_old hbv)) ?_
   refine hl_leq rfl rfl rfl rfl rfl rfl (fun h4 => ?_) (fun h4 => ?_)
   ·
    refine hl_v rfl rfl rfl (rv_ev rfl) ?_
    refine hl_v rfl rfl rfl (rv_ev rfl) ?_
    refine hl_v rfl rfl rfl (rv_ev rfl) ?_
    refine hl_v rfl rfl rfl (rv_ev rfl) ?_
    refine hl_v rfl rfl rfl (rv_sub rfl rfl rfl (by constructor <;> omega)) ?_
    refine hl_v rfl rfl rfl (rv_index (s := 1) rfl Try.underlying45 (by kernel_rfl) rfl rfl (rd_old hbv) (by omega) (by first | omega | (simp only [List.length_set]; omega))) ?_
    refine hl_v rfl rfl rfl (rv_loadEl (u := .bool ((bs.getD (((xs.getD k 0) - 1).toNat) bl0).b)) rfl (by kernel_rfl) rfl (rd_old hbv) (flat_one blC (fun r => .bool r.b) (fun _ => rfl) bs bl0 (show ((xs.getD k 0) - 1).toNat < _ by first | omega | (simp only [List.length_set]; omega)))) ?_
    refine hl_bool (fun h5 => ?_) (fun h5 => ?_)
    ·
     refine hl_v rfl rfl rfl (rv_ev rfl) ?_
     refine hl_v rfl rfl rfl (rv_ev rfl) ?_
     refine hl_skip rfl rfl rfl ?_
     refine hl_skip rfl rfl rfl ?_
     refine hl_skip rfl rfl rfl ?_
     refine hl_skip rfl rfl rfl ?_
     refine hl_skip rfl rfl rfl ?_
     refine hl_skip rfl rfl rfl ?_
     refine hl_skip rfl rfl rfl ?_
     refine hl_skip rfl rfl rfl ?_
     refine hl_skip rfl rfl rfl ?_
     refine hl_skip rfl rfl rfl ?_
     refine hl_skip rfl rfl rfl ?_
     refine hl_skip rfl rfl rfl ?_
     refine hl_skip rfl rfl rfl ?_
     refine hl_skip rfl rfl rfl ?_
     refine hl_skip rfl rfl rfl ?_
     refine hl_skip rfl rfl rfl ?_
     refine hl_skip rfl rfl rfl ?_
     refine hl_skip rfl rfl rfl ?_
     refine hl_v rfl rfl rfl (rv_ev rfl) ?_
     refine hl_less (sx 0 rfl (sx 1 rfl (sx 4 rfl (sx 6 rfl (sx 7 rfl (sx 8 rfl (sx 9 rfl (sx 10 rfl (sx 47 rfl (sub_nil _)))))))))) (.refl _) ?_
     refine hl_nil ?_
     refine hq_then ?_
     refine hc_true rfl ?_
     refine hc_seq ?_
     refine hc_region ?_
     refine hl_v rfl rfl rfl (rv_ev rfl) ?_
     refine hl_less (sx 0 rfl (sx 1 rfl (sx 4 rfl (sx 6 rfl (sx 7 rfl (sx 8 rfl (sx 9 rfl (sx 10 rfl (sx 47 rfl (sub_nil _)))))))))) (.refl _) ?_
     refine hl_nil ?_
     refine hq_then ?_
     refine hc_ret ?_
     refine hq_block_ret ?_
     refine hq_then_ret ?_
     refine hq_then_ret ?_
     refine hq_block_ret ?_
     refine hq_then_ret ?_
     exact hq_ans rfl rfl (congrArg _ (List.any_eq_true.2 ⟨_, getD_mem' (es := xs) (i := k) (d := 0) (by omega), (by first | (exfalso; omega) | skip; unfold litB; first | (rw [if_pos (by omega)]; assumption) | (rw [if_neg (by omega), show (bs.getD (-(xs.getD k 0) - 1).toNat bl0).b = false by assumption]; rfl))⟩).symm)
    ·
     refine hl_v rfl rfl rfl (rv_ev rfl) ?_
     refine hl_v rfl rfl rfl (rv_ev rfl) ?_
     refine hl_v rfl rfl rfl (rv_ev rfl) ?_
     refine hl_lss rfl rfl rfl rfl rfl rfl (fun h6 => ?_) (fun h6 => ?_)
     ·
      refine hl_v rfl rfl rfl (rv_ev rfl) ?_
      refine hl_v rfl rfl rfl (rv_ev rfl) ?_
      refine hl_v rfl rfl rfl (rv_ev rfl) ?_
      refine hl_v rfl rfl rfl (rv_len rfl Try.underlying45 rfl (rd_old hbv)) ?_
      refine hl_v rfl rfl rfl (rv_neg rfl rfl (by omega) (by omega)) ?_
      refine hl_geq rfl rfl rfl rfl rfl rfl (fun h7 => ?_) (fun h7 => ?_)
      ·
       refine hl_v rfl rfl rfl (rv_ev rfl) ?_
       refine hl_v rfl rfl rfl (rv_ev rfl) ?_
       refine hl_v rfl rfl rfl (rv_ev rfl) ?_
       refine hl_v rfl rfl rfl (rv_ev rfl) ?_
       refine hl_v rfl rfl rfl (rv_neg rfl rfl (by omega) (by omega)) ?_
       refine hl_v rfl rfl rfl (rv_sub rfl rfl rfl (by constructor <;> omega)) ?_
       refine hl_v rfl rfl rfl (rv_index (s := 1) rfl Try.underlying45 (by kernel_rfl) rfl rfl (rd_old hbv) (by omega) (by first | omega | (simp only [List.length_set]; omega))) ?_
       refine hl_v rfl rfl rfl (rv_loadEl (u := .bool ((bs.getD (((-(xs.getD k 0)) - 1).toNat) bl0).b)) rfl (by kernel_rfl) rfl (rd_old hbv) (flat_one blC (fun r => .bool r.b) (fun _ => rfl) bs bl0 (show ((-(xs.getD k 0)) - 1).toNat < _ by first | omega | (simp only [List.length_set]; omega)))) ?_
       refine hl_bool (fun h8 => ?_) (fun h8 => ?_)
       ·
        refine hl_v rfl rfl rfl (rv_ev rfl) ?_
        refine hl_v rfl rfl rfl (rv_ev rfl) ?_
        refine hl_v rfl rfl rfl (rv_ev rfl) ?_
        refine hl_less (sx 0 rfl (sx 1 rfl (sx 4 rfl (sx 6 rfl (sx 7 rfl (sx 8 rfl (sx 9 rfl (sx 10 rfl (sx 47 rfl (sub_nil _)))))))))) (.refl _) ?_
        refine hl_nil ?_
        refine hq_then ?_
        refine hc_false rfl ?_
        refine hc_skip ?_
        refine hq_block_normal ?_
        refine hq_then ?_
        refine hc_region ?_
        refine hl_v rfl rfl rfl (rv_add rfl rfl rfl (by constructor <;> omega)) ?_
        refine hl_v rfl rfl rfl (rv_ev rfl) ?_
        refine hl_less (sx 0 rfl (sx 1 rfl (sx 4 rfl (sx 6 rfl (sx 7 rfl (sx 8 rfl (sx 9 rfl (sx 10 rfl (sx 47 rfl (sub_nil _)))))))))) (.refl _) ?_
        refine hl_nil ?_
        have hlk : litB bs (xs.getD k 0) = false := (by first | (exfalso; omega) | skip; unfold litB; first | (rw [if_pos (by omega)]; assumption) | (rw [if_neg (by omega), show (bs.getD (-(xs.getD k 0) - 1).toNat bl0).b = true by assumption]; rfl))
        exact hq_round1 (k + 1) ⟨by omega, fun i hi => by by_cases hik : i = k; (subst hik; exact hlk); exact hno i (by omega)⟩ (by omega) (sx 0 rfl (sx 1 rfl (sx 4 rfl (sx 7 rfl (sx 8 rfl (sx 9 rfl (sub_nil _))))))) (.slnil)
       ·
        refine hl_v rfl rfl rfl (rv_ev rfl) ?_
        refine hl_v rfl rfl rfl (rv_ev rfl) ?_
        refine hl_v rfl rfl rfl (rv_ev rfl) ?_
        refine hl_less (sx 0 rfl (sx 1 rfl (sx 4 rfl (sx 6 rfl (sx 7 rfl (sx 8 rfl (sx 9 rfl (sx 10 rfl (sx 47 rfl (sub_nil _)))))))))) (.refl _) ?_
        refine hl_nil ?_
        refine hq_then ?_
        refine hc_true rfl ?_
        refine hc_seq ?_
        refine hc_region ?_
        refine hl_v rfl rfl rfl (rv_ev rfl) ?_
        refine hl_less (sx 0 rfl (sx 1 rfl (sx 4 rfl (sx 6 rfl (sx 7 rfl (sx 8 rfl (sx 9 rfl (sx 10 rfl (sx 47 rfl (sub_nil _)))))))))) (.refl _) ?_
        refine hl_nil ?_
        refine hq_then ?_
        refine hc_ret ?_
        refine hq_block_ret ?_
        refine hq_then_ret ?_
        refine hq_then_ret ?_
        refine hq_block_ret ?_
        refine hq_then_ret ?_
        exact hq_ans rfl rfl (congrArg _ (List.any_eq_true.2 ⟨_, getD_mem' (es := xs) (i := k) (d := 0) (by omega), (by first | (exfalso; omega) | skip; unfold litB; first | (rw [if_pos (by omega)]; assumption) | (rw [if_neg (by omega), show (bs.getD (-(xs.getD k 0) - 1).toNat bl0).b = false by assumption]; rfl))⟩).symm)
      ·
       refine hl_v rfl rfl rfl (rv_ev rfl) ?_
       refine hl_v rfl rfl rfl (rv_ev rfl) ?_
       refine hl_skip rfl rfl rfl ?_
       refine hl_skip rfl rfl rfl ?_
       refine hl_skip rfl rfl rfl ?_
       refine hl_skip rfl rfl rfl ?_
       refine hl_skip rfl rfl rfl ?_
       refine hl_skip rfl rfl rfl ?_
       refine hl_skip rfl rfl rfl ?_
       refine hl_v rfl rfl rfl (rv_ev rfl) ?_
       refine hl_v rfl rfl rfl (rv_ev rfl) ?_
       refine hl_less (sx 0 rfl (sx 1 rfl (sx 4 rfl (sx 6 rfl (sx 7 rfl (sx 8 rfl (sx 9 rfl (sx 10 rfl (sx 47 rfl (sub_nil _)))))))))) (.refl _) ?_
       refine hl_nil ?_
       refine hq_then ?_
       refine hc_false rfl ?_
       refine hc_skip ?_
       refine hq_block_normal ?_
       refine hq_then ?_
       refine hc_region ?_
       refine hl_v rfl rfl rfl (rv_add rfl rfl rfl (by constructor <;> omega)) ?_
       refine hl_v rfl rfl rfl (rv_ev rfl) ?_
       refine hl_less (sx 0 rfl (sx 1 rfl (sx 4 rfl (sx 6 rfl (sx 7 rfl (sx 8 rfl (sx 9 rfl (sx 10 rfl (sx 47 rfl (sub_nil _)))))))))) (.refl _) ?_
       refine hl_nil ?_
       have hlk : litB bs (xs.getD k 0) = false := (by first | (exfalso; omega) | skip; unfold litB; first | (rw [if_pos (by omega)]; assumption) | (rw [if_neg (by omega), show (bs.getD (-(xs.getD k 0) - 1).toNat bl0).b = true by assumption]; rfl))
       exact hq_round1 (k + 1) ⟨by omega, fun i hi => by by_cases hik : i = k; (subst hik; exact hlk); exact hno i (by omega)⟩ (by omega) (sx 0 rfl (sx 1 rfl (sx 4 rfl (sx 7 rfl (sx 8 rfl (sx 9 rfl (sub_nil _))))))) (.slnil)
     ·
      refine hl_v rfl rfl rfl (rv_ev rfl) ?_
      refine hl_skip rfl rfl rfl ?_
      refine hl_skip rfl rfl rfl ?_
      refine hl_skip rfl rfl rfl ?_
      refine hl_skip rfl rfl rfl ?_
      refine hl_skip rfl rfl rfl ?_
      refine hl_v rfl rfl rfl (rv_ev rfl) ?_
      refine hl_v rfl rfl rfl (rv_ev rfl) ?_
      refine hl_skip rfl rfl rfl ?_
      refine hl_skip rfl rfl rfl ?_
      refine hl_skip rfl rfl rfl ?_
      refine hl_skip rfl rfl rfl ?_
      refine hl_skip rfl rfl rfl ?_
      refine hl_skip rfl rfl rfl ?_
      refine hl_skip rfl rfl rfl ?_
      refine hl_v rfl rfl rfl (rv_ev rfl) ?_
      refine hl_v rfl rfl rfl (rv_ev rfl) ?_
      refine hl_less (sx 0 rfl (sx 1 rfl (sx 4 rfl (sx 6 rfl (sx 7 rfl (sx 8 rfl (sx 9 rfl (sx 10 rfl (sx 47 rfl (sub_nil _)))))))))) (.refl _) ?_
      refine hl_nil ?_
      refine hq_then ?_
      refine hc_false rfl ?_
      refine hc_skip ?_
      refine hq_block_normal ?_
      refine hq_then ?_
      refine hc_region ?_
      refine hl_v rfl rfl rfl (rv_add rfl rfl rfl (by constructor <;> omega)) ?_
      refine hl_v rfl rfl rfl (rv_ev rfl) ?_
      refine hl_less (sx 0 rfl (sx 1 rfl (sx 4 rfl (sx 6 rfl (sx 7 rfl (sx 8 rfl (sx 9 rfl (sx 10 rfl (sx 47 rfl (sub_nil _)))))))))) (.refl _) ?_
      refine hl_nil ?_
      have hlk : litB bs (xs.getD k 0) = false := (by first | (exfalso; omega) | skip; unfold litB; first | (rw [if_pos (by omega)]; assumption) | (rw [if_neg (by omega), show (bs.getD (-(xs.getD k 0) - 1).toNat bl0).b = true by assumption]; rfl))
      exact hq_round1 (k + 1) ⟨by omega, fun i hi => by by_cases hik : i = k; (subst hik; exact hlk); exact hno i (by omega)⟩ (by omega) (sx 0 rfl (sx 1 rfl (sx 4 rfl (sx 7 rfl (sx 8 rfl (sx 9 rfl (sub_nil _))))))) (.slnil)
   ·
    refine hl_v rfl rfl rfl (rv_ev rfl) ?_
    refine hl_v rfl rfl rfl (rv_ev rfl) ?_
    refine hl_skip rfl rfl rfl ?_
    refine hl_skip rfl rfl rfl ?_
    refine hl_skip rfl rfl rfl ?_
    refine hl_skip rfl rfl rfl ?_
    refine hl_skip rfl rfl rfl ?_
    refine hl_v rfl rfl rfl (rv_ev rfl) ?_
    refine hl_v rfl rfl rfl (rv_ev rfl) ?_
    refine hl_v rfl rfl rfl (rv_ev rfl) ?_
    refine hl_lss rfl rfl rfl rfl rfl rfl (fun h9 => ?_) (fun h9 => ?_)
    ·
     refine hl_v rfl rfl rfl (rv_ev rfl) ?_
     refine hl_v rfl rfl rfl (rv_ev rfl) ?_
     refine hl_v rfl rfl rfl (rv_ev rfl) ?_
     refine hl_v rfl rfl rfl (rv_len rfl Try.underlying45 rfl (rd_old hbv)) ?_
     refine hl_v rfl rfl rfl (rv_neg rfl rfl (by omega) (by omega)) ?_
     refine hl_geq rfl rfl rfl rfl rfl rfl (fun h10 => ?_) (fun h10 => ?_)
     ·
      refine hl_v rfl rfl rfl (rv_ev rfl) ?_
      refine hl_v rfl rfl rfl (rv_ev rfl) ?_
      refine hl_v rfl rfl rfl (rv_ev rfl) ?_
      refine hl_v rfl rfl rfl (rv_ev rfl) ?_
      refine hl_v rfl rfl rfl (rv_neg rfl rfl (by omega) (by omega)) ?_
      refine hl_v rfl rfl rfl (rv_sub rfl rfl rfl (by constructor <;> omega)) ?_
      refine hl_v rfl rfl rfl (rv_index (s := 1) rfl Try.underlying45 (by kernel_rfl) rfl rfl (rd_old hbv) (by omega) (by first | omega | (simp only [List.length_set]; omega))) ?_
      refine hl_v rfl rfl rfl (rv_loadEl (u := .bool ((bs.getD (((-(xs.getD k 0)) - 1).toNat) bl0).b)) rfl (by kernel_rfl) rfl (rd_old hbv) (flat_one blC (fun r => .bool r.b) (fun _ => rfl) bs bl0 (show ((-(xs.getD k 0)) - 1).toNat < _ by first | omega | (simp only [List.length_set]; omega)))) ?_
      refine hl_bool (fun h11 => ?_) (fun h11 => ?_)
      ·
       refine hl_v rfl rfl rfl (rv_ev rfl) ?_
       refine hl_v rfl rfl rfl (rv_ev rfl) ?_
       refine hl_v rfl rfl rfl (rv_ev rfl) ?_
       refine hl_less (sx 0 rfl (sx 1 rfl (sx 4 rfl (sx 6 rfl (sx 7 rfl (sx 8 rfl (sx 9 rfl (sx 10 rfl (sx 47 rfl (sub_nil _)))))))))) (.refl _) ?_
       refine hl_nil ?_
       refine hq_then ?_
       refine hc_false rfl ?_
       refine hc_skip ?_
       refine hq_block_normal ?_
       refine hq_then ?_
       refine hc_region ?_
       refine hl_v rfl rfl rfl (rv_add rfl rfl rfl (by constructor <;> omega)) ?_
       refine hl_v rfl rfl rfl (rv_ev rfl) ?_
       refine hl_less (sx 0 rfl (sx 1 rfl (sx 4 rfl (sx 6 rfl (sx 7 rfl (sx 8 rfl (sx 9 rfl (sx 10 rfl (sx 47 rfl (sub_nil _)))))))))) (.refl _) ?_
       refine hl_nil ?_
       have hlk : litB bs (xs.getD k 0) = false := (by first | (exfalso; omega) | skip; unfold litB; first | (rw [if_pos (by omega)]; assumption) | (rw [if_neg (by omega), show (bs.getD (-(xs.getD k 0) - 1).toNat bl0).b = true by assumption]; rfl))
       exact hq_round1 (k + 1) ⟨by omega, fun i hi => by by_cases hik : i = k; (subst hik; exact hlk); exact hno i (by omega)⟩ (by omega) (sx 0 rfl (sx 1 rfl (sx 4 rfl (sx 7 rfl (sx 8 rfl (sx 9 rfl (sub_nil _))))))) (.slnil)
      ·
       refine hl_v rfl rfl rfl (rv_ev rfl) ?_
       refine hl_v rfl rfl rfl (rv_ev rfl) ?_
       refine hl_v rfl rfl rfl (rv_ev rfl) ?_
       refine hl_less (sx 0 rfl (sx 1 rfl (sx 4 rfl (sx 6 rfl (sx 7 rfl (sx 8 rfl (sx 9 rfl (sx 10 rfl (sx 47 rfl (sub_nil _)))))))))) (.refl _) ?_
       refine hl_nil ?_
       refine hq_then ?_
       refine hc_true rfl ?_
       refine hc_seq ?_
       refine hc_region ?_
       refine hl_v rfl rfl rfl (rv_ev rfl) ?_
       refine hl_less (sx 0 rfl (sx 1 rfl (sx 4 rfl (sx 6 rfl (sx 7 rfl (sx 8 rfl (sx 9 rfl (sx 10 rfl (sx 47 rfl (sub_nil _)))))))))) (.refl _) ?_
       refine hl_nil ?_
       refine hq_then ?_
       refine hc_ret ?_
       refine hq_block_ret ?_
       refine hq_then_ret ?_
       refine hq_then_ret ?_
       refine hq_block_ret ?_
       refine hq_then_ret ?_
       exact hq_ans rfl rfl (congrArg _ (List.any_eq_true.2 ⟨_, getD_mem' (es := xs) (i := k) (d := 0) (by omega), (by first | (exfalso; omega) | skip; unfold litB; first | (rw [if_pos (by omega)]; assumption) | (rw [if_neg (by omega), show (bs.getD (-(xs.getD k 0) - 1).toNat bl0).b = false by assumption]; rfl))⟩).symm)
     ·
      refine hl_v rfl rfl rfl (rv_ev rfl) ?_
      refine hl_v rfl rfl rfl (rv_ev rfl) ?_
      refine hl_skip rfl rfl rfl ?_
      refine hl_skip rfl rfl rfl ?_
      refine hl_skip rfl rfl rfl ?_
      refine hl_skip rfl rfl rfl ?_
      refine hl_skip rfl rfl rfl ?_
      refine hl_skip rfl rfl rfl ?_
      refine hl_skip rfl rfl rfl ?_
      refine hl_v rfl rfl rfl (rv_ev rfl) ?_
      refine hl_v rfl rfl rfl (rv_ev rfl) ?_
      refine hl_less (sx 0 rfl (sx 1 rfl (sx 4 rfl (sx 6 rfl (sx 7 rfl (sx 8 rfl (sx 9 rfl (sx 10 rfl (sx 47 rfl (sub_nil _)))))))))) (.refl _) ?_
      refine hl_nil ?_
      refine hq_then ?_
      refine hc_false rfl ?_
      refine hc_skip ?_
      refine hq_block_normal ?_
      refine hq_then ?_
      refine hc_region ?_
      refine hl_v rfl rfl rfl (rv_add rfl rfl rfl (by constructor <;> omega)) ?_
      refine hl_v rfl rfl rfl (rv_ev rfl) ?_
      refine hl_less (sx 0 rfl (sx 1 rfl (sx 4 rfl (sx 6 rfl (sx 7 rfl (sx 8 rfl (sx 9 rfl (sx 10 rfl (sx 47 rfl (sub_nil _)))))))))) (.refl _) ?_
      refine hl_nil ?_
      have hlk : litB bs (xs.getD k 0) = false := (by first | (exfalso; omega) | skip; unfold litB; first | (rw [if_pos (by omega)]; assumption) | (rw [if_neg (by omega), show (bs.getD (-(xs.getD k 0) - 1).toNat bl0).b = true by assumption]; rfl))
      exact hq_round1 (k + 1) ⟨by omega, fun i hi => by by_cases hik : i = k; (subst hik; exact hlk); exact hno i (by omega)⟩ (by omega) (sx 0 rfl (sx 1 rfl (sx 4 rfl (sx 7 rfl (sx 8 rfl (sx 9 rfl (sub_nil _))))))) (.slnil)
    ·
     refine hl_v rfl rfl rfl (rv_ev rfl) ?_
     refine hl_skip rfl rfl rfl ?_
     refine hl_skip rfl rfl rfl ?_
     refine hl_skip rfl rfl rfl ?_
     refine hl_skip rfl rfl rfl ?_
     refine hl_skip rfl rfl rfl ?_
     refine hl_v rfl rfl rfl (rv_ev rfl) ?_
     refine hl_v rfl rfl rfl (rv_ev rfl) ?_
     refine hl_skip rfl rfl rfl ?_
     refine hl_skip rfl rfl rfl ?_
     refine hl_skip rfl rfl rfl ?_
     refine hl_skip rfl rfl rfl ?_
     refine hl_skip rfl rfl rfl ?_
     refine hl_skip rfl rfl rfl ?_
     refine hl_skip rfl rfl rfl ?_
     refine hl_v rfl rfl rfl (rv_ev rfl) ?_
     refine hl_v rfl rfl rfl (rv_ev rfl) ?_
     refine hl_less (sx 0 rfl (sx 1 rfl (sx 4 rfl (sx 6 rfl (sx 7 rfl (sx 8 rfl (sx 9 rfl (sx 10 rfl (sx 47 rfl (sub_nil _)))))))))) (.refl _) ?_
     refine hl_nil ?_
     refine hq_then ?_
     refine hc_false rfl ?_
     refine hc_skip ?_
     refine hq_block_normal ?_
     refine hq_then ?_
     refine hc_region ?_
     refine hl_v rfl rfl rfl (rv_add rfl rfl rfl (by constructor <;> omega)) ?_
     refine hl_v rfl rfl rfl (rv_ev rfl) ?_
     refine hl_less (sx 0 rfl (sx 1 rfl (sx 4 rfl (sx 6 rfl (sx 7 rfl (sx 8 rfl (sx 9 rfl (sx 10 rfl (sx 47 rfl (sub_nil _)))))))))) (.refl _) ?_
     refine hl_nil ?_
     have hlk : litB bs (xs.getD k 0) = false := (by first | (exfalso; omega) | skip; unfold litB; first | (rw [if_pos (by omega)]; assumption) | (rw [if_neg (by omega), show (bs.getD (-(xs.getD k 0) - 1).toNat bl0).b = true by assumption]; rfl))
     exact hq_round1 (k + 1) ⟨by omega, fun i hi => by by_cases hik : i = k; (subst hik; exact hlk); exact hno i (by omega)⟩ (by omega) (sx 0 rfl (sx 1 rfl (sx 4 rfl (sx 7 rfl (sx 8 rfl (sx 9 rfl (sub_nil _))))))) (.slnil)
  ·
   refine hl_v rfl rfl rfl (rv_ev rfl) ?_
   refine hl_skip rfl rfl rfl ?_
   refine hl_skip rfl rfl rfl ?_
   refine hl_skip rfl rfl rfl ?_
   refine hl_skip rfl rfl rfl ?_
   refine hl_v rfl rfl rfl (rv_ev rfl) ?_
   refine hl_v rfl rfl rfl (rv_ev rfl) ?_
   refine hl_skip rfl rfl rfl ?_
   refine hl_skip rfl rfl rfl ?_
   refine hl_skip rfl rfl rfl ?_
   refine hl_skip rfl rfl rfl ?_
   refine hl_skip rfl rfl rfl ?_
   refine hl_v rfl rfl rfl (rv_ev rfl) ?_
   refine hl_v rfl rfl rfl (rv_ev rfl) ?_
   refine hl_v rfl rfl rfl (rv_ev rfl) ?_
   refine hl_lss rfl rfl rfl rfl rfl rfl (fun h12 => ?_) (fun h12 => ?_)
   ·
    refine hl_v rfl rfl rfl (rv_ev rfl) ?_
    refine hl_v rfl rfl rfl (rv_ev rfl) ?_
    refine hl_v rfl rfl rfl (rv_ev rfl) ?_
    refine hl_v rfl rfl rfl (rv_len rfl Try.underlying45 rfl (rd_old hbv)) ?_
    refine hl_v rfl rfl rfl (rv_neg rfl rfl (by omega) (by omega)) ?_
    refine hl_geq rfl rfl rfl rfl rfl rfl (fun h13 => ?_) (fun h13 => ?_)
    ·
     refine hl_v rfl rfl rfl (rv_ev rfl) ?_
     refine hl_v rfl rfl rfl (rv_ev rfl) ?_
     refine hl_v rfl rfl rfl (rv_ev rfl) ?_
     refine hl_v rfl rfl rfl (rv_ev rfl) ?_
     refine hl_v rfl rfl rfl (rv_neg rfl rfl (by omega) (by omega)) ?_
     refine hl_v rfl rfl rfl (rv_sub rfl rfl rfl (by constructor <;> omega)) ?_
     refine hl_v rfl rfl rfl (rv_index (s := 1) rfl Try.underlying45 (by kernel_rfl) rfl rfl (rd_old hbv) (by omega) (by first | omega | (simp only [List.length_set]; omega))) ?_
     refine hl_v rfl rfl rfl (rv_loadEl (u := .bool ((bs.getD (((-(xs.getD k 0)) - 1).toNat) bl0).b)) rfl (by kernel_rfl) rfl (rd_old hbv) (flat_one blC (fun r => .bool r.b) (fun _ => rfl) bs bl0 (show ((-(xs.getD k 0)) - 1).toNat < _ by first | omega | (simp only [List.length_set]; omega)))) ?_
     refine hl_bool (fun h14 => ?_) (fun h14 => ?_)
     ·
      refine hl_v rfl rfl rfl (rv_ev rfl) ?_
      refine hl_v rfl rfl rfl (rv_ev rfl) ?_
      refine hl_v rfl rfl rfl (rv_ev rfl) ?_
      refine hl_less (sx 0 rfl (sx 1 rfl (sx 4 rfl (sx 6 rfl (sx 7 rfl (sx 8 rfl (sx 9 rfl (sx 10 rfl (sx 47 rfl (sub_nil _)))))))))) (.refl _) ?_
      refine hl_nil ?_
      refine hq_then ?_
      refine hc_false rfl ?_
      refine hc_skip ?_
      refine hq_block_normal ?_
      refine hq_then ?_
      refine hc_region ?_
      refine hl_v rfl rfl rfl (rv_add rfl rfl rfl (by constructor <;> omega)) ?_
      refine hl_v rfl rfl rfl (rv_ev rfl) ?_
      refine hl_less (sx 0 rfl (sx 1 rfl (sx 4 rfl (sx 6 rfl (sx 7 rfl (sx 8 rfl (sx 9 rfl (sx 10 rfl (sx 47 rfl (sub_nil _)))))))))) (.refl _) ?_
      refine hl_nil ?_
      have hlk : litB bs (xs.getD k 0) = false := (by first | (exfalso; omega) | skip; unfold litB; first | (rw [if_pos (by omega)]; assumption) | (rw [if_neg (by omega), show (bs.getD (-(xs.getD k 0) - 1).toNat bl0).b = true by assumption]; rfl))
      exact hq_round1 (k + 1) ⟨by omega, fun i hi => by by_cases hik : i = k; (subst hik; exact hlk); exact hno i (by omega)⟩ (by omega) (sx 0 rfl (sx 1 rfl (sx 4 rfl (sx 7 rfl (sx 8 rfl (sx 9 rfl (sub_nil _))))))) (.slnil)
     ·
      refine hl_v rfl rfl rfl (rv_ev rfl) ?_
      refine hl_v rfl rfl rfl (rv_ev rfl) ?_
      refine hl_v rfl rfl rfl (rv_ev rfl) ?_
      refine hl_less (sx 0 rfl (sx 1 rfl (sx 4 rfl (sx 6 rfl (sx 7 rfl (sx 8 rfl (sx 9 rfl (sx 10 rfl (sx 47 rfl (sub_nil _)))))))))) (.refl _) ?_
      refine hl_nil ?_
      refine hq_then ?_
      refine hc_true rfl ?_
      refine hc_seq ?_
      refine hc_region ?_
      refine hl_v rfl rfl rfl (rv_ev rfl) ?_
      refine hl_less (sx 0 rfl (sx 1 rfl (sx 4 rfl (sx 6 rfl (sx 7 rfl (sx 8 rfl (sx 9 rfl (sx 10 rfl (sx 47 rfl (sub_nil _)))))))))) (.refl _) ?_
      refine hl_nil ?_
      refine hq_then ?_
      refine hc_ret ?_
      refine hq_block_ret ?_
      refine hq_then_ret ?_
      refine hq_then_ret ?_
      refine hq_block_ret ?_
      refine hq_then_ret ?_
      exact hq_ans rfl rfl (congrArg _ (List.any_eq_true.2 ⟨_, getD_mem' (es := xs) (i := k) (d := 0) (by omega), (by first | (exfalso; omega) | skip; unfold litB; first | (rw [if_pos (by omega)]; assumption) | (rw [if_neg (by omega), show (bs.getD (-(xs.getD k 0) - 1).toNat bl0).b = false by assumption]; rfl))⟩).symm)
    ·
     refine hl_v rfl rfl rfl (rv_ev rfl) ?_
     refine hl_v rfl rfl rfl (rv_ev rfl) ?_
     refine hl_skip rfl rfl rfl ?_
     refine hl_skip rfl rfl rfl ?_
     refine hl_skip rfl rfl rfl ?_
     refine hl_skip rfl rfl rfl ?_
     refine hl_skip rfl rfl rfl ?_
     refine hl_skip rfl rfl rfl ?_
     refine hl_skip rfl rfl rfl ?_
     refine hl_v rfl rfl rfl (rv_ev rfl) ?_
     refine hl_v rfl rfl rfl (rv_ev rfl) ?_
     refine hl_less (sx 0 rfl (sx 1 rfl (sx 4 rfl (sx 6 rfl (sx 7 rfl (sx 8 rfl (sx 9 rfl (sx 10 rfl (sx 47 rfl (sub_nil _)))))))))) (.refl _) ?_
     refine hl_nil ?_
     refine hq_then ?_
     refine hc_false rfl ?_
     refine hc_skip ?_
     refine hq_block_normal ?_
     refine hq_then ?_
     refine hc_region ?_
     refine hl_v rfl rfl rfl (rv_add rfl rfl rfl (by constructor <;> omega)) ?_
     refine hl_v rfl rfl rfl (rv_ev rfl) ?_
     refine hl_less (sx 0 rfl (sx 1 rfl (sx 4 rfl (sx 6 rfl (sx 7 rfl (sx 8 rfl (sx 9 rfl (sx 10 rfl (sx 47 rfl (sub_nil _)))))))))) (.refl _) ?_
     refine hl_nil ?_
     have hlk : litB bs (xs.getD k 0) = false := (by first | (exfalso; omega) | skip; unfold litB; first | (rw [if_pos (by omega)]; assumption) | (rw [if_neg (by omega), show (bs.getD (-(xs.getD k 0) - 1).toNat bl0).b = true by assumption]; rfl))
     exact hq_round1 (k + 1) ⟨by omega, fun i hi => by by_cases hik : i = k; (subst hik; exact hlk); exact hno i (by omega)⟩ (by omega) (sx 0 rfl (sx 1 rfl (sx 4 rfl (sx 7 rfl (sx 8 rfl (sx 9 rfl (sub_nil _))))))) (.slnil)
   ·
    refine hl_v rfl rfl rfl (rv_ev rfl) ?_
    refine hl_skip rfl rfl rfl ?_
    refine hl_skip rfl rfl rfl ?_
    refine hl_skip rfl rfl rfl ?_
    refine hl_skip rfl rfl rfl ?_
    refine hl_skip rfl rfl rfl ?_
    refine hl_v rfl rfl rfl (rv_ev rfl) ?_
    refine hl_v rfl rfl rfl (rv_ev rfl) ?_
    refine hl_skip rfl rfl rfl ?_
    refine hl_skip rfl rfl rfl ?_
    refine hl_skip rfl rfl rfl ?_
    refine hl_skip rfl rfl rfl ?_
    refine hl_skip rfl rfl rfl ?_
    refine hl_skip rfl rfl rfl ?_
    refine hl_skip rfl rfl rfl ?_
    refine hl_v rfl rfl rfl (rv_ev rfl) ?_
    refine hl_v rfl rfl rfl (rv_ev rfl) ?_
    refine hl_less (sx 0 rfl (sx 1 rfl (sx 4 rfl (sx 6 rfl (sx 7 rfl (sx 8 rfl (sx 9 rfl (sx 10 rfl (sx 47 rfl (sub_nil _)))))))))) (.refl _) ?_
    refine hl_nil ?_
    refine hq_then ?_
    refine hc_false rfl ?_
    refine hc_skip ?_
    refine hq_block_normal ?_
    refine hq_then ?_
    refine hc_region ?_
    refine hl_v rfl rfl rfl (rv_add rfl rfl rfl (by constructor <;> omega)) ?_
    refine hl_v rfl rfl rfl (rv_ev rfl) ?_
    refine hl_less (sx 0 rfl (sx 1 rfl (sx 4 rfl (sx 6 rfl (sx 7 rfl (sx 8 rfl (sx 9 rfl (sx 10 rfl (sx 47 rfl (sub_nil _)))))))))) (.refl _) ?_
    refine hl_nil ?_
    have hlk : litB bs (xs.getD k 0) = false := (by first | (exfalso; omega) | skip; unfold litB; first | (rw [if_pos (by omega)]; assumption) | (rw [if_neg (by omega), show (bs.getD (-(xs.getD k 0) - 1).toNat bl0).b = true by assumption]; rfl))
    exact hq_round1 (k + 1) ⟨by omega, fun i hi => by by_cases hik : i = k; (subst hik; exact hlk); exact hno i (by omega)⟩ (by omega) (sx 0 rfl (sx 1 rfl (sx 4 rfl (sx 7 rfl (sx 8 rfl (sx 9 rfl (sub_nil _))))))) (.slnil)
 ·
  refine hl_less (sx 0 rfl (sx 1 rfl (sx 4 rfl (sx 7 rfl (sx 8 rfl (sx 9 rfl (sx 10 rfl (sub_nil _)))))))) (.refl _) ?_
  refine hl_nil ?_
  refine hq_then ?_
  refine hc_seq ?_
  refine hc_false rfl ?_
  refine hc_exit ?_
  refine hq_then_exit ?_
  refine hq_then_exit ?_
  refine hq_block_exit ?_
  refine hq_then ?_
  refine hc_seq ?_
  refine hc_region ?_
  refine hl_v rfl rfl rfl (rv_ev rfl) ?_
  refine hl_less (sx 0 rfl (sx 1 rfl (sx 4 rfl (sx 7 rfl (sx 8 rfl (sx 9 rfl (sx 10 rfl (sub_nil _)))))))) (.refl _) ?_
  refine hl_nil ?_
  refine hq_then ?_
  refine hc_ret ?_
  exact hq_ans rfl rfl (congrArg _ (Bool.eq_false_iff.2 (fun h => by obtain ⟨x, hx2, hl⟩ := List.any_eq_true.1 h; obtain ⟨i, hi, rfl⟩ := List.mem_iff_getElem.1 hx2; have := hno i (by omega); rw [List.getD_eq_getElem?_getD, List.getElem?_eq_getElem hi] at this; rw [Option.getD_some, hl] at this; cases this)).symm)
set_option maxHeartbeats 4000000 in
set_option maxRecDepth 100000 in
theorem implCnfTrue_ans (n : Int) (rs : List CRow) (v : Value) (bs : List Bl) (bv : Value) (w : World) (hr : ClOk n rs) (hv : RdsCl w v rs) (hbv : RdsW w bv 1 bs.length (bs.flatMap blC)) (hbl : (bs.length : Int) = n) :
  Calls Try.prog 31 #[.agg #[.int .i64 n, v], bv] w (Ans w (.bool (cnfB bs rs))) := by
 have hn0 := hr.n0
 have hn1 := hr.n1
 have hrl := hr.len
 refine calls_hc (N := 29) (args := [.agg #[.int .i64 n, v], bv]) Try.func31 rfl rfl ?_
 refine hc_less _ (sx 0 rfl (sx 1 rfl (sub_nil _))) (.refl _) ?_
 refine hc_seq ?_
 refine hc_region ?_
 refine hl_box rfl rfl rfl (rq_box rfl rfl) ?_
 intro b1
 refine hl_v rfl rfl rfl (rv_ev rfl) ?_
 refine hl_less (sx 0 rfl (sx 1 rfl (sx 2 rfl (sx 4 rfl (sub_nil _))))) (.refl _) ?_
 refine hl_nil ?_
 refine hq_then ?_
 refine hc_seq ?_
 refine hc_seq ?_
 refine hc_region ?_
 refine hl_v rfl rfl rfl (rv_loadN (cs := [.int .i64 n, v]) rfl (by kernel_rfl) (by kernel_rfl) rfl rfl (box_part 0 rfl 0 rfl)) ?_
 refine hl_callV rfl rfl rfl (rq_call (by kernel_rfl) rfl (fun w hm => ret_ans (implCnfOk_yes n rs v w hr (hv.below hm.bel)))) ?_
 refine hl_v rfl rfl rfl (rv_ev rfl) ?_
 refine hl_v rfl rfl rfl (rv_ev rfl) ?_
 refine hl_v rfl rfl rfl (rv_ev rfl) ?_
 refine hl_v rfl rfl rfl (rv_len rfl Try.underlying45 rfl (rd_old hbv)) ?_
 refine hl_v rfl rfl rfl (rv_field (k0 := 0) rfl (by kernel_rfl) rfl) ?_
 refine hl_v rfl rfl rfl (rv_load rfl (by kernel_rfl) rfl (box_cell 0 rfl rfl)) ?_
 refine hl_neq rfl rfl rfl rfl rfl rfl (fun h2 => absurd h2 (by omega)) (fun h2 => ?_)
 refine hl_v rfl rfl rfl (rv_ev rfl) ?_
 refine hl_less (sx 0 rfl (sx 1 rfl (sx 2 rfl (sx 4 rfl (sx 16 rfl (sub_nil _)))))) (.refl _) ?_
 refine hl_nil ?_
 refine hq_then ?_
 refine hc_false rfl ?_
 refine hc_skip ?_
 refine hq_then ?_
 refine hc_seq ?_
 refine hc_seq ?_
 refine hc_region ?_
 refine hl_v rfl rfl rfl (rv_field (k0 := 1) rfl (by kernel_rfl) rfl) ?_
 refine hl_v rfl rfl rfl (rv_load rfl (by kernel_rfl) rfl (box_cell 0 rfl rfl)) ?_
 refine hl_v rfl rfl rfl (rv_len rfl Try.underlying40 rfl (rd_old hv.row)) ?_
 refine hl_v rfl rfl rfl (rv_ev rfl) ?_
 refine hl_less (sx 0 rfl (sx 1 rfl (sx 2 rfl (sx 4 rfl (sx 16 rfl (sx 18 rfl (sx 19 rfl (sx 20 rfl (sub_nil _))))))))) (.refl _) ?_
 refine hl_nil ?_
 refine hq_then ?_
 refine hc_block ?_
 refine hc_loop1 (α := Nat) (fun k => [boxE b1 #[.int .i64 n, v] 42]) (fun k => [(0, .agg #[.int .i64 n, v]), (1, bv), (2, .pointer (some ⟨b1, 0, none⟩)), (4, .bool false), (16, .bool false), (18, v), (19, .int .i64 (rs.length : Int)), (20, .int .i64 (k : Int))]) (fun k => k ≤ rs.length ∧ ∀ i, i < k → clB bs (rs.getD i crow0).xs = true) (fun k => rs.length - k) 0 ⟨by omega, fun i hi => absurd hi (by omega)⟩ (sx 0 rfl (sx 1 rfl (sx 2 rfl (sx 4 rfl (sx 16 rfl (sx 18 rfl (sx 19 rfl (sx 20 rfl (sub_nil _))))))))) ((.cons_cons _ .slnil)) ?_
 intro k hi3
 obtain ⟨hk, hyes⟩ := hi3
 refine hc_seq ?_
 refine hc_region ?_
 refine hl_lss rfl rfl rfl rfl rfl rfl (fun h4 => ?_) (fun h4 => ?_)
 ·
  refine hl_less (sx 0 rfl (sx 1 rfl (sx 2 rfl (sx 4 rfl (sx 16 rfl (sx 18 rfl (sx 19 rfl (sx 20 rfl (sx 21 rfl (sub_nil _)))))))))) (.refl _) ?_
  refine hl_nil ?_
  refine hq_then ?_
  refine hc_seq ?_
  refine hc_true rfl ?_
  refine hc_skip ?_
  refine hq_then ?_
  refine hc_seq ?_
  refine hc_block ?_
  refine hc_seq ?_
  refine hc_region ?_
  refine hl_v rfl rfl rfl (rv_index (s := 1) rfl Try.underlying40 (by kernel_rfl) rfl rfl (rd_old hv.row) (by omega) (by first | omega | (simp only [List.length_set]; omega))) ?_
  refine hl_v rfl rfl rfl (rv_loadEl (u := (rs.getD k crow0).v) rfl (by kernel_rfl) rfl (rd_old hv.row) (flat_one crowC (fun r => r.v) (fun _ => rfl) rs crow0 (show k < _ by first | omega | (simp only [List.length_set]; omega)))) ?_
  refine hl_v rfl rfl rfl (rv_ev rfl) ?_
  refine hl_less (sx 0 rfl (sx 1 rfl (sx 2 rfl (sx 4 rfl (sx 6 rfl (sx 16 rfl (sx 18 rfl (sx 19 rfl (sx 20 rfl (sx 21 rfl (sub_nil _))))))))))) (.refl _) ?_
  refine hl_nil ?_
  refine hq_then ?_
  refine hc_seq ?_
  refine hc_region ?_
  refine hl_v rfl rfl rfl (rv_ev rfl) ?_
  refine hl_v rfl rfl rfl (rv_ev rfl) ?_
  refine hl_callV rfl rfl rfl (rq_call (by kernel_rfl) rfl (fun w hm => ret_ans (implClauseTrue_ans n (rs.getD k crow0).xs bs _ bv w ((hv.at (by omega)).below hm.bel) (hbv.below hm.bel) (hr.ok k (by omega)) hbl hn1))) ?_
  refine hl_bool (fun h5 => ?_) (fun h5 => ?_)
  ·
   refine hl_v rfl rfl rfl (rv_ev rfl) ?_
   refine hl_less (sx 0 rfl (sx 1 rfl (sx 2 rfl (sx 4 rfl (sx 6 rfl (sx 16 rfl (sx 18 rfl (sx 19 rfl (sx 20 rfl (sx 21 rfl (sx 27 rfl (sub_nil _)))))))))))) (.refl _) ?_
   refine hl_nil ?_
   refine hq_then ?_
   refine hc_false rfl ?_
   refine hc_skip ?_
   refine hq_block_normal ?_
   refine hq_then ?_
   refine hc_region ?_
   refine hl_v rfl rfl rfl (rv_add rfl rfl rfl (by constructor <;> omega)) ?_
   refine hl_v rfl rfl rfl (rv_ev rfl) ?_
   refine hl_less (sx 0 rfl (sx 1 rfl (sx 2 rfl (sx 4 rfl (sx 6 rfl (sx 16 rfl (sx 18 rfl (sx 19 rfl (sx 20 rfl (sx 21 rfl (sx 27 rfl (sub_nil _)))))))))))) (.refl _) ?_
   refine hl_nil ?_
   exact hq_round1 (k + 1) ⟨by omega, fun i hi => by by_cases hik : i = k; (subst hik; assumption); exact hyes i (by omega)⟩ (by omega) (sx 0 rfl (sx 1 rfl (sx 2 rfl (sx 4 rfl (sx 16 rfl (sx 18 rfl (sx 19 rfl (sx 20 rfl (sub_nil _))))))))) ((.cons_cons _ .slnil))
  ·
   refine hl_v rfl rfl rfl (rv_ev rfl) ?_
   refine hl_less (sx 0 rfl (sx 1 rfl (sx 2 rfl (sx 4 rfl (sx 6 rfl (sx 16 rfl (sx 18 rfl (sx 19 rfl (sx 20 rfl (sx 21 rfl (sx 27 rfl (sub_nil _)))))))))))) (.refl _) ?_
   refine hl_nil ?_
   refine hq_then ?_
   refine hc_true rfl ?_
   refine hc_seq ?_
   refine hc_region ?_
   refine hl_v rfl rfl rfl (rv_ev rfl) ?_
   refine hl_less (sx 0 rfl (sx 1 rfl (sx 2 rfl (sx 4 rfl (sx 6 rfl (sx 16 rfl (sx 18 rfl (sx 19 rfl (sx 20 rfl (sx 21 rfl (sx 27 rfl (sub_nil _)))))))))))) (.refl _) ?_
   refine hl_nil ?_
   refine hq_then ?_
   refine hc_ret ?_
   refine hq_block_ret ?_
   refine hq_then_ret ?_
   refine hq_then_ret ?_
   refine hq_block_ret ?_
   refine hq_then_ret ?_
   exact hq_ans rfl rfl (congrArg _ (Bool.eq_false_iff.2 (fun h => by have h2 := List.all_eq_true.1 h _ (getD_mem' (es := rs) (i := k) (d := crow0) (by omega)); rw [show clB bs (rs.getD k crow0).xs = false by assumption] at h2; cases h2)).symm)
 ·
  refine hl_less (sx 0 rfl (sx 1 rfl (sx 2 rfl (sx 4 rfl (sx 16 rfl (sx 18 rfl (sx 19 rfl (sx 20 rfl (sx 21 rfl (sub_nil _)))))))))) (.refl _) ?_
  refine hl_nil ?_
  refine hq_then ?_
  refine hc_seq ?_
  refine hc_false rfl ?_
  refine hc_exit ?_
  refine hq_then_exit ?_
  refine hq_then_exit ?_
  refine hq_block_exit ?_
  refine hq_then ?_
  refine hc_seq ?_
  refine hc_region ?_
  refine hl_v rfl rfl rfl (rv_ev rfl) ?_
  refine hl_less (sx 0 rfl (sx 1 rfl (sx 2 rfl (sx 4 rfl (sx 16 rfl (sx 18 rfl (sx 19 rfl (sx 20 rfl (sx 21 rfl (sub_nil _)))))))))) (.refl _) ?_
  refine hl_nil ?_
  refine hq_then ?_
  refine hc_ret ?_
  exact hq_ans rfl rfl (congrArg _ (List.all_eq_true.2 (fun r hr2 => by obtain ⟨i, hi, rfl⟩ := List.mem_iff_getElem.1 hr2; have := hyes i (by omega); rwa [List.getD_eq_getElem?_getD, List.getElem?_eq_getElem hi] at this)).symm)
set_option maxHeartbeats 4000000 in
set_option maxRecDepth 100000 in
theorem NetCnf_ret (n : Nt) (lit : Int) (w : World) (hr : RdsNt w n) (hn : NtOk n) (hlt : 0 ≤ lit ∧ lit < 2 * n.cnt) :
  Calls Try.prog 28 #[.agg #[.int .i64 n.ins, n.sv, n.av, n.ov], .int .i64 lit] w (Ret w (fun v' post => ∃ (cv : Value) (rs : List CRow) (xs : List Int), v' = .tuple #[.agg #[.int .i64 n.cnt, cv], .bool true] ∧ post = [clE cv rs] ∧ cv.oneCell' = true ∧ NcOk n lit rs xs)) := by
 have hi0 := hn.i0
 have hi1 := hn.i1
 have hs1 := hn.s1
 have ha1 := hn.a1
 have ho1 := hn.o1
 have hcnt : n.cnt = 1 + n.ins + n.ss.length + n.gs.length := rfl
 have hfst : n.fst = 1 + n.ins + n.ss.length := rfl
 refine calls_hc (N := 89) (args := [.agg #[.int .i64 n.ins, n.sv, n.av, n.ov], .int .i64 lit]) Try.func28 rfl rfl ?_
 refine hc_less _ (sx 0 rfl (sx 1 rfl (sub_nil _))) (.refl _) ?_
 refine hc_seq ?_
 refine hc_region ?_
 refine hl_box rfl rfl rfl (rq_box rfl rfl) ?_
 intro b1
 refine hl_box rfl rfl rfl (rq_alloc (z := .agg #[.int .i64 0, .slice none 0 0]) rfl (by kernel_rfl)) ?_
 intro b2
 refine hl_v rfl rfl rfl (rv_ev rfl) ?_
 refine hl_less (sx 0 rfl (sx 1 rfl (sx 2 rfl (sx 4 rfl (sx 5 rfl (sub_nil _)))))) (.refl _) ?_
 refine hl_nil ?_
 refine hq_then ?_
 refine hc_seq ?_
 refine hc_seq ?_
 refine hc_region ?_
 refine hl_v rfl rfl rfl (rv_loadN (cs := [.int .i64 n.ins, n.sv, n.av, n.ov]) rfl (by kernel_rfl) (by kernel_rfl) rfl rfl (box_part 1 rfl 0 rfl)) ?_
 refine hl_callV rfl rfl rfl (rq_call (by kernel_rfl) rfl (fun w hm => ret_ans (implNetOk_yes n w (hr.below hm.bel) hn))) ?_
 refine hl_v rfl rfl rfl (rv_ev rfl) ?_
 refine hl_v rfl rfl rfl (rv_ev rfl) ?_
 refine hl_v rfl rfl rfl (rv_ev rfl) ?_
 refine hl_v rfl rfl rfl (rv_loadN (cs := [.int .i64 n.ins, n.sv, n.av, n.ov]) rfl (by kernel_rfl) (by kernel_rfl) rfl rfl (box_part 1 rfl 0 rfl)) ?_
 refine hl_callV rfl rfl rfl (rq_call (by kernel_rfl) rfl (fun w hm => ret_ans (implnodeCount_yes n w (hr.below hm.bel) hn))) ?_
 refine hl_v rfl rfl rfl (rv_mul rfl rfl rfl (by constructor <;> omega)) ?_
 refine hl_v rfl rfl rfl (rv_sub rfl rfl rfl (by constructor <;> omega)) ?_
 refine hl_callV rfl rfl rfl (rq_call (by kernel_rfl) rfl (fun w hm => ret_ans (ans_of (inRange_any _ _ _ w)))) ?_
 refine hl_bool (fun h3 => ?_) (fun h3 => absurd ((((inR_iff _ _ _).2 (by omega))).symm.trans h3) (by decide))
 refine hl_v rfl rfl rfl (rv_ev rfl) ?_
 refine hl_v rfl rfl rfl (rv_ev rfl) ?_
 refine hl_less (sx 0 rfl (sx 1 rfl (sx 2 rfl (sx 4 rfl (sx 5 rfl (sx 24 rfl (sub_nil _))))))) (.refl _) ?_
 refine hl_nil ?_
 refine hq_then ?_
 refine hc_false rfl ?_
 refine hc_skip ?_
 refine hq_then ?_
 refine hc_seq ?_
 refine hc_region ?_
 refine hl_v rfl rfl rfl (rv_loadN (cs := [.int .i64 n.ins, n.sv, n.av, n.ov]) rfl (by kernel_rfl) (by kernel_rfl) rfl rfl (box_part 1 rfl 0 rfl)) ?_
 refine hl_callV rfl rfl rfl (rq_call (by kernel_rfl) rfl (fun w hm => ret_ans (implnodeCount_yes n w (hr.below hm.bel) hn))) ?_
 refine hl_row rfl rfl rfl (rq_buildSlice (z := .int .i64 0) (s := 1) (cs := ([-1].map (Value.int .i64))) rfl Try.underlying26 (by kernel_rfl) (by decide) rfl (by kernel_rfl) rfl) ?_
 intro g4
 refine hl_row rfl rfl rfl (rq_buildSlice (z := .slice none 0 0) (s := 1) (cs := [.slice (some ⟨g4, 0, none⟩) 1 1]) rfl Try.underlying40 (by kernel_rfl) (by decide) rfl (by kernel_rfl) rfl) ?_
 intro g5
 refine hl_v rfl rfl rfl (rv_build (cs := #[.int .i64 n.cnt, .slice (some ⟨g5, 0, none⟩) 1 1]) rfl rfl (by kernel_rfl)) ?_
 refine hl_box rfl rfl rfl (rq_alloc (z := .agg #[.int .i64 0, .slice none 0 0]) rfl (by kernel_rfl)) ?_
 intro b6
 refine hl_storeBoxN (i := 0) (off := 0) (us := [.int .i64 n.cnt, .slice (some ⟨g5, 0, none⟩) 1 1]) (l' := [boxE b6 #[.int .i64 n.cnt, .slice (some ⟨g5, 0, none⟩) 1 1] 42, rowE 26 1 (.slice (some ⟨g5, 0, none⟩) 1 1) 1 ([.slice (some ⟨g4, 0, none⟩) 1 1]), rowE 3 1 (.slice (some ⟨g4, 0, none⟩) 1 1) 1 ([-1].map (Value.int .i64)), boxE b2 #[.int .i64 0, .slice none 0 0] 42, boxE b1 #[.int .i64 n.ins, n.sv, n.av, n.ov] 28]) rfl rfl rfl (by kernel_rfl) rfl rfl rfl (all_cons rfl (all_cons rfl all_nil)) rfl rfl rfl ?_
 refine hl_less (sx 0 rfl (sx 1 rfl (sx 2 rfl (sx 4 rfl (sx 5 rfl (sx 6 rfl (sx 24 rfl (sub_nil _)))))))) (.refl _) ?_
 refine hl_nil ?_
 refine hq_then ?_
 refine hc_seq ?_
 refine hc_seq ?_
 refine hc_region ?_
 refine hl_v rfl rfl rfl (rv_loadN (cs := [.int .i64 n.ins, n.sv, n.av, n.ov]) rfl (by kernel_rfl) (by kernel_rfl) rfl rfl (box_part 4 rfl 0 rfl)) ?_
 refine hl_v rfl rfl rfl (rv_ev rfl) ?_
 refine hl_v rfl rfl rfl (rv_quo rfl rfl rfl (by refine ⟨?_, ?_, ?_⟩ <;> omega)) ?_
 refine hl_q rfl rfl rfl (rq_call (by kernel_rfl) rfl (fun w hm => cone_ret n (lit / 2) w (hr.below hm.bel) hn (by omega))) ?_
 intro v7 p8 hR9
 obtain ⟨xs, rfl, hco⟩ := hR9
 have hxl := hco.len
 refine hl_v rfl rfl rfl (rv_len rfl Try.underlying26 rfl (rd_row 0 rfl)) ?_
 refine hl_v rfl rfl rfl (rv_ev rfl) ?_
 refine hl_less (sx 0 rfl (sx 1 rfl (sx 2 rfl (sx 4 rfl (sx 5 rfl (sx 6 rfl (sx 24 rfl (sx 34 rfl (sx 35 rfl (sx 36 rfl (sub_nil _))))))))))) (.refl _) ?_
 refine hl_nil ?_
 refine hq_then ?_
 refine hc_block ?_
 refine hc_conv [rowE 3 1 (.slice (some ⟨g4, 0, none⟩) 1 1) 1 ([-1].map (Value.int .i64)), rowE 26 1 (.slice (some ⟨g5, 0, none⟩) 1 1) 1 ([.slice (some ⟨g4, 0, none⟩) 1 1]), rowE 3 1 v7 xs.length (xs.map (Value.int .i64)), boxE b6 #[.int .i64 n.cnt, .slice (some ⟨g5, 0, none⟩) 1 1] 42, boxE b2 #[.int .i64 0, .slice none 0 0] 42, boxE b1 #[.int .i64 n.ins, n.sv, n.av, n.ov] 28] (conv_pick (src := [rowE 3 1 v7 xs.length (xs.map (Value.int .i64)), boxE b6 #[.int .i64 n.cnt, .slice (some ⟨g5, 0, none⟩) 1 1] 42, rowE 26 1 (.slice (some ⟨g5, 0, none⟩) 1 1) 1 ([.slice (some ⟨g4, 0, none⟩) 1 1]), rowE 3 1 (.slice (some ⟨g4, 0, none⟩) 1 1) 1 ([-1].map (Value.int .i64)), boxE b2 #[.int .i64 0, .slice none 0 0] 42, boxE b1 #[.int .i64 n.ins, n.sv, n.av, n.ov] 28]) (dst := [rowE 3 1 (.slice (some ⟨g4, 0, none⟩) 1 1) 1 ([-1].map (Value.int .i64)), rowE 26 1 (.slice (some ⟨g5, 0, none⟩) 1 1) 1 ([.slice (some ⟨g4, 0, none⟩) 1 1]), rowE 3 1 v7 xs.length (xs.map (Value.int .i64)), boxE b6 #[.int .i64 n.cnt, .slice (some ⟨g5, 0, none⟩) 1 1] 42, boxE b2 #[.int .i64 0, .slice none 0 0] 42, boxE b1 #[.int .i64 n.ins, n.sv, n.av, n.ov] 28]) (l := []) [3, 2, 0, 1, 4, 5] (by decide) rfl) ?_
 refine hc_conv [bigE (([CRow.mk (.slice (some ⟨g4, 0, none⟩) 1 1) [-1]]).map cPart), rowE 26 1 (.slice (some ⟨g5, 0, none⟩) 1 1) (([CRow.mk (.slice (some ⟨g4, 0, none⟩) 1 1) [-1]]).length) (([CRow.mk (.slice (some ⟨g4, 0, none⟩) 1 1) [-1]]).flatMap crowC), rowE 3 1 v7 xs.length (xs.map (Value.int .i64)), boxE b6 #[.int .i64 n.cnt, .slice (some ⟨g5, 0, none⟩) 1 1] 42, boxE b2 #[.int .i64 0, .slice none 0 0] 42, boxE b1 #[.int .i64 n.ins, n.sv, n.av, n.ov] 28] (fun w hm => Mem.big (ps := [rowE 3 1 (.slice (some ⟨g4, 0, none⟩) 1 1) 1 ([-1].map (Value.int .i64))]) hm) ?_
 refine hc_loop3 (α := Nat) (β := Value) (γ := List CRow) (fun i u rs => [bigE (rs.map cPart), rowE 26 1 u rs.length (rs.flatMap crowC), rowE 3 1 v7 xs.length (xs.map (Value.int .i64)), boxE b6 #[.int .i64 n.cnt, u] 42, boxE b2 #[.int .i64 0, .slice none 0 0] 42, boxE b1 #[.int .i64 n.ins, n.sv, n.av, n.ov] 28]) (fun i u rs => [(0, .agg #[.int .i64 n.ins, n.sv, n.av, n.ov]), (1, .int .i64 lit), (2, .pointer (some ⟨b1, 0, none⟩)), (4, .pointer (some ⟨b2, 0, none⟩)), (5, .bool false), (6, .pointer (some ⟨b6, 0, none⟩)), (24, .bool false), (34, v7), (35, .int .i64 (xs.length : Int)), (36, .int .i64 (i : Int))]) (fun i u rs => i ≤ xs.length ∧ rs.map CRow.xs = ncL n xs i) (fun i u rs => xs.length - i) 0 _ [CRow.mk _ [-1]] ⟨by omega, rfl⟩ (sx 0 rfl (sx 1 rfl (sx 2 rfl (sx 4 rfl (sx 5 rfl (sx 6 rfl (sx 24 rfl (sx 34 rfl (sx 35 rfl (sx 36 rfl (sub_nil _))))))))))) ((.cons_cons _ (.cons_cons _ (.cons_cons _ (.cons_cons _ (.cons_cons _ (.cons_cons _ .slnil))))))) ?_
 intro i u rs hi10
 obtain ⟨hi, hrs⟩ := hi10
 have hrl : rs.length ≤ 1 + 3 * i := by have := ncL_len n xs i hi; rw [← hrs, List.length_map] at this; exact this
 refine hc_seq ?_
 refine hc_region ?_
 refine hl_lss rfl rfl rfl rfl rfl rfl (fun h11 => ?_) (fun h11 => ?_)
 ·
  refine hl_less (sx 0 rfl (sx 1 rfl (sx 2 rfl (sx 4 rfl (sx 5 rfl (sx 6 rfl (sx 24 rfl (sx 34 rfl (sx 35 rfl (sx 36 rfl (sx 37 rfl (sub_nil _)))))))))))) (.refl _) ?_
  refine hl_nil ?_
  refine hq_then ?_
  refine hc_seq ?_
  refine hc_true rfl ?_
  refine hc_skip ?_
  refine hq_then ?_
  refine hc_seq ?_
  refine hc_block ?_
  refine hc_seq ?_
  refine hc_region ?_
  refine hl_v rfl rfl rfl (rv_index (s := 1) rfl Try.underlying26 (by kernel_rfl) rfl rfl (rd_row 2 rfl) (by omega) (by first | omega | (simp only [List.length_set]; omega))) ?_
  refine hl_v rfl rfl rfl (rv_loadEl (u := .int .i64 (xs.getD i 0)) rfl (by kernel_rfl) rfl (rd_row 2 rfl) (ints_at1 (show _ < xs.length by first | omega | (simp only [List.length_set]; omega)))) ?_
  refine hl_v rfl rfl rfl (rv_ev rfl) ?_
  refine hl_less (sx 0 rfl (sx 1 rfl (sx 2 rfl (sx 4 rfl (sx 5 rfl (sx 6 rfl (sx 8 rfl (sx 24 rfl (sx 34 rfl (sx 35 rfl (sx 36 rfl (sx 37 rfl (sub_nil _))))))))))))) (.refl _) ?_
  refine hl_nil ?_
  refine hq_then ?_
  refine hc_seq ?_
  refine hc_seq ?_
  refine hc_region ?_
  refine hl_v rfl rfl rfl (rv_loadN (cs := [.int .i64 n.ins, n.sv, n.av, n.ov]) rfl (by kernel_rfl) (by kernel_rfl) rfl rfl (box_part 5 rfl 0 rfl)) ?_
  refine hl_v rfl rfl rfl (rv_ev rfl) ?_
  refine hl_callV rfl rfl rfl (rq_call (by kernel_rfl) rfl (fun w hm => ret_ans (isAnd_yes n (xs.getD i 0) w (hr.below hm.bel) hn))) ?_
  refine hl_bool (fun h12 => ?_) (fun h12 => ?_)
  ·
   refine hl_v rfl rfl rfl (rv_ev rfl) ?_
   refine hl_less (sx 0 rfl (sx 1 rfl (sx 2 rfl (sx 4 rfl (sx 5 rfl (sx 6 rfl (sx 8 rfl (sx 24 rfl (sx 34 rfl (sx 35 rfl (sx 36 rfl (sx 37 rfl (sx 43 rfl (sub_nil _)))))))))))))) (.refl _) ?_
   refine hl_nil ?_
   refine hq_then ?_
   refine hc_false rfl ?_
   refine hc_skip ?_
   refine hq_then ?_
   refine hc_seq ?_
   obtain ⟨hk0, hk1⟩ := isAnd_iff.1 (show isAndB n (xs.getD i 0) = true by assumption)
   obtain ⟨o1, o2, o3, o4, o5, o6⟩ := nd_ok hn hk0 hk1
   unfold ndA at o3 o4
   unfold ndB at o5 o6
   have hla := lv_ok (m := n.cnt) o3 (by omega)
   have hlb := lv_ok (m := n.cnt) o5 (by omega)
   refine hc_draw (by kernel_rfl) 9 [0, 1, 2, 3, 4, 5, 6, 7, 8] (List.take 9 _) (List.drop 9 _) [[], [0], [], [], [3], [2, 4], [1, 5], [6], []] [44, 45, 46, 47, 48, 49, 50, 51, 9] (fun i_ vs_ v_ p_ => match i_ with | 0 => v_ = .pointer (some ⟨b1, 0 + 2, none⟩) ∧ p_ = [] | 1 => v_ = n.av ∧ p_ = [] | 2 => v_ = .int .i64 (xs.getD i 0) ∧ p_ = [] | 3 => v_ = .agg #[.int .i64 n.ins, n.sv, n.av, n.ov] ∧ p_ = [] | 4 => v_ = .int .i64 n.fst ∧ p_ = [] | 5 => v_ = .int .i64 ((xs.getD i 0) - n.fst) ∧ p_ = [] | 6 => v_ = elP n.av (((xs.getD i 0) - n.fst).toNat * 2) ∧ p_ = [] | 7 => v_ = .agg #[.int .i64 ((n.gs.getD (((xs.getD i 0) - n.fst).toNat) an0).a), .int .i64 ((n.gs.getD (((xs.getD i 0) - n.fst).toNat) an0).b)] ∧ p_ = [] | 8 => IsBox #[.int .i64 0, .int .i64 0] 80 v_ p_ | _ => True) (List.take_append_drop 9 _).symm (by kernel_rfl) (by kernel_rfl) rfl rfl ?_ ?_
   ·
    refine ⟨?_, ?_, ?_, ?_, ?_, ?_, ?_, ?_, ?_, trivial⟩
    ·
     intro vf pf hR
     refine Or.inl ⟨rfl, ?_⟩
     refine rq_less (sx 2 rfl (sub_nil _)) (List.sublist_append_right _ _) ?_
     exact rq_v (rv_field (k0 := 2) rfl (by kernel_rfl) rfl)
    ·
     intro vf pf hR
     have e0 : (vf 0) = .pointer (some ⟨b1, 0 + 2, none⟩) ∧ (pf 0) = [] := hR 0 (by decide)
     refine Or.inl ⟨rfl, ?_⟩
     refine rq_less (sx 44 (congrArg some e0.1) (sub_nil _)) (List.sublist_append_right _ _) ?_
     exact rq_v (rv_load rfl (by kernel_rfl) rfl (box_cell 5 rfl rfl))
    ·
     intro vf pf hR
     refine Or.inl ⟨rfl, ?_⟩
     refine rq_less (sx 8 rfl (sub_nil _)) (List.sublist_append_right _ _) ?_
     exact rq_v (rv_ev rfl)
    ·
     intro vf pf hR
     refine Or.inl ⟨rfl, ?_⟩
     refine rq_less (sx 2 rfl (sub_nil _)) (List.sublist_append_right _ _) ?_
     exact rq_v (rv_loadN (cs := [.int .i64 n.ins, n.sv, n.av, n.ov]) rfl (by kernel_rfl) (by kernel_rfl) rfl rfl (box_part 5 rfl 0 rfl))
    ·
     intro vf pf hR
     have e3 : (vf 3) = .agg #[.int .i64 n.ins, n.sv, n.av, n.ov] ∧ (pf 3) = [] := hR 3 (by decide)
     refine Or.inl ⟨rfl, ?_⟩
     refine rq_less (sx 47 (congrArg some e3.1) (sub_nil _)) (List.sublist_append_right _ _) ?_
     exact (rq_call (by kernel_rfl) rfl (fun w hm => ret_ans (firstAnd_yes n w (hr.below hm.bel) hn)))
    ·
     intro vf pf hR
     have e2 : (vf 2) = .int .i64 (xs.getD i 0) ∧ (pf 2) = [] := hR 2 (by decide)
     have e4 : (vf 4) = .int .i64 n.fst ∧ (pf 4) = [] := hR 4 (by decide)
     refine Or.inl ⟨rfl, ?_⟩
     refine rq_less (sx 46 (congrArg some e2.1) (sx 48 (congrArg some e4.1) (sub_nil _))) (List.sublist_append_right _ _) ?_
     exact rq_v (rv_sub rfl rfl rfl (by constructor <;> omega))
    ·
     intro vf pf hR
     have e1 : (vf 1) = n.av ∧ (pf 1) = [] := hR 1 (by decide)
     have e5 : (vf 5) = .int .i64 ((xs.getD i 0) - n.fst) ∧ (pf 5) = [] := hR 5 (by decide)
     refine Or.inl ⟨rfl, ?_⟩
     refine rq_less (sx 45 (congrArg some e1.1) (sx 49 (congrArg some e5.1) (sub_nil _))) (List.sublist_append_right _ _) ?_
     exact rq_v (rv_index (s := 2) rfl Try.underlying25 (by kernel_rfl) rfl rfl (rd_old hr.an) (by omega) (by first | omega | (simp only [List.length_set]; omega)))
    ·
     intro vf pf hR
     have e6 : (vf 6) = elP n.av (((xs.getD i 0) - n.fst).toNat * 2) ∧ (pf 6) = [] := hR 6 (by decide)
     refine Or.inl ⟨rfl, ?_⟩
     refine rq_less (sx 50 (congrArg some e6.1) (sub_nil _)) (List.sublist_append_right _ _) ?_
     exact rq_v (rv_loadElN (us := [.int .i64 ((n.gs.getD (((xs.getD i 0) - n.fst).toNat) an0).a), .int .i64 ((n.gs.getD (((xs.getD i 0) - n.fst).toNat) an0).b)]) rfl (by kernel_rfl) (by kernel_rfl) rfl (rd_old hr.an) (by omega) rfl (flat_atN anC 2 (fun _ => rfl) n.gs an0 (show ((xs.getD i 0) - n.fst).toNat < _ by first | omega | (simp only [List.length_set]; omega)) rfl))
    ·
     intro vf pf hR
     refine Or.inl ⟨rfl, ?_⟩
     refine rq_less (sub_nil _) (List.sublist_append_right _ _) ?_
     exact rq_alloc (z := .agg #[.int .i64 0, .int .i64 0]) rfl (by kernel_rfl)
   ·
    intro vf pf hR
    have e7 : (vf 7) = .agg #[.int .i64 ((n.gs.getD (((xs.getD i 0) - n.fst).toNat) an0).a), .int .i64 ((n.gs.getD (((xs.getD i 0) - n.fst).toNat) an0).b)] ∧ (pf 7) = [] := hR 7 (by decide)
    have e8 : IsBox #[.int .i64 0, .int .i64 0] 80 (vf 8) (pf 8) := hR 8 (by decide)
    obtain ⟨b13, v8, p8⟩ := e8
    have q0 : (vf 0) = .pointer (some ⟨b1, 0 + 2, none⟩) ∧ (pf 0) = [] := hR 0 (by decide)
    have q1 : (vf 1) = n.av ∧ (pf 1) = [] := hR 1 (by decide)
    have q2 : (vf 2) = .int .i64 (xs.getD i 0) ∧ (pf 2) = [] := hR 2 (by decide)
    have q3 : (vf 3) = .agg #[.int .i64 n.ins, n.sv, n.av, n.ov] ∧ (pf 3) = [] := hR 3 (by decide)
    have q4 : (vf 4) = .int .i64 n.fst ∧ (pf 4) = [] := hR 4 (by decide)
    have q5 : (vf 5) = .int .i64 ((xs.getD i 0) - n.fst) ∧ (pf 5) = [] := hR 5 (by decide)
    have q6 : (vf 6) = elP n.av (((xs.getD i 0) - n.fst).toNat * 2) ∧ (pf 6) = [] := hR 6 (by decide)
    have q7 : (vf 7) = .agg #[.int .i64 ((n.gs.getD (((xs.getD i 0) - n.fst).toNat) an0).a), .int .i64 ((n.gs.getD (((xs.getD i 0) - n.fst).toNat) an0).b)] ∧ (pf 7) = [] := hR 7 (by decide)
    refine hl_less (l' := [boxE b13 #[.int .i64 0, .int .i64 0] 80, bigE (rs.map cPart), rowE 26 1 u rs.length (rs.flatMap crowC), rowE 3 1 v7 xs.length (xs.map (Value.int .i64)), boxE b6 #[.int .i64 n.cnt, u] 42, boxE b2 #[.int .i64 0, .slice none 0 0] 42, boxE b1 #[.int .i64 n.ins, n.sv, n.av, n.ov] 28]) (sx 0 rfl (sx 1 rfl (sx 2 rfl (sx 4 rfl (sx 5 rfl (sx 6 rfl (sx 8 rfl (sx 9 (congrArg some v8) (sx 24 rfl (sx 34 rfl (sx 35 rfl (sx 36 rfl (sx 37 rfl (sx 43 rfl (sx 51 (congrArg some e7.1) (sub_nil _)))))))))))))))) (by first | (simp only [p8, v8, q0.2, q1.2, q2.2, q3.2, q4.2, q5.2, q6.2, q7.2, List.flatMap_cons, List.flatMap_nil, List.append_nil, List.nil_append, List.cons_append]; exact List.Sublist.refl _) | simp [p8, v8, q0.2, q1.2, q2.2, q3.2, q4.2, q5.2, q6.2, q7.2]) ?_
    simp only [List.drop_succ_cons, List.drop_zero]
    refine hl_storeBoxN (i := 0) (off := 0) (us := [.int .i64 ((n.gs.getD (((xs.getD i 0) - n.fst).toNat) an0).a), .int .i64 ((n.gs.getD (((xs.getD i 0) - n.fst).toNat) an0).b)]) (l' := [boxE b13 #[.int .i64 ((n.gs.getD (((xs.getD i 0) - n.fst).toNat) an0).a), .int .i64 ((n.gs.getD (((xs.getD i 0) - n.fst).toNat) an0).b)] 80, bigE (rs.map cPart), rowE 26 1 u rs.length (rs.flatMap crowC), rowE 3 1 v7 xs.length (xs.map (Value.int .i64)), boxE b6 #[.int .i64 n.cnt, u] 42, boxE b2 #[.int .i64 0, .slice none 0 0] 42, boxE b1 #[.int .i64 n.ins, n.sv, n.av, n.ov] 28]) rfl rfl rfl (by kernel_rfl) rfl rfl rfl (all_cons rfl (all_cons rfl all_nil)) rfl rfl rfl ?_
    refine hl_less (sx 0 rfl (sx 1 rfl (sx 2 rfl (sx 4 rfl (sx 5 rfl (sx 6 rfl (sx 8 rfl (sx 9 rfl (sx 24 rfl (sx 34 rfl (sx 35 rfl (sx 36 rfl (sx 37 rfl (sx 43 rfl (sub_nil _))))))))))))))) (.refl _) ?_
    refine hl_nil ?_
    refine hq_then ?_
    refine hc_seq ?_
    refine hc_draw (by kernel_rfl) 8 [0, 1, 2, 3, 4, 5, 6, 7] (List.take 8 _) (List.drop 8 _) [[], [0], [], [2], [3], [], [5], [6]] [52, 53, 54, 55, 56, 57, 58, 59] (fun i_ vs_ v_ p_ => match i_ with | 0 => v_ = .int .i64 (xs.getD i 0) ∧ p_ = [] | 1 => v_ = .int .i64 ((xs.getD i 0) + 1) ∧ p_ = [] | 2 => v_ = .pointer (some ⟨b13, 0 + 0, none⟩) ∧ p_ = [] | 3 => v_ = .int .i64 ((n.gs.getD (((xs.getD i 0) - n.fst).toNat) an0).a) ∧ p_ = [] | 4 => v_ = .int .i64 (lvI ((n.gs.getD (((xs.getD i 0) - n.fst).toNat) an0).a)) ∧ p_ = [] | 5 => v_ = .pointer (some ⟨b13, 0 + 1, none⟩) ∧ p_ = [] | 6 => v_ = .int .i64 ((n.gs.getD (((xs.getD i 0) - n.fst).toNat) an0).b) ∧ p_ = [] | 7 => v_ = .int .i64 (lvI ((n.gs.getD (((xs.getD i 0) - n.fst).toNat) an0).b)) ∧ p_ = [] | _ => True) (List.take_append_drop 8 _).symm (by kernel_rfl) (by kernel_rfl) rfl rfl ?_ ?_
    ·
     refine ⟨?_, ?_, ?_, ?_, ?_, ?_, ?_, ?_, trivial⟩
     ·
      intro vf pf hR
      refine Or.inl ⟨rfl, ?_⟩
      refine rq_less (sx 8 rfl (sub_nil _)) (List.sublist_append_right _ _) ?_
      exact rq_v (rv_ev rfl)
     ·
      intro vf pf hR
      have e0 : (vf 0) = .int .i64 (xs.getD i 0) ∧ (pf 0) = [] := hR 0 (by decide)
      refine Or.inl ⟨rfl, ?_⟩
      refine rq_less (sx 52 (congrArg some e0.1) (sub_nil _)) (List.sublist_append_right _ _) ?_
      exact rq_v (rv_add rfl rfl rfl (by constructor <;> omega))
     ·
      intro vf pf hR
      refine Or.inl ⟨rfl, ?_⟩
      refine rq_less (sx 9 rfl (sub_nil _)) (List.sublist_append_right _ _) ?_
      exact rq_v (rv_field (k0 := 0) rfl (by kernel_rfl) rfl)
     ·
      intro vf pf hR
      have e2 : (vf 2) = .pointer (some ⟨b13, 0 + 0, none⟩) ∧ (pf 2) = [] := hR 2 (by decide)
      refine Or.inl ⟨rfl, ?_⟩
      refine rq_less (sx 54 (congrArg some e2.1) (sub_nil _)) (List.sublist_append_right _ _) ?_
      exact rq_v (rv_load rfl (by kernel_rfl) rfl (box_cell 0 rfl rfl))
     ·
      intro vf pf hR
      have e3 : (vf 3) = .int .i64 ((n.gs.getD (((xs.getD i 0) - n.fst).toNat) an0).a) ∧ (pf 3) = [] := hR 3 (by decide)
      refine Or.inl ⟨rfl, ?_⟩
      refine rq_less (sx 55 (congrArg some e3.1) (sub_nil _)) (List.sublist_append_right _ _) ?_
      exact (rq_call (by kernel_rfl) rfl (fun w hm => ret_ans (LitVar_ans ((n.gs.getD (((xs.getD i 0) - n.fst).toNat) an0).a) w (by omega))))
     ·
      intro vf pf hR
      refine Or.inl ⟨rfl, ?_⟩
      refine rq_less (sx 9 rfl (sub_nil _)) (List.sublist_append_right _ _) ?_
      exact rq_v (rv_field (k0 := 1) rfl (by kernel_rfl) rfl)
     ·
      intro vf pf hR
      have e5 : (vf 5) = .pointer (some ⟨b13, 0 + 1, none⟩) ∧ (pf 5) = [] := hR 5 (by decide)
      refine Or.inl ⟨rfl, ?_⟩
      refine rq_less (sx 57 (congrArg some e5.1) (sub_nil _)) (List.sublist_append_right _ _) ?_
      exact rq_v (rv_load rfl (by kernel_rfl) rfl (box_cell 0 rfl rfl))
     ·
      intro vf pf hR
      have e6 : (vf 6) = .int .i64 ((n.gs.getD (((xs.getD i 0) - n.fst).toNat) an0).b) ∧ (pf 6) = [] := hR 6 (by decide)
      refine Or.inl ⟨rfl, ?_⟩
      refine rq_less (sx 58 (congrArg some e6.1) (sub_nil _)) (List.sublist_append_right _ _) ?_
      exact (rq_call (by kernel_rfl) rfl (fun w hm => ret_ans (LitVar_ans ((n.gs.getD (((xs.getD i 0) - n.fst).toNat) an0).b) w (by omega))))
    ·
     intro vf pf hR
     have e1 : (vf 1) = .int .i64 ((xs.getD i 0) + 1) ∧ (pf 1) = [] := hR 1 (by decide)
     have e4 : (vf 4) = .int .i64 (lvI ((n.gs.getD (((xs.getD i 0) - n.fst).toNat) an0).a)) ∧ (pf 4) = [] := hR 4 (by decide)
     have e7 : (vf 7) = .int .i64 (lvI ((n.gs.getD (((xs.getD i 0) - n.fst).toNat) an0).b)) ∧ (pf 7) = [] := hR 7 (by decide)
     refine hl_less (l' := [boxE b13 #[.int .i64 ((n.gs.getD (((xs.getD i 0) - n.fst).toNat) an0).a), .int .i64 ((n.gs.getD (((xs.getD i 0) - n.fst).toNat) an0).b)] 80, bigE (rs.map cPart), rowE 26 1 u rs.length (rs.flatMap crowC), rowE 3 1 v7 xs.length (xs.map (Value.int .i64)), boxE b6 #[.int .i64 n.cnt, u] 42, boxE b2 #[.int .i64 0, .slice none 0 0] 42, boxE b1 #[.int .i64 n.ins, n.sv, n.av, n.ov] 28]) (sx 0 rfl (sx 1 rfl (sx 2 rfl (sx 4 rfl (sx 5 rfl (sx 6 rfl (sx 8 rfl (sx 9 rfl (sx 24 rfl (sx 34 rfl (sx 35 rfl (sx 36 rfl (sx 37 rfl (sx 43 rfl (sx 53 (congrArg some e1.1) (sx 56 (congrArg some e4.1) (sx 59 (congrArg some e7.1) (sub_nil _)))))))))))))))))) (List.sublist_append_right _ _) ?_
     simp only [List.drop_succ_cons, List.drop_zero]
     refine hl_v rfl rfl rfl (rv_ev rfl) ?_
     refine hl_v rfl rfl rfl (rv_ev rfl) ?_
     refine hl_v rfl rfl rfl (rv_ev rfl) ?_
     refine hl_less (sx 0 rfl (sx 1 rfl (sx 2 rfl (sx 4 rfl (sx 5 rfl (sx 6 rfl (sx 8 rfl (sx 9 rfl (sx 10 rfl (sx 11 rfl (sx 12 rfl (sx 24 rfl (sx 34 rfl (sx 35 rfl (sx 36 rfl (sx 37 rfl (sx 43 rfl (sub_nil _)))))))))))))))))) (.refl _) ?_
     refine hl_nil ?_
     refine hq_then ?_
     refine hc_region ?_
     refine hl_v rfl rfl rfl (rv_field (k0 := 1) rfl (by kernel_rfl) rfl) ?_
     refine hl_v rfl rfl rfl (rv_load rfl (by kernel_rfl) rfl (box_cell 4 rfl rfl)) ?_
     refine hl_v rfl rfl rfl (rv_ev rfl) ?_
     refine hl_v rfl rfl rfl (rv_neg rfl rfl (by omega) (by omega)) ?_
     refine hl_v rfl rfl rfl (rv_ev rfl) ?_
     refine hl_row rfl rfl rfl (rq_buildSlice (z := .int .i64 0) (s := 1) (cs := ([-((xs.getD i 0) + 1), lvI ((n.gs.getD (((xs.getD i 0) - n.fst).toNat) an0).a)].map (Value.int .i64))) rfl Try.underlying26 (by kernel_rfl) (by decide) rfl (by kernel_rfl) rfl) ?_
     intro g14
     refine hl_v rfl rfl rfl (rv_ev rfl) ?_
     refine hl_v rfl rfl rfl (rv_neg rfl rfl (by omega) (by omega)) ?_
     refine hl_v rfl rfl rfl (rv_ev rfl) ?_
     refine hl_row rfl rfl rfl (rq_buildSlice (z := .int .i64 0) (s := 1) (cs := ([-((xs.getD i 0) + 1), lvI ((n.gs.getD (((xs.getD i 0) - n.fst).toNat) an0).b)].map (Value.int .i64))) rfl Try.underlying26 (by kernel_rfl) (by decide) rfl (by kernel_rfl) rfl) ?_
     intro g15
     refine hl_v rfl rfl rfl (rv_ev rfl) ?_
     refine hl_v rfl rfl rfl (rv_ev rfl) ?_
     refine hl_v rfl rfl rfl (rv_neg rfl rfl (by omega) (by omega)) ?_
     refine hl_v rfl rfl rfl (rv_ev rfl) ?_
     refine hl_v rfl rfl rfl (rv_neg rfl rfl (by omega) (by omega)) ?_
     refine hl_row rfl rfl rfl (rq_buildSlice (z := .int .i64 0) (s := 1) (cs := ([(xs.getD i 0) + 1, -(lvI ((n.gs.getD (((xs.getD i 0) - n.fst).toNat) an0).a)), -(lvI ((n.gs.getD (((xs.getD i 0) - n.fst).toNat) an0).b))].map (Value.int .i64))) rfl Try.underlying26 (by kernel_rfl) (by decide) rfl (by kernel_rfl) rfl) ?_
     intro g16
     refine hl_row rfl rfl rfl (rq_buildSlice (z := .slice none 0 0) (s := 1) (cs := [.slice (some ⟨g14, 0, none⟩) 2 2, .slice (some ⟨g15, 0, none⟩) 2 2, .slice (some ⟨g16, 0, none⟩) 3 3]) rfl Try.underlying40 (by kernel_rfl) (by decide) rfl (by kernel_rfl) rfl) ?_
     intro g17
     refine hl_append (i := 6) (z := .slice none 0 0) (bytes := 24) (n' := (rs ++ [(CRow.mk (.slice (some ⟨g14, 0, none⟩) 2 2) ([-((xs.getD i 0) + 1), lvI ((n.gs.getD (((xs.getD i 0) - n.fst).toNat) an0).a)])), (CRow.mk (.slice (some ⟨g15, 0, none⟩) 2 2) ([-((xs.getD i 0) + 1), lvI ((n.gs.getD (((xs.getD i 0) - n.fst).toNat) an0).b)])), (CRow.mk (.slice (some ⟨g16, 0, none⟩) 3 3) ([(xs.getD i 0) + 1, -(lvI ((n.gs.getD (((xs.getD i 0) - n.fst).toNat) an0).a)), -(lvI ((n.gs.getD (((xs.getD i 0) - n.fst).toNat) an0).b))]))]).length) (xs' := ((rs ++ [(CRow.mk (.slice (some ⟨g14, 0, none⟩) 2 2) ([-((xs.getD i 0) + 1), lvI ((n.gs.getD (((xs.getD i 0) - n.fst).toNat) an0).a)])), (CRow.mk (.slice (some ⟨g15, 0, none⟩) 2 2) ([-((xs.getD i 0) + 1), lvI ((n.gs.getD (((xs.getD i 0) - n.fst).toNat) an0).b)])), (CRow.mk (.slice (some ⟨g16, 0, none⟩) 3 3) ([(xs.getD i 0) + 1, -(lvI ((n.gs.getD (((xs.getD i 0) - n.fst).toNat) an0).a)), -(lvI ((n.gs.getD (((xs.getD i 0) - n.fst).toNat) an0).b))]))]).flatMap crowC)) (L := fun v18 => [rowE 26 1 (.slice (some ⟨g17, 0, none⟩) 3 3) 3 ([.slice (some ⟨g14, 0, none⟩) 2 2, .slice (some ⟨g15, 0, none⟩) 2 2, .slice (some ⟨g16, 0, none⟩) 3 3]), rowE 3 1 (.slice (some ⟨g16, 0, none⟩) 3 3) 3 ([(xs.getD i 0) + 1, -(lvI ((n.gs.getD (((xs.getD i 0) - n.fst).toNat) an0).a)), -(lvI ((n.gs.getD (((xs.getD i 0) - n.fst).toNat) an0).b))].map (Value.int .i64)), rowE 3 1 (.slice (some ⟨g15, 0, none⟩) 2 2) 2 ([-((xs.getD i 0) + 1), lvI ((n.gs.getD (((xs.getD i 0) - n.fst).toNat) an0).b)].map (Value.int .i64)), rowE 3 1 (.slice (some ⟨g14, 0, none⟩) 2 2) 2 ([-((xs.getD i 0) + 1), lvI ((n.gs.getD (((xs.getD i 0) - n.fst).toNat) an0).a)].map (Value.int .i64)), boxE b13 #[.int .i64 ((n.gs.getD (((xs.getD i 0) - n.fst).toNat) an0).a), .int .i64 ((n.gs.getD (((xs.getD i 0) - n.fst).toNat) an0).b)] 80, bigE (rs.map cPart), rowE 26 1 v18 ((rs ++ [(CRow.mk (.slice (some ⟨g14, 0, none⟩) 2 2) ([-((xs.getD i 0) + 1), lvI ((n.gs.getD (((xs.getD i 0) - n.fst).toNat) an0).a)])), (CRow.mk (.slice (some ⟨g15, 0, none⟩) 2 2) ([-((xs.getD i 0) + 1), lvI ((n.gs.getD (((xs.getD i 0) - n.fst).toNat) an0).b)])), (CRow.mk (.slice (some ⟨g16, 0, none⟩) 3 3) ([(xs.getD i 0) + 1, -(lvI ((n.gs.getD (((xs.getD i 0) - n.fst).toNat) an0).a)), -(lvI ((n.gs.getD (((xs.getD i 0) - n.fst).toNat) an0).b))]))]).length) ((rs ++ [(CRow.mk (.slice (some ⟨g14, 0, none⟩) 2 2) ([-((xs.getD i 0) + 1), lvI ((n.gs.getD (((xs.getD i 0) - n.fst).toNat) an0).a)])), (CRow.mk (.slice (some ⟨g15, 0, none⟩) 2 2) ([-((xs.getD i 0) + 1), lvI ((n.gs.getD (((xs.getD i 0) - n.fst).toNat) an0).b)])), (CRow.mk (.slice (some ⟨g16, 0, none⟩) 3 3) ([(xs.getD i 0) + 1, -(lvI ((n.gs.getD (((xs.getD i 0) - n.fst).toNat) an0).a)), -(lvI ((n.gs.getD (((xs.getD i 0) - n.fst).toNat) an0).b))]))]).flatMap crowC), rowE 3 1 v7 xs.length (xs.map (Value.int .i64)), boxE b6 #[.int .i64 n.cnt, u] 42, boxE b2 #[.int .i64 0, .slice none 0 0] 42, boxE b1 #[.int .i64 n.ins, n.sv, n.av, n.ov] 28]) rfl rfl rfl rfl Try.underlying40 (by kernel_rfl) (by kernel_rfl) rfl rfl rfl (rd_row 0 rfl) (by simp [Value.oneCell']) (by simp; omega) (len_app rs [(CRow.mk (.slice (some ⟨g14, 0, none⟩) 2 2) ([-((xs.getD i 0) + 1), lvI ((n.gs.getD (((xs.getD i 0) - n.fst).toNat) an0).a)])), (CRow.mk (.slice (some ⟨g15, 0, none⟩) 2 2) ([-((xs.getD i 0) + 1), lvI ((n.gs.getD (((xs.getD i 0) - n.fst).toNat) an0).b)])), (CRow.mk (.slice (some ⟨g16, 0, none⟩) 3 3) ([(xs.getD i 0) + 1, -(lvI ((n.gs.getD (((xs.getD i 0) - n.fst).toNat) an0).a)), -(lvI ((n.gs.getD (((xs.getD i 0) - n.fst).toNat) an0).b))]))]) (by rw [List.flatMap_append]; rfl) (fun _ => rfl) ?_
     intro v18
     refine hl_v rfl rfl rfl (rv_field (k0 := 1) rfl (by kernel_rfl) rfl) ?_
     refine hl_one (i := 6) rfl (fun ho19 => ?_)
     refine hl_storeBox (i := 8) (l' := [rowE 26 1 (.slice (some ⟨g17, 0, none⟩) 3 3) 3 ([.slice (some ⟨g14, 0, none⟩) 2 2, .slice (some ⟨g15, 0, none⟩) 2 2, .slice (some ⟨g16, 0, none⟩) 3 3]), rowE 3 1 (.slice (some ⟨g16, 0, none⟩) 3 3) 3 ([(xs.getD i 0) + 1, -(lvI ((n.gs.getD (((xs.getD i 0) - n.fst).toNat) an0).a)), -(lvI ((n.gs.getD (((xs.getD i 0) - n.fst).toNat) an0).b))].map (Value.int .i64)), rowE 3 1 (.slice (some ⟨g15, 0, none⟩) 2 2) 2 ([-((xs.getD i 0) + 1), lvI ((n.gs.getD (((xs.getD i 0) - n.fst).toNat) an0).b)].map (Value.int .i64)), rowE 3 1 (.slice (some ⟨g14, 0, none⟩) 2 2) 2 ([-((xs.getD i 0) + 1), lvI ((n.gs.getD (((xs.getD i 0) - n.fst).toNat) an0).a)].map (Value.int .i64)), boxE b13 #[.int .i64 ((n.gs.getD (((xs.getD i 0) - n.fst).toNat) an0).a), .int .i64 ((n.gs.getD (((xs.getD i 0) - n.fst).toNat) an0).b)] 80, bigE (rs.map cPart), rowE 26 1 v18 ((rs ++ [(CRow.mk (.slice (some ⟨g14, 0, none⟩) 2 2) ([-((xs.getD i 0) + 1), lvI ((n.gs.getD (((xs.getD i 0) - n.fst).toNat) an0).a)])), (CRow.mk (.slice (some ⟨g15, 0, none⟩) 2 2) ([-((xs.getD i 0) + 1), lvI ((n.gs.getD (((xs.getD i 0) - n.fst).toNat) an0).b)])), (CRow.mk (.slice (some ⟨g16, 0, none⟩) 3 3) ([(xs.getD i 0) + 1, -(lvI ((n.gs.getD (((xs.getD i 0) - n.fst).toNat) an0).a)), -(lvI ((n.gs.getD (((xs.getD i 0) - n.fst).toNat) an0).b))]))]).length) ((rs ++ [(CRow.mk (.slice (some ⟨g14, 0, none⟩) 2 2) ([-((xs.getD i 0) + 1), lvI ((n.gs.getD (((xs.getD i 0) - n.fst).toNat) an0).a)])), (CRow.mk (.slice (some ⟨g15, 0, none⟩) 2 2) ([-((xs.getD i 0) + 1), lvI ((n.gs.getD (((xs.getD i 0) - n.fst).toNat) an0).b)])), (CRow.mk (.slice (some ⟨g16, 0, none⟩) 3 3) ([(xs.getD i 0) + 1, -(lvI ((n.gs.getD (((xs.getD i 0) - n.fst).toNat) an0).a)), -(lvI ((n.gs.getD (((xs.getD i 0) - n.fst).toNat) an0).b))]))]).flatMap crowC), rowE 3 1 v7 xs.length (xs.map (Value.int .i64)), boxE b6 #[.int .i64 n.cnt, v18] 42, boxE b2 #[.int .i64 0, .slice none 0 0] 42, boxE b1 #[.int .i64 n.ins, n.sv, n.av, n.ov] 28]) rfl rfl rfl (by kernel_rfl) rfl rfl ho19 rfl rfl rfl ?_
     refine hl_less (sx 0 rfl (sx 1 rfl (sx 2 rfl (sx 4 rfl (sx 5 rfl (sx 6 rfl (sx 8 rfl (sx 9 rfl (sx 10 rfl (sx 11 rfl (sx 12 rfl (sx 24 rfl (sx 34 rfl (sx 35 rfl (sx 36 rfl (sx 37 rfl (sx 43 rfl (sub_nil _)))))))))))))))))) (.refl _) ?_
     refine hl_nil ?_
     refine hq_block_normal ?_
     refine hq_then ?_
     refine hc_region ?_
     refine hl_v rfl rfl rfl (rv_add rfl rfl rfl (by constructor <;> omega)) ?_
     refine hl_v rfl rfl rfl (rv_ev rfl) ?_
     refine hl_less (sx 0 rfl (sx 1 rfl (sx 2 rfl (sx 4 rfl (sx 5 rfl (sx 6 rfl (sx 8 rfl (sx 9 rfl (sx 10 rfl (sx 11 rfl (sx 12 rfl (sx 24 rfl (sx 34 rfl (sx 35 rfl (sx 36 rfl (sx 37 rfl (sx 43 rfl (sub_nil _)))))))))))))))))) (.refl _) ?_
     refine hl_nil ?_
     refine hq_conv [bigE (rs.map cPart), rowE 3 1 (.slice (some ⟨g14, 0, none⟩) 2 2) 2 ([-((xs.getD i 0) + 1), lvI ((n.gs.getD (((xs.getD i 0) - n.fst).toNat) an0).a)].map (Value.int .i64)), rowE 3 1 (.slice (some ⟨g15, 0, none⟩) 2 2) 2 ([-((xs.getD i 0) + 1), lvI ((n.gs.getD (((xs.getD i 0) - n.fst).toNat) an0).b)].map (Value.int .i64)), rowE 3 1 (.slice (some ⟨g16, 0, none⟩) 3 3) 3 ([(xs.getD i 0) + 1, -(lvI ((n.gs.getD (((xs.getD i 0) - n.fst).toNat) an0).a)), -(lvI ((n.gs.getD (((xs.getD i 0) - n.fst).toNat) an0).b))].map (Value.int .i64)), rowE 26 1 (.slice (some ⟨g17, 0, none⟩) 3 3) 3 ([.slice (some ⟨g14, 0, none⟩) 2 2, .slice (some ⟨g15, 0, none⟩) 2 2, .slice (some ⟨g16, 0, none⟩) 3 3]), boxE b13 #[.int .i64 ((n.gs.getD (((xs.getD i 0) - n.fst).toNat) an0).a), .int .i64 ((n.gs.getD (((xs.getD i 0) - n.fst).toNat) an0).b)] 80, rowE 26 1 v18 ((rs ++ [(CRow.mk (.slice (some ⟨g14, 0, none⟩) 2 2) ([-((xs.getD i 0) + 1), lvI ((n.gs.getD (((xs.getD i 0) - n.fst).toNat) an0).a)])), (CRow.mk (.slice (some ⟨g15, 0, none⟩) 2 2) ([-((xs.getD i 0) + 1), lvI ((n.gs.getD (((xs.getD i 0) - n.fst).toNat) an0).b)])), (CRow.mk (.slice (some ⟨g16, 0, none⟩) 3 3) ([(xs.getD i 0) + 1, -(lvI ((n.gs.getD (((xs.getD i 0) - n.fst).toNat) an0).a)), -(lvI ((n.gs.getD (((xs.getD i 0) - n.fst).toNat) an0).b))]))]).length) ((rs ++ [(CRow.mk (.slice (some ⟨g14, 0, none⟩) 2 2) ([-((xs.getD i 0) + 1), lvI ((n.gs.getD (((xs.getD i 0) - n.fst).toNat) an0).a)])), (CRow.mk (.slice (some ⟨g15, 0, none⟩) 2 2) ([-((xs.getD i 0) + 1), lvI ((n.gs.getD (((xs.getD i 0) - n.fst).toNat) an0).b)])), (CRow.mk (.slice (some ⟨g16, 0, none⟩) 3 3) ([(xs.getD i 0) + 1, -(lvI ((n.gs.getD (((xs.getD i 0) - n.fst).toNat) an0).a)), -(lvI ((n.gs.getD (((xs.getD i 0) - n.fst).toNat) an0).b))]))]).flatMap crowC), rowE 3 1 v7 xs.length (xs.map (Value.int .i64)), boxE b6 #[.int .i64 n.cnt, v18] 42, boxE b2 #[.int .i64 0, .slice none 0 0] 42, boxE b1 #[.int .i64 n.ins, n.sv, n.av, n.ov] 28] (conv_pick (src := [rowE 26 1 (.slice (some ⟨g17, 0, none⟩) 3 3) 3 ([.slice (some ⟨g14, 0, none⟩) 2 2, .slice (some ⟨g15, 0, none⟩) 2 2, .slice (some ⟨g16, 0, none⟩) 3 3]), rowE 3 1 (.slice (some ⟨g16, 0, none⟩) 3 3) 3 ([(xs.getD i 0) + 1, -(lvI ((n.gs.getD (((xs.getD i 0) - n.fst).toNat) an0).a)), -(lvI ((n.gs.getD (((xs.getD i 0) - n.fst).toNat) an0).b))].map (Value.int .i64)), rowE 3 1 (.slice (some ⟨g15, 0, none⟩) 2 2) 2 ([-((xs.getD i 0) + 1), lvI ((n.gs.getD (((xs.getD i 0) - n.fst).toNat) an0).b)].map (Value.int .i64)), rowE 3 1 (.slice (some ⟨g14, 0, none⟩) 2 2) 2 ([-((xs.getD i 0) + 1), lvI ((n.gs.getD (((xs.getD i 0) - n.fst).toNat) an0).a)].map (Value.int .i64)), boxE b13 #[.int .i64 ((n.gs.getD (((xs.getD i 0) - n.fst).toNat) an0).a), .int .i64 ((n.gs.getD (((xs.getD i 0) - n.fst).toNat) an0).b)] 80, bigE (rs.map cPart), rowE 26 1 v18 ((rs ++ [(CRow.mk (.slice (some ⟨g14, 0, none⟩) 2 2) ([-((xs.getD i 0) + 1), lvI ((n.gs.getD (((xs.getD i 0) - n.fst).toNat) an0).a)])), (CRow.mk (.slice (some ⟨g15, 0, none⟩) 2 2) ([-((xs.getD i 0) + 1), lvI ((n.gs.getD (((xs.getD i 0) - n.fst).toNat) an0).b)])), (CRow.mk (.slice (some ⟨g16, 0, none⟩) 3 3) ([(xs.getD i 0) + 1, -(lvI ((n.gs.getD (((xs.getD i 0) - n.fst).toNat) an0).a)), -(lvI ((n.gs.getD (((xs.getD i 0) - n.fst).toNat) an0).b))]))]).length) ((rs ++ [(CRow.mk (.slice (some ⟨g14, 0, none⟩) 2 2) ([-((xs.getD i 0) + 1), lvI ((n.gs.getD (((xs.getD i 0) - n.fst).toNat) an0).a)])), (CRow.mk (.slice (some ⟨g15, 0, none⟩) 2 2) ([-((xs.getD i 0) + 1), lvI ((n.gs.getD (((xs.getD i 0) - n.fst).toNat) an0).b)])), (CRow.mk (.slice (some ⟨g16, 0, none⟩) 3 3) ([(xs.getD i 0) + 1, -(lvI ((n.gs.getD (((xs.getD i 0) - n.fst).toNat) an0).a)), -(lvI ((n.gs.getD (((xs.getD i 0) - n.fst).toNat) an0).b))]))]).flatMap crowC), rowE 3 1 v7 xs.length (xs.map (Value.int .i64)), boxE b6 #[.int .i64 n.cnt, v18] 42, boxE b2 #[.int .i64 0, .slice none 0 0] 42, boxE b1 #[.int .i64 n.ins, n.sv, n.av, n.ov] 28]) (dst := [bigE (rs.map cPart), rowE 3 1 (.slice (some ⟨g14, 0, none⟩) 2 2) 2 ([-((xs.getD i 0) + 1), lvI ((n.gs.getD (((xs.getD i 0) - n.fst).toNat) an0).a)].map (Value.int .i64)), rowE 3 1 (.slice (some ⟨g15, 0, none⟩) 2 2) 2 ([-((xs.getD i 0) + 1), lvI ((n.gs.getD (((xs.getD i 0) - n.fst).toNat) an0).b)].map (Value.int .i64)), rowE 3 1 (.slice (some ⟨g16, 0, none⟩) 3 3) 3 ([(xs.getD i 0) + 1, -(lvI ((n.gs.getD (((xs.getD i 0) - n.fst).toNat) an0).a)), -(lvI ((n.gs.getD (((xs.getD i 0) - n.fst).toNat) an0).b))].map (Value.int .i64)), rowE 26 1 (.slice (some ⟨g17, 0, none⟩) 3 3) 3 ([.slice (some ⟨g14, 0, none⟩) 2 2, .slice (some ⟨g15, 0, none⟩) 2 2, .slice (some ⟨g16, 0, none⟩) 3 3]), boxE b13 #[.int .i64 ((n.gs.getD (((xs.getD i 0) - n.fst).toNat) an0).a), .int .i64 ((n.gs.getD (((xs.getD i 0) - n.fst).toNat) an0).b)] 80, rowE 26 1 v18 ((rs ++ [(CRow.mk (.slice (some ⟨g14, 0, none⟩) 2 2) ([-((xs.getD i 0) + 1), lvI ((n.gs.getD (((xs.getD i 0) - n.fst).toNat) an0).a)])), (CRow.mk (.slice (some ⟨g15, 0, none⟩) 2 2) ([-((xs.getD i 0) + 1), lvI ((n.gs.getD (((xs.getD i 0) - n.fst).toNat) an0).b)])), (CRow.mk (.slice (some ⟨g16, 0, none⟩) 3 3) ([(xs.getD i 0) + 1, -(lvI ((n.gs.getD (((xs.getD i 0) - n.fst).toNat) an0).a)), -(lvI ((n.gs.getD (((xs.getD i 0) - n.fst).toNat) an0).b))]))]).length) ((rs ++ [(CRow.mk (.slice (some ⟨g14, 0, none⟩) 2 2) ([-((xs.getD i 0) + 1), lvI ((n.gs.getD (((xs.getD i 0) - n.fst).toNat) an0).a)])), (CRow.mk (.slice (some ⟨g15, 0, none⟩) 2 2) ([-((xs.getD i 0) + 1), lvI ((n.gs.getD (((xs.getD i 0) - n.fst).toNat) an0).b)])), (CRow.mk (.slice (some ⟨g16, 0, none⟩) 3 3) ([(xs.getD i 0) + 1, -(lvI ((n.gs.getD (((xs.getD i 0) - n.fst).toNat) an0).a)), -(lvI ((n.gs.getD (((xs.getD i 0) - n.fst).toNat) an0).b))]))]).flatMap crowC), rowE 3 1 v7 xs.length (xs.map (Value.int .i64)), boxE b6 #[.int .i64 n.cnt, v18] 42, boxE b2 #[.int .i64 0, .slice none 0 0] 42, boxE b1 #[.int .i64 n.ins, n.sv, n.av, n.ov] 28]) (l := []) [5, 3, 2, 1, 0, 4, 6, 7, 8, 9, 10] (by decide) rfl) ?_
     refine hq_conv [bigE ((rs ++ [(CRow.mk (.slice (some ⟨g14, 0, none⟩) 2 2) ([-((xs.getD i 0) + 1), lvI ((n.gs.getD (((xs.getD i 0) - n.fst).toNat) an0).a)])), (CRow.mk (.slice (some ⟨g15, 0, none⟩) 2 2) ([-((xs.getD i 0) + 1), lvI ((n.gs.getD (((xs.getD i 0) - n.fst).toNat) an0).b)])), (CRow.mk (.slice (some ⟨g16, 0, none⟩) 3 3) ([(xs.getD i 0) + 1, -(lvI ((n.gs.getD (((xs.getD i 0) - n.fst).toNat) an0).a)), -(lvI ((n.gs.getD (((xs.getD i 0) - n.fst).toNat) an0).b))]))]).map cPart), rowE 26 1 (.slice (some ⟨g17, 0, none⟩) 3 3) 3 ([.slice (some ⟨g14, 0, none⟩) 2 2, .slice (some ⟨g15, 0, none⟩) 2 2, .slice (some ⟨g16, 0, none⟩) 3 3]), boxE b13 #[.int .i64 ((n.gs.getD (((xs.getD i 0) - n.fst).toNat) an0).a), .int .i64 ((n.gs.getD (((xs.getD i 0) - n.fst).toNat) an0).b)] 80, rowE 26 1 v18 ((rs ++ [(CRow.mk (.slice (some ⟨g14, 0, none⟩) 2 2) ([-((xs.getD i 0) + 1), lvI ((n.gs.getD (((xs.getD i 0) - n.fst).toNat) an0).a)])), (CRow.mk (.slice (some ⟨g15, 0, none⟩) 2 2) ([-((xs.getD i 0) + 1), lvI ((n.gs.getD (((xs.getD i 0) - n.fst).toNat) an0).b)])), (CRow.mk (.slice (some ⟨g16, 0, none⟩) 3 3) ([(xs.getD i 0) + 1, -(lvI ((n.gs.getD (((xs.getD i 0) - n.fst).toNat) an0).a)), -(lvI ((n.gs.getD (((xs.getD i 0) - n.fst).toNat) an0).b))]))]).length) ((rs ++ [(CRow.mk (.slice (some ⟨g14, 0, none⟩) 2 2) ([-((xs.getD i 0) + 1), lvI ((n.gs.getD (((xs.getD i 0) - n.fst).toNat) an0).a)])), (CRow.mk (.slice (some ⟨g15, 0, none⟩) 2 2) ([-((xs.getD i 0) + 1), lvI ((n.gs.getD (((xs.getD i 0) - n.fst).toNat) an0).b)])), (CRow.mk (.slice (some ⟨g16, 0, none⟩) 3 3) ([(xs.getD i 0) + 1, -(lvI ((n.gs.getD (((xs.getD i 0) - n.fst).toNat) an0).a)), -(lvI ((n.gs.getD (((xs.getD i 0) - n.fst).toNat) an0).b))]))]).flatMap crowC), rowE 3 1 v7 xs.length (xs.map (Value.int .i64)), boxE b6 #[.int .i64 n.cnt, v18] 42, boxE b2 #[.int .i64 0, .slice none 0 0] 42, boxE b1 #[.int .i64 n.ins, n.sv, n.av, n.ov] 28] (fun w hm => by rw [List.map_append]; exact conv_snoc3 w hm) ?_
     have hrm : (rs ++ [(CRow.mk (.slice (some ⟨g14, 0, none⟩) 2 2) ([-((xs.getD i 0) + 1), lvI ((n.gs.getD (((xs.getD i 0) - n.fst).toNat) an0).a)])), (CRow.mk (.slice (some ⟨g15, 0, none⟩) 2 2) ([-((xs.getD i 0) + 1), lvI ((n.gs.getD (((xs.getD i 0) - n.fst).toNat) an0).b)])), (CRow.mk (.slice (some ⟨g16, 0, none⟩) 3 3) ([(xs.getD i 0) + 1, -(lvI ((n.gs.getD (((xs.getD i 0) - n.fst).toNat) an0).a)), -(lvI ((n.gs.getD (((xs.getD i 0) - n.fst).toNat) an0).b))]))]).map CRow.xs = ncL n xs (i + 1) := by rw [List.map_append, hrs, ← ncL_yes (by omega) (by assumption)]; rfl
     exact hq_round3 (i + 1) v18 (rs ++ [(CRow.mk (.slice (some ⟨g14, 0, none⟩) 2 2) ([-((xs.getD i 0) + 1), lvI ((n.gs.getD (((xs.getD i 0) - n.fst).toNat) an0).a)])), (CRow.mk (.slice (some ⟨g15, 0, none⟩) 2 2) ([-((xs.getD i 0) + 1), lvI ((n.gs.getD (((xs.getD i 0) - n.fst).toNat) an0).b)])), (CRow.mk (.slice (some ⟨g16, 0, none⟩) 3 3) ([(xs.getD i 0) + 1, -(lvI ((n.gs.getD (((xs.getD i 0) - n.fst).toNat) an0).a)), -(lvI ((n.gs.getD (((xs.getD i 0) - n.fst).toNat) an0).b))]))]) ⟨by omega, hrm⟩ (by omega) (sx 0 rfl (sx 1 rfl (sx 2 rfl (sx 4 rfl (sx 5 rfl (sx 6 rfl (sx 24 rfl (sx 34 rfl (sx 35 rfl (sx 36 rfl (sub_nil _))))))))))) ((.cons_cons _ (.cons _ (.cons _ (.cons_cons _ (.cons_cons _ (.cons_cons _ (.cons_cons _ (.cons_cons _ .slnil)))))))))
  ·
   refine hl_v rfl rfl rfl (rv_ev rfl) ?_
   refine hl_less (sx 0 rfl (sx 1 rfl (sx 2 rfl (sx 4 rfl (sx 5 rfl (sx 6 rfl (sx 8 rfl (sx 24 rfl (sx 34 rfl (sx 35 rfl (sx 36 rfl (sx 37 rfl (sx 43 rfl (sub_nil _)))))))))))))) (.refl _) ?_
   refine hl_nil ?_
   refine hq_then ?_
   refine hc_true rfl ?_
   refine hc_exit ?_
   refine hq_then_exit ?_
   refine hq_block_exit ?_
   refine hq_then ?_
   refine hc_region ?_
   refine hl_v rfl rfl rfl (rv_add rfl rfl rfl (by constructor <;> omega)) ?_
   refine hl_v rfl rfl rfl (rv_ev rfl) ?_
   refine hl_less (sx 0 rfl (sx 1 rfl (sx 2 rfl (sx 4 rfl (sx 5 rfl (sx 6 rfl (sx 8 rfl (sx 24 rfl (sx 34 rfl (sx 35 rfl (sx 36 rfl (sx 37 rfl (sx 43 rfl (sub_nil _)))))))))))))) (.refl _) ?_
   refine hl_nil ?_
   exact hq_round3 (i + 1) u rs ⟨by omega, by rw [hrs]; exact ncL_no (by omega) (by assumption)⟩ (by omega) (sx 0 rfl (sx 1 rfl (sx 2 rfl (sx 4 rfl (sx 5 rfl (sx 6 rfl (sx 24 rfl (sx 34 rfl (sx 35 rfl (sx 36 rfl (sub_nil _))))))))))) ((.cons_cons _ (.cons_cons _ (.cons_cons _ (.cons_cons _ (.cons_cons _ (.cons_cons _ .slnil)))))))
 ·
  refine hl_less (sx 0 rfl (sx 1 rfl (sx 2 rfl (sx 4 rfl (sx 5 rfl (sx 6 rfl (sx 24 rfl (sx 34 rfl (sx 35 rfl (sx 36 rfl (sx 37 rfl (sub_nil _)))))))))))) (.refl _) ?_
  refine hl_nil ?_
  refine hq_then ?_
  refine hc_seq ?_
  refine hc_false rfl ?_
  refine hc_exit ?_
  refine hq_then_exit ?_
  refine hq_then_exit ?_
  refine hq_block_exit ?_
  refine hq_then ?_
  refine hc_seq ?_
  refine hc_draw (by kernel_rfl) 6 [0, 1, 2, 3, 4, 5] (List.take 6 _) (List.drop 6 _) [[], [0], [], [2], [3], [4]] [80, 81, 82, 83, 84, 85] (fun i_ vs_ v_ p_ => match i_ with | 0 => v_ = .pointer (some ⟨b6, 0 + 1, none⟩) ∧ p_ = [] | 1 => v_ = u ∧ p_ = [] | 2 => v_ = .int .i64 lit ∧ p_ = [] | 3 => v_ = .int .i64 (lvI lit) ∧ p_ = [] | 4 => IsRow_o 3 1 1 ([lvI lit].map (Value.int .i64)) v_ p_ | 5 => IsRow_o 26 1 1 ([(List.getD vs_ 0 undef)]) v_ p_ | _ => True) (List.take_append_drop 6 _).symm (by kernel_rfl) (by kernel_rfl) rfl rfl ?_ ?_
  ·
   refine ⟨?_, ?_, ?_, ?_, ?_, ?_, trivial⟩
   ·
    intro vf pf hR
    refine Or.inl ⟨rfl, ?_⟩
    refine rq_less (sx 6 rfl (sub_nil _)) (List.sublist_append_right _ _) ?_
    exact rq_v (rv_field (k0 := 1) rfl (by kernel_rfl) rfl)
   ·
    intro vf pf hR
    have e0 : (vf 0) = .pointer (some ⟨b6, 0 + 1, none⟩) ∧ (pf 0) = [] := hR 0 (by decide)
    refine Or.inl ⟨rfl, ?_⟩
    refine rq_less (sx 80 (congrArg some e0.1) (sub_nil _)) (List.sublist_append_right _ _) ?_
    exact rq_v (rv_load rfl (by kernel_rfl) rfl (box_cell 3 rfl rfl))
   ·
    intro vf pf hR
    refine Or.inl ⟨rfl, ?_⟩
    refine rq_less (sx 1 rfl (sub_nil _)) (List.sublist_append_right _ _) ?_
    exact rq_v (rv_ev rfl)
   ·
    intro vf pf hR
    have e2 : (vf 2) = .int .i64 lit ∧ (pf 2) = [] := hR 2 (by decide)
    refine Or.inl ⟨rfl, ?_⟩
    refine rq_less (sx 82 (congrArg some e2.1) (sub_nil _)) (List.sublist_append_right _ _) ?_
    exact (rq_call (by kernel_rfl) rfl (fun w hm => ret_ans (LitVar_ans lit w (by omega))))
   ·
    intro vf pf hR
    have e3 : (vf 3) = .int .i64 (lvI lit) ∧ (pf 3) = [] := hR 3 (by decide)
    refine Or.inl ⟨rfl, ?_⟩
    refine rq_less (sx 83 (congrArg some e3.1) (sub_nil _)) (List.sublist_append_right _ _) ?_
    exact rq_buildSlice (z := .int .i64 0) (s := 1) (cs := ([lvI lit].map (Value.int .i64))) rfl Try.underlying26 (by kernel_rfl) (by decide) rfl (by kernel_rfl) rfl
   ·
    intro vf pf hR
    have e4 : IsRow_o 3 1 1 ([lvI lit].map (Value.int .i64)) (vf 4) (pf 4) := hR 4 (by decide)
    obtain ⟨g20, v4, p4⟩ := e4
    refine Or.inl ⟨rfl, ?_⟩
    refine rq_less (l' := [rowE 3 1 (.slice (some ⟨g20, 0, none⟩) 1 1) 1 ([lvI lit].map (Value.int .i64)), bigE (rs.map cPart), rowE 26 1 u rs.length (rs.flatMap crowC), rowE 3 1 v7 xs.length (xs.map (Value.int .i64)), boxE b6 #[.int .i64 n.cnt, u] 42, boxE b2 #[.int .i64 0, .slice none 0 0] 42, boxE b1 #[.int .i64 n.ins, n.sv, n.av, n.ov] 28]) (sx 84 (congrArg some v4) (sub_nil _)) (by first | (simp only [p4, v4, List.flatMap_cons, List.flatMap_nil, List.append_nil, List.nil_append, List.cons_append]; exact List.Sublist.refl _) | simp [p4, v4]) ?_
    exact rq_mono (rq_buildSlice (z := .slice none 0 0) (s := 1) (cs := [.slice (some ⟨g20, 0, none⟩) 1 1]) rfl Try.underlying40 (by kernel_rfl) (by decide) rfl (by kernel_rfl) rfl) (fun v_ p_ h => by show IsRow_o 26 1 1 ([(vf 4)]) v_ p_; rw [v4]; exact h)
  ·
   intro vf pf hR
   have e1 : (vf 1) = u ∧ (pf 1) = [] := hR 1 (by decide)
   have e4 : IsRow_o 3 1 1 ([lvI lit].map (Value.int .i64)) (vf 4) (pf 4) := hR 4 (by decide)
   obtain ⟨g20, v4, p4⟩ := e4
   have e5 : IsRow_o 26 1 1 ([(vf 4)]) (vf 5) (pf 5) := hR 5 (by decide)
   rw [v4] at e5
   obtain ⟨g21, v5, p5⟩ := e5
   have q0 : (vf 0) = .pointer (some ⟨b6, 0 + 1, none⟩) ∧ (pf 0) = [] := hR 0 (by decide)
   have q1 : (vf 1) = u ∧ (pf 1) = [] := hR 1 (by decide)
   have q2 : (vf 2) = .int .i64 lit ∧ (pf 2) = [] := hR 2 (by decide)
   have q3 : (vf 3) = .int .i64 (lvI lit) ∧ (pf 3) = [] := hR 3 (by decide)
   refine hl_less (l' := [rowE 3 1 (.slice (some ⟨g20, 0, none⟩) 1 1) 1 ([lvI lit].map (Value.int .i64)), rowE 26 1 (.slice (some ⟨g21, 0, none⟩) 1 1) 1 ([.slice (some ⟨g20, 0, none⟩) 1 1]), bigE (rs.map cPart), rowE 26 1 u rs.length (rs.flatMap crowC), rowE 3 1 v7 xs.length (xs.map (Value.int .i64)), boxE b6 #[.int .i64 n.cnt, u] 42, boxE b2 #[.int .i64 0, .slice none 0 0] 42, boxE b1 #[.int .i64 n.ins, n.sv, n.av, n.ov] 28]) (sx 0 rfl (sx 1 rfl (sx 2 rfl (sx 4 rfl (sx 5 rfl (sx 6 rfl (sx 24 rfl (sx 34 rfl (sx 35 rfl (sx 36 rfl (sx 37 rfl (sx 81 (congrArg some e1.1) (sx 85 (congrArg some v5) (sub_nil _)))))))))))))) (by first | (simp only [p4, v4, p5, v5, q0.2, q1.2, q2.2, q3.2, List.flatMap_cons, List.flatMap_nil, List.append_nil, List.nil_append, List.cons_append]; exact List.Sublist.refl _) | simp [p4, v4, p5, v5, q0.2, q1.2, q2.2, q3.2]) ?_
   simp only [List.drop_succ_cons, List.drop_zero]
   refine hl_append (i := 3) (z := .slice none 0 0) (bytes := 24) (n' := (rs ++ [(CRow.mk (.slice (some ⟨g20, 0, none⟩) 1 1) ([lvI lit]))]).length) (xs' := ((rs ++ [(CRow.mk (.slice (some ⟨g20, 0, none⟩) 1 1) ([lvI lit]))]).flatMap crowC)) (L := fun v22 => [rowE 3 1 (.slice (some ⟨g20, 0, none⟩) 1 1) 1 ([lvI lit].map (Value.int .i64)), rowE 26 1 (.slice (some ⟨g21, 0, none⟩) 1 1) 1 ([.slice (some ⟨g20, 0, none⟩) 1 1]), bigE (rs.map cPart), rowE 26 1 v22 ((rs ++ [(CRow.mk (.slice (some ⟨g20, 0, none⟩) 1 1) ([lvI lit]))]).length) ((rs ++ [(CRow.mk (.slice (some ⟨g20, 0, none⟩) 1 1) ([lvI lit]))]).flatMap crowC), rowE 3 1 v7 xs.length (xs.map (Value.int .i64)), boxE b6 #[.int .i64 n.cnt, u] 42, boxE b2 #[.int .i64 0, .slice none 0 0] 42, boxE b1 #[.int .i64 n.ins, n.sv, n.av, n.ov] 28]) rfl rfl rfl rfl Try.underlying40 (by kernel_rfl) (by kernel_rfl) rfl rfl rfl (rd_row 1 rfl) (by simp [Value.oneCell']) (by simp; omega) (len_app rs [(CRow.mk (.slice (some ⟨g20, 0, none⟩) 1 1) ([lvI lit]))]) (by rw [List.flatMap_append]; rfl) (fun _ => rfl) ?_
   intro v22
   refine hl_v rfl rfl rfl (rv_field (k0 := 1) rfl (by kernel_rfl) rfl) ?_
   refine hl_one (i := 3) rfl (fun ho23 => ?_)
   refine hl_storeBox (i := 5) (l' := [rowE 3 1 (.slice (some ⟨g20, 0, none⟩) 1 1) 1 ([lvI lit].map (Value.int .i64)), rowE 26 1 (.slice (some ⟨g21, 0, none⟩) 1 1) 1 ([.slice (some ⟨g20, 0, none⟩) 1 1]), bigE (rs.map cPart), rowE 26 1 v22 ((rs ++ [(CRow.mk (.slice (some ⟨g20, 0, none⟩) 1 1) ([lvI lit]))]).length) ((rs ++ [(CRow.mk (.slice (some ⟨g20, 0, none⟩) 1 1) ([lvI lit]))]).flatMap crowC), rowE 3 1 v7 xs.length (xs.map (Value.int .i64)), boxE b6 #[.int .i64 n.cnt, v22] 42, boxE b2 #[.int .i64 0, .slice none 0 0] 42, boxE b1 #[.int .i64 n.ins, n.sv, n.av, n.ov] 28]) rfl rfl rfl (by kernel_rfl) rfl rfl ho23 rfl rfl rfl ?_
   refine hl_less (sx 0 rfl (sx 1 rfl (sx 2 rfl (sx 4 rfl (sx 5 rfl (sx 6 rfl (sx 24 rfl (sx 34 rfl (sx 35 rfl (sx 36 rfl (sx 37 rfl (sub_nil _)))))))))))) (.refl _) ?_
   refine hl_nil ?_
   refine hq_then ?_
   refine hc_seq ?_
   refine hc_region ?_
   refine hl_v rfl rfl rfl (rv_loadN (cs := [.int .i64 n.cnt, v22]) rfl (by kernel_rfl) (by kernel_rfl) rfl rfl (box_part 5 rfl 0 rfl)) ?_
   refine hl_storeBoxN (i := 6) (off := 0) (us := [.int .i64 n.cnt, v22]) (l' := [rowE 3 1 (.slice (some ⟨g20, 0, none⟩) 1 1) 1 ([lvI lit].map (Value.int .i64)), rowE 26 1 (.slice (some ⟨g21, 0, none⟩) 1 1) 1 ([.slice (some ⟨g20, 0, none⟩) 1 1]), bigE (rs.map cPart), rowE 26 1 v22 ((rs ++ [(CRow.mk (.slice (some ⟨g20, 0, none⟩) 1 1) ([lvI lit]))]).length) ((rs ++ [(CRow.mk (.slice (some ⟨g20, 0, none⟩) 1 1) ([lvI lit]))]).flatMap crowC), rowE 3 1 v7 xs.length (xs.map (Value.int .i64)), boxE b6 #[.int .i64 n.cnt, v22] 42, boxE b2 #[.int .i64 n.cnt, v22] 42, boxE b1 #[.int .i64 n.ins, n.sv, n.av, n.ov] 28]) rfl rfl rfl (by kernel_rfl) rfl rfl rfl (all_cons rfl (all_cons ho23 all_nil)) rfl rfl rfl ?_
   refine hl_v rfl rfl rfl (rv_ev rfl) ?_
   refine hl_less (sx 0 rfl (sx 1 rfl (sx 2 rfl (sx 4 rfl (sx 5 rfl (sx 6 rfl (sx 24 rfl (sx 34 rfl (sx 35 rfl (sx 36 rfl (sx 37 rfl (sub_nil _)))))))))))) (.refl _) ?_
   refine hl_nil ?_
   refine hq_then ?_
   refine hc_ret ?_
   have hix : i = xs.length := by omega
   subst hix
   refine hq_conv [bigE (rs.map cPart), rowE 3 1 (.slice (some ⟨g20, 0, none⟩) 1 1) 1 ([lvI lit].map (Value.int .i64)), rowE 26 1 (.slice (some ⟨g21, 0, none⟩) 1 1) 1 ([.slice (some ⟨g20, 0, none⟩) 1 1]), rowE 26 1 v22 ((rs ++ [(CRow.mk (.slice (some ⟨g20, 0, none⟩) 1 1) ([lvI lit]))]).length) ((rs ++ [(CRow.mk (.slice (some ⟨g20, 0, none⟩) 1 1) ([lvI lit]))]).flatMap crowC), rowE 3 1 v7 xs.length (xs.map (Value.int .i64)), boxE b6 #[.int .i64 n.cnt, v22] 42, boxE b2 #[.int .i64 n.cnt, v22] 42, boxE b1 #[.int .i64 n.ins, n.sv, n.av, n.ov] 28] (conv_pick (src := [rowE 3 1 (.slice (some ⟨g20, 0, none⟩) 1 1) 1 ([lvI lit].map (Value.int .i64)), rowE 26 1 (.slice (some ⟨g21, 0, none⟩) 1 1) 1 ([.slice (some ⟨g20, 0, none⟩) 1 1]), bigE (rs.map cPart), rowE 26 1 v22 ((rs ++ [(CRow.mk (.slice (some ⟨g20, 0, none⟩) 1 1) ([lvI lit]))]).length) ((rs ++ [(CRow.mk (.slice (some ⟨g20, 0, none⟩) 1 1) ([lvI lit]))]).flatMap crowC), rowE 3 1 v7 xs.length (xs.map (Value.int .i64)), boxE b6 #[.int .i64 n.cnt, v22] 42, boxE b2 #[.int .i64 n.cnt, v22] 42, boxE b1 #[.int .i64 n.ins, n.sv, n.av, n.ov] 28]) (dst := [bigE (rs.map cPart), rowE 3 1 (.slice (some ⟨g20, 0, none⟩) 1 1) 1 ([lvI lit].map (Value.int .i64)), rowE 26 1 (.slice (some ⟨g21, 0, none⟩) 1 1) 1 ([.slice (some ⟨g20, 0, none⟩) 1 1]), rowE 26 1 v22 ((rs ++ [(CRow.mk (.slice (some ⟨g20, 0, none⟩) 1 1) ([lvI lit]))]).length) ((rs ++ [(CRow.mk (.slice (some ⟨g20, 0, none⟩) 1 1) ([lvI lit]))]).flatMap crowC), rowE 3 1 v7 xs.length (xs.map (Value.int .i64)), boxE b6 #[.int .i64 n.cnt, v22] 42, boxE b2 #[.int .i64 n.cnt, v22] 42, boxE b1 #[.int .i64 n.ins, n.sv, n.av, n.ov] 28]) (l := []) [2, 0, 1, 3, 4, 5, 6, 7] (by decide) rfl) ?_
   refine hq_conv [bigE ((rs ++ [(CRow.mk (.slice (some ⟨g20, 0, none⟩) 1 1) ([lvI lit]))]).map cPart), rowE 26 1 (.slice (some ⟨g21, 0, none⟩) 1 1) 1 ([.slice (some ⟨g20, 0, none⟩) 1 1]), rowE 26 1 v22 ((rs ++ [(CRow.mk (.slice (some ⟨g20, 0, none⟩) 1 1) ([lvI lit]))]).length) ((rs ++ [(CRow.mk (.slice (some ⟨g20, 0, none⟩) 1 1) ([lvI lit]))]).flatMap crowC), rowE 3 1 v7 xs.length (xs.map (Value.int .i64)), boxE b6 #[.int .i64 n.cnt, v22] 42, boxE b2 #[.int .i64 n.cnt, v22] 42, boxE b1 #[.int .i64 n.ins, n.sv, n.av, n.ov] 28] (fun w hm => by rw [List.map_append]; exact conv_snoc w hm) ?_
   refine hq_oneX (i := 2) rfl (fun oK => ?_)
   refine hq_conv [bigE ((rs ++ [(CRow.mk (.slice (some ⟨g20, 0, none⟩) 1 1) ([lvI lit]))]).map cPart), rowE 26 1 v22 ((rs ++ [(CRow.mk (.slice (some ⟨g20, 0, none⟩) 1 1) ([lvI lit]))]).length) ((rs ++ [(CRow.mk (.slice (some ⟨g20, 0, none⟩) 1 1) ([lvI lit]))]).flatMap crowC), rowE 26 1 (.slice (some ⟨g21, 0, none⟩) 1 1) 1 ([.slice (some ⟨g20, 0, none⟩) 1 1]), rowE 3 1 v7 xs.length (xs.map (Value.int .i64)), boxE b6 #[.int .i64 n.cnt, v22] 42, boxE b2 #[.int .i64 n.cnt, v22] 42, boxE b1 #[.int .i64 n.ins, n.sv, n.av, n.ov] 28] (conv_pick (src := [bigE ((rs ++ [(CRow.mk (.slice (some ⟨g20, 0, none⟩) 1 1) ([lvI lit]))]).map cPart), rowE 26 1 (.slice (some ⟨g21, 0, none⟩) 1 1) 1 ([.slice (some ⟨g20, 0, none⟩) 1 1]), rowE 26 1 v22 ((rs ++ [(CRow.mk (.slice (some ⟨g20, 0, none⟩) 1 1) ([lvI lit]))]).length) ((rs ++ [(CRow.mk (.slice (some ⟨g20, 0, none⟩) 1 1) ([lvI lit]))]).flatMap crowC), rowE 3 1 v7 xs.length (xs.map (Value.int .i64)), boxE b6 #[.int .i64 n.cnt, v22] 42, boxE b2 #[.int .i64 n.cnt, v22] 42, boxE b1 #[.int .i64 n.ins, n.sv, n.av, n.ov] 28]) (dst := [bigE ((rs ++ [(CRow.mk (.slice (some ⟨g20, 0, none⟩) 1 1) ([lvI lit]))]).map cPart), rowE 26 1 v22 ((rs ++ [(CRow.mk (.slice (some ⟨g20, 0, none⟩) 1 1) ([lvI lit]))]).length) ((rs ++ [(CRow.mk (.slice (some ⟨g20, 0, none⟩) 1 1) ([lvI lit]))]).flatMap crowC), rowE 26 1 (.slice (some ⟨g21, 0, none⟩) 1 1) 1 ([.slice (some ⟨g20, 0, none⟩) 1 1]), rowE 3 1 v7 xs.length (xs.map (Value.int .i64)), boxE b6 #[.int .i64 n.cnt, v22] 42, boxE b2 #[.int .i64 n.cnt, v22] 42, boxE b1 #[.int .i64 n.ins, n.sv, n.av, n.ov] 28]) (l := []) [0, 2, 1, 3, 4, 5, 6] (by decide) rfl) ?_
   refine hq_conv [clE v22 (rs ++ [(CRow.mk (.slice (some ⟨g20, 0, none⟩) 1 1) ([lvI lit]))]), rowE 26 1 (.slice (some ⟨g21, 0, none⟩) 1 1) 1 ([.slice (some ⟨g20, 0, none⟩) 1 1]), rowE 3 1 v7 xs.length (xs.map (Value.int .i64)), boxE b6 #[.int .i64 n.cnt, v22] 42, boxE b2 #[.int .i64 n.cnt, v22] 42, boxE b1 #[.int .i64 n.ins, n.sv, n.av, n.ov] 28] (fun w hm => Mem.big (ps := [bigE ((rs ++ [(CRow.mk (.slice (some ⟨g20, 0, none⟩) 1 1) ([lvI lit]))]).map cPart), rowE 26 1 v22 ((rs ++ [(CRow.mk (.slice (some ⟨g20, 0, none⟩) 1 1) ([lvI lit]))]).length) ((rs ++ [(CRow.mk (.slice (some ⟨g20, 0, none⟩) 1 1) ([lvI lit]))]).flatMap crowC)]) hm) ?_
   exact hq_retM (rs := [.cell 4 42, .tmp 5]) (vs := [.agg #[.int .i64 n.cnt, v22], .bool true]) (post := [clE v22 (rs ++ [(CRow.mk (.slice (some ⟨g20, 0, none⟩) 1 1) ([lvI lit]))])]) rfl ⟨⟨b2, 0, [.int .i64 n.cnt, v22], rfl, rfl, by kernel_rfl, by kernel_rfl, box_part 4 rfl 0 rfl⟩, rfl, trivial⟩ rfl ((.cons_cons _ (.cons _ (.cons _ (.cons _ (.cons _ (.cons _ .slnil))))))) ⟨_, _, xs, rfl, rfl, oK, ⟨hco, by rw [List.map_append, hrs]; rfl⟩⟩
set_option maxHeartbeats 4000000 in
set_option maxRecDepth 100000 in
theorem DrawNode_ret (a : Option Addr) (len cap : Nat) (z : List Int) (w : World) (hb : BRow .u8 w a len cap z) (hlen : len ≤ 1048576) :
  Calls Try.prog 27 #[.slice a len cap] w (Ret w (fun v' post => ∃ (n : Nt) (node : Int), v' = .tuple #[n.agg, .int .i64 node] ∧ post = [ntE n] ∧ (n.sv.oneCell' = true ∧ n.av.oneCell' = true ∧ n.ov.oneCell' = true) ∧ NtOk n ∧ (n.ins ≤ 4 ∧ (n.ss.length : Int) ≤ 3 ∧ (n.gs.length : Int) ≤ 14) ∧ 0 ≤ node ∧ node < n.cnt)) := by
 refine calls_hc (N := 15) (args := [.slice a len cap]) Try.func27 rfl rfl ?_
 refine hc_less _ (sx 0 rfl (sub_nil _)) (.refl _) ?_
 refine hc_seq ?_
 refine hc_region ?_
 refine hl_box rfl rfl rfl (rq_alloc (z := .agg #[.int .i64 0, .slice none 0 0, .slice none 0 0, .slice none 0 0]) rfl (by kernel_rfl)) ?_
 intro b1
 refine hl_v rfl rfl rfl (rv_ev rfl) ?_
 refine hl_less (sx 0 rfl (sx 2 rfl (sx 3 rfl (sub_nil _)))) (.refl _) ?_
 refine hl_nil ?_
 refine hq_then ?_
 refine hc_seq ?_
 refine hc_region ?_
 refine hl_v rfl rfl rfl (rv_ev rfl) ?_
 refine hl_q rfl rfl rfl (rq_call (by kernel_rfl) rfl (fun w hm => new_ret (hb.below hm.bel) hlen)) ?_
 intro v2 p3 hR4
 obtain ⟨ghR4, rfl, rfl⟩ := hR4
 refine hl_v rfl rfl rfl (rv_ev rfl) ?_
 refine hl_less (sx 0 rfl (sx 2 rfl (sx 3 rfl (sx 4 rfl (sub_nil _))))) (.refl _) ?_
 refine hl_nil ?_
 refine hq_then ?_
 refine hc_seq ?_
 refine hc_region ?_
 refine hl_v rfl rfl rfl (rv_ev rfl) ?_
 refine hl_callM (R := (fun u_ p_ => ∃ n : Nt, u_ = n.agg ∧ p_ = bigE [curE ghR4 a len cap, ntE n] ∧ (n.sv.oneCell' = true ∧ n.av.oneCell' = true ∧ n.ov.oneCell' = true) ∧ NtOk n ∧ n.ins ≤ 4 ∧ (n.ss.length : Int) ≤ 3 ∧ (n.gs.length : Int) ≤ 14)) 0 rfl rfl (by kernel_rfl) rfl rfl (fun l' w hm => l08Net_mut ghR4 a len cap z _ _ _ hm hb) ?_
 intro v5 p6 hR7
 obtain ⟨n, rfl, rfl, ⟨o1n, o2n, o3n⟩, hn, hnq1, hnq2, hnq3⟩ := hR7
 refine hl_eqL (l' := [bigE [curE ghR4 a len cap, ntE n], boxE b1 #[.int .i64 0, .slice none 0 0, .slice none 0 0, .slice none 0 0] 28]) rfl ?_
 refine hl_box rfl rfl rfl (rq_alloc (z := .agg #[.int .i64 0, .slice none 0 0, .slice none 0 0, .slice none 0 0]) rfl (by kernel_rfl)) ?_
 intro b8
 refine hl_storeBoxN (i := 0) (off := 0) (us := [.int .i64 n.ins, n.sv, n.av, n.ov]) (l' := [boxE b8 #[.int .i64 n.ins, n.sv, n.av, n.ov] 28, bigE [curE ghR4 a len cap, ntE n], boxE b1 #[.int .i64 0, .slice none 0 0, .slice none 0 0, .slice none 0 0] 28]) rfl rfl rfl (by kernel_rfl) rfl rfl rfl (all_cons rfl (all_cons o1n (all_cons o2n (all_cons o3n all_nil)))) rfl rfl rfl ?_
 refine hl_less (sx 0 rfl (sx 2 rfl (sx 3 rfl (sx 4 rfl (sx 5 rfl (sub_nil _)))))) (.refl _) ?_
 refine hl_nil ?_
 refine hq_then ?_
 refine hc_seq ?_
 refine hc_conv [bigE [curE ghR4 a len cap, ntE n], boxE b8 #[.int .i64 n.ins, n.sv, n.av, n.ov] 28, boxE b1 #[.int .i64 0, .slice none 0 0, .slice none 0 0, .slice none 0 0] 28] (conv_pick (src := [boxE b8 #[.int .i64 n.ins, n.sv, n.av, n.ov] 28, bigE [curE ghR4 a len cap, ntE n], boxE b1 #[.int .i64 0, .slice none 0 0, .slice none 0 0, .slice none 0 0] 28]) (dst := [bigE [curE ghR4 a len cap, ntE n], boxE b8 #[.int .i64 n.ins, n.sv, n.av, n.ov] 28, boxE b1 #[.int .i64 0, .slice none 0 0, .slice none 0 0, .slice none 0 0] 28]) (l := []) [1, 0, 2] (by decide) rfl) ?_
 refine hc_conv [curE ghR4 a len cap, ntE n, boxE b8 #[.int .i64 n.ins, n.sv, n.av, n.ov] 28, boxE b1 #[.int .i64 0, .slice none 0 0, .slice none 0 0, .slice none 0 0] 28] conv_unbig ?_
 have hi0 := hn.i0
 have hi1 := hn.i1
 have hs1 := hn.s1
 have ha1 := hn.a1
 have ho1 := hn.o1
 have hcnt : n.cnt = 1 + n.ins + n.ss.length + n.gs.length := rfl
 have hfst : n.fst = 1 + n.ins + n.ss.length := rfl
 refine hc_draw2 (l := [ntE n, boxE b8 #[.int .i64 n.ins, n.sv, n.av, n.ov] 28, boxE b1 #[.int .i64 0, .slice none 0 0, .slice none 0 0, .slice none 0 0] 28]) (by kernel_rfl) 5 [0, 1, 2, 3, 4] (List.take 5 _) (List.drop 5 _) [[], [], [], [2], [1, 3]] [10, 11, 12, 13, 14] (fun i_ vs_ v_ p_ => match i_ with | 0 => v_ = .agg #[.int .i64 n.ins, n.sv, n.av, n.ov] ∧ p_ = [] | 1 => v_ = .pointer (some ⟨ghR4, 0, none⟩) ∧ p_ = [] | 2 => v_ = .agg #[.int .i64 n.ins, n.sv, n.av, n.ov] ∧ p_ = [] | 3 => v_ = .int .i64 n.cnt ∧ p_ = [] | 4 => (∃ pm_, p_ = [pm_] ∧ (fun u_ p_ => (∃ x_ : Int, u_ = .int .i64 x_ ∧ 0 ≤ x_ ∧ x_ < n.cnt) ∧ p_ = curE ghR4 a len cap) v_ pm_) | _ => True) [[], [], [], [2], [1, 3]] [none, none, none, none, some 7] [curE ghR4 a len cap] [0, 1, 2, 3, 4] 7 (List.take_append_drop 5 _).symm (by kernel_rfl) (by kernel_rfl) (by kernel_rfl) rfl rfl ?_ ?_
 ·
  refine ⟨?_, ?_, ?_, ?_, ?_, trivial⟩
  ·
   intro vf pf hmu hR
   refine Or.inl ⟨rfl, ?_⟩
   show RunQ _ _ _ (([] : List Nat).flatMap pf ++ _) (envOf _ vf [] ++ _) _ _
   refine rq_less (sx 5 rfl (sub_nil _)) (List.sublist_append_right _ _) ?_
   exact rq_v (rv_loadN (cs := [.int .i64 n.ins, n.sv, n.av, n.ov]) rfl (by kernel_rfl) (by kernel_rfl) rfl rfl (box_part 1 rfl 0 rfl))
  ·
   intro vf pf hmu hR
   refine Or.inl ⟨rfl, ?_⟩
   show RunQ _ _ _ (([] : List Nat).flatMap pf ++ _) (envOf _ vf [] ++ _) _ _
   refine rq_less (sx 4 rfl (sub_nil _)) (List.sublist_append_right _ _) ?_
   exact rq_v (rv_ev rfl)
  ·
   intro vf pf hmu hR
   refine Or.inl ⟨rfl, ?_⟩
   show RunQ _ _ _ (([] : List Nat).flatMap pf ++ _) (envOf _ vf [] ++ _) _ _
   refine rq_less (sx 5 rfl (sub_nil _)) (List.sublist_append_right _ _) ?_
   exact rq_v (rv_loadN (cs := [.int .i64 n.ins, n.sv, n.av, n.ov]) rfl (by kernel_rfl) (by kernel_rfl) rfl rfl (box_part 1 rfl 0 rfl))
  ·
   intro vf pf hmu hR
   have e2 : (vf 2) = .agg #[.int .i64 n.ins, n.sv, n.av, n.ov] ∧ (pf 2) = [] := hR 2 (by decide)
   refine Or.inl ⟨rfl, ?_⟩
   show RunQ _ _ _ (([2] : List Nat).flatMap pf ++ _) (envOf _ vf [2] ++ _) _ _
   refine rq_less (sx 12 (congrArg some e2.1) (sub_nil _)) (List.sublist_append_right _ _) ?_
   exact (rq_call (by kernel_rfl) rfl (fun w hm => ret_ans (specNodeCount_yes n w (nt_rds 0 rfl w hm) hn)))
  ·
   intro vf pf hmu hR
   have e1 : (vf 1) = .pointer (some ⟨ghR4, 0, none⟩) ∧ (pf 1) = [] := hR 1 (by decide)
   have e3 : (vf 3) = .int .i64 n.cnt ∧ (pf 3) = [] := hR 3 (by decide)
   refine Or.inl ⟨rfl, ?_⟩
   show RunM _ _ _ (pf 7) (([1, 3] : List Nat).flatMap pf ++ _) (envOf _ vf [1, 3] ++ _) _ _
   rw [hmu]
   refine rm_less (X' := [ntE n, boxE b8 #[.int .i64 n.ins, n.sv, n.av, n.ov] 28, boxE b1 #[.int .i64 0, .slice none 0 0, .slice none 0 0, .slice none 0 0] 28]) (sx 11 (congrArg some e1.1) (sx 13 (congrArg some e3.1) (sub_nil _))) (by first | (simp only [e1.2, e3.2, List.flatMap_cons, List.flatMap_nil, List.append_nil, List.nil_append, List.cons_append]; exact List.Sublist.refl _) | simp [e1.2, e3.2]) ?_
   exact rq_callM (R := (fun u_ p_ => (∃ x_ : Int, u_ = .int .i64 x_ ∧ 0 ≤ x_ ∧ x_ < n.cnt) ∧ p_ = curE ghR4 a len cap)) (by kernel_rfl) rfl (fun L w hX hm => belowN_mut ghR4 a len cap z n.cnt _ _ _ hm hb (by constructor <;> omega))
 ·
  intro vf pf hmu hR
  have e0 : (vf 0) = .agg #[.int .i64 n.ins, n.sv, n.av, n.ov] ∧ (pf 0) = [] := hR 0 (by decide)
  have e4 : (∃ pm_, (pf 4) = [pm_] ∧ (fun u_ p_ => (∃ x_ : Int, u_ = .int .i64 x_ ∧ 0 ≤ x_ ∧ x_ < n.cnt) ∧ p_ = curE ghR4 a len cap) (vf 4) pm_) := hR 4 (by decide)
  obtain ⟨p10, p4, hR11⟩ := e4
  obtain ⟨v9, v4⟩ : ∃ x, vf 4 = x := ⟨_, rfl⟩
  rw [v4] at hR11
  obtain ⟨⟨xhR11, rfl, xhR110, xhR111⟩, rfl⟩ := hR11
  have q0 : (vf 0) = .agg #[.int .i64 n.ins, n.sv, n.av, n.ov] ∧ (pf 0) = [] := hR 0 (by decide)
  have q1 : (vf 1) = .pointer (some ⟨ghR4, 0, none⟩) ∧ (pf 1) = [] := hR 1 (by decide)
  have q2 : (vf 2) = .agg #[.int .i64 n.ins, n.sv, n.av, n.ov] ∧ (pf 2) = [] := hR 2 (by decide)
  have q3 : (vf 3) = .int .i64 n.cnt ∧ (pf 3) = [] := hR 3 (by decide)
  refine hl_less (l' := [curE ghR4 a len cap, ntE n, boxE b8 #[.int .i64 n.ins, n.sv, n.av, n.ov] 28, boxE b1 #[.int .i64 0, .slice none 0 0, .slice none 0 0, .slice none 0 0] 28]) (sx 0 rfl (sx 2 rfl (sx 3 rfl (sx 4 rfl (sx 5 rfl (sx 10 (congrArg some e0.1) (sx 14 (congrArg some v4) (sub_nil _)))))))) (by first | (simp only [p4, v4, q0.2, q1.2, q2.2, q3.2, List.flatMap_cons, List.flatMap_nil, List.append_nil, List.nil_append, List.cons_append]; exact List.Sublist.refl _) | simp [p4, v4, q0.2, q1.2, q2.2, q3.2]) ?_
  simp only [List.drop_succ_cons, List.drop_zero]
  refine hl_storeBoxN (i := 3) (off := 0) (us := [.int .i64 n.ins, n.sv, n.av, n.ov]) (l' := [curE ghR4 a len cap, ntE n, boxE b8 #[.int .i64 n.ins, n.sv, n.av, n.ov] 28, boxE b1 #[.int .i64 n.ins, n.sv, n.av, n.ov] 28]) rfl rfl rfl (by kernel_rfl) rfl rfl rfl (all_cons rfl (all_cons o1n (all_cons o2n (all_cons o3n all_nil)))) rfl rfl rfl ?_
  refine hl_v rfl rfl rfl (rv_ev rfl) ?_
  refine hl_less (sx 0 rfl (sx 2 rfl (sx 3 rfl (sx 4 rfl (sx 5 rfl (sub_nil _)))))) (.refl _) ?_
  refine hl_nil ?_
  refine hq_then ?_
  refine hc_ret ?_
  exact hq_retM (rs := [.cell 2 28, .tmp 3]) (vs := [.agg #[.int .i64 n.ins, n.sv, n.av, n.ov], .int .i64 xhR11]) (post := [ntE n]) rfl ⟨⟨b1, 0, [.int .i64 n.ins, n.sv, n.av, n.ov], rfl, rfl, by kernel_rfl, by kernel_rfl, box_part 3 rfl 0 rfl⟩, rfl, trivial⟩ rfl ((.cons _ (.cons_cons _ (.cons _ (.cons _ .slnil))))) ⟨n, xhR11, rfl, rfl, ⟨o1n, o2n, o3n⟩, hn, ⟨hnq1, hnq2, hnq3⟩, by omega, by omega⟩
set_option maxHeartbeats 4000000 in
set_option maxRecDepth 100000 in
theorem walk_FnClausesMean (a0 : Option Addr) (len0 cap0 : Nat) (z0 : List Int) (w : World) (hbr : BRow .u8 w a0 len0 cap0 z0) :
  Calls Try.prog 5 #[.slice a0 len0 cap0] w (Ans w (.bool true)) := by
 have hcd0 := cod_le hbr 0
 have hcd1 := cod_le hbr 1
 refine calls_hc (N := 72) (args := [.slice a0 len0 cap0]) Try.func5 rfl rfl ?_
 refine hc_less _ (sx 0 rfl (sub_nil _)) (.refl _) ?_
 refine hc_seq ?_
 refine hc_region ?_
 refine hl_v rfl rfl rfl (rv_ev rfl) ?_
 refine hl_less (sx 0 rfl (sx 2 rfl (sub_nil _))) (.refl _) ?_
 refine hl_nil ?_
 refine hq_then ?_
 refine hc_seq ?_
 refine hc_seq ?_
 refine hc_region ?_
 refine hl_v rfl rfl rfl (rv_ev rfl) ?_
 refine hl_callV rfl rfl rfl (rq_call (by kernel_rfl) rfl (fun w hm => ret_ans (ans_of (big_any a0 len0 cap0 w (hbr.len_le))))) ?_
 refine hl_bool (fun h1 => ?_) (fun h1 => ?_)
 ·
  have h1p := of_decide_eq_true h1
  refine hl_less (sx 0 rfl (sx 2 rfl (sx 11 rfl (sub_nil _)))) (.refl _) ?_
  refine hl_nil ?_
  refine hq_then ?_
  refine hc_true rfl ?_
  refine hc_seq ?_
  refine hc_region ?_
  refine hl_v rfl rfl rfl (rv_ev rfl) ?_
  refine hl_less (sx 0 rfl (sx 2 rfl (sx 11 rfl (sub_nil _)))) (.refl _) ?_
  refine hl_nil ?_
  refine hq_then ?_
  refine hc_ret ?_
  refine hq_then_ret ?_
  exact hq_ans rfl rfl rfl
 ·
  have h1p := of_decide_eq_false h1
  refine hl_less (sx 0 rfl (sx 2 rfl (sx 11 rfl (sub_nil _)))) (.refl _) ?_
  refine hl_nil ?_
  refine hq_then ?_
  refine hc_false rfl ?_
  refine hc_skip ?_
  refine hq_then ?_
  refine hc_seq ?_
  refine hc_region ?_
  refine hl_v rfl rfl rfl (rv_ev rfl) ?_
  refine hl_q rfl rfl rfl (rq_call (by kernel_rfl) rfl (fun w hm => DrawNode_ret _ _ _ z0 w (hbr.below hm.bel) (by omega))) ?_
  intro v2 p3 hR4
  obtain ⟨n, node, rfl, rfl, ⟨o1n, o2n, o3n⟩, hn, ⟨hnq1, hnq2, hnq3⟩, hnd0, hnd1⟩ := hR4
  have hi0 := hn.i0
  have hi1 := hn.i1
  have hs1 := hn.s1
  have ha1 := hn.a1
  have ho1 := hn.o1
  have hcnt : n.cnt = 1 + n.ins + n.ss.length + n.gs.length := rfl
  have hfst : n.fst = 1 + n.ins + n.ss.length := rfl
  refine hl_v rfl rfl rfl (rv_ev rfl) ?_
  refine hl_v rfl rfl rfl (rv_ev rfl) ?_
  refine hl_v rfl rfl rfl (rv_ev rfl) ?_
  refine hl_box rfl rfl rfl (rq_alloc (z := .agg #[.int .i64 0, .slice none 0 0, .slice none 0 0, .slice none 0 0]) rfl (by kernel_rfl)) ?_
  intro b5
  refine hl_storeBoxN (i := 0) (off := 0) (us := [.int .i64 n.ins, n.sv, n.av, n.ov]) (l' := [boxE b5 #[.int .i64 n.ins, n.sv, n.av, n.ov] 28, ntE n]) rfl rfl rfl (by kernel_rfl) rfl rfl rfl (all_cons rfl (all_cons o1n (all_cons o2n (all_cons o3n all_nil)))) rfl rfl rfl ?_
  refine hl_v rfl rfl rfl (rv_ev rfl) ?_
  refine hl_less (sx 0 rfl (sx 2 rfl (sx 3 rfl (sx 4 rfl (sx 11 rfl (sub_nil _)))))) (.refl _) ?_
  refine hl_nil ?_
  refine hq_then ?_
  refine hc_seq ?_
  refine hc_region ?_
  refine hl_v rfl rfl rfl (rv_ev rfl) ?_
  refine hl_v rfl rfl rfl (rv_mul rfl rfl rfl (by constructor <;> omega)) ?_
  refine hl_v rfl rfl rfl (rv_ev rfl) ?_
  refine hl_callV rfl rfl rfl (rq_call (by kernel_rfl) rfl (fun w hm => ret_ans (at_ans hbr 0 (by omega) w hm))) ?_
  refine hl_v rfl rfl rfl (rv_rem rfl rfl rfl (by constructor <;> omega)) ?_
  refine hl_v rfl rfl rfl (rv_add rfl rfl rfl (by constructor <;> omega)) ?_
  refine hl_v rfl rfl rfl (rv_ev rfl) ?_
  obtain ⟨lit, hlit⟩ : ∃ x, (2 * node) + ((cod z0 len0 0 : Int) % 2) = x := ⟨_, rfl⟩
  rw [hlit]
  have hlt : 0 ≤ lit ∧ lit < 2 * n.cnt := by omega
  have hl2 : lit / 2 = node := by omega
  refine hl_less (sx 0 rfl (sx 2 rfl (sx 3 rfl (sx 4 rfl (sx 5 rfl (sx 11 rfl (sub_nil _))))))) (.refl _) ?_
  refine hl_nil ?_
  refine hq_then ?_
  refine hc_seq ?_
  refine hc_draw (by kernel_rfl) 6 [0, 1, 2, 3, 4, 5] (List.take 6 _) (List.drop 6 _) [[], [], [1], [], [3], [0, 2, 4]] [23, 24, 25, 26, 27, 28] (fun i_ vs_ v_ p_ => match i_ with | 0 => v_ = .agg #[.int .i64 n.ins, n.sv, n.av, n.ov] ∧ p_ = [] | 1 => v_ = .agg #[.int .i64 n.ins, n.sv, n.av, n.ov] ∧ p_ = [] | 2 => (fun v' post => post = [rowE 3 1 v' (stL n).length ((stL n).map (Value.int .i64))]) v_ p_ | 3 => v_ = .slice a0 len0 cap0 ∧ p_ = [] | 4 => v_ = .int .i64 (cod z0 len0 1 : Int) ∧ p_ = [] | 5 => (fun v' post => post = [rowE 3 1 v' (valsL n (stL n) (cod z0 len0 1 : Int)).length ((valsL n (stL n) (cod z0 len0 1 : Int)).map (Value.int .i64))]) v_ p_ | _ => True) (List.take_append_drop 6 _).symm (by kernel_rfl) (by kernel_rfl) rfl rfl ?_ ?_
  ·
   refine ⟨?_, ?_, ?_, ?_, ?_, ?_, trivial⟩
   ·
    intro vf pf hR
    refine Or.inl ⟨rfl, ?_⟩
    refine rq_less (sx 3 rfl (sub_nil _)) (List.sublist_append_right _ _) ?_
    exact rq_v (rv_loadN (cs := [.int .i64 n.ins, n.sv, n.av, n.ov]) rfl (by kernel_rfl) (by kernel_rfl) rfl rfl (box_part 0 rfl 0 rfl))
   ·
    intro vf pf hR
    refine Or.inl ⟨rfl, ?_⟩
    refine rq_less (sx 3 rfl (sub_nil _)) (List.sublist_append_right _ _) ?_
    exact rq_v (rv_loadN (cs := [.int .i64 n.ins, n.sv, n.av, n.ov]) rfl (by kernel_rfl) (by kernel_rfl) rfl rfl (box_part 0 rfl 0 rfl))
   ·
    intro vf pf hR
    have e1 : (vf 1) = .agg #[.int .i64 n.ins, n.sv, n.av, n.ov] ∧ (pf 1) = [] := hR 1 (by decide)
    refine Or.inl ⟨rfl, ?_⟩
    refine rq_less (sx 24 (congrArg some e1.1) (sub_nil _)) (List.sublist_append_right _ _) ?_
    exact rq_call (by kernel_rfl) rfl (fun w hm => NetStart_ret n w (nt_rds 1 rfl w hm) hn)
   ·
    intro vf pf hR
    refine Or.inl ⟨rfl, ?_⟩
    refine rq_less (sx 0 rfl (sub_nil _)) (List.sublist_append_right _ _) ?_
    exact rq_v (rv_ev rfl)
   ·
    intro vf pf hR
    have e3 : (vf 3) = .slice a0 len0 cap0 ∧ (pf 3) = [] := hR 3 (by decide)
    refine Or.inl ⟨rfl, ?_⟩
    refine rq_less (sx 26 (congrArg some e3.1) (sub_nil _)) (List.sublist_append_right _ _) ?_
    exact (rq_call (by kernel_rfl) rfl (fun w hm => ret_ans (at_ans hbr 1 (by omega) w hm)))
   ·
    intro vf pf hR
    have e0 : (vf 0) = .agg #[.int .i64 n.ins, n.sv, n.av, n.ov] ∧ (pf 0) = [] := hR 0 (by decide)
    have e2 : (fun v' post => post = [rowE 3 1 v' (stL n).length ((stL n).map (Value.int .i64))]) (vf 2) (pf 2) := hR 2 (by decide)
    obtain ⟨v6, v2⟩ : ∃ x, vf 2 = x := ⟨_, rfl⟩
    obtain ⟨p7, p2⟩ : ∃ x, pf 2 = x := ⟨_, rfl⟩
    have hR8 := e2
    rw [v2, p2] at hR8
    subst hR8
    have e4 : (vf 4) = .int .i64 (cod z0 len0 1 : Int) ∧ (pf 4) = [] := hR 4 (by decide)
    refine Or.inl ⟨rfl, ?_⟩
    refine rq_less (l' := [rowE 3 1 v6 ((stL n).length) ((stL n).map (Value.int .i64)), boxE b5 #[.int .i64 n.ins, n.sv, n.av, n.ov] 28, ntE n]) (sx 23 (congrArg some e0.1) (sx 25 (congrArg some v2) (sx 27 (congrArg some e4.1) (sub_nil _)))) (by first | (simp only [p2, v2, e0.2, e4.2, List.flatMap_cons, List.flatMap_nil, List.append_nil, List.nil_append, List.cons_append]; exact List.Sublist.refl _) | simp [p2, v2, e0.2, e4.2]) ?_
    exact rq_call (by kernel_rfl) rfl (fun w hm => specNodeValues_ret n (stL n) _ (cod z0 len0 1 : Int) w (nt_rds 2 rfl w hm) hn ((rd_row 0 rfl) w hm) (start_ok hn) (by omega))
  ·
   intro vf pf hR
   have e2 : (fun v' post => post = [rowE 3 1 v' (stL n).length ((stL n).map (Value.int .i64))]) (vf 2) (pf 2) := hR 2 (by decide)
   obtain ⟨v6, v2⟩ : ∃ x, vf 2 = x := ⟨_, rfl⟩
   obtain ⟨p7, p2⟩ : ∃ x, pf 2 = x := ⟨_, rfl⟩
   have hR8 := e2
   rw [v2, p2] at hR8
   subst hR8
   have e5 : (fun v' post => post = [rowE 3 1 v' (valsL n (stL n) (cod z0 len0 1 : Int)).length ((valsL n (stL n) (cod z0 len0 1 : Int)).map (Value.int .i64))]) (vf 5) (pf 5) := hR 5 (by decide)
   obtain ⟨v9, v5⟩ : ∃ x, vf 5 = x := ⟨_, rfl⟩
   obtain ⟨p10, p5⟩ : ∃ x, pf 5 = x := ⟨_, rfl⟩
   have hR11 := e5
   rw [v5, p5] at hR11
   subst hR11
   have q0 : (vf 0) = .agg #[.int .i64 n.ins, n.sv, n.av, n.ov] ∧ (pf 0) = [] := hR 0 (by decide)
   have q1 : (vf 1) = .agg #[.int .i64 n.ins, n.sv, n.av, n.ov] ∧ (pf 1) = [] := hR 1 (by decide)
   have q3 : (vf 3) = .slice a0 len0 cap0 ∧ (pf 3) = [] := hR 3 (by decide)
   have q4 : (vf 4) = .int .i64 (cod z0 len0 1 : Int) ∧ (pf 4) = [] := hR 4 (by decide)
   refine hl_less (l' := [rowE 3 1 v6 ((stL n).length) ((stL n).map (Value.int .i64)), rowE 3 1 v9 ((valsL n (stL n) (cod z0 len0 1 : Int)).length) ((valsL n (stL n) (cod z0 len0 1 : Int)).map (Value.int .i64)), boxE b5 #[.int .i64 n.ins, n.sv, n.av, n.ov] 28, ntE n]) (sx 0 rfl (sx 2 rfl (sx 3 rfl (sx 4 rfl (sx 5 rfl (sx 11 rfl (sx 28 (congrArg some v5) (sub_nil _)))))))) (by first | (simp only [p2, v2, p5, v5, q0.2, q1.2, q3.2, q4.2, List.flatMap_cons, List.flatMap_nil, List.append_nil, List.nil_append, List.cons_append]; exact List.Sublist.refl _) | simp [p2, v2, p5, v5, q0.2, q1.2, q3.2, q4.2]) ?_
   simp only [List.drop_succ_cons, List.drop_zero]
   refine hl_v rfl rfl rfl (rv_ev rfl) ?_
   refine hl_less (sx 0 rfl (sx 2 rfl (sx 3 rfl (sx 4 rfl (sx 5 rfl (sx 6 rfl (sx 11 rfl (sub_nil _)))))))) (.refl _) ?_
   refine hl_nil ?_
   refine hq_then ?_
   refine hc_seq ?_
   refine hc_region ?_
   have hv : AndV n (valsL n (stL n) (cod z0 len0 1 : Int)) := vals_and hn (str_len n (Nat.le_refl _)) _
   have hvl := hv.len
   have hv01 := hv.b01
   have hvl2 : ((valsL n (stL n) (cod z0 len0 1 : Int)).length : Int) = n.cnt := hvl
   have hvz : (valsL n (stL n) (cod z0 len0 1 : Int)).getD 0 0 = 0 := val0 _ _
   refine hl_v rfl rfl rfl (rv_loadN (cs := [.int .i64 n.ins, n.sv, n.av, n.ov]) rfl (by kernel_rfl) (by kernel_rfl) rfl rfl (box_part 2 rfl 0 rfl)) ?_
   refine hl_v rfl rfl rfl (rv_ev rfl) ?_
   refine hl_q rfl rfl rfl (rq_call (by kernel_rfl) rfl (fun w hm => NetCnf_ret n lit w (nt_rds 3 rfl w hm) hn hlt)) ?_
   intro v12 p13 hR14
   obtain ⟨cv, rs, xs, rfl, rfl, hcv1, hnc⟩ := hR14
   have hcl := hnc.cl hn hlt.1 hlt.2
   refine hl_v rfl rfl rfl (rv_ev rfl) ?_
   refine hl_v rfl rfl rfl (rv_ev rfl) ?_
   refine hl_v rfl rfl rfl (rv_ev rfl) ?_
   refine hl_box rfl rfl rfl (rq_alloc (z := .agg #[.int .i64 0, .slice none 0 0]) rfl (by kernel_rfl)) ?_
   intro b15
   refine hl_storeBoxN (i := 0) (off := 0) (us := [.int .i64 n.cnt, cv]) (l' := [boxE b15 #[.int .i64 n.cnt, cv] 42, clE cv rs, rowE 3 1 v6 ((stL n).length) ((stL n).map (Value.int .i64)), rowE 3 1 v9 ((valsL n (stL n) (cod z0 len0 1 : Int)).length) ((valsL n (stL n) (cod z0 len0 1 : Int)).map (Value.int .i64)), boxE b5 #[.int .i64 n.ins, n.sv, n.av, n.ov] 28, ntE n]) rfl rfl rfl (by kernel_rfl) rfl rfl rfl (all_cons rfl (all_cons hcv1 all_nil)) rfl rfl rfl ?_
   refine hl_v rfl rfl rfl (rv_ev rfl) ?_
   refine hl_less (sx 0 rfl (sx 2 rfl (sx 3 rfl (sx 4 rfl (sx 5 rfl (sx 6 rfl (sx 7 rfl (sx 8 rfl (sx 11 rfl (sub_nil _)))))))))) (.refl _) ?_
   refine hl_nil ?_
   refine hq_then ?_
   refine hc_seq ?_
   refine hc_region ?_
   refine hl_v rfl rfl rfl (rv_ev rfl) ?_
   refine hl_q rfl rfl rfl (rq_call (by kernel_rfl) rfl (fun w hm => NodeAssignment_ret (valsL n (stL n) (cod z0 len0 1 : Int)) _ w ((rd_row 3 rfl) w hm) (by omega))) ?_
   intro v16 p17 hR18
   subst hR18
   have hnal : (naL (valsL n (stL n) (cod z0 len0 1 : Int)) (valsL n (stL n) (cod z0 len0 1 : Int)).length).length = (valsL n (stL n) (cod z0 len0 1 : Int)).length := naL_len (Nat.le_refl _)
   refine hl_v rfl rfl rfl (rv_ev rfl) ?_
   refine hl_less (sx 0 rfl (sx 2 rfl (sx 3 rfl (sx 4 rfl (sx 5 rfl (sx 6 rfl (sx 7 rfl (sx 8 rfl (sx 9 rfl (sx 11 rfl (sub_nil _))))))))))) (.refl _) ?_
   refine hl_nil ?_
   refine hq_then ?_
   refine hc_seq ?_
   refine hc_region ?_
   have hml : lvI (2 * node) * (1 - 2 * (lit % 2)) = lvI lit := by
     rw [← hl2]; unfold lvI
     rw [if_neg (show ¬ 2 * (lit / 2) % 2 = 1 by omega)]
     rcases (show lit % 2 = 0 ∨ lit % 2 = 1 by omega) with e | e
     · rw [e, if_neg (by decide)]; omega
     · rw [e, if_pos rfl]; omega
   have hlr := lv_ok hlt.1 hlt.2
   refine hl_v rfl rfl rfl (rv_ev rfl) ?_
   refine hl_v rfl rfl rfl (rv_ev rfl) ?_
   refine hl_v rfl rfl rfl (rv_loadN (cs := [.int .i64 n.cnt, cv]) rfl (by kernel_rfl) (by kernel_rfl) rfl rfl (box_part 1 rfl 0 rfl)) ?_
   refine hl_callV rfl rfl rfl (rq_call (by kernel_rfl) rfl (fun w hm => ret_ans (implCnfOk_yes n.cnt rs cv w hcl (cl_rds 2 rfl w hm)))) ?_
   refine hl_v rfl rfl rfl (rv_ev rfl) ?_
   refine hl_v rfl rfl rfl (rv_ev rfl) ?_
   refine hl_v rfl rfl rfl (rv_ev rfl) ?_
   refine hl_v rfl rfl rfl (rv_len rfl Try.underlying45 rfl (rd_row 0 rfl)) ?_
   refine hl_v rfl rfl rfl (rv_ev rfl) ?_
   refine hl_v rfl rfl rfl (rv_len rfl Try.underlying26 rfl (rd_row 4 rfl)) ?_
   refine hl_eql rfl rfl rfl rfl rfl rfl (fun h19 => ?_) (fun h19 => absurd h19 (by omega))
   refine hl_v rfl rfl rfl (rv_ev rfl) ?_
   refine hl_v rfl rfl rfl (rv_ev rfl) ?_
   refine hl_v rfl rfl rfl (rv_loadN (cs := [.int .i64 n.cnt, cv]) rfl (by kernel_rfl) (by kernel_rfl) rfl rfl (box_part 1 rfl 0 rfl)) ?_
   refine hl_v rfl rfl rfl (rv_ev rfl) ?_
   refine hl_callV rfl rfl rfl (rq_call (by kernel_rfl) rfl (fun w hm => ret_ans (implCnfTrue_ans n.cnt rs cv (naL (valsL n (stL n) (cod z0 len0 1 : Int)) (valsL n (stL n) (cod z0 len0 1 : Int)).length) _ w hcl (cl_rds 2 rfl w hm) ((rd_row 0 rfl) w hm) (by omega)))) ?_
   refine hl_bool (fun h20 => ?_) (fun h20 => ?_)
   ·
    have hcb : bitL (valsL n (stL n) (cod z0 len0 1 : Int)) lit = 1 := by
      have h8 : cnfB (naL (valsL n (stL n) (cod z0 len0 1 : Int)) (valsL n (stL n) (cod z0 len0 1 : Int)).length) rs = true := h20
      rw [nc_true hn hv hvz hnc hlt.1 hlt.2] at h8
      simpa using h8
    refine hl_v rfl rfl rfl (rv_ev rfl) ?_
    refine hl_v rfl rfl rfl (rv_ev rfl) ?_
    refine hl_callV rfl rfl rfl (rq_call (by kernel_rfl) rfl (fun w hm => ret_ans (specLitValue_ans (valsL n (stL n) (cod z0 len0 1 : Int)) lit _ w ((rd_row 4 rfl) w hm) (by omega) (hv01 _ (by omega)) (by omega)))) ?_
    refine hl_eql rfl rfl rfl rfl rfl rfl (fun h21 => ?_) (fun h21 => absurd h21 (by omega))
    refine hl_v rfl rfl rfl (rv_beql (m := true) (n := true) rfl Try.underlying4 rfl rfl) ?_
    refine hl_v rfl rfl rfl (rv_ev rfl) ?_
    refine hl_v rfl rfl rfl (rv_ev rfl) ?_
    refine hl_v rfl rfl rfl (rv_ev rfl) ?_
    refine hl_callV rfl rfl rfl (rq_call (by kernel_rfl) rfl (fun w hm => ret_ans (LitVar_ans lit w (by omega)))) ?_
    refine hl_v rfl rfl rfl (rv_ev rfl) ?_
    refine hl_v rfl rfl rfl (rv_mul rfl rfl rfl (by constructor <;> omega)) ?_
    refine hl_callV rfl rfl rfl (rq_call (by kernel_rfl) rfl (fun w hm => ret_ans (LitVar_ans (2 * node) w (by omega)))) ?_
    refine hl_v rfl rfl rfl (rv_ev rfl) ?_
    refine hl_v rfl rfl rfl (rv_rem rfl rfl rfl (by constructor <;> omega)) ?_
    refine hl_v rfl rfl rfl (rv_mul rfl rfl rfl (by constructor <;> omega)) ?_
    refine hl_v rfl rfl rfl (rv_sub rfl rfl rfl (by constructor <;> omega)) ?_
    refine hl_v rfl rfl rfl (rv_mul rfl rfl rfl (by rw [hml]; constructor <;> omega)) ?_
    refine hl_eql rfl rfl rfl rfl rfl rfl (fun h22 => ?_) (fun h22 => absurd h22 (by omega))
    refine hl_v rfl rfl rfl (rv_ev rfl) ?_
    refine hl_v rfl rfl rfl (rv_ev rfl) ?_
    refine hl_less (sx 0 rfl (sx 2 rfl (sx 3 rfl (sx 4 rfl (sx 5 rfl (sx 6 rfl (sx 7 rfl (sx 8 rfl (sx 9 rfl (sx 11 rfl (sub_nil _))))))))))) (.refl _) ?_
    refine hl_nil ?_
    refine hq_then ?_
    refine hc_ret ?_
    exact hq_ans rfl rfl rfl
   ·
    have hcb : ¬ bitL (valsL n (stL n) (cod z0 len0 1 : Int)) lit = 1 := by
      have h8 : cnfB (naL (valsL n (stL n) (cod z0 len0 1 : Int)) (valsL n (stL n) (cod z0 len0 1 : Int)).length) rs = false := h20
      rw [nc_true hn hv hvz hnc hlt.1 hlt.2] at h8
      simpa using h8
    refine hl_v rfl rfl rfl (rv_ev rfl) ?_
    refine hl_v rfl rfl rfl (rv_ev rfl) ?_
    refine hl_callV rfl rfl rfl (rq_call (by kernel_rfl) rfl (fun w hm => ret_ans (specLitValue_ans (valsL n (stL n) (cod z0 len0 1 : Int)) lit _ w ((rd_row 4 rfl) w hm) (by omega) (hv01 _ (by omega)) (by omega)))) ?_
    refine hl_eql rfl rfl rfl rfl rfl rfl (fun h23 => absurd h23 (by omega)) (fun h23 => ?_)
    refine hl_v rfl rfl rfl (rv_beql (m := false) (n := false) rfl Try.underlying4 rfl rfl) ?_
    refine hl_v rfl rfl rfl (rv_ev rfl) ?_
    refine hl_v rfl rfl rfl (rv_ev rfl) ?_
    refine hl_v rfl rfl rfl (rv_ev rfl) ?_
    refine hl_callV rfl rfl rfl (rq_call (by kernel_rfl) rfl (fun w hm => ret_ans (LitVar_ans lit w (by omega)))) ?_
    refine hl_v rfl rfl rfl (rv_ev rfl) ?_
    refine hl_v rfl rfl rfl (rv_mul rfl rfl rfl (by constructor <;> omega)) ?_
    refine hl_callV rfl rfl rfl (rq_call (by kernel_rfl) rfl (fun w hm => ret_ans (LitVar_ans (2 * node) w (by omega)))) ?_
    refine hl_v rfl rfl rfl (rv_ev rfl) ?_
    refine hl_v rfl rfl rfl (rv_rem rfl rfl rfl (by constructor <;> omega)) ?_
    refine hl_v rfl rfl rfl (rv_mul rfl rfl rfl (by constructor <;> omega)) ?_
    refine hl_v rfl rfl rfl (rv_sub rfl rfl rfl (by constructor <;> omega)) ?_
    refine hl_v rfl rfl rfl (rv_mul rfl rfl rfl (by rw [hml]; constructor <;> omega)) ?_
    refine hl_eql rfl rfl rfl rfl rfl rfl (fun h24 => ?_) (fun h24 => absurd h24 (by omega))
    refine hl_v rfl rfl rfl (rv_ev rfl) ?_
    refine hl_v rfl rfl rfl (rv_ev rfl) ?_
    refine hl_less (sx 0 rfl (sx 2 rfl (sx 3 rfl (sx 4 rfl (sx 5 rfl (sx 6 rfl (sx 7 rfl (sx 8 rfl (sx 9 rfl (sx 11 rfl (sub_nil _))))))))))) (.refl _) ?_
    refine hl_nil ?_
    refine hq_then ?_
    refine hc_ret ?_
    exact hq_ans rfl rfl rfl
end Go.Proofs.Ytakbbebpimlnpaa
