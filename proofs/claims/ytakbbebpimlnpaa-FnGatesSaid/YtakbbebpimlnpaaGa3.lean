/- Texts of the law FnGates, part 3: what it uses. -/
import Derived.Test.YtakbbebpimlnpaaGa2
set_option linter.unusedVariables false
set_option linter.unusedSimpArgs false
namespace Go.Proofs.Ytakbbebpimlnpaa
open Go.RowKit Go.ChangeShapes
open Go.RowKit
set_option maxHeartbeats 4000000 in
set_option maxRecDepth 100000 in
theorem implNetOk_yes (n : Nt) (w : World) (hr : RdsNt w n) (hn : NtOk n) :
  Calls Try.prog 67 #[.agg #[.int .i64 n.ins, n.sv, n.av, n.ov]] w (Ans w (.bool true)) := by
 have hi0 := hn.i0
 have hi1 := hn.i1
 have hs1 := hn.s1
 have ha1 := hn.a1
 have ho1 := hn.o1
 have hcnt : n.cnt = 1 + n.ins + n.ss.length + n.gs.length := rfl
 have hfst : n.fst = 1 + n.ins + n.ss.length := rfl
 refine calls_hc (N := 67) (args := [.agg #[.int .i64 n.ins, n.sv, n.av, n.ov]]) Try.func67 rfl rfl ?_
 refine hc_less _ (sx 0 rfl (sub_nil _)) (.refl _) ?_
 refine hc_seq ?_
 refine hc_region ?_
 refine hl_box rfl rfl rfl (rq_box rfl rfl) ?_
 intro b1
 refine hl_v rfl rfl rfl (rv_ev rfl) ?_
 refine hl_less (sx 0 rfl (sx 1 rfl (sx 2 rfl (sub_nil _)))) (.refl _) ?_
 refine hl_nil ?_
 refine hq_then ?_
 refine hc_seq ?_
 refine hc_region ?_
 refine hl_v rfl rfl rfl (rv_loadN (cs := [.int .i64 n.ins, n.sv, n.av, n.ov]) rfl (by kernel_rfl) (by kernel_rfl) rfl rfl (box_part 0 rfl 0 rfl)) ?_
 refine hl_callV rfl rfl rfl (rq_call (by kernel_rfl) rfl (fun w hm => ret_ans (implNodeCount_yes n w (hr.below hm.bel) hn))) ?_
 refine hl_v rfl rfl rfl (rv_ev rfl) ?_
 refine hl_less (sx 0 rfl (sx 1 rfl (sx 2 rfl (sx 3 rfl (sub_nil _))))) (.refl _) ?_
 refine hl_nil ?_
 refine hq_then ?_
 refine hc_seq ?_
 refine hc_seq ?_
 refine hc_region ?_
 refine hl_v rfl rfl rfl (rv_ev rfl) ?_
 refine hl_eql rfl rfl rfl rfl rfl rfl (fun h2 => absurd h2 (by omega)) (fun h2 => ?_)
 refine hl_less (sx 0 rfl (sx 1 rfl (sx 2 rfl (sx 3 rfl (sx 14 rfl (sub_nil _)))))) (.refl _) ?_
 refine hl_nil ?_
 refine hq_then ?_
 refine hc_false rfl ?_
 refine hc_skip ?_
 refine hq_then ?_
 refine hc_seq ?_
 refine hc_seq ?_
 refine hc_region ?_
 refine hl_v rfl rfl rfl (rv_field (k0 := 1) rfl (by kernel_rfl) rfl) ?_
 refine hl_v rfl rfl rfl (rv_load rfl (by kernel_rfl) rfl (box_cell 0 rfl rfl)) ?_
 refine hl_v rfl rfl rfl (rv_len rfl Try.underlying24 rfl (rd_old hr.sq)) ?_
 refine hl_v rfl rfl rfl (rv_ev rfl) ?_
 refine hl_less (sx 0 rfl (sx 1 rfl (sx 2 rfl (sx 3 rfl (sx 14 rfl (sx 16 rfl (sx 17 rfl (sx 18 rfl (sub_nil _))))))))) (.refl _) ?_
 refine hl_nil ?_
 refine hq_then ?_
 refine hc_block ?_
 refine hc_loop1 (α := Nat) (fun k => [boxE b1 #[.int .i64 n.ins, n.sv, n.av, n.ov] 28]) (fun k => [(0, .agg #[.int .i64 n.ins, n.sv, n.av, n.ov]), (1, .pointer (some ⟨b1, 0, none⟩)), (2, .bool false), (3, .int .i64 n.cnt), (14, .bool false), (16, n.sv), (17, .int .i64 (n.ss.length : Int)), (18, .int .i64 (k : Int))]) (fun k => k ≤ n.ss.length) (fun k => n.ss.length - k) 0 (Nat.zero_le _) (sx 0 rfl (sx 1 rfl (sx 2 rfl (sx 3 rfl (sx 14 rfl (sx 16 rfl (sx 17 rfl (sx 18 rfl (sub_nil _))))))))) ((.cons_cons _ .slnil)) ?_
 intro k hi3
 have hk := hi3
 refine hc_seq ?_
 refine hc_region ?_
 refine hl_lss rfl rfl rfl rfl rfl rfl (fun h4 => ?_) (fun h4 => ?_)
 ·
  refine hl_less (sx 0 rfl (sx 1 rfl (sx 2 rfl (sx 3 rfl (sx 14 rfl (sx 16 rfl (sx 17 rfl (sx 18 rfl (sx 19 rfl (sub_nil _)))))))))) (.refl _) ?_
  refine hl_nil ?_
  refine hq_then ?_
  refine hc_seq ?_
  refine hc_true rfl ?_
  refine hc_skip ?_
  refine hq_then ?_
  refine hc_seq ?_
  refine hc_block ?_
  refine hc_seq ?_
  refine hc_region ?_
  refine hl_v rfl rfl rfl (rv_index (s := 3) rfl Try.underlying24 (by kernel_rfl) rfl rfl (rd_old hr.sq) (by omega) (by first | omega | (simp only [List.length_set]; omega))) ?_
  refine hl_v rfl rfl rfl (rv_loadElN (us := [.int .i64 ((n.ss.getD k sq0).kd), .int .i64 ((n.ss.getD k sq0).it), (n.ss.getD k sq0).iv]) rfl (by kernel_rfl) (by kernel_rfl) rfl (rd_old hr.sq) (by omega) rfl (flat_atN sqC 3 (fun _ => rfl) n.ss sq0 (show k < _ by first | omega | (simp only [List.length_set]; omega)) rfl)) ?_
  refine hl_box rfl rfl rfl (rq_alloc (z := .agg #[.int .i64 0, .int .i64 0, .slice none 0 0]) rfl (by kernel_rfl)) ?_
  intro b5
  refine hl_storeBoxN (i := 0) (off := 0) (us := [.int .i64 ((n.ss.getD k sq0).kd), .int .i64 ((n.ss.getD k sq0).it), (n.ss.getD k sq0).iv]) (l' := [boxE b5 #[.int .i64 ((n.ss.getD k sq0).kd), .int .i64 ((n.ss.getD k sq0).it), (n.ss.getD k sq0).iv] 83, boxE b1 #[.int .i64 n.ins, n.sv, n.av, n.ov] 28]) rfl rfl rfl (by kernel_rfl) rfl rfl rfl (all_cons rfl (all_cons rfl (all_cons (hr.at (k := k) (by omega)).one all_nil))) rfl rfl rfl ?_
  refine hl_less (sx 0 rfl (sx 1 rfl (sx 2 rfl (sx 3 rfl (sx 5 rfl (sx 14 rfl (sx 16 rfl (sx 17 rfl (sx 18 rfl (sx 19 rfl (sub_nil _))))))))))) (.refl _) ?_
  refine hl_nil ?_
  refine hq_then ?_
  refine hc_seq ?_
  refine hc_region ?_
  refine hl_v rfl rfl rfl (rv_loadN (cs := [.int .i64 ((n.ss.getD k sq0).kd), .int .i64 ((n.ss.getD k sq0).it), (n.ss.getD k sq0).iv]) rfl (by kernel_rfl) (by kernel_rfl) rfl rfl (box_part 0 rfl 0 rfl)) ?_
  refine hl_callV rfl rfl rfl (rq_call (by kernel_rfl) rfl (fun w hm => ret_ans (seqOk_yes (n.ss.getD k sq0) w (hn.sq _ (getD_memX (d := sq0) (by omega))) ((hr.at (k := k) (by omega)).below hm.bel)))) ?_
  refine hl_v rfl rfl rfl (rv_ev rfl) ?_
  refine hl_less (sx 0 rfl (sx 1 rfl (sx 2 rfl (sx 3 rfl (sx 5 rfl (sx 14 rfl (sx 16 rfl (sx 17 rfl (sx 18 rfl (sx 19 rfl (sx 24 rfl (sub_nil _)))))))))))) (.refl _) ?_
  refine hl_nil ?_
  refine hq_then ?_
  refine hc_false rfl ?_
  refine hc_skip ?_
  refine hq_block_normal ?_
  refine hq_then ?_
  refine hc_region ?_
  refine hl_v rfl rfl rfl (rv_add rfl rfl rfl (by constructor <;> omega)) ?_
  refine hl_v rfl rfl rfl (rv_ev rfl) ?_
  refine hl_less (sx 0 rfl (sx 1 rfl (sx 2 rfl (sx 3 rfl (sx 5 rfl (sx 14 rfl (sx 16 rfl (sx 17 rfl (sx 18 rfl (sx 19 rfl (sx 24 rfl (sub_nil _)))))))))))) (.refl _) ?_
  refine hl_nil ?_
  exact hq_round1 (k + 1) (by omega) (by omega) (sx 0 rfl (sx 1 rfl (sx 2 rfl (sx 3 rfl (sx 14 rfl (sx 16 rfl (sx 17 rfl (sx 18 rfl (sub_nil _))))))))) ((.cons _ (.cons_cons _ .slnil)))
 ·
  refine hl_less (sx 0 rfl (sx 1 rfl (sx 2 rfl (sx 3 rfl (sx 14 rfl (sx 16 rfl (sx 17 rfl (sx 18 rfl (sx 19 rfl (sub_nil _)))))))))) (.refl _) ?_
  refine hl_nil ?_
  refine hq_then ?_
  refine hc_seq ?_
  refine hc_false rfl ?_
  refine hc_exit ?_
  refine hq_then_exit ?_
  refine hq_then_exit ?_
  refine hq_block_exit ?_
  refine hq_then ?_
  refine hc_seq ?_
  refine hc_seq ?_
  refine hc_region ?_
  refine hl_v rfl rfl rfl (rv_loadN (cs := [.int .i64 n.ins, n.sv, n.av, n.ov]) rfl (by kernel_rfl) (by kernel_rfl) rfl rfl (box_part 0 rfl 0 rfl)) ?_
  refine hl_q rfl rfl rfl (rq_call (by kernel_rfl) rfl (fun w hm => roots_ret n w (hr.below hm.bel) hn)) ?_
  intro v6 p7 hR8
  subst hR8
  refine hl_v rfl rfl rfl (rv_len rfl Try.underlying26 rfl (rd_row 0 rfl)) ?_
  have hzl := rts_len hn n.ss.length (Nat.le_refl _)
  refine hl_v rfl rfl rfl (rv_ev rfl) ?_
  refine hl_less (sx 0 rfl (sx 1 rfl (sx 2 rfl (sx 3 rfl (sx 14 rfl (sx 16 rfl (sx 17 rfl (sx 18 rfl (sx 19 rfl (sx 27 rfl (sx 28 rfl (sx 29 rfl (sub_nil _))))))))))))) (.refl _) ?_
  refine hl_nil ?_
  refine hq_then ?_
  refine hc_block ?_
  refine hc_loop1 (α := Nat) (fun q => [rowE 3 1 v6 ((rtsL n n.ss.length).length) ((rtsL n n.ss.length).map (Value.int .i64)), boxE b1 #[.int .i64 n.ins, n.sv, n.av, n.ov] 28]) (fun q => [(0, .agg #[.int .i64 n.ins, n.sv, n.av, n.ov]), (1, .pointer (some ⟨b1, 0, none⟩)), (2, .bool false), (3, .int .i64 n.cnt), (14, .bool false), (16, n.sv), (17, .int .i64 (n.ss.length : Int)), (18, .int .i64 (k : Int)), (19, .bool false), (27, v6), (28, .int .i64 ((rtsL n n.ss.length).length : Int)), (29, .int .i64 (q : Int))]) (fun q => q ≤ (rtsL n n.ss.length).length) (fun q => (rtsL n n.ss.length).length - q) 0 (Nat.zero_le _) (sx 0 rfl (sx 1 rfl (sx 2 rfl (sx 3 rfl (sx 14 rfl (sx 16 rfl (sx 17 rfl (sx 18 rfl (sx 19 rfl (sx 27 rfl (sx 28 rfl (sx 29 rfl (sub_nil _))))))))))))) ((.cons_cons _ (.cons_cons _ .slnil))) ?_
  intro q hi9
  have hq := hi9
  refine hc_seq ?_
  refine hc_region ?_
  refine hl_lss rfl rfl rfl rfl rfl rfl (fun h10 => ?_) (fun h10 => ?_)
  ·
   refine hl_less (sx 0 rfl (sx 1 rfl (sx 2 rfl (sx 3 rfl (sx 14 rfl (sx 16 rfl (sx 17 rfl (sx 18 rfl (sx 19 rfl (sx 27 rfl (sx 28 rfl (sx 29 rfl (sx 30 rfl (sub_nil _)))))))))))))) (.refl _) ?_
   refine hl_nil ?_
   refine hq_then ?_
   refine hc_seq ?_
   refine hc_true rfl ?_
   refine hc_skip ?_
   refine hq_then ?_
   refine hc_seq ?_
   refine hc_block ?_
   refine hc_seq ?_
   refine hc_region ?_
   refine hl_v rfl rfl rfl (rv_index (s := 1) rfl Try.underlying26 (by kernel_rfl) rfl rfl (rd_row 0 rfl) (by omega) (by first | omega | (simp only [List.length_set]; omega))) ?_
   refine hl_v rfl rfl rfl (rv_loadEl (u := .int .i64 ((rtsL n n.ss.length).getD q 0)) rfl (by kernel_rfl) rfl (rd_row 0 rfl) (ints_at1 (show _ < (rtsL n n.ss.length).length by first | omega | (simp only [List.length_set]; omega)))) ?_
   refine hl_v rfl rfl rfl (rv_ev rfl) ?_
   refine hl_less (sx 0 rfl (sx 1 rfl (sx 2 rfl (sx 3 rfl (sx 7 rfl (sx 14 rfl (sx 16 rfl (sx 17 rfl (sx 18 rfl (sx 19 rfl (sx 27 rfl (sx 28 rfl (sx 29 rfl (sx 30 rfl (sub_nil _))))))))))))))) (.refl _) ?_
   refine hl_nil ?_
   refine hq_then ?_
   refine hc_seq ?_
   refine hc_region ?_
   have hlk := rts_ok hn (i := q) (by omega)
   obtain ⟨hlk1, hlk2⟩ := hlk
   refine hl_v rfl rfl rfl (rv_ev rfl) ?_
   refine hl_v rfl rfl rfl (rv_ev rfl) ?_
   refine hl_v rfl rfl rfl (rv_mul rfl rfl rfl (by constructor <;> omega)) ?_
   refine hl_v rfl rfl rfl (rv_sub rfl rfl rfl (by constructor <;> omega)) ?_
   refine hl_callV rfl rfl rfl (rq_call (by kernel_rfl) rfl (fun w hm => ret_ans (ans_of (inRange_any _ _ _ w)))) ?_
   refine hl_bool (fun h11 => ?_) (fun h11 => absurd ((((inR_iff _ _ _).2 (by omega))).symm.trans h11) (by decide))
   refine hl_v rfl rfl rfl (rv_ev rfl) ?_
   refine hl_less (sx 0 rfl (sx 1 rfl (sx 2 rfl (sx 3 rfl (sx 7 rfl (sx 14 rfl (sx 16 rfl (sx 17 rfl (sx 18 rfl (sx 19 rfl (sx 27 rfl (sx 28 rfl (sx 29 rfl (sx 30 rfl (sx 38 rfl (sub_nil _)))))))))))))))) (.refl _) ?_
   refine hl_nil ?_
   refine hq_then ?_
   refine hc_false rfl ?_
   refine hc_skip ?_
   refine hq_block_normal ?_
   refine hq_then ?_
   refine hc_region ?_
   refine hl_v rfl rfl rfl (rv_add rfl rfl rfl (by constructor <;> omega)) ?_
   have hzl := rts_len hn n.ss.length (Nat.le_refl _)
   refine hl_v rfl rfl rfl (rv_ev rfl) ?_
   refine hl_less (sx 0 rfl (sx 1 rfl (sx 2 rfl (sx 3 rfl (sx 7 rfl (sx 14 rfl (sx 16 rfl (sx 17 rfl (sx 18 rfl (sx 19 rfl (sx 27 rfl (sx 28 rfl (sx 29 rfl (sx 30 rfl (sx 38 rfl (sub_nil _)))))))))))))))) (.refl _) ?_
   refine hl_nil ?_
   exact hq_round1 (q + 1) (by omega) (by omega) (sx 0 rfl (sx 1 rfl (sx 2 rfl (sx 3 rfl (sx 14 rfl (sx 16 rfl (sx 17 rfl (sx 18 rfl (sx 19 rfl (sx 27 rfl (sx 28 rfl (sx 29 rfl (sub_nil _))))))))))))) ((.cons_cons _ (.cons_cons _ .slnil)))
  ·
   refine hl_less (sx 0 rfl (sx 1 rfl (sx 2 rfl (sx 3 rfl (sx 14 rfl (sx 16 rfl (sx 17 rfl (sx 18 rfl (sx 19 rfl (sx 27 rfl (sx 28 rfl (sx 29 rfl (sx 30 rfl (sub_nil _)))))))))))))) (.refl _) ?_
   refine hl_nil ?_
   refine hq_then ?_
   refine hc_seq ?_
   refine hc_false rfl ?_
   refine hc_exit ?_
   refine hq_then_exit ?_
   refine hq_then_exit ?_
   refine hq_block_exit ?_
   refine hq_then ?_
   refine hc_seq ?_
   refine hc_seq ?_
   refine hc_region ?_
   refine hl_v rfl rfl rfl (rv_field (k0 := 2) rfl (by kernel_rfl) rfl) ?_
   refine hl_v rfl rfl rfl (rv_load rfl (by kernel_rfl) rfl (box_cell 1 rfl rfl)) ?_
   refine hl_v rfl rfl rfl (rv_len rfl Try.underlying25 rfl (rd_old hr.an)) ?_
   refine hl_v rfl rfl rfl (rv_ev rfl) ?_
   refine hl_less (sx 0 rfl (sx 1 rfl (sx 2 rfl (sx 3 rfl (sx 14 rfl (sx 16 rfl (sx 17 rfl (sx 18 rfl (sx 19 rfl (sx 27 rfl (sx 28 rfl (sx 29 rfl (sx 30 rfl (sx 41 rfl (sx 42 rfl (sx 43 rfl (sub_nil _))))))))))))))))) (.refl _) ?_
   refine hl_nil ?_
   refine hq_then ?_
   refine hc_block ?_
   refine hc_loop1 (α := Nat) (fun j => [rowE 3 1 v6 ((rtsL n n.ss.length).length) ((rtsL n n.ss.length).map (Value.int .i64)), boxE b1 #[.int .i64 n.ins, n.sv, n.av, n.ov] 28]) (fun j => [(0, .agg #[.int .i64 n.ins, n.sv, n.av, n.ov]), (1, .pointer (some ⟨b1, 0, none⟩)), (2, .bool false), (3, .int .i64 n.cnt), (14, .bool false), (16, n.sv), (17, .int .i64 (n.ss.length : Int)), (18, .int .i64 (k : Int)), (19, .bool false), (27, v6), (28, .int .i64 ((rtsL n n.ss.length).length : Int)), (29, .int .i64 (q : Int)), (30, .bool false), (41, n.av), (42, .int .i64 (n.gs.length : Int)), (43, .int .i64 (j : Int))]) (fun j => j ≤ n.gs.length) (fun j => n.gs.length - j) 0 (Nat.zero_le _) (sx 0 rfl (sx 1 rfl (sx 2 rfl (sx 3 rfl (sx 14 rfl (sx 16 rfl (sx 17 rfl (sx 18 rfl (sx 19 rfl (sx 27 rfl (sx 28 rfl (sx 29 rfl (sx 30 rfl (sx 41 rfl (sx 42 rfl (sx 43 rfl (sub_nil _))))))))))))))))) ((.cons_cons _ (.cons_cons _ .slnil))) ?_
   intro j hi12
   have hj := hi12
   refine hc_seq ?_
   refine hc_region ?_
   refine hl_lss rfl rfl rfl rfl rfl rfl (fun h13 => ?_) (fun h13 => ?_)
   ·
    refine hl_less (sx 0 rfl (sx 1 rfl (sx 2 rfl (sx 3 rfl (sx 14 rfl (sx 16 rfl (sx 17 rfl (sx 18 rfl (sx 19 rfl (sx 27 rfl (sx 28 rfl (sx 29 rfl (sx 30 rfl (sx 41 rfl (sx 42 rfl (sx 43 rfl (sx 44 rfl (sub_nil _)))))))))))))))))) (.refl _) ?_
    refine hl_nil ?_
    refine hq_then ?_
    refine hc_seq ?_
    refine hc_true rfl ?_
    refine hc_skip ?_
    refine hq_then ?_
    refine hc_seq ?_
    refine hc_block ?_
    refine hc_seq ?_
    refine hc_region ?_
    refine hl_v rfl rfl rfl (rv_ev rfl) ?_
    refine hl_v rfl rfl rfl (rv_index (s := 2) rfl Try.underlying25 (by kernel_rfl) rfl rfl (rd_old hr.an) (by omega) (by first | omega | (simp only [List.length_set]; omega))) ?_
    refine hl_v rfl rfl rfl (rv_loadElN (us := [.int .i64 ((n.gs.getD j an0).a), .int .i64 ((n.gs.getD j an0).b)]) rfl (by kernel_rfl) (by kernel_rfl) rfl (rd_old hr.an) (by omega) rfl (flat_atN anC 2 (fun _ => rfl) n.gs an0 (show j < _ by first | omega | (simp only [List.length_set]; omega)) rfl)) ?_
    refine hl_box rfl rfl rfl (rq_alloc (z := .agg #[.int .i64 0, .int .i64 0]) rfl (by kernel_rfl)) ?_
    intro b14
    refine hl_v rfl rfl rfl (rv_ev rfl) ?_
    refine hl_storeBoxN (i := 0) (off := 0) (us := [.int .i64 ((n.gs.getD j an0).a), .int .i64 ((n.gs.getD j an0).b)]) (l' := [boxE b14 #[.int .i64 ((n.gs.getD j an0).a), .int .i64 ((n.gs.getD j an0).b)] 80, rowE 3 1 v6 ((rtsL n n.ss.length).length) ((rtsL n n.ss.length).map (Value.int .i64)), boxE b1 #[.int .i64 n.ins, n.sv, n.av, n.ov] 28]) rfl rfl rfl (by kernel_rfl) rfl rfl rfl (all_cons rfl (all_cons rfl all_nil)) rfl rfl rfl ?_
    refine hl_less (sx 0 rfl (sx 1 rfl (sx 2 rfl (sx 3 rfl (sx 8 rfl (sx 9 rfl (sx 14 rfl (sx 16 rfl (sx 17 rfl (sx 18 rfl (sx 19 rfl (sx 27 rfl (sx 28 rfl (sx 29 rfl (sx 30 rfl (sx 41 rfl (sx 42 rfl (sx 43 rfl (sx 44 rfl (sub_nil _)))))))))))))))))))) (.refl _) ?_
    refine hl_nil ?_
    refine hq_then ?_
    refine hc_seq ?_
    refine hc_region ?_
    refine hl_v rfl rfl rfl (rv_loadN (cs := [.int .i64 n.ins, n.sv, n.av, n.ov]) rfl (by kernel_rfl) (by kernel_rfl) rfl rfl (box_part 2 rfl 0 rfl)) ?_
    refine hl_callV rfl rfl rfl (rq_call (by kernel_rfl) rfl (fun w hm => ret_ans (firstAnd_yes n w (hr.below hm.bel) hn))) ?_
    refine hl_v rfl rfl rfl (rv_ev rfl) ?_
    refine hl_v rfl rfl rfl (rv_add rfl rfl rfl (by constructor <;> omega)) ?_
    refine hl_v rfl rfl rfl (rv_mul rfl rfl rfl (by constructor <;> omega)) ?_
    refine hl_v rfl rfl rfl (rv_sub rfl rfl rfl (by constructor <;> omega)) ?_
    refine hl_v rfl rfl rfl (rv_ev rfl) ?_
    refine hl_less (sx 0 rfl (sx 1 rfl (sx 2 rfl (sx 3 rfl (sx 8 rfl (sx 9 rfl (sx 10 rfl (sx 14 rfl (sx 16 rfl (sx 17 rfl (sx 18 rfl (sx 19 rfl (sx 27 rfl (sx 28 rfl (sx 29 rfl (sx 30 rfl (sx 41 rfl (sx 42 rfl (sx 43 rfl (sx 44 rfl (sub_nil _))))))))))))))))))))) (.refl _) ?_
    refine hl_nil ?_
    refine hq_then ?_
    refine hc_seq ?_
    refine hc_region ?_
    have hlj := hn.an j (by omega)
    obtain ⟨⟨hlj1, hlj2⟩, hlj3, hlj4⟩ := hlj
    refine hl_v rfl rfl rfl (rv_field (k0 := 0) rfl (by kernel_rfl) rfl) ?_
    refine hl_v rfl rfl rfl (rv_load rfl (by kernel_rfl) rfl (box_cell 0 rfl rfl)) ?_
    refine hl_v rfl rfl rfl (rv_ev rfl) ?_
    refine hl_callV rfl rfl rfl (rq_call (by kernel_rfl) rfl (fun w hm => ret_ans (ans_of (inRange_any _ _ _ w)))) ?_
    refine hl_bool (fun h15 => ?_) (fun h15 => absurd ((((inR_iff _ _ _).2 (by omega))).symm.trans h15) (by decide))
    refine hl_v rfl rfl rfl (rv_ev rfl) ?_
    refine hl_v rfl rfl rfl (rv_ev rfl) ?_
    refine hl_v rfl rfl rfl (rv_field (k0 := 1) rfl (by kernel_rfl) rfl) ?_
    refine hl_v rfl rfl rfl (rv_load rfl (by kernel_rfl) rfl (box_cell 0 rfl rfl)) ?_
    refine hl_v rfl rfl rfl (rv_ev rfl) ?_
    refine hl_callV rfl rfl rfl (rq_call (by kernel_rfl) rfl (fun w hm => ret_ans (ans_of (inRange_any _ _ _ w)))) ?_
    refine hl_bool (fun h16 => ?_) (fun h16 => absurd ((((inR_iff _ _ _).2 (by omega))).symm.trans h16) (by decide))
    refine hl_v rfl rfl rfl (rv_ev rfl) ?_
    refine hl_v rfl rfl rfl (rv_ev rfl) ?_
    refine hl_less (sx 0 rfl (sx 1 rfl (sx 2 rfl (sx 3 rfl (sx 8 rfl (sx 9 rfl (sx 10 rfl (sx 14 rfl (sx 16 rfl (sx 17 rfl (sx 18 rfl (sx 19 rfl (sx 27 rfl (sx 28 rfl (sx 29 rfl (sx 30 rfl (sx 41 rfl (sx 42 rfl (sx 43 rfl (sx 44 rfl (sx 65 rfl (sub_nil _)))))))))))))))))))))) (.refl _) ?_
    refine hl_nil ?_
    refine hq_then ?_
    refine hc_false rfl ?_
    refine hc_skip ?_
    refine hq_block_normal ?_
    refine hq_then ?_
    refine hc_region ?_
    refine hl_v rfl rfl rfl (rv_add rfl rfl rfl (by constructor <;> omega)) ?_
    refine hl_v rfl rfl rfl (rv_ev rfl) ?_
    refine hl_less (sx 0 rfl (sx 1 rfl (sx 2 rfl (sx 3 rfl (sx 8 rfl (sx 9 rfl (sx 10 rfl (sx 14 rfl (sx 16 rfl (sx 17 rfl (sx 18 rfl (sx 19 rfl (sx 27 rfl (sx 28 rfl (sx 29 rfl (sx 30 rfl (sx 41 rfl (sx 42 rfl (sx 43 rfl (sx 44 rfl (sx 65 rfl (sub_nil _)))))))))))))))))))))) (.refl _) ?_
    refine hl_nil ?_
    exact hq_round1 (j + 1) (by omega) (by omega) (sx 0 rfl (sx 1 rfl (sx 2 rfl (sx 3 rfl (sx 14 rfl (sx 16 rfl (sx 17 rfl (sx 18 rfl (sx 19 rfl (sx 27 rfl (sx 28 rfl (sx 29 rfl (sx 30 rfl (sx 41 rfl (sx 42 rfl (sx 43 rfl (sub_nil _))))))))))))))))) ((.cons _ (.cons_cons _ (.cons_cons _ .slnil))))
   ·
    refine hl_less (sx 0 rfl (sx 1 rfl (sx 2 rfl (sx 3 rfl (sx 14 rfl (sx 16 rfl (sx 17 rfl (sx 18 rfl (sx 19 rfl (sx 27 rfl (sx 28 rfl (sx 29 rfl (sx 30 rfl (sx 41 rfl (sx 42 rfl (sx 43 rfl (sx 44 rfl (sub_nil _)))))))))))))))))) (.refl _) ?_
    refine hl_nil ?_
    refine hq_then ?_
    refine hc_seq ?_
    refine hc_false rfl ?_
    refine hc_exit ?_
    refine hq_then_exit ?_
    refine hq_then_exit ?_
    refine hq_block_exit ?_
    refine hq_then ?_
    refine hc_seq ?_
    refine hc_region ?_
    refine hl_v rfl rfl rfl (rv_ev rfl) ?_
    refine hl_less (sx 0 rfl (sx 1 rfl (sx 2 rfl (sx 3 rfl (sx 14 rfl (sx 16 rfl (sx 17 rfl (sx 18 rfl (sx 19 rfl (sx 27 rfl (sx 28 rfl (sx 29 rfl (sx 30 rfl (sx 41 rfl (sx 42 rfl (sx 43 rfl (sx 44 rfl (sub_nil _)))))))))))))))))) (.refl _) ?_
    refine hl_nil ?_
    refine hq_then ?_
    refine hc_ret ?_
    exact hq_ans rfl rfl rfl
theorem bitL_xor {xs : List Int} {l : Int} (h : xs.getD (l / 2).toNat 0 = 0 ∨ xs.getD (l / 2).toNat 0 = 1) : bits .xor .i64 (xs.getD (l / 2).toNat 0) (l % 2) = bitL xs l := by unfold bitL; exact xor01 h
set_option maxHeartbeats 4000000 in
set_option maxRecDepth 100000 in
theorem implitValue_ans (xs : List Int) (l : Int) (v : Value) (w : World) (hv : RdsW w v 1 xs.length (xs.map (Value.int .i64))) (hl : 0 ≤ l ∧ l < 2 * xs.length) (h01 : xs.getD (l / 2).toNat 0 = 0 ∨ xs.getD (l / 2).toNat 0 = 1) (hlen : xs.length ≤ 100000) :
  Calls Try.prog 71 #[v, .int .i64 l] w (Ans w (.int .i64 (bitL xs l))) := by
 refine calls_hc (N := 13) (args := [v, .int .i64 l]) Try.func71 rfl rfl ?_
 refine hc_less _ (sx 0 rfl (sx 1 rfl (sub_nil _))) (.refl _) ?_
 refine hc_seq ?_
 refine hc_region ?_
 refine hl_v rfl rfl rfl (rv_ev rfl) ?_
 refine hl_less (sx 0 rfl (sx 1 rfl (sx 4 rfl (sub_nil _)))) (.refl _) ?_
 refine hl_nil ?_
 refine hq_then ?_
 refine hc_seq ?_
 refine hc_region ?_
 refine hl_v rfl rfl rfl (rv_ev rfl) ?_
 refine hl_v rfl rfl rfl (rv_ev rfl) ?_
 refine hl_v rfl rfl rfl (rv_quo rfl rfl rfl (by refine ⟨?_, ?_, ?_⟩ <;> omega)) ?_
 refine hl_v rfl rfl rfl (rv_index (s := 1) rfl Try.underlying26 (by kernel_rfl) rfl rfl (rd_old hv) (by omega) (by first | omega | (simp only [List.length_set]; omega))) ?_
 refine hl_v rfl rfl rfl (rv_loadEl (u := .int .i64 (xs.getD ((l / 2).toNat) 0)) rfl (by kernel_rfl) rfl (rd_old hv) (ints_at1 (show _ < xs.length by first | omega | (simp only [List.length_set]; omega)))) ?_
 refine hl_v rfl rfl rfl (rv_ev rfl) ?_
 refine hl_v rfl rfl rfl (rv_bits rfl (by decide) rfl rfl (r := l % 2) (Bit.and_one _ (by omega) (by omega))) ?_
 refine hl_v rfl rfl rfl (rv_bits rfl (by decide) rfl rfl (r := bitL xs l) (bitL_xor h01)) ?_
 refine hl_v rfl rfl rfl (rv_ev rfl) ?_
 refine hl_less (sx 0 rfl (sx 1 rfl (sx 4 rfl (sub_nil _)))) (.refl _) ?_
 refine hl_nil ?_
 refine hq_then ?_
 refine hc_ret ?_
 exact hq_ans rfl rfl rfl
set_option maxHeartbeats 4000000 in
set_option maxRecDepth 100000 in
theorem impLitValue_ans (xs : List Int) (l : Int) (v : Value) (w : World) (hv : RdsW w v 1 xs.length (xs.map (Value.int .i64))) (hl : 0 ≤ l ∧ l < 2 * xs.length) (h01 : xs.getD (l / 2).toNat 0 = 0 ∨ xs.getD (l / 2).toNat 0 = 1) (hlen : xs.length ≤ 100000) :
  Calls Try.prog 18 #[v, .int .i64 l] w (Ans w (.int .i64 (bitL xs l))) := by
 refine calls_hc (N := 26) (args := [v, .int .i64 l]) Try.func18 rfl rfl ?_
 refine hc_less _ (sx 0 rfl (sx 1 rfl (sub_nil _))) (.refl _) ?_
 refine hc_seq ?_
 refine hc_region ?_
 refine hl_v rfl rfl rfl (rv_ev rfl) ?_
 refine hl_less (sx 0 rfl (sx 1 rfl (sx 4 rfl (sub_nil _)))) (.refl _) ?_
 refine hl_nil ?_
 refine hq_then ?_
 refine hc_seq ?_
 refine hc_seq ?_
 refine hc_region ?_
 refine hl_v rfl rfl rfl (rv_ev rfl) ?_
 refine hl_lss rfl rfl rfl rfl rfl rfl (fun h1 => absurd h1 (by omega)) (fun h1 => ?_)
 refine hl_v rfl rfl rfl (rv_ev rfl) ?_
 refine hl_v rfl rfl rfl (rv_ev rfl) ?_
 refine hl_v rfl rfl rfl (rv_quo rfl rfl rfl (by refine ⟨?_, ?_, ?_⟩ <;> omega)) ?_
 refine hl_v rfl rfl rfl (rv_ev rfl) ?_
 refine hl_v rfl rfl rfl (rv_len rfl Try.underlying26 rfl (rd_old hv)) ?_
 refine hl_geq rfl rfl rfl rfl rfl rfl (fun h2 => absurd h2 (by omega)) (fun h2 => ?_)
 refine hl_v rfl rfl rfl (rv_ev rfl) ?_
 refine hl_v rfl rfl rfl (rv_ev rfl) ?_
 refine hl_v rfl rfl rfl (rv_ev rfl) ?_
 refine hl_v rfl rfl rfl (rv_ev rfl) ?_
 refine hl_v rfl rfl rfl (rv_quo rfl rfl rfl (by refine ⟨?_, ?_, ?_⟩ <;> omega)) ?_
 refine hl_v rfl rfl rfl (rv_index (s := 1) rfl Try.underlying26 (by kernel_rfl) rfl rfl (rd_old hv) (by omega) (by first | omega | (simp only [List.length_set]; omega))) ?_
 refine hl_v rfl rfl rfl (rv_loadEl (u := .int .i64 (xs.getD ((l / 2).toNat) 0)) rfl (by kernel_rfl) rfl (rd_old hv) (ints_at1 (show _ < xs.length by first | omega | (simp only [List.length_set]; omega)))) ?_
 refine hl_callV rfl rfl rfl (rq_call (by kernel_rfl) rfl (fun w hm => ret_ans (ans_of (inRange_any _ _ _ w)))) ?_
 refine hl_bool (fun h3 => ?_) (fun h3 => absurd ((((inR_iff _ _ _).2 (by omega))).symm.trans h3) (by decide))
 refine hl_v rfl rfl rfl (rv_ev rfl) ?_
 refine hl_v rfl rfl rfl (rv_ev rfl) ?_
 refine hl_less (sx 0 rfl (sx 1 rfl (sx 4 rfl (sx 22 rfl (sub_nil _))))) (.refl _) ?_
 refine hl_nil ?_
 refine hq_then ?_
 refine hc_false rfl ?_
 refine hc_skip ?_
 refine hq_then ?_
 refine hc_seq ?_
 refine hc_region ?_
 refine hl_v rfl rfl rfl (rv_ev rfl) ?_
 refine hl_v rfl rfl rfl (rv_ev rfl) ?_
 refine hl_callV rfl rfl rfl (rq_call (by kernel_rfl) rfl (fun w hm => ret_ans (implitValue_ans xs l _ w (hv.below hm.bel) hl h01 hlen))) ?_
 refine hl_v rfl rfl rfl (rv_ev rfl) ?_
 refine hl_less (sx 0 rfl (sx 1 rfl (sx 4 rfl (sx 22 rfl (sub_nil _))))) (.refl _) ?_
 refine hl_nil ?_
 refine hq_then ?_
 refine hc_ret ?_
 exact hq_ans rfl rfl rfl
set_option maxHeartbeats 4000000 in
set_option maxRecDepth 100000 in
theorem l08Net_mut (g : Nat) (a : Option Addr) (len cap : Nat) (z : List Int) (w0 : World) (l : List HP) (w : World) (hm0 : Mem w0 (curE g a len cap :: l) w) (hb : BRow .u8 w0 a len cap z) :
  Calls Try.prog 61 #[.pointer (some ⟨g, 0, none⟩)] w (fun e_ w_ => ∃ v_ p_, e_ = .returned v_ ∧ (fun u_ p_ => ∃ n : Nt, u_ = n.agg ∧ p_ = bigE [curE g a len cap, ntE n] ∧ (n.sv.oneCell' = true ∧ n.av.oneCell' = true ∧ n.ov.oneCell' = true) ∧ NtOk n ∧ n.ins ≤ 4 ∧ (n.ss.length : Int) ≤ 3 ∧ (n.gs.length : Int) ≤ 14) v_ p_ ∧ Mem w0 (p_ :: l) w_) := by
 refine calls_hcM (N := 5) (args := [.pointer (some ⟨g, 0, none⟩)]) Try.func61 rfl rfl hm0 ?_
 refine hc_less _ (sx 0 rfl (sub_nil _)) (.refl _) ?_
 refine hc_seq ?_
 refine hc_region ?_
 refine hl_box rfl rfl rfl (rq_alloc (z := .agg #[.int .i64 0, .slice none 0 0, .slice none 0 0, .slice none 0 0]) rfl (by kernel_rfl)) ?_
 intro b1
 refine hl_less (sx 0 rfl (sx 2 rfl (sub_nil _))) (.refl _) ?_
 refine hl_nil ?_
 refine hq_then ?_
 refine hc_seq ?_
 refine hc_region ?_
 refine hl_v rfl rfl rfl (rv_ev rfl) ?_
 refine hl_callM (R := (fun u_ p_ => ∃ n : Nt, u_ = n.agg ∧ p_ = bigE [curE g a len cap, ntE n] ∧ (n.sv.oneCell' = true ∧ n.av.oneCell' = true ∧ n.ov.oneCell' = true) ∧ NtOk n ∧ n.ins ≤ 4 ∧ (n.ss.length : Int) ≤ 3 ∧ (n.gs.length : Int) ≤ 14)) 1 rfl rfl (by kernel_rfl) rfl rfl (fun l' w hm => l08Sized_mut g a len cap z 4 3 14 _ _ _ hm hb (by decide) (by decide) (by decide)) ?_
 intro v2 p3 hR4
 obtain ⟨n, rfl, rfl, ⟨o1n, o2n, o3n⟩, hn, hnq1, hnq2, hnq3⟩ := hR4
 refine hl_eqL (l' := (boxE b1 #[.int .i64 0, .slice none 0 0, .slice none 0 0, .slice none 0 0] 28 :: bigE [curE g a len cap, ntE n] :: l)) rfl ?_
 refine hl_storeBoxN (i := 0) (off := 0) (us := [.int .i64 n.ins, n.sv, n.av, n.ov]) (l' := (boxE b1 #[.int .i64 n.ins, n.sv, n.av, n.ov] 28 :: bigE [curE g a len cap, ntE n] :: l)) rfl rfl rfl (by kernel_rfl) rfl rfl rfl (all_cons rfl (all_cons o1n (all_cons o2n (all_cons o3n all_nil)))) rfl rfl rfl ?_
 refine hl_less (sx 0 rfl (sx 2 rfl (sub_nil _))) (.refl _) ?_
 refine hl_nil ?_
 refine hq_then ?_
 refine hc_ret ?_
 exact hq_ret (rs := [.cell 2 28]) (vs := [.agg #[.int .i64 n.ins, n.sv, n.av, n.ov]]) rfl ⟨⟨b1, 0, [.int .i64 n.ins, n.sv, n.av, n.ov], rfl, rfl, by kernel_rfl, by kernel_rfl, box_part 0 rfl 0 rfl⟩, trivial⟩ rfl (fun w hm => ⟨_, bigE [curE g a len cap, ntE n], rfl, ⟨n, rfl, rfl, ⟨o1n, o2n, o3n⟩, hn, hnq1, hnq2, hnq3⟩, hm.sub ((.cons _ (.cons_cons _ (.refl _))))⟩)
set_option maxHeartbeats 4000000 in
set_option maxRecDepth 100000 in
theorem DrawNet_ret (a : Option Addr) (len cap : Nat) (z : List Int) (w : World) (hb : BRow .u8 w a len cap z) (hlen : len ≤ 1048576) :
  Calls Try.prog 19 #[.slice a len cap] w (Ret w (fun v' post => ∃ n : Nt, v' = n.agg ∧ post = [ntE n] ∧ (n.sv.oneCell' = true ∧ n.av.oneCell' = true ∧ n.ov.oneCell' = true) ∧ NtOk n ∧ n.ins ≤ 4 ∧ (n.ss.length : Int) ≤ 3 ∧ (n.gs.length : Int) ≤ 14)) := by
 refine calls_hc (N := 6) (args := [.slice a len cap]) Try.func19 rfl rfl ?_
 refine hc_less _ (sx 0 rfl (sub_nil _)) (.refl _) ?_
 refine hc_seq ?_
 refine hc_region ?_
 refine hl_box rfl rfl rfl (rq_alloc (z := .agg #[.int .i64 0, .slice none 0 0, .slice none 0 0, .slice none 0 0]) rfl (by kernel_rfl)) ?_
 intro b1
 refine hl_less (sx 0 rfl (sx 2 rfl (sub_nil _))) (.refl _) ?_
 refine hl_nil ?_
 refine hq_then ?_
 refine hc_seq ?_
 refine hc_region ?_
 refine hl_v rfl rfl rfl (rv_ev rfl) ?_
 refine hl_q rfl rfl rfl (rq_call (by kernel_rfl) rfl (fun w hm => new_ret (hb.below hm.bel) hlen)) ?_
 intro v2 p3 hR4
 obtain ⟨ghR4, rfl, rfl⟩ := hR4
 refine hl_callM (R := (fun u_ p_ => ∃ n : Nt, u_ = n.agg ∧ p_ = bigE [curE ghR4 a len cap, ntE n] ∧ (n.sv.oneCell' = true ∧ n.av.oneCell' = true ∧ n.ov.oneCell' = true) ∧ NtOk n ∧ n.ins ≤ 4 ∧ (n.ss.length : Int) ≤ 3 ∧ (n.gs.length : Int) ≤ 14)) 0 rfl rfl (by kernel_rfl) rfl rfl (fun l' w hm => l08Net_mut ghR4 a len cap z _ _ _ hm hb) ?_
 intro v5 p6 hR7
 obtain ⟨n, rfl, rfl, ⟨o1n, o2n, o3n⟩, hn, hnq1, hnq2, hnq3⟩ := hR7
 refine hl_eqL (l' := [bigE [curE ghR4 a len cap, ntE n], boxE b1 #[.int .i64 0, .slice none 0 0, .slice none 0 0, .slice none 0 0] 28]) rfl ?_
 refine hl_storeBoxN (i := 1) (off := 0) (us := [.int .i64 n.ins, n.sv, n.av, n.ov]) (l' := [bigE [curE ghR4 a len cap, ntE n], boxE b1 #[.int .i64 n.ins, n.sv, n.av, n.ov] 28]) rfl rfl rfl (by kernel_rfl) rfl rfl rfl (all_cons rfl (all_cons o1n (all_cons o2n (all_cons o3n all_nil)))) rfl rfl rfl ?_
 refine hl_less (sx 0 rfl (sx 2 rfl (sub_nil _))) (.refl _) ?_
 refine hl_nil ?_
 refine hq_then ?_
 refine hc_ret ?_
 refine hq_conv [bigE [curE ghR4 a len cap, ntE n], boxE b1 #[.int .i64 n.ins, n.sv, n.av, n.ov] 28] (conv_pick (src := [bigE [curE ghR4 a len cap, ntE n], boxE b1 #[.int .i64 n.ins, n.sv, n.av, n.ov] 28]) (dst := [bigE [curE ghR4 a len cap, ntE n], boxE b1 #[.int .i64 n.ins, n.sv, n.av, n.ov] 28]) (l := []) [0, 1] (by decide) rfl) ?_
 refine hq_conv [curE ghR4 a len cap, ntE n, boxE b1 #[.int .i64 n.ins, n.sv, n.av, n.ov] 28] conv_unbig ?_
 exact hq_retM (rs := [.cell 2 28]) (vs := [.agg #[.int .i64 n.ins, n.sv, n.av, n.ov]]) (post := [ntE n]) rfl ⟨⟨b1, 0, [.int .i64 n.ins, n.sv, n.av, n.ov], rfl, rfl, by kernel_rfl, by kernel_rfl, box_part 2 rfl 0 rfl⟩, trivial⟩ rfl ((.cons _ (.cons_cons _ (.cons _ .slnil)))) ⟨n, rfl, rfl, ⟨o1n, o2n, o3n⟩, hn, hnq1, hnq2, hnq3⟩
set_option maxHeartbeats 4000000 in
set_option maxRecDepth 100000 in
theorem seqMost_ans (kd : Int) (w : World) (h : kd = 0 ∨ kd = 1) :
  Calls Try.prog 128 #[.int .i64 kd] w (Ans w (.int .i64 (if kd = 0 then 1 else 31))) := by
 refine calls_hc (N := 8) (args := [.int .i64 kd]) Try.func128 rfl rfl ?_
 refine hc_less _ (sx 0 rfl (sub_nil _)) (.refl _) ?_
 refine hc_seq ?_
 refine hc_region ?_
 refine hl_v rfl rfl rfl (rv_ev rfl) ?_
 refine hl_less (sx 0 rfl (sx 2 rfl (sub_nil _))) (.refl _) ?_
 refine hl_nil ?_
 refine hq_then ?_
 refine hc_seq ?_
 refine hc_seq ?_
 refine hc_region ?_
 refine hl_v rfl rfl rfl (rv_ev rfl) ?_
 refine hl_less (sx 0 rfl (sx 2 rfl (sx 3 rfl (sub_nil _)))) (.refl _) ?_
 refine hl_nil ?_
 refine hq_then ?_
 refine hc_block ?_
 refine hc_seq ?_
 refine hc_region ?_
 refine hl_eql rfl rfl rfl rfl rfl rfl (fun h1 => ?_) (fun h1 => ?_)
 ·
  refine hl_v rfl rfl rfl (rv_ev rfl) ?_
  refine hl_less (sx 0 rfl (sx 2 rfl (sx 3 rfl (sx 4 rfl (sub_nil _))))) (.refl _) ?_
  refine hl_nil ?_
  refine hq_then ?_
  refine hc_true rfl ?_
  refine hc_seq ?_
  refine hc_region ?_
  refine hl_v rfl rfl rfl (rv_ev rfl) ?_
  refine hl_less (sx 0 rfl (sx 2 rfl (sx 3 rfl (sx 4 rfl (sub_nil _))))) (.refl _) ?_
  refine hl_nil ?_
  refine hq_then ?_
  refine hc_ret ?_
  refine hq_block_ret ?_
  refine hq_then_ret ?_
  exact hq_ans rfl rfl (by rw [if_pos (by omega)])
 ·
  refine hl_v rfl rfl rfl (rv_ev rfl) ?_
  refine hl_less (sx 0 rfl (sx 2 rfl (sx 3 rfl (sx 4 rfl (sub_nil _))))) (.refl _) ?_
  refine hl_nil ?_
  refine hq_then ?_
  refine hc_false rfl ?_
  refine hc_seq ?_
  refine hc_region ?_
  refine hl_eql rfl rfl rfl rfl rfl rfl (fun h2 => ?_) (fun h2 => ?_)
  ·
   refine hl_v rfl rfl rfl (rv_ev rfl) ?_
   refine hl_less (sx 0 rfl (sx 2 rfl (sx 3 rfl (sx 4 rfl (sx 6 rfl (sub_nil _)))))) (.refl _) ?_
   refine hl_nil ?_
   refine hq_then ?_
   refine hc_true rfl ?_
   refine hc_seq ?_
   refine hc_region ?_
   refine hl_v rfl rfl rfl (rv_ev rfl) ?_
   refine hl_less (sx 0 rfl (sx 2 rfl (sx 3 rfl (sx 4 rfl (sx 6 rfl (sub_nil _)))))) (.refl _) ?_
   refine hl_nil ?_
   refine hq_then ?_
   refine hc_ret ?_
   refine hq_block_ret ?_
   refine hq_then_ret ?_
   exact hq_ans rfl rfl (by rw [if_neg (by omega)])
  ·
   refine hl_v rfl rfl rfl (rv_ev rfl) ?_
   refine hl_less (sx 0 rfl (sx 2 rfl (sx 3 rfl (sx 4 rfl (sx 6 rfl (sub_nil _)))))) (.refl _) ?_
   refine hl_nil ?_
   refine hq_then ?_
   refine hc_false rfl ?_
   refine hc_skip ?_
   refine hq_block_normal ?_
   refine hq_then ?_
   refine hc_seq ?_
   refine hc_region ?_
   refine hl_v rfl rfl rfl (rv_ev rfl) ?_
   refine hl_less (sx 0 rfl (sx 2 rfl (sx 3 rfl (sx 4 rfl (sx 6 rfl (sub_nil _)))))) (.refl _) ?_
   refine hl_nil ?_
   refine hq_then ?_
   refine hc_ret ?_
   exfalso
   omega
set_option maxHeartbeats 4000000 in
set_option maxRecDepth 100000 in
theorem implStateOk_yes (n : Nt) (st : List Int) (v : Value) (w : World) (hr : RdsNt w n) (hn : NtOk n) (hst : RdsW w v 1 st.length (st.map (Value.int .i64))) (hso : StOk n st) :
  Calls Try.prog 81 #[.agg #[.int .i64 n.ins, n.sv, n.av, n.ov], v] w (Ans w (.bool true)) := by
 have hi0 := hn.i0
 have hi1 := hn.i1
 have hs1 := hn.s1
 have ha1 := hn.a1
 have ho1 := hn.o1
 have hcnt : n.cnt = 1 + n.ins + n.ss.length + n.gs.length := rfl
 have hfst : n.fst = 1 + n.ins + n.ss.length := rfl
 have hsl := hso.len
 refine calls_hc (N := 36) (args := [.agg #[.int .i64 n.ins, n.sv, n.av, n.ov], v]) Try.func81 rfl rfl ?_
 refine hc_less _ (sx 0 rfl (sx 1 rfl (sub_nil _))) (.refl _) ?_
 refine hc_seq ?_
 refine hc_region ?_
 refine hl_box rfl rfl rfl (rq_box rfl rfl) ?_
 intro b1
 refine hl_v rfl rfl rfl (rv_ev rfl) ?_
 refine hl_less (sx 0 rfl (sx 1 rfl (sx 2 rfl (sx 4 rfl (sub_nil _))))) (.refl _) ?_
 refine hl_nil ?_
 refine hq_then ?_
 refine hc_seq ?_
 refine hc_seq ?_
 refine hc_region ?_
 refine hl_v rfl rfl rfl (rv_loadN (cs := [.int .i64 n.ins, n.sv, n.av, n.ov]) rfl (by kernel_rfl) (by kernel_rfl) rfl rfl (box_part 0 rfl 0 rfl)) ?_
 refine hl_callV rfl rfl rfl (rq_call (by kernel_rfl) rfl (fun w hm => ret_ans (implNetOk_yes n w (hr.below hm.bel) hn))) ?_
 refine hl_v rfl rfl rfl (rv_ev rfl) ?_
 refine hl_v rfl rfl rfl (rv_ev rfl) ?_
 refine hl_v rfl rfl rfl (rv_ev rfl) ?_
 refine hl_v rfl rfl rfl (rv_len rfl Try.underlying26 rfl (rd_old hst)) ?_
 refine hl_v rfl rfl rfl (rv_field (k0 := 1) rfl (by kernel_rfl) rfl) ?_
 refine hl_v rfl rfl rfl (rv_load rfl (by kernel_rfl) rfl (box_cell 0 rfl rfl)) ?_
 refine hl_v rfl rfl rfl (rv_len rfl Try.underlying24 rfl (rd_old hr.sq)) ?_
 refine hl_neq rfl rfl rfl rfl rfl rfl (fun h2 => absurd h2 (by omega)) (fun h2 => ?_)
 refine hl_v rfl rfl rfl (rv_ev rfl) ?_
 refine hl_less (sx 0 rfl (sx 1 rfl (sx 2 rfl (sx 4 rfl (sx 17 rfl (sub_nil _)))))) (.refl _) ?_
 refine hl_nil ?_
 refine hq_then ?_
 refine hc_false rfl ?_
 refine hc_skip ?_
 refine hq_then ?_
 refine hc_seq ?_
 refine hc_seq ?_
 refine hc_region ?_
 refine hl_v rfl rfl rfl (rv_ev rfl) ?_
 refine hl_v rfl rfl rfl (rv_len rfl Try.underlying26 rfl (rd_old hst)) ?_
 refine hl_v rfl rfl rfl (rv_ev rfl) ?_
 refine hl_less (sx 0 rfl (sx 1 rfl (sx 2 rfl (sx 4 rfl (sx 17 rfl (sx 18 rfl (sx 19 rfl (sx 20 rfl (sub_nil _))))))))) (.refl _) ?_
 refine hl_nil ?_
 refine hq_then ?_
 refine hc_block ?_
 refine hc_loop1 (α := Nat) (fun k => [boxE b1 #[.int .i64 n.ins, n.sv, n.av, n.ov] 28]) (fun k => [(0, .agg #[.int .i64 n.ins, n.sv, n.av, n.ov]), (1, v), (2, .pointer (some ⟨b1, 0, none⟩)), (4, .bool false), (17, .bool false), (18, v), (19, .int .i64 (st.length : Int)), (20, .int .i64 (k : Int))]) (fun k => k ≤ st.length) (fun k => st.length - k) 0 (Nat.zero_le _) (sx 0 rfl (sx 1 rfl (sx 2 rfl (sx 4 rfl (sx 17 rfl (sx 18 rfl (sx 19 rfl (sx 20 rfl (sub_nil _))))))))) ((.cons_cons _ .slnil)) ?_
 intro k hi3
 have hk := hi3
 refine hc_seq ?_
 refine hc_region ?_
 refine hl_lss rfl rfl rfl rfl rfl rfl (fun h4 => ?_) (fun h4 => ?_)
 ·
  refine hl_less (sx 0 rfl (sx 1 rfl (sx 2 rfl (sx 4 rfl (sx 17 rfl (sx 18 rfl (sx 19 rfl (sx 20 rfl (sx 21 rfl (sub_nil _)))))))))) (.refl _) ?_
  refine hl_nil ?_
  refine hq_then ?_
  refine hc_seq ?_
  refine hc_true rfl ?_
  refine hc_skip ?_
  refine hq_then ?_
  refine hc_seq ?_
  refine hc_block ?_
  refine hc_seq ?_
  refine hc_region ?_
  refine hl_v rfl rfl rfl (rv_ev rfl) ?_
  refine hl_v rfl rfl rfl (rv_index (s := 1) rfl Try.underlying26 (by kernel_rfl) rfl rfl (rd_old hst) (by omega) (by first | omega | (simp only [List.length_set]; omega))) ?_
  refine hl_v rfl rfl rfl (rv_loadEl (u := .int .i64 (st.getD k 0)) rfl (by kernel_rfl) rfl (rd_old hst) (ints_at1 (show _ < st.length by first | omega | (simp only [List.length_set]; omega)))) ?_
  refine hl_v rfl rfl rfl (rv_ev rfl) ?_
  refine hl_v rfl rfl rfl (rv_ev rfl) ?_
  refine hl_less (sx 0 rfl (sx 1 rfl (sx 2 rfl (sx 4 rfl (sx 5 rfl (sx 6 rfl (sx 17 rfl (sx 18 rfl (sx 19 rfl (sx 20 rfl (sx 21 rfl (sub_nil _)))))))))))) (.refl _) ?_
  refine hl_nil ?_
  refine hq_then ?_
  refine hc_seq ?_
  refine hc_region ?_
  have hqk := (hn.sq _ (getD_memX (d := sq0) (show k < n.ss.length by omega))).kind
  have hsk := hso.rng k (by omega)
  refine hl_v rfl rfl rfl (rv_ev rfl) ?_
  refine hl_v rfl rfl rfl (rv_field (k0 := 1) rfl (by kernel_rfl) rfl) ?_
  refine hl_v rfl rfl rfl (rv_load rfl (by kernel_rfl) rfl (box_cell 0 rfl rfl)) ?_
  refine hl_v rfl rfl rfl (rv_ev rfl) ?_
  refine hl_v rfl rfl rfl (rv_index (s := 3) rfl Try.underlying24 (by kernel_rfl) rfl rfl (rd_old hr.sq) (by omega) (by first | omega | (simp only [List.length_set]; omega))) ?_
  refine hl_v rfl rfl rfl (rv_fieldEl (k0 := 0) rfl (by kernel_rfl) rfl (rd_old hr.sq) (by first | omega | (simp only [List.length_set]; omega))) ?_
  refine hl_v rfl rfl rfl (rv_loadEl (u := .int .i64 ((n.ss.getD k sq0).kd)) rfl (by kernel_rfl) rfl (rd_old hr.sq) ((flat_at sqC 3 (fun _ => rfl) n.ss sq0 (show k < _ by first | omega | (simp only [List.length_set]; omega)) (by decide)).trans rfl)) ?_
  refine hl_callV rfl rfl rfl (rq_call (by kernel_rfl) rfl (fun w hm => ret_ans (seqMost_ans ((n.ss.getD k sq0).kd) w (by omega)))) ?_
  refine hl_callV rfl rfl rfl (rq_call (by kernel_rfl) rfl (fun w hm => ret_ans (ans_of (inRange_any _ _ _ w)))) ?_
  refine hl_bool (fun h5 => ?_) (fun h5 => absurd ((((inR_iff _ _ _).2 ⟨by omega, by split <;> omega⟩)).symm.trans h5) (by decide))
  refine hl_v rfl rfl rfl (rv_ev rfl) ?_
  refine hl_less (sx 0 rfl (sx 1 rfl (sx 2 rfl (sx 4 rfl (sx 5 rfl (sx 6 rfl (sx 17 rfl (sx 18 rfl (sx 19 rfl (sx 20 rfl (sx 21 rfl (sx 34 rfl (sub_nil _))))))))))))) (.refl _) ?_
  refine hl_nil ?_
  refine hq_then ?_
  refine hc_false rfl ?_
  refine hc_skip ?_
  refine hq_block_normal ?_
  refine hq_then ?_
  refine hc_region ?_
  refine hl_v rfl rfl rfl (rv_add rfl rfl rfl (by constructor <;> omega)) ?_
  refine hl_v rfl rfl rfl (rv_ev rfl) ?_
  refine hl_less (sx 0 rfl (sx 1 rfl (sx 2 rfl (sx 4 rfl (sx 5 rfl (sx 6 rfl (sx 17 rfl (sx 18 rfl (sx 19 rfl (sx 20 rfl (sx 21 rfl (sx 34 rfl (sub_nil _))))))))))))) (.refl _) ?_
  refine hl_nil ?_
  exact hq_round1 (k + 1) (by omega) (by omega) (sx 0 rfl (sx 1 rfl (sx 2 rfl (sx 4 rfl (sx 17 rfl (sx 18 rfl (sx 19 rfl (sx 20 rfl (sub_nil _))))))))) ((.cons_cons _ .slnil))
 ·
  refine hl_less (sx 0 rfl (sx 1 rfl (sx 2 rfl (sx 4 rfl (sx 17 rfl (sx 18 rfl (sx 19 rfl (sx 20 rfl (sx 21 rfl (sub_nil _)))))))))) (.refl _) ?_
  refine hl_nil ?_
  refine hq_then ?_
  refine hc_seq ?_
  refine hc_false rfl ?_
  refine hc_exit ?_
  refine hq_then_exit ?_
  refine hq_then_exit ?_
  refine hq_block_exit ?_
  refine hq_then ?_
  refine hc_seq ?_
  refine hc_region ?_
  refine hl_v rfl rfl rfl (rv_ev rfl) ?_
  refine hl_less (sx 0 rfl (sx 1 rfl (sx 2 rfl (sx 4 rfl (sx 17 rfl (sx 18 rfl (sx 19 rfl (sx 20 rfl (sx 21 rfl (sub_nil _)))))))))) (.refl _) ?_
  refine hl_nil ?_
  refine hq_then ?_
  refine hc_ret ?_
  exact hq_ans rfl rfl rfl
set_option maxHeartbeats 4000000 in
set_option maxRecDepth 100000 in
theorem implnodeValues_ret (n : Nt) (st : List Int) (v : Value) (inp : Int) (w : World) (hr : RdsNt w n) (hn : NtOk n) (hst : RdsW w v 1 st.length (st.map (Value.int .i64))) (hso : StOk n st) (hin : 0 ≤ inp ∧ inp ≤ 4294967295) :
  Calls Try.prog 82 #[.agg #[.int .i64 n.ins, n.sv, n.av, n.ov], v, .int .i64 inp] w (Ret w (fun v' post => post = [rowE 3 1 v' (valsL n st inp).length ((valsL n st inp).map (Value.int .i64))])) := by
 have hi0 := hn.i0
 have hi1 := hn.i1
 have hs1 := hn.s1
 have ha1 := hn.a1
 have ho1 := hn.o1
 have hcnt : n.cnt = 1 + n.ins + n.ss.length + n.gs.length := rfl
 have hfst : n.fst = 1 + n.ins + n.ss.length := rfl
 have hsl := hso.len
 refine calls_hc (N := 72) (args := [.agg #[.int .i64 n.ins, n.sv, n.av, n.ov], v, .int .i64 inp]) Try.func82 rfl rfl ?_
 refine hc_less _ (sx 0 rfl (sx 1 rfl (sx 2 rfl (sub_nil _)))) (.refl _) ?_
 refine hc_seq ?_
 refine hc_region ?_
 refine hl_box rfl rfl rfl (rq_box rfl rfl) ?_
 intro b1
 refine hl_v rfl rfl rfl (rv_ev rfl) ?_
 refine hl_less (sx 0 rfl (sx 1 rfl (sx 2 rfl (sx 3 rfl (sx 6 rfl (sub_nil _)))))) (.refl _) ?_
 refine hl_nil ?_
 refine hq_then ?_
 refine hc_seq ?_
 refine hc_region ?_
 refine hl_v rfl rfl rfl (rv_loadN (cs := [.int .i64 n.ins, n.sv, n.av, n.ov]) rfl (by kernel_rfl) (by kernel_rfl) rfl rfl (box_part 0 rfl 0 rfl)) ?_
 refine hl_callV rfl rfl rfl (rq_call (by kernel_rfl) rfl (fun w hm => ret_ans (implnodeCount_yes n w (hr.below hm.bel) hn))) ?_
 refine hl_row rfl rfl rfl (rq_make (z := .int .i64 0) (s := 1) (bytes := 8) (n := (List.replicate (n.cnt).toNat (0 : Int)).length) (cs := ((List.replicate (n.cnt).toNat (0 : Int)).map (Value.int .i64))) rfl Try.underlying26 (by kernel_rfl) (by decide) rfl rfl (by first | (rw [List.length_replicate]; done) | (rw [List.length_replicate]; omega)) (by first | (rw [List.length_replicate]; done) | (rw [List.length_replicate]; omega)) (by rw [List.length_replicate]; omega) (ints_make _)) ?_
 intro g2
 refine hl_v rfl rfl rfl (rv_ev rfl) ?_
 refine hl_less (sx 0 rfl (sx 1 rfl (sx 2 rfl (sx 3 rfl (sx 6 rfl (sx 7 rfl (sub_nil _))))))) (.refl _) ?_
 refine hl_nil ?_
 refine hq_then ?_
 refine hc_seq ?_
 refine hc_seq ?_
 refine hc_region ?_
 refine hl_v rfl rfl rfl (rv_ev rfl) ?_
 refine hl_less (sx 0 rfl (sx 1 rfl (sx 2 rfl (sx 3 rfl (sx 6 rfl (sx 7 rfl (sx 8 rfl (sub_nil _)))))))) (.refl _) ?_
 refine hl_nil ?_
 refine hq_then ?_
 refine hc_block ?_
 refine hc_loop2 (α := Nat) (β := List Int) (fun k zs => [rowE 3 1 (.slice (some ⟨g2, 0, none⟩) ((List.replicate (n.cnt).toNat (0 : Int)).length) ((List.replicate (n.cnt).toNat (0 : Int)).length)) zs.length (zs.map (Value.int .i64)), boxE b1 #[.int .i64 n.ins, n.sv, n.av, n.ov] 28]) (fun k zs => [(0, .agg #[.int .i64 n.ins, n.sv, n.av, n.ov]), (1, v), (2, .int .i64 inp), (3, .pointer (some ⟨b1, 0, none⟩)), (6, .slice none 0 0), (7, .slice (some ⟨g2, 0, none⟩) ((List.replicate (n.cnt).toNat (0 : Int)).length) ((List.replicate (n.cnt).toNat (0 : Int)).length)), (8, .int .i64 (k : Int))]) (fun k zs => (k : Int) ≤ n.ins ∧ zs = fillZ n.cnt.toNat (preA n inp k)) (fun k zs => (n.ins).toNat - k) 0 (List.replicate n.cnt.toNat (0 : Int)) ⟨by omega, fill_one (by omega)⟩ (sx 0 rfl (sx 1 rfl (sx 2 rfl (sx 3 rfl (sx 6 rfl (sx 7 rfl (sx 8 rfl (sub_nil _)))))))) ((.cons_cons _ (.cons_cons _ .slnil))) ?_
 intro k zs hi3
 obtain ⟨hk, hz⟩ := hi3
 have hzl : zs.length = n.cnt.toNat := by rw [hz]; exact fill_len (by rw [preA_len]; omega)
 refine hc_seq ?_
 refine hc_seq ?_
 refine hc_region ?_
 refine hl_v rfl rfl rfl (rv_ev rfl) ?_
 refine hl_v rfl rfl rfl (rv_field (k0 := 0) rfl (by kernel_rfl) rfl) ?_
 refine hl_v rfl rfl rfl (rv_load rfl (by kernel_rfl) rfl (box_cell 1 rfl rfl)) ?_
 refine hl_lss rfl rfl rfl rfl rfl rfl (fun h4 => ?_) (fun h4 => ?_)
 ·
  refine hl_less (sx 0 rfl (sx 1 rfl (sx 2 rfl (sx 3 rfl (sx 6 rfl (sx 7 rfl (sx 8 rfl (sx 19 rfl (sub_nil _))))))))) (.refl _) ?_
  refine hl_nil ?_
  refine hq_then ?_
  refine hc_true rfl ?_
  refine hc_skip ?_
  refine hq_then ?_
  refine hc_seq ?_
  refine hc_block ?_
  refine hc_region ?_
  refine hl_v rfl rfl rfl (rv_ev rfl) ?_
  refine hl_v rfl rfl rfl (rv_ev rfl) ?_
  refine hl_v rfl rfl rfl (rv_add rfl rfl rfl (by constructor <;> omega)) ?_
  refine hl_v rfl rfl rfl (rv_ev rfl) ?_
  refine hl_v rfl rfl rfl (rv_ev rfl) ?_
  refine hl_v rfl rfl rfl (rv_conv rfl Try.underlying3 Try.underlying98 rfl (IntWalk.u64_in _ (by omega))) ?_
  refine hl_v rfl rfl rfl (rv_shr rfl rfl rfl (by omega)) ?_
  refine hl_v rfl rfl rfl (rv_bits rfl (by decide) rfl rfl (r := inp / 2 ^ k % 2) (by rw [show (inp / 2 ^ ((k : Int)).toNat : Int) = inp / 2 ^ k by rw [Int.toNat_natCast]]; exact Bit.and_one _ (shr_rng hin k).1 (shr_rng hin k).2)) ?_
  refine hl_v rfl rfl rfl (rv_index (s := 1) rfl Try.underlying26 (by kernel_rfl) rfl rfl (rd_row 0 rfl) (by omega) (by first | omega | (simp only [List.length_set]; omega))) ?_
  refine hl_storeEl (i := 0) (n' := (zs.set ((1 + (k : Int)).toNat) (inp / 2 ^ k % 2)).length) (xs' := ((zs.set ((1 + (k : Int)).toNat) (inp / 2 ^ k % 2)).map (Value.int .i64))) (l' := [rowE 3 1 (.slice (some ⟨g2, 0, none⟩) ((List.replicate (n.cnt).toNat (0 : Int)).length) ((List.replicate (n.cnt).toNat (0 : Int)).length)) ((zs.set ((1 + (k : Int)).toNat) (inp / 2 ^ k % 2)).length) ((zs.set ((1 + (k : Int)).toNat) (inp / 2 ^ k % 2)).map (Value.int .i64)), boxE b1 #[.int .i64 n.ins, n.sv, n.av, n.ov] 28]) rfl rfl rfl (by kernel_rfl) rfl rfl rfl rfl (by first | omega | (simp only [List.length_set]; omega)) List.length_set.symm (ints_set _ _ _) rfl ?_
  refine hl_less (sx 0 rfl (sx 1 rfl (sx 2 rfl (sx 3 rfl (sx 6 rfl (sx 7 rfl (sx 8 rfl (sx 19 rfl (sub_nil _))))))))) (.refl _) ?_
  refine hl_nil ?_
  refine hq_block_normal ?_
  refine hq_then ?_
  refine hc_region ?_
  refine hl_v rfl rfl rfl (rv_ev rfl) ?_
  refine hl_v rfl rfl rfl (rv_add rfl rfl rfl (by constructor <;> omega)) ?_
  refine hl_v rfl rfl rfl (rv_ev rfl) ?_
  refine hl_less (sx 0 rfl (sx 1 rfl (sx 2 rfl (sx 3 rfl (sx 6 rfl (sx 7 rfl (sx 8 rfl (sx 19 rfl (sub_nil _))))))))) (.refl _) ?_
  refine hl_nil ?_
  exact hq_round2 (k + 1) (zs.set ((1 + (k : Int)).toNat) (inp / 2 ^ k % 2)) ⟨by omega, by rw [hz]; exact (fill_set (by rw [preA_len]; omega) (by rw [preA_len]; omega)).trans (by rw [preA_step])⟩ (by omega) (sx 0 rfl (sx 1 rfl (sx 2 rfl (sx 3 rfl (sx 6 rfl (sx 7 rfl (sx 8 rfl (sub_nil _)))))))) ((.cons_cons _ (.cons_cons _ .slnil)))
 ·
  refine hl_less (sx 0 rfl (sx 1 rfl (sx 2 rfl (sx 3 rfl (sx 6 rfl (sx 7 rfl (sx 8 rfl (sx 19 rfl (sub_nil _))))))))) (.refl _) ?_
  refine hl_nil ?_
  refine hq_then ?_
  refine hc_false rfl ?_
  refine hc_exit ?_
  refine hq_then_exit ?_
  refine hq_then_exit ?_
  refine hq_block_exit ?_
  refine hq_then ?_
  refine hc_seq ?_
  refine hc_seq ?_
  refine hc_region ?_
  refine hl_v rfl rfl rfl (rv_ev rfl) ?_
  refine hl_v rfl rfl rfl (rv_len rfl Try.underlying26 rfl (rd_old hst)) ?_
  refine hl_v rfl rfl rfl (rv_ev rfl) ?_
  refine hl_less (sx 0 rfl (sx 1 rfl (sx 2 rfl (sx 3 rfl (sx 6 rfl (sx 7 rfl (sx 8 rfl (sx 19 rfl (sx 31 rfl (sx 32 rfl (sx 33 rfl (sub_nil _)))))))))))) (.refl _) ?_
  refine hl_nil ?_
  refine hq_then ?_
  refine hc_block ?_
  refine hc_loop2 (α := Nat) (β := List Int) (fun k zs => [rowE 3 1 (.slice (some ⟨g2, 0, none⟩) ((List.replicate (n.cnt).toNat (0 : Int)).length) ((List.replicate (n.cnt).toNat (0 : Int)).length)) zs.length (zs.map (Value.int .i64)), boxE b1 #[.int .i64 n.ins, n.sv, n.av, n.ov] 28]) (fun k zs => [(0, .agg #[.int .i64 n.ins, n.sv, n.av, n.ov]), (1, v), (2, .int .i64 inp), (3, .pointer (some ⟨b1, 0, none⟩)), (6, .slice none 0 0), (7, .slice (some ⟨g2, 0, none⟩) ((List.replicate (n.cnt).toNat (0 : Int)).length) ((List.replicate (n.cnt).toNat (0 : Int)).length)), (19, .bool false), (31, v), (32, .int .i64 (st.length : Int)), (33, .int .i64 (k : Int))]) (fun k zs => (k : Int) ≤ (st.length : Int) ∧ zs = fillZ n.cnt.toNat (preB n st inp k)) (fun k zs => ((st.length : Int)).toNat - k) 0 zs ⟨by omega, by rw [hz, show k = n.ins.toNat by omega, preB_zero n st inp]⟩ (sx 0 rfl (sx 1 rfl (sx 2 rfl (sx 3 rfl (sx 6 rfl (sx 7 rfl (sx 19 rfl (sx 31 rfl (sx 32 rfl (sx 33 rfl (sub_nil _))))))))))) ((.cons_cons _ (.cons_cons _ .slnil))) ?_
  intro k zs hi5
  obtain ⟨hk, hz⟩ := hi5
  have hzl : zs.length = n.cnt.toNat := by rw [hz]; exact fill_len (by rw [preB_len n st inp (by omega)]; omega)
  refine hc_seq ?_
  refine hc_region ?_
  refine hl_lss rfl rfl rfl rfl rfl rfl (fun h6 => ?_) (fun h6 => ?_)
  ·
   refine hl_less (sx 0 rfl (sx 1 rfl (sx 2 rfl (sx 3 rfl (sx 6 rfl (sx 7 rfl (sx 19 rfl (sx 31 rfl (sx 32 rfl (sx 33 rfl (sx 34 rfl (sub_nil _)))))))))))) (.refl _) ?_
   refine hl_nil ?_
   refine hq_then ?_
   refine hc_seq ?_
   refine hc_true rfl ?_
   refine hc_skip ?_
   refine hq_then ?_
   refine hc_seq ?_
   refine hc_block ?_
   refine hc_seq ?_
   refine hc_region ?_
   refine hl_v rfl rfl rfl (rv_ev rfl) ?_
   refine hl_v rfl rfl rfl (rv_index (s := 1) rfl Try.underlying26 (by kernel_rfl) rfl rfl (rd_old hst) (by omega) (by first | omega | (simp only [List.length_set]; omega))) ?_
   refine hl_v rfl rfl rfl (rv_loadEl (u := .int .i64 (st.getD k 0)) rfl (by kernel_rfl) rfl (rd_old hst) (ints_at1 (show _ < st.length by first | omega | (simp only [List.length_set]; omega)))) ?_
   refine hl_v rfl rfl rfl (rv_ev rfl) ?_
   refine hl_v rfl rfl rfl (rv_ev rfl) ?_
   refine hl_less (sx 0 rfl (sx 1 rfl (sx 2 rfl (sx 3 rfl (sx 6 rfl (sx 7 rfl (sx 9 rfl (sx 10 rfl (sx 19 rfl (sx 31 rfl (sx 32 rfl (sx 33 rfl (sx 34 rfl (sub_nil _)))))))))))))) (.refl _) ?_
   refine hl_nil ?_
   refine hq_then ?_
   refine hc_region ?_
   have hsk := hso.rng k (by omega)
   refine hl_v rfl rfl rfl (rv_ev rfl) ?_
   refine hl_v rfl rfl rfl (rv_loadN (cs := [.int .i64 n.ins, n.sv, n.av, n.ov]) rfl (by kernel_rfl) (by kernel_rfl) rfl rfl (box_part 1 rfl 0 rfl)) ?_
   refine hl_callV rfl rfl rfl (rq_call (by kernel_rfl) rfl (fun w hm => ret_ans (firstSeq_yes n w (hr.below hm.bel) hn))) ?_
   refine hl_v rfl rfl rfl (rv_ev rfl) ?_
   refine hl_v rfl rfl rfl (rv_add rfl rfl rfl (by constructor <;> omega)) ?_
   refine hl_v rfl rfl rfl (rv_ev rfl) ?_
   refine hl_v rfl rfl rfl (rv_bits rfl (by decide) rfl rfl (r := (st.getD k 0) % 2) (Bit.and_one _ (by omega) (by omega))) ?_
   refine hl_v rfl rfl rfl (rv_index (s := 1) rfl Try.underlying26 (by kernel_rfl) rfl rfl (rd_row 0 rfl) (by omega) (by first | omega | (simp only [List.length_set]; omega))) ?_
   refine hl_storeEl (i := 0) (n' := (zs.set (((1 + n.ins) + (k : Int)).toNat) ((st.getD k 0) % 2)).length) (xs' := ((zs.set (((1 + n.ins) + (k : Int)).toNat) ((st.getD k 0) % 2)).map (Value.int .i64))) (l' := [rowE 3 1 (.slice (some ⟨g2, 0, none⟩) ((List.replicate (n.cnt).toNat (0 : Int)).length) ((List.replicate (n.cnt).toNat (0 : Int)).length)) ((zs.set (((1 + n.ins) + (k : Int)).toNat) ((st.getD k 0) % 2)).length) ((zs.set (((1 + n.ins) + (k : Int)).toNat) ((st.getD k 0) % 2)).map (Value.int .i64)), boxE b1 #[.int .i64 n.ins, n.sv, n.av, n.ov] 28]) rfl rfl rfl (by kernel_rfl) rfl rfl rfl rfl (by first | omega | (simp only [List.length_set]; omega)) List.length_set.symm (ints_set _ _ _) rfl ?_
   refine hl_less (sx 0 rfl (sx 1 rfl (sx 2 rfl (sx 3 rfl (sx 6 rfl (sx 7 rfl (sx 9 rfl (sx 10 rfl (sx 19 rfl (sx 31 rfl (sx 32 rfl (sx 33 rfl (sx 34 rfl (sub_nil _)))))))))))))) (.refl _) ?_
   refine hl_nil ?_
   refine hq_block_normal ?_
   refine hq_then ?_
   refine hc_region ?_
   refine hl_v rfl rfl rfl (rv_add rfl rfl rfl (by constructor <;> omega)) ?_
   refine hl_v rfl rfl rfl (rv_ev rfl) ?_
   refine hl_less (sx 0 rfl (sx 1 rfl (sx 2 rfl (sx 3 rfl (sx 6 rfl (sx 7 rfl (sx 9 rfl (sx 10 rfl (sx 19 rfl (sx 31 rfl (sx 32 rfl (sx 33 rfl (sx 34 rfl (sub_nil _)))))))))))))) (.refl _) ?_
   refine hl_nil ?_
   exact hq_round2 (k + 1) (zs.set (((1 + n.ins) + (k : Int)).toNat) ((st.getD k 0) % 2)) ⟨by omega, by rw [hz]; exact (fill_set (by rw [preB_len n st inp (by omega)]; omega) (by rw [preB_len n st inp (by omega)]; omega)).trans (by rw [preB_step n st inp (by omega)])⟩ (by omega) (sx 0 rfl (sx 1 rfl (sx 2 rfl (sx 3 rfl (sx 6 rfl (sx 7 rfl (sx 19 rfl (sx 31 rfl (sx 32 rfl (sx 33 rfl (sub_nil _))))))))))) ((.cons_cons _ (.cons_cons _ .slnil)))
  ·
   refine hl_less (sx 0 rfl (sx 1 rfl (sx 2 rfl (sx 3 rfl (sx 6 rfl (sx 7 rfl (sx 19 rfl (sx 31 rfl (sx 32 rfl (sx 33 rfl (sx 34 rfl (sub_nil _)))))))))))) (.refl _) ?_
   refine hl_nil ?_
   refine hq_then ?_
   refine hc_seq ?_
   refine hc_false rfl ?_
   refine hc_exit ?_
   refine hq_then_exit ?_
   refine hq_then_exit ?_
   refine hq_block_exit ?_
   refine hq_then ?_
   refine hc_seq ?_
   refine hc_seq ?_
   refine hc_region ?_
   refine hl_v rfl rfl rfl (rv_field (k0 := 2) rfl (by kernel_rfl) rfl) ?_
   refine hl_v rfl rfl rfl (rv_load rfl (by kernel_rfl) rfl (box_cell 1 rfl rfl)) ?_
   refine hl_v rfl rfl rfl (rv_len rfl Try.underlying25 rfl (rd_old hr.an)) ?_
   refine hl_v rfl rfl rfl (rv_ev rfl) ?_
   refine hl_less (sx 0 rfl (sx 1 rfl (sx 2 rfl (sx 3 rfl (sx 6 rfl (sx 7 rfl (sx 19 rfl (sx 31 rfl (sx 32 rfl (sx 33 rfl (sx 34 rfl (sx 48 rfl (sx 49 rfl (sx 50 rfl (sub_nil _))))))))))))))) (.refl _) ?_
   refine hl_nil ?_
   refine hq_then ?_
   refine hc_block ?_
   refine hc_loop2 (α := Nat) (β := List Int) (fun k zs => [rowE 3 1 (.slice (some ⟨g2, 0, none⟩) ((List.replicate (n.cnt).toNat (0 : Int)).length) ((List.replicate (n.cnt).toNat (0 : Int)).length)) zs.length (zs.map (Value.int .i64)), boxE b1 #[.int .i64 n.ins, n.sv, n.av, n.ov] 28]) (fun k zs => [(0, .agg #[.int .i64 n.ins, n.sv, n.av, n.ov]), (1, v), (2, .int .i64 inp), (3, .pointer (some ⟨b1, 0, none⟩)), (6, .slice none 0 0), (7, .slice (some ⟨g2, 0, none⟩) ((List.replicate (n.cnt).toNat (0 : Int)).length) ((List.replicate (n.cnt).toNat (0 : Int)).length)), (19, .bool false), (31, v), (32, .int .i64 (st.length : Int)), (34, .bool false), (48, n.av), (49, .int .i64 (n.gs.length : Int)), (50, .int .i64 (k : Int))]) (fun k zs => (k : Int) ≤ (n.gs.length : Int) ∧ zs = fillZ n.cnt.toNat (valL n st inp k)) (fun k zs => ((n.gs.length : Int)).toNat - k) 0 zs ⟨by omega, by rw [hz, show k = st.length by omega, preB_end]⟩ (sx 0 rfl (sx 1 rfl (sx 2 rfl (sx 3 rfl (sx 6 rfl (sx 7 rfl (sx 19 rfl (sx 31 rfl (sx 32 rfl (sx 34 rfl (sx 48 rfl (sx 49 rfl (sx 50 rfl (sub_nil _)))))))))))))) ((.cons_cons _ (.cons_cons _ .slnil))) ?_
   intro k zs hi7
   obtain ⟨hk, hz⟩ := hi7
   have hzl : zs.length = n.cnt.toNat := by rw [hz]; exact fill_len (by rw [val_len n st inp k (by omega)]; omega)
   have hvl := val_len n st inp k (by omega)
   have hv01 := val01 hn hsl inp k (by omega)
   refine hc_seq ?_
   refine hc_region ?_
   refine hl_lss rfl rfl rfl rfl rfl rfl (fun h8 => ?_) (fun h8 => ?_)
   ·
    refine hl_less (sx 0 rfl (sx 1 rfl (sx 2 rfl (sx 3 rfl (sx 6 rfl (sx 7 rfl (sx 19 rfl (sx 31 rfl (sx 32 rfl (sx 34 rfl (sx 48 rfl (sx 49 rfl (sx 50 rfl (sx 51 rfl (sub_nil _))))))))))))))) (.refl _) ?_
    refine hl_nil ?_
    refine hq_then ?_
    refine hc_seq ?_
    refine hc_true rfl ?_
    refine hc_skip ?_
    refine hq_then ?_
    refine hc_seq ?_
    refine hc_block ?_
    refine hc_seq ?_
    refine hc_region ?_
    refine hl_v rfl rfl rfl (rv_ev rfl) ?_
    refine hl_v rfl rfl rfl (rv_index (s := 2) rfl Try.underlying25 (by kernel_rfl) rfl rfl (rd_old hr.an) (by omega) (by first | omega | (simp only [List.length_set]; omega))) ?_
    refine hl_v rfl rfl rfl (rv_loadElN (us := [.int .i64 ((n.gs.getD k an0).a), .int .i64 ((n.gs.getD k an0).b)]) rfl (by kernel_rfl) (by kernel_rfl) rfl (rd_old hr.an) (by omega) rfl (flat_atN anC 2 (fun _ => rfl) n.gs an0 (show k < _ by first | omega | (simp only [List.length_set]; omega)) rfl)) ?_
    refine hl_box rfl rfl rfl (rq_alloc (z := .agg #[.int .i64 0, .int .i64 0]) rfl (by kernel_rfl)) ?_
    intro b9
    refine hl_v rfl rfl rfl (rv_ev rfl) ?_
    refine hl_storeBoxN (i := 0) (off := 0) (us := [.int .i64 ((n.gs.getD k an0).a), .int .i64 ((n.gs.getD k an0).b)]) (l' := [boxE b9 #[.int .i64 ((n.gs.getD k an0).a), .int .i64 ((n.gs.getD k an0).b)] 80, rowE 3 1 (.slice (some ⟨g2, 0, none⟩) ((List.replicate (n.cnt).toNat (0 : Int)).length) ((List.replicate (n.cnt).toNat (0 : Int)).length)) zs.length (zs.map (Value.int .i64)), boxE b1 #[.int .i64 n.ins, n.sv, n.av, n.ov] 28]) rfl rfl rfl (by kernel_rfl) rfl rfl rfl (all_cons rfl (all_cons rfl all_nil)) rfl rfl rfl ?_
    refine hl_less (sx 0 rfl (sx 1 rfl (sx 2 rfl (sx 3 rfl (sx 6 rfl (sx 7 rfl (sx 11 rfl (sx 12 rfl (sx 19 rfl (sx 31 rfl (sx 32 rfl (sx 34 rfl (sx 48 rfl (sx 49 rfl (sx 50 rfl (sx 51 rfl (sub_nil _))))))))))))))))) (.refl _) ?_
    refine hl_nil ?_
    refine hq_then ?_
    have hak := hn.an k (by omega)
    obtain ⟨⟨hA0, hA1⟩, hC0, hC1⟩ := id hak
    have hg1 : zs.getD ((n.gs.getD k an0).a / 2).toNat 0 = (valL n st inp k).getD ((n.gs.getD k an0).a / 2).toNat 0 := by rw [hz]; exact fill_get (by omega)
    have hg2 : zs.getD ((n.gs.getD k an0).b / 2).toNat 0 = (valL n st inp k).getD ((n.gs.getD k an0).b / 2).toNat 0 := by rw [hz]; exact fill_get (by omega)
    have hA : zs.getD ((n.gs.getD k an0).a / 2).toNat 0 = 0 ∨ zs.getD ((n.gs.getD k an0).a / 2).toNat 0 = 1 := by rw [hg1]; exact hv01 _ (by omega)
    have hB : zs.getD ((n.gs.getD k an0).b / 2).toNat 0 = 0 ∨ zs.getD ((n.gs.getD k an0).b / 2).toNat 0 = 1 := by rw [hg2]; exact hv01 _ (by omega)
    have hB1 : bitL zs (n.gs.getD k an0).a = bitL (valL n st inp k) (n.gs.getD k an0).a := by unfold bitL; rw [hg1]
    have hB2 : bitL zs (n.gs.getD k an0).b = bitL (valL n st inp k) (n.gs.getD k an0).b := by unfold bitL; rw [hg2]
    have hP1 : bitL zs (n.gs.getD k an0).a = 0 ∨ bitL zs (n.gs.getD k an0).a = 1 := by rw [hB1]; exact bit01 hv01 hA0 (by omega)
    have hP2 : bitL zs (n.gs.getD k an0).b = 0 ∨ bitL zs (n.gs.getD k an0).b = 1 := by rw [hB2]; exact bit01 hv01 hC0 (by omega)
    refine hc_draw (by kernel_rfl) 15 [0, 1, 2, 3, 4, 5, 6, 7, 8, 9, 10, 11, 12, 13, 14] (List.take 15 _) (List.drop 15 _) [[], [], [1], [], [2, 3], [], [], [6], [5, 7], [], [], [10], [9, 11], [8, 12], [0, 4]] [55, 56, 57, 58, 59, 60, 61, 62, 63, 64, 65, 66, 67, 68, 69] (fun i_ vs_ v_ p_ => match i_ with | 0 => v_ = .slice (some ⟨g2, 0, none⟩) ((List.replicate (n.cnt).toNat (0 : Int)).length) ((List.replicate (n.cnt).toNat (0 : Int)).length) ∧ p_ = [] | 1 => v_ = .agg #[.int .i64 n.ins, n.sv, n.av, n.ov] ∧ p_ = [] | 2 => v_ = .int .i64 n.fst ∧ p_ = [] | 3 => v_ = .int .i64 (k : Int) ∧ p_ = [] | 4 => v_ = .int .i64 (n.fst + (k : Int)) ∧ p_ = [] | 5 => v_ = .slice (some ⟨g2, 0, none⟩) ((List.replicate (n.cnt).toNat (0 : Int)).length) ((List.replicate (n.cnt).toNat (0 : Int)).length) ∧ p_ = [] | 6 => v_ = .pointer (some ⟨b9, 0 + 0, none⟩) ∧ p_ = [] | 7 => v_ = .int .i64 ((n.gs.getD k an0).a) ∧ p_ = [] | 8 => v_ = .int .i64 (bitL zs ((n.gs.getD k an0).a)) ∧ p_ = [] | 9 => v_ = .slice (some ⟨g2, 0, none⟩) ((List.replicate (n.cnt).toNat (0 : Int)).length) ((List.replicate (n.cnt).toNat (0 : Int)).length) ∧ p_ = [] | 10 => v_ = .pointer (some ⟨b9, 0 + 1, none⟩) ∧ p_ = [] | 11 => v_ = .int .i64 ((n.gs.getD k an0).b) ∧ p_ = [] | 12 => v_ = .int .i64 (bitL zs ((n.gs.getD k an0).b)) ∧ p_ = [] | 13 => v_ = .int .i64 ((bitL zs ((n.gs.getD k an0).a)) * (bitL zs ((n.gs.getD k an0).b))) ∧ p_ = [] | 14 => v_ = elP (.slice (some ⟨g2, 0, none⟩) ((List.replicate (n.cnt).toNat (0 : Int)).length) ((List.replicate (n.cnt).toNat (0 : Int)).length)) ((n.fst + (k : Int)).toNat * 1) ∧ p_ = [] | _ => True) (List.take_append_drop 15 _).symm (by kernel_rfl) (by kernel_rfl) rfl rfl ?_ ?_
    ·
     refine ⟨?_, ?_, ?_, ?_, ?_, ?_, ?_, ?_, ?_, ?_, ?_, ?_, ?_, ?_, ?_, trivial⟩
     ·
      intro vf pf hR
      refine Or.inl ⟨rfl, ?_⟩
      refine rq_less (sx 7 rfl (sub_nil _)) (List.sublist_append_right _ _) ?_
      exact rq_v (rv_ev rfl)
     ·
      intro vf pf hR
      refine Or.inl ⟨rfl, ?_⟩
      refine rq_less (sx 3 rfl (sub_nil _)) (List.sublist_append_right _ _) ?_
      exact rq_v (rv_loadN (cs := [.int .i64 n.ins, n.sv, n.av, n.ov]) rfl (by kernel_rfl) (by kernel_rfl) rfl rfl (box_part 2 rfl 0 rfl))
     ·
      intro vf pf hR
      have e1 : (vf 1) = .agg #[.int .i64 n.ins, n.sv, n.av, n.ov] ∧ (pf 1) = [] := hR 1 (by decide)
      refine Or.inl ⟨rfl, ?_⟩
      refine rq_less (sx 56 (congrArg some e1.1) (sub_nil _)) (List.sublist_append_right _ _) ?_
      exact (rq_call (by kernel_rfl) rfl (fun w hm => ret_ans (firstAnd_yes n w (hr.below hm.bel) hn)))
     ·
      intro vf pf hR
      refine Or.inl ⟨rfl, ?_⟩
      refine rq_less (sx 11 rfl (sub_nil _)) (List.sublist_append_right _ _) ?_
      exact rq_v (rv_ev rfl)
     ·
      intro vf pf hR
      have e2 : (vf 2) = .int .i64 n.fst ∧ (pf 2) = [] := hR 2 (by decide)
      have e3 : (vf 3) = .int .i64 (k : Int) ∧ (pf 3) = [] := hR 3 (by decide)
      refine Or.inl ⟨rfl, ?_⟩
      refine rq_less (sx 57 (congrArg some e2.1) (sx 58 (congrArg some e3.1) (sub_nil _))) (List.sublist_append_right _ _) ?_
      exact rq_v (rv_add rfl rfl rfl (by constructor <;> omega))
     ·
      intro vf pf hR
      refine Or.inl ⟨rfl, ?_⟩
      refine rq_less (sx 7 rfl (sub_nil _)) (List.sublist_append_right _ _) ?_
      exact rq_v (rv_ev rfl)
     ·
      intro vf pf hR
      refine Or.inl ⟨rfl, ?_⟩
      refine rq_less (sx 12 rfl (sub_nil _)) (List.sublist_append_right _ _) ?_
      exact rq_v (rv_field (k0 := 0) rfl (by kernel_rfl) rfl)
     ·
      intro vf pf hR
      have e6 : (vf 6) = .pointer (some ⟨b9, 0 + 0, none⟩) ∧ (pf 6) = [] := hR 6 (by decide)
      refine Or.inl ⟨rfl, ?_⟩
      refine rq_less (sx 61 (congrArg some e6.1) (sub_nil _)) (List.sublist_append_right _ _) ?_
      exact rq_v (rv_load rfl (by kernel_rfl) rfl (box_cell 0 rfl rfl))
     ·
      intro vf pf hR
      have e5 : (vf 5) = .slice (some ⟨g2, 0, none⟩) ((List.replicate (n.cnt).toNat (0 : Int)).length) ((List.replicate (n.cnt).toNat (0 : Int)).length) ∧ (pf 5) = [] := hR 5 (by decide)
      have e7 : (vf 7) = .int .i64 ((n.gs.getD k an0).a) ∧ (pf 7) = [] := hR 7 (by decide)
      refine Or.inl ⟨rfl, ?_⟩
      refine rq_less (sx 60 (congrArg some e5.1) (sx 62 (congrArg some e7.1) (sub_nil _))) (List.sublist_append_right _ _) ?_
      exact (rq_call (by kernel_rfl) rfl (fun w hm => ret_ans (implitValue_ans zs ((n.gs.getD k an0).a) _ w ((rd_row 1 rfl) w hm) (by omega) (by first | assumption | omega) (by omega))))
     ·
      intro vf pf hR
      refine Or.inl ⟨rfl, ?_⟩
      refine rq_less (sx 7 rfl (sub_nil _)) (List.sublist_append_right _ _) ?_
      exact rq_v (rv_ev rfl)
     ·
      intro vf pf hR
      refine Or.inl ⟨rfl, ?_⟩
      refine rq_less (sx 12 rfl (sub_nil _)) (List.sublist_append_right _ _) ?_
      exact rq_v (rv_field (k0 := 1) rfl (by kernel_rfl) rfl)
     ·
      intro vf pf hR
      have e10 : (vf 10) = .pointer (some ⟨b9, 0 + 1, none⟩) ∧ (pf 10) = [] := hR 10 (by decide)
      refine Or.inl ⟨rfl, ?_⟩
      refine rq_less (sx 65 (congrArg some e10.1) (sub_nil _)) (List.sublist_append_right _ _) ?_
      exact rq_v (rv_load rfl (by kernel_rfl) rfl (box_cell 0 rfl rfl))
     ·
      intro vf pf hR
      have e9 : (vf 9) = .slice (some ⟨g2, 0, none⟩) ((List.replicate (n.cnt).toNat (0 : Int)).length) ((List.replicate (n.cnt).toNat (0 : Int)).length) ∧ (pf 9) = [] := hR 9 (by decide)
      have e11 : (vf 11) = .int .i64 ((n.gs.getD k an0).b) ∧ (pf 11) = [] := hR 11 (by decide)
      refine Or.inl ⟨rfl, ?_⟩
      refine rq_less (sx 64 (congrArg some e9.1) (sx 66 (congrArg some e11.1) (sub_nil _))) (List.sublist_append_right _ _) ?_
      exact (rq_call (by kernel_rfl) rfl (fun w hm => ret_ans (implitValue_ans zs ((n.gs.getD k an0).b) _ w ((rd_row 1 rfl) w hm) (by omega) (by first | assumption | omega) (by omega))))
     ·
      intro vf pf hR
      have e8 : (vf 8) = .int .i64 (bitL zs ((n.gs.getD k an0).a)) ∧ (pf 8) = [] := hR 8 (by decide)
      have e12 : (vf 12) = .int .i64 (bitL zs ((n.gs.getD k an0).b)) ∧ (pf 12) = [] := hR 12 (by decide)
      refine Or.inl ⟨rfl, ?_⟩
      refine rq_less (sx 63 (congrArg some e8.1) (sx 67 (congrArg some e12.1) (sub_nil _))) (List.sublist_append_right _ _) ?_
      exact rq_v (rv_bits rfl (by decide) rfl rfl (r := (bitL zs ((n.gs.getD k an0).a)) * (bitL zs ((n.gs.getD k an0).b))) (and01 hP1 hP2))
     ·
      intro vf pf hR
      have e0 : (vf 0) = .slice (some ⟨g2, 0, none⟩) ((List.replicate (n.cnt).toNat (0 : Int)).length) ((List.replicate (n.cnt).toNat (0 : Int)).length) ∧ (pf 0) = [] := hR 0 (by decide)
      have e4 : (vf 4) = .int .i64 (n.fst + (k : Int)) ∧ (pf 4) = [] := hR 4 (by decide)
      refine Or.inl ⟨rfl, ?_⟩
      refine rq_less (sx 55 (congrArg some e0.1) (sx 59 (congrArg some e4.1) (sub_nil _))) (List.sublist_append_right _ _) ?_
      exact rq_v (rv_index (s := 1) rfl Try.underlying26 (by kernel_rfl) rfl rfl (rd_row 1 rfl) (by omega) (by first | omega | (simp only [List.length_set]; omega)))
    ·
     intro vf pf hR
     have e13 : (vf 13) = .int .i64 ((bitL zs ((n.gs.getD k an0).a)) * (bitL zs ((n.gs.getD k an0).b))) ∧ (pf 13) = [] := hR 13 (by decide)
     have e14 : (vf 14) = elP (.slice (some ⟨g2, 0, none⟩) ((List.replicate (n.cnt).toNat (0 : Int)).length) ((List.replicate (n.cnt).toNat (0 : Int)).length)) ((n.fst + (k : Int)).toNat * 1) ∧ (pf 14) = [] := hR 14 (by decide)
     refine hl_less (l' := [boxE b9 #[.int .i64 ((n.gs.getD k an0).a), .int .i64 ((n.gs.getD k an0).b)] 80, rowE 3 1 (.slice (some ⟨g2, 0, none⟩) ((List.replicate (n.cnt).toNat (0 : Int)).length) ((List.replicate (n.cnt).toNat (0 : Int)).length)) zs.length (zs.map (Value.int .i64)), boxE b1 #[.int .i64 n.ins, n.sv, n.av, n.ov] 28]) (sx 0 rfl (sx 1 rfl (sx 2 rfl (sx 3 rfl (sx 6 rfl (sx 7 rfl (sx 11 rfl (sx 12 rfl (sx 19 rfl (sx 31 rfl (sx 32 rfl (sx 34 rfl (sx 48 rfl (sx 49 rfl (sx 50 rfl (sx 51 rfl (sx 68 (congrArg some e13.1) (sx 69 (congrArg some e14.1) (sub_nil _))))))))))))))))))) (List.sublist_append_right _ _) ?_
     simp only [List.drop_succ_cons, List.drop_zero]
     refine hl_storeEl (i := 1) (n' := (zs.set ((n.fst + (k : Int)).toNat) ((bitL zs ((n.gs.getD k an0).a)) * (bitL zs ((n.gs.getD k an0).b)))).length) (xs' := ((zs.set ((n.fst + (k : Int)).toNat) ((bitL zs ((n.gs.getD k an0).a)) * (bitL zs ((n.gs.getD k an0).b)))).map (Value.int .i64))) (l' := [boxE b9 #[.int .i64 ((n.gs.getD k an0).a), .int .i64 ((n.gs.getD k an0).b)] 80, rowE 3 1 (.slice (some ⟨g2, 0, none⟩) ((List.replicate (n.cnt).toNat (0 : Int)).length) ((List.replicate (n.cnt).toNat (0 : Int)).length)) ((zs.set ((n.fst + (k : Int)).toNat) ((bitL zs ((n.gs.getD k an0).a)) * (bitL zs ((n.gs.getD k an0).b)))).length) ((zs.set ((n.fst + (k : Int)).toNat) ((bitL zs ((n.gs.getD k an0).a)) * (bitL zs ((n.gs.getD k an0).b)))).map (Value.int .i64)), boxE b1 #[.int .i64 n.ins, n.sv, n.av, n.ov] 28]) rfl rfl rfl (by kernel_rfl) rfl rfl rfl rfl (by first | omega | (simp only [List.length_set]; omega)) List.length_set.symm (ints_set _ _ _) rfl ?_
     refine hl_less (sx 0 rfl (sx 1 rfl (sx 2 rfl (sx 3 rfl (sx 6 rfl (sx 7 rfl (sx 11 rfl (sx 12 rfl (sx 19 rfl (sx 31 rfl (sx 32 rfl (sx 34 rfl (sx 48 rfl (sx 49 rfl (sx 50 rfl (sx 51 rfl (sub_nil _))))))))))))))))) (.refl _) ?_
     refine hl_nil ?_
     refine hq_block_normal ?_
     refine hq_then ?_
     refine hc_region ?_
     refine hl_v rfl rfl rfl (rv_add rfl rfl rfl (by constructor <;> omega)) ?_
     refine hl_v rfl rfl rfl (rv_ev rfl) ?_
     refine hl_less (sx 0 rfl (sx 1 rfl (sx 2 rfl (sx 3 rfl (sx 6 rfl (sx 7 rfl (sx 11 rfl (sx 12 rfl (sx 19 rfl (sx 31 rfl (sx 32 rfl (sx 34 rfl (sx 48 rfl (sx 49 rfl (sx 50 rfl (sx 51 rfl (sub_nil _))))))))))))))))) (.refl _) ?_
     refine hl_nil ?_
     exact hq_round2 (k + 1) (zs.set ((n.fst + (k : Int)).toNat) ((bitL zs ((n.gs.getD k an0).a)) * (bitL zs ((n.gs.getD k an0).b)))) ⟨by omega, by rw [hB1, hB2, hz, show (n.fst + (k : Int)).toNat = (valL n st inp k).length by omega, val_step n st inp (by omega)]; exact fill_set rfl (by omega)⟩ (by omega) (sx 0 rfl (sx 1 rfl (sx 2 rfl (sx 3 rfl (sx 6 rfl (sx 7 rfl (sx 19 rfl (sx 31 rfl (sx 32 rfl (sx 34 rfl (sx 48 rfl (sx 49 rfl (sx 50 rfl (sub_nil _)))))))))))))) ((.cons _ (.cons_cons _ (.cons_cons _ .slnil))))
   ·
    refine hl_less (sx 0 rfl (sx 1 rfl (sx 2 rfl (sx 3 rfl (sx 6 rfl (sx 7 rfl (sx 19 rfl (sx 31 rfl (sx 32 rfl (sx 34 rfl (sx 48 rfl (sx 49 rfl (sx 50 rfl (sx 51 rfl (sub_nil _))))))))))))))) (.refl _) ?_
    refine hl_nil ?_
    refine hq_then ?_
    refine hc_seq ?_
    refine hc_false rfl ?_
    refine hc_exit ?_
    refine hq_then_exit ?_
    refine hq_then_exit ?_
    refine hq_block_exit ?_
    refine hq_then ?_
    refine hc_seq ?_
    refine hc_region ?_
    refine hl_v rfl rfl rfl (rv_ev rfl) ?_
    refine hl_v rfl rfl rfl (rv_ev rfl) ?_
    refine hl_less (sx 0 rfl (sx 1 rfl (sx 2 rfl (sx 3 rfl (sx 6 rfl (sx 7 rfl (sx 19 rfl (sx 31 rfl (sx 32 rfl (sx 34 rfl (sx 48 rfl (sx 49 rfl (sx 50 rfl (sx 51 rfl (sub_nil _))))))))))))))) (.refl _) ?_
    refine hl_nil ?_
    refine hq_then ?_
    refine hc_ret ?_
    exact hq_retR (post := [rowE 3 1 (.slice (some ⟨g2, 0, none⟩) ((List.replicate (n.cnt).toNat (0 : Int)).length) ((List.replicate (n.cnt).toNat (0 : Int)).length)) zs.length (zs.map (Value.int .i64))]) rfl rfl ((.cons_cons _ (.cons _ .slnil))) (by rw [hz, show k = n.gs.length by omega, fill_all (by rw [val_len n st inp _ (Nat.le_refl _)]; omega)])
set_option maxHeartbeats 4000000 in
set_option maxRecDepth 100000 in
theorem implNodeValues_ret (n : Nt) (st : List Int) (v : Value) (inp : Int) (w : World) (hr : RdsNt w n) (hn : NtOk n) (hst : RdsW w v 1 st.length (st.map (Value.int .i64))) (hso : StOk n st) (hin : 0 ≤ inp ∧ inp ≤ 4294967295) :
  Calls Try.prog 25 #[.agg #[.int .i64 n.ins, n.sv, n.av, n.ov], v, .int .i64 inp] w (Ret w (fun v' post => post = [rowE 3 1 v' (valsL n st inp).length ((valsL n st inp).map (Value.int .i64))])) := by
 have hi0 := hn.i0
 have hi1 := hn.i1
 have hs1 := hn.s1
 have ha1 := hn.a1
 have ho1 := hn.o1
 have hcnt : n.cnt = 1 + n.ins + n.ss.length + n.gs.length := rfl
 have hfst : n.fst = 1 + n.ins + n.ss.length := rfl
 refine calls_hc (N := 15) (args := [.agg #[.int .i64 n.ins, n.sv, n.av, n.ov], v, .int .i64 inp]) Try.func25 rfl rfl ?_
 refine hc_less _ (sx 0 rfl (sx 1 rfl (sx 2 rfl (sub_nil _)))) (.refl _) ?_
 refine hc_seq ?_
 refine hc_region ?_
 refine hl_box rfl rfl rfl (rq_box rfl rfl) ?_
 intro b1
 refine hl_v rfl rfl rfl (rv_ev rfl) ?_
 refine hl_less (sx 0 rfl (sx 1 rfl (sx 2 rfl (sx 3 rfl (sx 6 rfl (sub_nil _)))))) (.refl _) ?_
 refine hl_nil ?_
 refine hq_then ?_
 refine hc_seq ?_
 refine hc_seq ?_
 refine hc_region ?_
 refine hl_v rfl rfl rfl (rv_loadN (cs := [.int .i64 n.ins, n.sv, n.av, n.ov]) rfl (by kernel_rfl) (by kernel_rfl) rfl rfl (box_part 0 rfl 0 rfl)) ?_
 refine hl_v rfl rfl rfl (rv_ev rfl) ?_
 refine hl_callV rfl rfl rfl (rq_call (by kernel_rfl) rfl (fun w hm => ret_ans (implStateOk_yes n st _ w (hr.below hm.bel) hn (hst.below hm.bel) hso))) ?_
 refine hl_v rfl rfl rfl (rv_ev rfl) ?_
 refine hl_less (sx 0 rfl (sx 1 rfl (sx 2 rfl (sx 3 rfl (sx 6 rfl (sx 10 rfl (sub_nil _))))))) (.refl _) ?_
 refine hl_nil ?_
 refine hq_then ?_
 refine hc_false rfl ?_
 refine hc_skip ?_
 refine hq_then ?_
 refine hc_seq ?_
 refine hc_region ?_
 refine hl_v rfl rfl rfl (rv_loadN (cs := [.int .i64 n.ins, n.sv, n.av, n.ov]) rfl (by kernel_rfl) (by kernel_rfl) rfl rfl (box_part 0 rfl 0 rfl)) ?_
 refine hl_v rfl rfl rfl (rv_ev rfl) ?_
 refine hl_v rfl rfl rfl (rv_ev rfl) ?_
 refine hl_q rfl rfl rfl (rq_call (by kernel_rfl) rfl (fun w hm => implnodeValues_ret n st _ inp w (hr.below hm.bel) hn (hst.below hm.bel) hso hin)) ?_
 intro v2 p3 hR4
 subst hR4
 refine hl_v rfl rfl rfl (rv_ev rfl) ?_
 refine hl_less (sx 0 rfl (sx 1 rfl (sx 2 rfl (sx 3 rfl (sx 6 rfl (sx 10 rfl (sub_nil _))))))) (.refl _) ?_
 refine hl_nil ?_
 refine hq_then ?_
 refine hc_ret ?_
 exact hq_retR (post := [rowE 3 1 v2 ((valsL n st inp).length) ((valsL n st inp).map (Value.int .i64))]) rfl rfl ((.cons_cons _ (.cons _ .slnil))) rfl
def eqA (a b c d : Int) : Bool := a == c && b == d
theorem eqA_yes {a b c d : Int} (h : eqA a b c d = true) : a = c ∧ b = d := by unfold eqA at h; simpa using h
theorem Bit.xor_par (m : Nat) : (m ^^^ 1) % 2 = (m + 1) % 2 := by
  have h : (m ^^^ 1) / 2 ^ 0 % 2 = (m / 2 ^ 0 % 2) ^^^ (1 / 2 ^ 0 % 2) := Bit.bit_xor m 1 0
  simp only [Nat.pow_zero, Nat.div_one] at h
  rw [h]
  rcases Nat.mod_two_eq_zero_or_one m with e | e <;> rw [e] <;> simp <;> omega
theorem xor_xr {a : Int} (h0 : 0 ≤ a) (h1 : a < 4294967296) : bits .xor .i64 a 1 = xr a := by
  rw [Bit.xor_int a 1 h0 h1 (by decide) (by decide)]
  unfold xr
  have h2 : (a.toNat ^^^ (1 : Int).toNat) / 2 = a.toNat / 2 := by
    show (a.toNat ^^^ 1) / 2 = a.toNat / 2
    have := Nat.xor_div_two (a := a.toNat) (b := 1)
    rw [this]; simp
  have h3 : (a.toNat ^^^ (1 : Int).toNat) % 2 = (a.toNat + 1) % 2 := by
    show (a.toNat ^^^ 1) % 2 = (a.toNat + 1) % 2
    have e := Bit.xor_par a.toNat
    exact e
  split <;> omega
theorem nt_like {n : Nt} {gs : List An} {v : Value} (h : NtOk (withG n gs)) : NtOk { n with av := v, gs := gs } := ⟨h.i0, h.i1, h.s1, h.a1, h.o1, h.sq, h.xs, h.an, h.ou⟩
/-- a net whose cells and gates its function may turn -/
def netP (b : Nat) (n : Nt) (v : Value) (gs : List An) : HP := bigE [boxE b #[.int .i64 n.ins, n.sv, v, n.ov] 28, rowE 80 2 v gs.length (gs.flatMap anC)]
section
variable {N : Nat} {w0 : World} {l : List HP} {env : List (Nat × Value)} {o : Oper}
theorem rv_eqAn {x y : Operand} {a b c d : Int} (ho : o.op = .binOp .eql 80 x y 80) (hx : ev env x = some (.agg #[.int .i64 a, .int .i64 b])) (hy : ev env y = some (.agg #[.int .i64 c, .int .i64 d])) :
    RunV Try.prog N w0 l env o (.bool (eqA a b c d)) := fun a1 w st => by
  have hg : (eqGuard .eql 80 x y (.agg #[.int .i64 a, .int .i64 b]) (.agg #[.int .i64 c, .int .i64 d])).run Try.prog w = .ok () w := run_eqGuard_agg _ _ _ _ _ _ _ (by kernel_rfl)
  have h2 : (binOp .eql 80 (.agg #[.int .i64 a, .int .i64 b]) (.agg #[.int .i64 c, .int .i64 d])).run Try.prog w = .ok (.bool (eqA a b c d)) w := by
    rw [run_eql_struct, run_equalIn_struct _ _ _ _ _ (by kernel_rfl) (by kernel_rfl)]
    have e0 : (Try.prog.fieldsOf 80).toList = [(Try.prog.fieldsOf 80)[0]!, (Try.prog.fieldsOf 80)[1]!] := by kernel_rfl
    have n0 : ((Try.prog.fieldsOf 80)[0]!).name = "A" := by kernel_rfl
    have n1 : ((Try.prog.fieldsOf 80)[1]!).name = "B" := by kernel_rfl
    have t0 : ((Try.prog.fieldsOf 80)[0]!).type = 3 := by kernel_rfl
    have t1 : ((Try.prog.fieldsOf 80)[1]!).type = 3 := by kernel_rfl
    have o0 : ((Try.prog.fieldsOf 80)[0]!).offset = 0 := by kernel_rfl
    have o1 : ((Try.prog.fieldsOf 80)[1]!).offset = 1 := by kernel_rfl
    rw [e0]
    generalize (Try.prog.fieldsOf 80)[0]! = f0 at *
    generalize (Try.prog.fieldsOf 80)[1]! = f1 at *
    have m0 : f0.name ≠ "_" := by rw [n0]; decide
    have m1 : f1.name ≠ "_" := by rw [n1]; decide
    have hk : Try.prog.plainKey 3 = true := by kernel_rfl
    have q : ∀ (u v : Int) (w : World), (Op.equalIn 9999 3 (.int .i64 u) (.int .i64 v)).run Try.prog w = .ok (u == v) w := fun u v w => run_equalIn_int w 9998 3 .i64 .i64 u v Try.underlying3
    have pa : ∀ w : World, (part f0.type #[Value.int .i64 a, .int .i64 b] f0.offset).run Try.prog w = .ok (.int .i64 a) w := fun w => by rw [t0, o0]; exact run_part_plain w hk rfl
    have pb : ∀ w : World, (part f1.type #[Value.int .i64 a, .int .i64 b] f1.offset).run Try.prog w = .ok (.int .i64 b) w := fun w => by rw [t1, o1]; exact run_part_plain w hk rfl
    have pc : ∀ w : World, (part f0.type #[Value.int .i64 c, .int .i64 d] f0.offset).run Try.prog w = .ok (.int .i64 c) w := fun w => by rw [t0, o0]; exact run_part_plain w hk rfl
    have pd : ∀ w : World, (part f1.type #[Value.int .i64 c, .int .i64 d] f1.offset).run Try.prog w = .ok (.int .i64 d) w := fun w => by rw [t1, o1]; exact run_part_plain w hk rfl
    have q0 : ∀ (u v : Int) (w : World), (Op.equalIn 9999 f0.type (.int .i64 u) (.int .i64 v)).run Try.prog w = .ok (u == v) w := by rw [t0]; exact q
    have q1 : ∀ (u v : Int) (w : World), (Op.equalIn 9999 f1.type (.int .i64 u) (.int .i64 v)).run Try.prog w = .ok (u == v) w := by rw [t1]; exact q
    simp only [Op.eqFields, m0, m1, ne_eq, not_false_eq_true, if_true, Sem.run_bind, pa, pb, pc, pd, q0, q1, Result.andThen_ok, Sem.run_ite, Sem.run_pure]
    unfold eqA
    cases (a == c) <;> cases (b == d) <;> simp
  simp [execOp, ho, st.eval hx, st.eval hy, hg, h2]
end
set_option maxHeartbeats 4000000 in
set_option maxRecDepth 100000 in
theorem addAnd_mut (b : Nat) (n : Nt) (x y : Int) (w0 : World) (l : List HP) (w : World) (hm0 : Mem w0 (boxE b #[.int .i64 n.ins, n.sv, n.av, n.ov] 28 :: rowE 80 2 n.av n.gs.length (n.gs.flatMap anC) :: l) w) (hn : NtOk (withG n n.gs)) (hx : LtOk x (n.fst + n.gs.length)) (hy : LtOk y (n.fst + n.gs.length)) (hl : n.gs.length < 300) (hso : ∀ w, Mem w0 l w → RdsW w n.sv 3 n.ss.length (n.ss.flatMap sqC) ∧ (∀ s ∈ n.ss, RdsW w s.iv 1 s.xs.length (s.xs.map (Value.int .i64))) ∧ RdsW w n.ov 1 n.os.length (n.os.map (Value.int .i64))) (hone : n.sv.oneCell' = true ∧ n.ov.oneCell' = true) :
  Calls Try.prog 74 #[.pointer (some ⟨b, 0, none⟩), .int .i64 x, .int .i64 y] w (fun e_ w_ => ∃ v_ p_, e_ = .returned v_ ∧ (fun u_ p_ => ∃ z v_ gs_, u_ = .int .i64 z ∧ p_ = netP b n v_ gs_ ∧ AddOk n n.gs gs_ z 1 (fAnd x y)) v_ p_ ∧ Mem w0 (p_ :: l) w_) := by
 have hi0 : 0 ≤ n.ins := hn.i0
 have hi1 : n.ins ≤ 20 := hn.i1
 have hs1 : n.ss.length ≤ 12 := hn.s1
 have hf : n.fst = 1 + n.ins + n.ss.length := rfl
 have hmx : (if x < y then y else x) = max x y := by split <;> omega
 obtain ⟨hx0, hx1⟩ := id hx
 obtain ⟨hy0, hy1⟩ := id hy
 have hnew := add_new hn hx hy hl
 refine calls_hcM (N := 86) (args := [.pointer (some ⟨b, 0, none⟩), .int .i64 x, .int .i64 y]) Try.func74 rfl rfl hm0 ?_
 refine hc_less _ (sx 0 rfl (sx 1 rfl (sx 2 rfl (sub_nil _)))) (.refl _) ?_
 refine hc_seq ?_
 refine hc_region ?_
 refine hl_v rfl rfl rfl (rv_ev rfl) ?_
 refine hl_less (sx 0 rfl (sx 1 rfl (sx 2 rfl (sx 6 rfl (sub_nil _))))) (.refl _) ?_
 refine hl_nil ?_
 refine hq_then ?_
 refine hc_seq ?_
 refine hc_block ?_
 refine hc_seq ?_
 refine hc_region ?_
 refine hl_v rfl rfl rfl (rv_ev rfl) ?_
 refine hl_eql rfl rfl rfl rfl rfl rfl (fun h1 => ?_) (fun h1 => ?_)
 ·
  refine hl_v rfl rfl rfl (rv_ev rfl) ?_
  refine hl_skip rfl rfl rfl ?_
  refine hl_skip rfl rfl rfl ?_
  refine hl_v rfl rfl rfl (rv_ev rfl) ?_
  refine hl_v rfl rfl rfl (rv_ev rfl) ?_
  refine hl_skip rfl rfl rfl ?_
  refine hl_skip rfl rfl rfl ?_
  refine hl_skip rfl rfl rfl ?_
  refine hl_skip rfl rfl rfl ?_
  refine hl_v rfl rfl rfl (rv_ev rfl) ?_
  refine hl_v rfl rfl rfl (rv_ev rfl) ?_
  refine hl_less (sx 0 rfl (sx 1 rfl (sx 2 rfl (sx 6 rfl (sx 10 rfl (sub_nil _)))))) (.refl _) ?_
  refine hl_nil ?_
  refine hq_then ?_
  refine hc_true rfl ?_
  refine hc_seq ?_
  refine hc_region ?_
  refine hl_v rfl rfl rfl (rv_ev rfl) ?_
  refine hl_less (sx 0 rfl (sx 1 rfl (sx 2 rfl (sx 6 rfl (sx 10 rfl (sub_nil _)))))) (.refl _) ?_
  refine hl_nil ?_
  refine hq_then ?_
  refine hc_ret ?_
  refine hq_block_ret ?_
  refine hq_then_ret ?_
  refine hq_conv (boxE b #[.int .i64 n.ins, n.sv, n.av, n.ov] 28 :: rowE 80 2 n.av n.gs.length (n.gs.flatMap anC) :: l) (conv_pick (src := [boxE b #[.int .i64 n.ins, n.sv, n.av, n.ov] 28, rowE 80 2 n.av n.gs.length (n.gs.flatMap anC)]) (dst := [boxE b #[.int .i64 n.ins, n.sv, n.av, n.ov] 28, rowE 80 2 n.av n.gs.length (n.gs.flatMap anC)]) (l := l) [0, 1] (by decide) rfl) ?_
  refine hq_conv (netP b n n.av n.gs :: l) (conv_big (ps := [boxE b #[.int .i64 n.ins, n.sv, n.av, n.ov] 28, rowE 80 2 n.av n.gs.length (n.gs.flatMap anC)])) ?_
  exact hq_ret (rs := [.tmp 6]) (vs := [.int .i64 0]) rfl ⟨rfl, trivial⟩ rfl (fun w hm => ⟨_, netP b n n.av n.gs, rfl, ⟨_, _, _, rfl, rfl, add_zero hn hx hy (by first | exact .inl (by omega) | exact .inr (.inl (by omega)) | exact .inr (.inr (by omega)))⟩, hm.sub ((.cons_cons _ (.refl _)))⟩)
 ·
  refine hl_v rfl rfl rfl (rv_ev rfl) ?_
  refine hl_v rfl rfl rfl (rv_ev rfl) ?_
  refine hl_eql rfl rfl rfl rfl rfl rfl (fun h2 => ?_) (fun h2 => ?_)
  ·
   refine hl_v rfl rfl rfl (rv_ev rfl) ?_
   refine hl_v rfl rfl rfl (rv_ev rfl) ?_
   refine hl_skip rfl rfl rfl ?_
   refine hl_skip rfl rfl rfl ?_
   refine hl_skip rfl rfl rfl ?_
   refine hl_skip rfl rfl rfl ?_
   refine hl_v rfl rfl rfl (rv_ev rfl) ?_
   refine hl_v rfl rfl rfl (rv_ev rfl) ?_
   refine hl_less (sx 0 rfl (sx 1 rfl (sx 2 rfl (sx 6 rfl (sx 10 rfl (sub_nil _)))))) (.refl _) ?_
   refine hl_nil ?_
   refine hq_then ?_
   refine hc_true rfl ?_
   refine hc_seq ?_
   refine hc_region ?_
   refine hl_v rfl rfl rfl (rv_ev rfl) ?_
   refine hl_less (sx 0 rfl (sx 1 rfl (sx 2 rfl (sx 6 rfl (sx 10 rfl (sub_nil _)))))) (.refl _) ?_
   refine hl_nil ?_
   refine hq_then ?_
   refine hc_ret ?_
   refine hq_block_ret ?_
   refine hq_then_ret ?_
   refine hq_conv (boxE b #[.int .i64 n.ins, n.sv, n.av, n.ov] 28 :: rowE 80 2 n.av n.gs.length (n.gs.flatMap anC) :: l) (conv_pick (src := [boxE b #[.int .i64 n.ins, n.sv, n.av, n.ov] 28, rowE 80 2 n.av n.gs.length (n.gs.flatMap anC)]) (dst := [boxE b #[.int .i64 n.ins, n.sv, n.av, n.ov] 28, rowE 80 2 n.av n.gs.length (n.gs.flatMap anC)]) (l := l) [0, 1] (by decide) rfl) ?_
   refine hq_conv (netP b n n.av n.gs :: l) (conv_big (ps := [boxE b #[.int .i64 n.ins, n.sv, n.av, n.ov] 28, rowE 80 2 n.av n.gs.length (n.gs.flatMap anC)])) ?_
   exact hq_ret (rs := [.tmp 6]) (vs := [.int .i64 0]) rfl ⟨rfl, trivial⟩ rfl (fun w hm => ⟨_, netP b n n.av n.gs, rfl, ⟨_, _, _, rfl, rfl, add_zero hn hx hy (by first | exact .inl (by omega) | exact .inr (.inl (by omega)) | exact .inr (.inr (by omega)))⟩, hm.sub ((.cons_cons _ (.refl _)))⟩)
  ·
   refine hl_v rfl rfl rfl (rv_ev rfl) ?_
   refine hl_v rfl rfl rfl (rv_ev rfl) ?_
   refine hl_v rfl rfl rfl (rv_ev rfl) ?_
   refine hl_v rfl rfl rfl (rv_bits rfl (by decide) rfl rfl (r := xr x) (xor_xr hx0 (by omega))) ?_
   refine hl_v rfl rfl rfl (rv_ev rfl) ?_
   refine hl_eql rfl rfl rfl rfl rfl rfl (fun h3 => ?_) (fun h3 => ?_)
   ·
    refine hl_v rfl rfl rfl (rv_ev rfl) ?_
    refine hl_v rfl rfl rfl (rv_ev rfl) ?_
    refine hl_less (sx 0 rfl (sx 1 rfl (sx 2 rfl (sx 6 rfl (sx 10 rfl (sub_nil _)))))) (.refl _) ?_
    refine hl_nil ?_
    refine hq_then ?_
    refine hc_true rfl ?_
    refine hc_seq ?_
    refine hc_region ?_
    refine hl_v rfl rfl rfl (rv_ev rfl) ?_
    refine hl_less (sx 0 rfl (sx 1 rfl (sx 2 rfl (sx 6 rfl (sx 10 rfl (sub_nil _)))))) (.refl _) ?_
    refine hl_nil ?_
    refine hq_then ?_
    refine hc_ret ?_
    refine hq_block_ret ?_
    refine hq_then_ret ?_
    refine hq_conv (boxE b #[.int .i64 n.ins, n.sv, n.av, n.ov] 28 :: rowE 80 2 n.av n.gs.length (n.gs.flatMap anC) :: l) (conv_pick (src := [boxE b #[.int .i64 n.ins, n.sv, n.av, n.ov] 28, rowE 80 2 n.av n.gs.length (n.gs.flatMap anC)]) (dst := [boxE b #[.int .i64 n.ins, n.sv, n.av, n.ov] 28, rowE 80 2 n.av n.gs.length (n.gs.flatMap anC)]) (l := l) [0, 1] (by decide) rfl) ?_
    refine hq_conv (netP b n n.av n.gs :: l) (conv_big (ps := [boxE b #[.int .i64 n.ins, n.sv, n.av, n.ov] 28, rowE 80 2 n.av n.gs.length (n.gs.flatMap anC)])) ?_
    exact hq_ret (rs := [.tmp 6]) (vs := [.int .i64 0]) rfl ⟨rfl, trivial⟩ rfl (fun w hm => ⟨_, netP b n n.av n.gs, rfl, ⟨_, _, _, rfl, rfl, add_zero hn hx hy (by first | exact .inl (by omega) | exact .inr (.inl (by omega)) | exact .inr (.inr (by omega)))⟩, hm.sub ((.cons_cons _ (.refl _)))⟩)
   ·
    refine hl_v rfl rfl rfl (rv_ev rfl) ?_
    refine hl_v rfl rfl rfl (rv_ev rfl) ?_
    refine hl_less (sx 0 rfl (sx 1 rfl (sx 2 rfl (sx 6 rfl (sx 10 rfl (sub_nil _)))))) (.refl _) ?_
    refine hl_nil ?_
    refine hq_then ?_
    refine hc_false rfl ?_
    refine hc_seq ?_
    refine hc_region ?_
    refine hl_v rfl rfl rfl (rv_ev rfl) ?_
    refine hl_eql rfl rfl rfl rfl rfl rfl (fun h4 => ?_) (fun h4 => ?_)
    ·
     refine hl_v rfl rfl rfl (rv_ev rfl) ?_
     refine hl_skip rfl rfl rfl ?_
     refine hl_skip rfl rfl rfl ?_
     refine hl_skip rfl rfl rfl ?_
     refine hl_v rfl rfl rfl (rv_ev rfl) ?_
     refine hl_v rfl rfl rfl (rv_ev rfl) ?_
     refine hl_less (sx 0 rfl (sx 1 rfl (sx 2 rfl (sx 6 rfl (sx 10 rfl (sx 23 rfl (sub_nil _))))))) (.refl _) ?_
     refine hl_nil ?_
     refine hq_then ?_
     refine hc_true rfl ?_
     refine hc_seq ?_
     refine hc_region ?_
     refine hl_v rfl rfl rfl (rv_ev rfl) ?_
     refine hl_v rfl rfl rfl (rv_ev rfl) ?_
     refine hl_less (sx 0 rfl (sx 1 rfl (sx 2 rfl (sx 6 rfl (sx 10 rfl (sx 23 rfl (sub_nil _))))))) (.refl _) ?_
     refine hl_nil ?_
     refine hq_then ?_
     refine hc_ret ?_
     refine hq_block_ret ?_
     refine hq_then_ret ?_
     refine hq_conv (boxE b #[.int .i64 n.ins, n.sv, n.av, n.ov] 28 :: rowE 80 2 n.av n.gs.length (n.gs.flatMap anC) :: l) (conv_pick (src := [boxE b #[.int .i64 n.ins, n.sv, n.av, n.ov] 28, rowE 80 2 n.av n.gs.length (n.gs.flatMap anC)]) (dst := [boxE b #[.int .i64 n.ins, n.sv, n.av, n.ov] 28, rowE 80 2 n.av n.gs.length (n.gs.flatMap anC)]) (l := l) [0, 1] (by decide) rfl) ?_
     refine hq_conv (netP b n n.av n.gs :: l) (conv_big (ps := [boxE b #[.int .i64 n.ins, n.sv, n.av, n.ov] 28, rowE 80 2 n.av n.gs.length (n.gs.flatMap anC)])) ?_
     exact hq_ret (rs := [.tmp 6]) (vs := [.int .i64 y]) rfl ⟨rfl, trivial⟩ rfl (fun w hm => ⟨_, netP b n n.av n.gs, rfl, ⟨_, _, _, rfl, rfl, add_one hn hx hy (by omega)⟩, hm.sub ((.cons_cons _ (.refl _)))⟩)
    ·
     refine hl_v rfl rfl rfl (rv_ev rfl) ?_
     refine hl_v rfl rfl rfl (rv_ev rfl) ?_
     refine hl_v rfl rfl rfl (rv_ev rfl) ?_
     refine hl_eql rfl rfl rfl rfl rfl rfl (fun h5 => ?_) (fun h5 => ?_)
     ·
      refine hl_v rfl rfl rfl (rv_ev rfl) ?_
      refine hl_v rfl rfl rfl (rv_ev rfl) ?_
      refine hl_less (sx 0 rfl (sx 1 rfl (sx 2 rfl (sx 6 rfl (sx 10 rfl (sx 23 rfl (sub_nil _))))))) (.refl _) ?_
      refine hl_nil ?_
      refine hq_then ?_
      refine hc_true rfl ?_
      refine hc_seq ?_
      refine hc_region ?_
      refine hl_v rfl rfl rfl (rv_ev rfl) ?_
      refine hl_v rfl rfl rfl (rv_ev rfl) ?_
      refine hl_less (sx 0 rfl (sx 1 rfl (sx 2 rfl (sx 6 rfl (sx 10 rfl (sx 23 rfl (sub_nil _))))))) (.refl _) ?_
      refine hl_nil ?_
      refine hq_then ?_
      refine hc_ret ?_
      refine hq_block_ret ?_
      refine hq_then_ret ?_
      refine hq_conv (boxE b #[.int .i64 n.ins, n.sv, n.av, n.ov] 28 :: rowE 80 2 n.av n.gs.length (n.gs.flatMap anC) :: l) (conv_pick (src := [boxE b #[.int .i64 n.ins, n.sv, n.av, n.ov] 28, rowE 80 2 n.av n.gs.length (n.gs.flatMap anC)]) (dst := [boxE b #[.int .i64 n.ins, n.sv, n.av, n.ov] 28, rowE 80 2 n.av n.gs.length (n.gs.flatMap anC)]) (l := l) [0, 1] (by decide) rfl) ?_
      refine hq_conv (netP b n n.av n.gs :: l) (conv_big (ps := [boxE b #[.int .i64 n.ins, n.sv, n.av, n.ov] 28, rowE 80 2 n.av n.gs.length (n.gs.flatMap anC)])) ?_
      exact hq_ret (rs := [.tmp 6]) (vs := [.int .i64 y]) rfl ⟨rfl, trivial⟩ rfl (fun w hm => ⟨_, netP b n n.av n.gs, rfl, ⟨_, _, _, rfl, rfl, add_one hn hx hy (by omega)⟩, hm.sub ((.cons_cons _ (.refl _)))⟩)
     ·
      refine hl_v rfl rfl rfl (rv_ev rfl) ?_
      refine hl_v rfl rfl rfl (rv_ev rfl) ?_
      refine hl_less (sx 0 rfl (sx 1 rfl (sx 2 rfl (sx 6 rfl (sx 10 rfl (sx 23 rfl (sub_nil _))))))) (.refl _) ?_
      refine hl_nil ?_
      refine hq_then ?_
      refine hc_false rfl ?_
      refine hc_seq ?_
      refine hc_region ?_
      refine hl_v rfl rfl rfl (rv_ev rfl) ?_
      refine hl_eql rfl rfl rfl rfl rfl rfl (fun h6 => ?_) (fun h6 => ?_)
      ·
       refine hl_v rfl rfl rfl (rv_ev rfl) ?_
       refine hl_less (sx 0 rfl (sx 1 rfl (sx 2 rfl (sx 6 rfl (sx 10 rfl (sx 23 rfl (sx 32 rfl (sub_nil _)))))))) (.refl _) ?_
       refine hl_nil ?_
       refine hq_then ?_
       refine hc_true rfl ?_
       refine hc_seq ?_
       refine hc_region ?_
       refine hl_v rfl rfl rfl (rv_ev rfl) ?_
       refine hl_v rfl rfl rfl (rv_ev rfl) ?_
       refine hl_less (sx 0 rfl (sx 1 rfl (sx 2 rfl (sx 6 rfl (sx 10 rfl (sx 23 rfl (sx 32 rfl (sub_nil _)))))))) (.refl _) ?_
       refine hl_nil ?_
       refine hq_then ?_
       refine hc_ret ?_
       refine hq_block_ret ?_
       refine hq_then_ret ?_
       refine hq_conv (boxE b #[.int .i64 n.ins, n.sv, n.av, n.ov] 28 :: rowE 80 2 n.av n.gs.length (n.gs.flatMap anC) :: l) (conv_pick (src := [boxE b #[.int .i64 n.ins, n.sv, n.av, n.ov] 28, rowE 80 2 n.av n.gs.length (n.gs.flatMap anC)]) (dst := [boxE b #[.int .i64 n.ins, n.sv, n.av, n.ov] 28, rowE 80 2 n.av n.gs.length (n.gs.flatMap anC)]) (l := l) [0, 1] (by decide) rfl) ?_
       refine hq_conv (netP b n n.av n.gs :: l) (conv_big (ps := [boxE b #[.int .i64 n.ins, n.sv, n.av, n.ov] 28, rowE 80 2 n.av n.gs.length (n.gs.flatMap anC)])) ?_
       exact hq_ret (rs := [.tmp 6]) (vs := [.int .i64 x]) rfl ⟨rfl, trivial⟩ rfl (fun w hm => ⟨_, netP b n n.av n.gs, rfl, ⟨_, _, _, rfl, rfl, (add_one hn hy hx (by omega)).swap⟩, hm.sub ((.cons_cons _ (.refl _)))⟩)
      ·
       refine hl_v rfl rfl rfl (rv_ev rfl) ?_
       refine hl_less (sx 0 rfl (sx 1 rfl (sx 2 rfl (sx 6 rfl (sx 10 rfl (sx 23 rfl (sx 32 rfl (sub_nil _)))))))) (.refl _) ?_
       refine hl_nil ?_
       refine hq_then ?_
       refine hc_false rfl ?_
       refine hc_skip ?_
       refine hq_block_normal ?_
       refine hq_then ?_
       refine hc_seq ?_
       refine hc_region ?_
       refine hl_v rfl rfl rfl (rv_ev rfl) ?_
       refine hl_v rfl rfl rfl (rv_ev rfl) ?_
       refine hl_v rfl rfl rfl (rv_min rfl rfl rfl) ?_
       refine hl_v rfl rfl rfl (rv_ev rfl) ?_
       refine hl_v rfl rfl rfl (rv_ev rfl) ?_
       refine hl_v rfl rfl rfl (rv_max rfl rfl rfl) ?_
       refine hl_v rfl rfl rfl (rv_build (cs := #[.int .i64 (min x y), .int .i64 (if x < y then y else x)]) rfl rfl (by kernel_rfl)) ?_
       refine hl_box rfl rfl rfl (rq_alloc (z := .agg #[.int .i64 0, .int .i64 0]) rfl (by kernel_rfl)) ?_
       intro b7
       refine hl_storeBoxN (i := 0) (off := 0) (us := [.int .i64 (min x y), .int .i64 (if x < y then y else x)]) (l' := (boxE b7 #[.int .i64 (min x y), .int .i64 (if x < y then y else x)] 80 :: boxE b #[.int .i64 n.ins, n.sv, n.av, n.ov] 28 :: rowE 80 2 n.av n.gs.length (n.gs.flatMap anC) :: l)) rfl rfl rfl (by kernel_rfl) rfl rfl rfl (all_cons rfl (all_cons rfl all_nil)) rfl rfl rfl ?_
       refine hl_less (sx 0 rfl (sx 1 rfl (sx 2 rfl (sx 6 rfl (sx 7 rfl (sx 10 rfl (sx 23 rfl (sx 32 rfl (sub_nil _))))))))) (.refl _) ?_
       refine hl_nil ?_
       refine hq_then ?_
       refine hc_seq ?_
       refine hc_seq ?_
       refine hc_region ?_
       refine hl_v rfl rfl rfl (rv_ev rfl) ?_
       refine hl_v rfl rfl rfl (rv_nilCheck rfl rfl) ?_
       refine hl_v rfl rfl rfl (rv_field (k0 := 2) rfl (by kernel_rfl) rfl) ?_
       refine hl_v rfl rfl rfl (rv_load rfl (by kernel_rfl) rfl (box_cell 1 rfl rfl)) ?_
       refine hl_v rfl rfl rfl (rv_len rfl Try.underlying25 rfl (rd_row 2 rfl)) ?_
       refine hl_v rfl rfl rfl (rv_ev rfl) ?_
       refine hl_less (sx 0 rfl (sx 1 rfl (sx 2 rfl (sx 6 rfl (sx 7 rfl (sx 10 rfl (sx 23 rfl (sx 32 rfl (sx 46 rfl (sx 47 rfl (sx 48 rfl (sub_nil _)))))))))))) (.refl _) ?_
       refine hl_nil ?_
       refine hq_then ?_
       refine hc_block ?_
       refine hc_loop1 (α := Nat) (fun i => (boxE b7 #[.int .i64 (min x y), .int .i64 (if x < y then y else x)] 80 :: boxE b #[.int .i64 n.ins, n.sv, n.av, n.ov] 28 :: rowE 80 2 n.av n.gs.length (n.gs.flatMap anC) :: l)) (fun i => [(0, .pointer (some ⟨b, 0, none⟩)), (1, .int .i64 x), (2, .int .i64 y), (6, .int .i64 0), (7, .pointer (some ⟨b7, 0, none⟩)), (10, .bool false), (23, .bool false), (32, .bool false), (46, n.av), (47, .int .i64 (n.gs.length : Int)), (48, .int .i64 (i : Int))]) (fun i => i ≤ n.gs.length) (fun i => n.gs.length - i) 0 (Nat.zero_le _) (sx 0 rfl (sx 1 rfl (sx 2 rfl (sx 6 rfl (sx 7 rfl (sx 10 rfl (sx 23 rfl (sx 32 rfl (sx 46 rfl (sx 47 rfl (sx 48 rfl (sub_nil _)))))))))))) ((.cons_cons _ (.cons_cons _ (.cons_cons _ (.refl _))))) ?_
       intro i hi8
       have hi := hi8
       refine hc_seq ?_
       refine hc_region ?_
       refine hl_lss rfl rfl rfl rfl rfl rfl (fun h9 => ?_) (fun h9 => ?_)
       ·
        refine hl_less (sx 0 rfl (sx 1 rfl (sx 2 rfl (sx 6 rfl (sx 7 rfl (sx 10 rfl (sx 23 rfl (sx 32 rfl (sx 46 rfl (sx 47 rfl (sx 48 rfl (sx 49 rfl (sub_nil _))))))))))))) (.refl _) ?_
        refine hl_nil ?_
        refine hq_then ?_
        refine hc_seq ?_
        refine hc_true rfl ?_
        refine hc_skip ?_
        refine hq_then ?_
        refine hc_seq ?_
        refine hc_block ?_
        refine hc_seq ?_
        refine hc_region ?_
        refine hl_v rfl rfl rfl (rv_ev rfl) ?_
        refine hl_v rfl rfl rfl (rv_index (s := 2) rfl Try.underlying25 (by kernel_rfl) rfl rfl (rd_row 2 rfl) (by omega) (by first | omega | (simp only [List.length_set]; omega))) ?_
        refine hl_v rfl rfl rfl (rv_loadElN (us := [.int .i64 ((n.gs.getD i an0).a), .int .i64 ((n.gs.getD i an0).b)]) rfl (by kernel_rfl) (by kernel_rfl) rfl (rd_row 2 rfl) (by omega) rfl (flat_atN anC 2 (fun _ => rfl) n.gs an0 (show i < _ by first | omega | (simp only [List.length_set]; omega)) rfl)) ?_
        refine hl_box rfl rfl rfl (rq_alloc (z := .agg #[.int .i64 0, .int .i64 0]) rfl (by kernel_rfl)) ?_
        intro b10
        refine hl_v rfl rfl rfl (rv_ev rfl) ?_
        refine hl_storeBoxN (i := 0) (off := 0) (us := [.int .i64 ((n.gs.getD i an0).a), .int .i64 ((n.gs.getD i an0).b)]) (l' := (boxE b10 #[.int .i64 ((n.gs.getD i an0).a), .int .i64 ((n.gs.getD i an0).b)] 80 :: boxE b7 #[.int .i64 (min x y), .int .i64 (if x < y then y else x)] 80 :: boxE b #[.int .i64 n.ins, n.sv, n.av, n.ov] 28 :: rowE 80 2 n.av n.gs.length (n.gs.flatMap anC) :: l)) rfl rfl rfl (by kernel_rfl) rfl rfl rfl (all_cons rfl (all_cons rfl all_nil)) rfl rfl rfl ?_
        refine hl_less (sx 0 rfl (sx 1 rfl (sx 2 rfl (sx 6 rfl (sx 7 rfl (sx 8 rfl (sx 9 rfl (sx 10 rfl (sx 23 rfl (sx 32 rfl (sx 46 rfl (sx 47 rfl (sx 48 rfl (sx 49 rfl (sub_nil _))))))))))))))) (.refl _) ?_
        refine hl_nil ?_
        refine hq_then ?_
        refine hc_seq ?_
        refine hc_region ?_
        refine hl_v rfl rfl rfl (rv_loadN (cs := [.int .i64 (min x y), .int .i64 (if x < y then y else x)]) rfl (by kernel_rfl) (by kernel_rfl) rfl rfl (box_part 1 rfl 0 rfl)) ?_
        refine hl_v rfl rfl rfl (rv_loadN (cs := [.int .i64 ((n.gs.getD i an0).a), .int .i64 ((n.gs.getD i an0).b)]) rfl (by kernel_rfl) (by kernel_rfl) rfl rfl (box_part 0 rfl 0 rfl)) ?_
        refine hl_v rfl rfl rfl (rv_eqAn rfl rfl rfl) ?_
        refine hl_bool (fun h11 => ?_) (fun h11 => ?_)
        ·
         obtain ⟨hq1, hq2⟩ := eqA_yes h11
         refine hl_less (sx 0 rfl (sx 1 rfl (sx 2 rfl (sx 6 rfl (sx 7 rfl (sx 8 rfl (sx 9 rfl (sx 10 rfl (sx 23 rfl (sx 32 rfl (sx 46 rfl (sx 47 rfl (sx 48 rfl (sx 49 rfl (sx 55 rfl (sub_nil _)))))))))))))))) (.refl _) ?_
         refine hl_nil ?_
         refine hq_then ?_
         refine hc_true rfl ?_
         refine hc_seq ?_
         refine hc_region ?_
         refine hl_v rfl rfl rfl (rv_ev rfl) ?_
         refine hl_v rfl rfl rfl (rv_nilCheck rfl rfl) ?_
         refine hl_v rfl rfl rfl (rv_loadN (cs := [.int .i64 n.ins, n.sv, n.av, n.ov]) rfl (by kernel_rfl) (by kernel_rfl) rfl rfl (box_part 2 rfl 0 rfl)) ?_
         refine hl_callV rfl rfl rfl (rq_call (by kernel_rfl) rfl (fun w hm => ret_ans (firstAnd_yes ({ n with av := n.av, gs := n.gs } : Nt) w (let h9 := hso w (hm.sub (.cons _ (.cons _ (.cons _ (.cons _ (.refl _)))))); ⟨h9.1, h9.2.1, rd_row 3 rfl w hm, h9.2.2⟩) (nt_like hn)))) ?_
         refine hl_v rfl rfl rfl (rv_ev rfl) ?_
         refine hl_v rfl rfl rfl (rv_add rfl rfl rfl (by constructor <;> omega)) ?_
         refine hl_v rfl rfl rfl (rv_mul rfl rfl rfl (by constructor <;> omega)) ?_
         refine hl_v rfl rfl rfl (rv_ev rfl) ?_
         refine hl_less (sx 0 rfl (sx 1 rfl (sx 2 rfl (sx 6 rfl (sx 7 rfl (sx 8 rfl (sx 9 rfl (sx 10 rfl (sx 23 rfl (sx 32 rfl (sx 46 rfl (sx 47 rfl (sx 48 rfl (sx 49 rfl (sx 55 rfl (sub_nil _)))))))))))))))) (.refl _) ?_
         refine hl_nil ?_
         refine hq_then ?_
         refine hc_ret ?_
         refine hq_block_ret ?_
         refine hq_then_ret ?_
         refine hq_then_ret ?_
         refine hq_block_ret ?_
         refine hq_then_ret ?_
         refine hq_conv (boxE b #[.int .i64 n.ins, n.sv, n.av, n.ov] 28 :: rowE 80 2 n.av n.gs.length (n.gs.flatMap anC) :: l) (conv_pick (src := [boxE b10 #[.int .i64 ((n.gs.getD i an0).a), .int .i64 ((n.gs.getD i an0).b)] 80, boxE b7 #[.int .i64 (min x y), .int .i64 (if x < y then y else x)] 80, boxE b #[.int .i64 n.ins, n.sv, n.av, n.ov] 28, rowE 80 2 n.av n.gs.length (n.gs.flatMap anC)]) (dst := [boxE b #[.int .i64 n.ins, n.sv, n.av, n.ov] 28, rowE 80 2 n.av n.gs.length (n.gs.flatMap anC)]) (l := l) [2, 3] (by decide) rfl) ?_
         refine hq_conv (netP b n n.av n.gs :: l) (conv_big (ps := [boxE b #[.int .i64 n.ins, n.sv, n.av, n.ov] 28, rowE 80 2 n.av n.gs.length (n.gs.flatMap anC)])) ?_
         exact hq_ret (rs := [.tmp 6]) (vs := [.int .i64 (2 * (n.fst + (i : Int)))]) rfl ⟨rfl, trivial⟩ rfl (fun w hm => ⟨_, netP b n n.av n.gs, rfl, ⟨_, _, _, rfl, rfl, add_found hn (by omega) hq1.symm (by rw [← hq2]; exact hmx)⟩, hm.sub ((.cons_cons _ (.refl _)))⟩)
        ·
         refine hl_less (sx 0 rfl (sx 1 rfl (sx 2 rfl (sx 6 rfl (sx 7 rfl (sx 8 rfl (sx 9 rfl (sx 10 rfl (sx 23 rfl (sx 32 rfl (sx 46 rfl (sx 47 rfl (sx 48 rfl (sx 49 rfl (sx 55 rfl (sub_nil _)))))))))))))))) (.refl _) ?_
         refine hl_nil ?_
         refine hq_then ?_
         refine hc_false rfl ?_
         refine hc_skip ?_
         refine hq_block_normal ?_
         refine hq_then ?_
         refine hc_region ?_
         refine hl_v rfl rfl rfl (rv_add rfl rfl rfl (by constructor <;> omega)) ?_
         refine hl_v rfl rfl rfl (rv_ev rfl) ?_
         refine hl_less (sx 0 rfl (sx 1 rfl (sx 2 rfl (sx 6 rfl (sx 7 rfl (sx 8 rfl (sx 9 rfl (sx 10 rfl (sx 23 rfl (sx 32 rfl (sx 46 rfl (sx 47 rfl (sx 48 rfl (sx 49 rfl (sx 55 rfl (sub_nil _)))))))))))))))) (.refl _) ?_
         refine hl_nil ?_
         exact hq_round1 (i + 1) (by omega) (by omega) (sx 0 rfl (sx 1 rfl (sx 2 rfl (sx 6 rfl (sx 7 rfl (sx 10 rfl (sx 23 rfl (sx 32 rfl (sx 46 rfl (sx 47 rfl (sx 48 rfl (sub_nil _)))))))))))) ((.cons _ (.cons_cons _ (.cons_cons _ (.cons_cons _ (.refl _))))))
       ·
        refine hl_less (sx 0 rfl (sx 1 rfl (sx 2 rfl (sx 6 rfl (sx 7 rfl (sx 10 rfl (sx 23 rfl (sx 32 rfl (sx 46 rfl (sx 47 rfl (sx 48 rfl (sx 49 rfl (sub_nil _))))))))))))) (.refl _) ?_
        refine hl_nil ?_
        refine hq_then ?_
        refine hc_seq ?_
        refine hc_false rfl ?_
        refine hc_exit ?_
        refine hq_then_exit ?_
        refine hq_then_exit ?_
        refine hq_block_exit ?_
        refine hq_then ?_
        refine hc_seq ?_
        refine hc_seq ?_
        refine hc_region ?_
        refine hl_v rfl rfl rfl (rv_ev rfl) ?_
        refine hl_v rfl rfl rfl (rv_nilCheck rfl rfl) ?_
        refine hl_v rfl rfl rfl (rv_field (k0 := 2) rfl (by kernel_rfl) rfl) ?_
        refine hl_v rfl rfl rfl (rv_load rfl (by kernel_rfl) rfl (box_cell 1 rfl rfl)) ?_
        refine hl_v rfl rfl rfl (rv_len rfl Try.underlying25 rfl (rd_row 2 rfl)) ?_
        refine hl_geq rfl rfl rfl rfl rfl rfl (fun h12 => absurd h12 (by omega)) (fun h12 => ?_)
        refine hl_less (sx 0 rfl (sx 1 rfl (sx 2 rfl (sx 6 rfl (sx 7 rfl (sx 10 rfl (sx 23 rfl (sx 32 rfl (sx 46 rfl (sx 47 rfl (sx 48 rfl (sx 49 rfl (sx 69 rfl (sub_nil _)))))))))))))) (.refl _) ?_
        refine hl_nil ?_
        refine hq_then ?_
        refine hc_false rfl ?_
        refine hc_skip ?_
        refine hq_then ?_
        refine hc_seq ?_
        refine hc_conv (rowE 80 2 n.av n.gs.length (n.gs.flatMap anC) :: boxE b7 #[.int .i64 (min x y), .int .i64 (if x < y then y else x)] 80 :: boxE b #[.int .i64 n.ins, n.sv, n.av, n.ov] 28 :: l) (conv_pick (src := [boxE b7 #[.int .i64 (min x y), .int .i64 (if x < y then y else x)] 80, boxE b #[.int .i64 n.ins, n.sv, n.av, n.ov] 28, rowE 80 2 n.av n.gs.length (n.gs.flatMap anC)]) (dst := [rowE 80 2 n.av n.gs.length (n.gs.flatMap anC), boxE b7 #[.int .i64 (min x y), .int .i64 (if x < y then y else x)] 80, boxE b #[.int .i64 n.ins, n.sv, n.av, n.ov] 28]) (l := l) [2, 0, 1] (by decide) rfl) ?_
        refine hc_draw3 (l := (boxE b7 #[.int .i64 (min x y), .int .i64 (if x < y then y else x)] 80 :: boxE b #[.int .i64 n.ins, n.sv, n.av, n.ov] 28 :: l)) (by kernel_rfl) 8 [0, 1, 2, 3, 4, 5, 6, 7] (List.take 8 _) (List.drop 8 _) [[], [], [1], [2], [3], [], [5], [4, 6]] [some 70, some 71, some 72, some 73, some 74, some 75, some 76, some 77] (fun i_ vs_ v_ p_ => match i_ with | 0 => v_ = .pointer (some ⟨b, 0, none⟩) ∧ p_ = [] | 1 => v_ = .pointer (some ⟨b, 0, none⟩) ∧ p_ = [] | 2 => v_ = .pointer (some ⟨b, 0, none⟩) ∧ p_ = [] | 3 => v_ = .pointer (some ⟨b, 0 + 2, none⟩) ∧ p_ = [] | 4 => v_ = n.av ∧ p_ = [] | 5 => v_ = .agg #[.int .i64 (min x y), .int .i64 (if x < y then y else x)] ∧ p_ = [] | 6 => IsRow_o 80 2 1 ([min x y, (if x < y then y else x)].map (Value.int .i64)) v_ p_ | 7 => (∃ pm_, p_ = [pm_] ∧ (fun u_ p_ => p_ = rowE 80 2 u_ ((n.gs ++ [An.mk (min x y) (if x < y then y else x)]).length) ((n.gs ++ [An.mk (min x y) (if x < y then y else x)]).flatMap anC)) v_ pm_) | _ => True) [[], [], [1], [2], [3], [], [5], [4, 6]] [none, none, none, none, none, none, none, some 11] [[rowE 80 2 n.av n.gs.length (n.gs.flatMap anC)]] [0, 1, 2, 3, 4, 5, 6, 7] 11 (List.take_append_drop 8 _).symm (by kernel_rfl) (by kernel_rfl) (by kernel_rfl) rfl rfl ?_ ?_
        ·
         refine ⟨?_, ?_, ?_, ?_, ?_, ?_, ?_, ?_, trivial⟩
         ·
          intro vf pf hmu hR
          refine Or.inl ⟨rfl, ?_⟩
          show RunQ _ _ _ (([] : List Nat).flatMap pf ++ _) (envOf3 _ vf [] ++ _) _ _
          refine rq_less (sx 0 rfl (sub_nil _)) (List.sublist_append_right _ _) ?_
          exact rq_v (rv_ev rfl)
         ·
          intro vf pf hmu hR
          refine Or.inl ⟨rfl, ?_⟩
          show RunQ _ _ _ (([] : List Nat).flatMap pf ++ _) (envOf3 _ vf [] ++ _) _ _
          refine rq_less (sx 0 rfl (sub_nil _)) (List.sublist_append_right _ _) ?_
          exact rq_v (rv_ev rfl)
         ·
          intro vf pf hmu hR
          have e1 : (vf 1) = .pointer (some ⟨b, 0, none⟩) ∧ (pf 1) = [] := hR 1 (by decide)
          refine Or.inl ⟨rfl, ?_⟩
          show RunQ _ _ _ (([1] : List Nat).flatMap pf ++ _) (envOf3 _ vf [1] ++ _) _ _
          refine rq_less (sx 71 (congrArg some e1.1) (sub_nil _)) (List.sublist_append_right _ _) ?_
          exact rq_v (rv_nilCheck rfl rfl)
         ·
          intro vf pf hmu hR
          have e2 : (vf 2) = .pointer (some ⟨b, 0, none⟩) ∧ (pf 2) = [] := hR 2 (by decide)
          refine Or.inl ⟨rfl, ?_⟩
          show RunQ _ _ _ (([2] : List Nat).flatMap pf ++ _) (envOf3 _ vf [2] ++ _) _ _
          refine rq_less (sx 72 (congrArg some e2.1) (sub_nil _)) (List.sublist_append_right _ _) ?_
          exact rq_v (rv_field (k0 := 2) rfl (by kernel_rfl) rfl)
         ·
          intro vf pf hmu hR
          have e3 : (vf 3) = .pointer (some ⟨b, 0 + 2, none⟩) ∧ (pf 3) = [] := hR 3 (by decide)
          refine Or.inl ⟨rfl, ?_⟩
          show RunQ _ _ _ (([3] : List Nat).flatMap pf ++ _) (envOf3 _ vf [3] ++ _) _ _
          refine rq_less (sx 73 (congrArg some e3.1) (sub_nil _)) (List.sublist_append_right _ _) ?_
          exact rq_v (rv_load rfl (by kernel_rfl) rfl (box_cell 1 rfl rfl))
         ·
          intro vf pf hmu hR
          refine Or.inl ⟨rfl, ?_⟩
          show RunQ _ _ _ (([] : List Nat).flatMap pf ++ _) (envOf3 _ vf [] ++ _) _ _
          refine rq_less (sx 7 rfl (sub_nil _)) (List.sublist_append_right _ _) ?_
          exact rq_v (rv_loadN (cs := [.int .i64 (min x y), .int .i64 (if x < y then y else x)]) rfl (by kernel_rfl) (by kernel_rfl) rfl rfl (box_part 0 rfl 0 rfl))
         ·
          intro vf pf hmu hR
          have e5 : (vf 5) = .agg #[.int .i64 (min x y), .int .i64 (if x < y then y else x)] ∧ (pf 5) = [] := hR 5 (by decide)
          refine Or.inl ⟨rfl, ?_⟩
          show RunQ _ _ _ (([5] : List Nat).flatMap pf ++ _) (envOf3 _ vf [5] ++ _) _ _
          refine rq_less (sx 75 (congrArg some e5.1) (sub_nil _)) (List.sublist_append_right _ _) ?_
          exact rq_buildSlice (z := .agg #[.int .i64 0, .int .i64 0]) (s := 2) (cs := ([min x y, (if x < y then y else x)].map (Value.int .i64))) rfl Try.underlying25 (by kernel_rfl) (by decide) rfl (by kernel_rfl) rfl
         ·
          intro vf pf hmu hR
          have e4 : (vf 4) = n.av ∧ (pf 4) = [] := hR 4 (by decide)
          have e6 : IsRow_o 80 2 1 ([min x y, (if x < y then y else x)].map (Value.int .i64)) (vf 6) (pf 6) := hR 6 (by decide)
          obtain ⟨g13, v6, p6⟩ := e6
          refine Or.inl ⟨rfl, ?_⟩
          show RunM _ _ _ (pf 11) (([4, 6] : List Nat).flatMap pf ++ _) (envOf3 _ vf [4, 6] ++ _) _ _
          have hmu0 : pf 11 = [rowE 80 2 n.av n.gs.length (n.gs.flatMap anC)] := hmu 0 (show 0 < 1 by omega)
          rw [hmu0]
          refine rm_less (X' := (rowE 80 2 (.slice (some ⟨g13, 0, none⟩) 1 1) 1 ([min x y, (if x < y then y else x)].map (Value.int .i64)) :: boxE b7 #[.int .i64 (min x y), .int .i64 (if x < y then y else x)] 80 :: boxE b #[.int .i64 n.ins, n.sv, n.av, n.ov] 28 :: l)) (sx 74 (congrArg some e4.1) (sx 76 (congrArg some v6) (sub_nil _))) (by first | (simp only [p6, v6, e4.2, List.flatMap_cons, List.flatMap_nil, List.append_nil, List.nil_append, List.cons_append]; exact List.Sublist.refl _) | simp [p6, v6, e4.2]) ?_
          exact rm_append (d := 0) (z := .agg #[.int .i64 0, .int .i64 0]) (bytes := 16) (n' := (n.gs ++ [An.mk (min x y) (if x < y then y else x)]).length) (xs' := ((n.gs ++ [An.mk (min x y) (if x < y then y else x)]).flatMap anC)) rfl Try.underlying25 (by kernel_rfl) (by kernel_rfl) rfl rfl (rd_row 0 rfl) (ints_one _) (by first | omega | (simp only [List.length_append, List.length_cons, List.length_nil]; omega)) (len_app n.gs [An.mk (min x y) (if x < y then y else x)]) (flat_app1 anC n.gs (An.mk (min x y) (if x < y then y else x)) _ rfl)
        ·
         intro vf pf hmu hR
         have e0 : (vf 0) = .pointer (some ⟨b, 0, none⟩) ∧ (pf 0) = [] := hR 0 (by decide)
         have e6 : IsRow_o 80 2 1 ([min x y, (if x < y then y else x)].map (Value.int .i64)) (vf 6) (pf 6) := hR 6 (by decide)
         obtain ⟨g13, v6, p6⟩ := e6
         have e7 : (∃ pm_, (pf 7) = [pm_] ∧ (fun u_ p_ => p_ = rowE 80 2 u_ ((n.gs ++ [An.mk (min x y) (if x < y then y else x)]).length) ((n.gs ++ [An.mk (min x y) (if x < y then y else x)]).flatMap anC)) (vf 7) pm_) := hR 7 (by decide)
         obtain ⟨p15, p7, hR16⟩ := e7
         obtain ⟨v14, v7⟩ : ∃ x, vf 7 = x := ⟨_, rfl⟩
         rw [v7] at hR16
         subst hR16
         have q0 : (vf 0) = .pointer (some ⟨b, 0, none⟩) ∧ (pf 0) = [] := hR 0 (by decide)
         have q1 : (vf 1) = .pointer (some ⟨b, 0, none⟩) ∧ (pf 1) = [] := hR 1 (by decide)
         have q2 : (vf 2) = .pointer (some ⟨b, 0, none⟩) ∧ (pf 2) = [] := hR 2 (by decide)
         have q3 : (vf 3) = .pointer (some ⟨b, 0 + 2, none⟩) ∧ (pf 3) = [] := hR 3 (by decide)
         have q4 : (vf 4) = n.av ∧ (pf 4) = [] := hR 4 (by decide)
         have q5 : (vf 5) = .agg #[.int .i64 (min x y), .int .i64 (if x < y then y else x)] ∧ (pf 5) = [] := hR 5 (by decide)
         refine hl_less (l' := (rowE 80 2 (.slice (some ⟨g13, 0, none⟩) 1 1) 1 ([min x y, (if x < y then y else x)].map (Value.int .i64)) :: rowE 80 2 v14 ((n.gs ++ [An.mk (min x y) (if x < y then y else x)]).length) ((n.gs ++ [An.mk (min x y) (if x < y then y else x)]).flatMap anC) :: boxE b7 #[.int .i64 (min x y), .int .i64 (if x < y then y else x)] 80 :: boxE b #[.int .i64 n.ins, n.sv, n.av, n.ov] 28 :: l)) (sx 0 rfl (sx 1 rfl (sx 2 rfl (sx 6 rfl (sx 7 rfl (sx 10 rfl (sx 23 rfl (sx 32 rfl (sx 46 rfl (sx 47 rfl (sx 48 rfl (sx 49 rfl (sx 69 rfl (sx 70 (congrArg some e0.1) (sx 77 (congrArg some v7) (sub_nil _)))))))))))))))) (by first | (simp only [p6, v6, p7, v7, q0.2, q1.2, q2.2, q3.2, q4.2, q5.2, List.flatMap_cons, List.flatMap_nil, List.append_nil, List.nil_append, List.cons_append]; exact List.Sublist.refl _) | simp [p6, v6, p7, v7, q0.2, q1.2, q2.2, q3.2, q4.2, q5.2]) ?_
         simp only [List.drop_succ_cons, List.drop_zero]
         refine hl_v rfl rfl rfl (rv_nilCheck rfl rfl) ?_
         refine hl_v rfl rfl rfl (rv_field (k0 := 2) rfl (by kernel_rfl) rfl) ?_
         refine hl_one (i := 1) rfl (fun ho17 => ?_)
         refine hl_storeBox (i := 3) (l' := (rowE 80 2 (.slice (some ⟨g13, 0, none⟩) 1 1) 1 ([min x y, (if x < y then y else x)].map (Value.int .i64)) :: rowE 80 2 v14 ((n.gs ++ [An.mk (min x y) (if x < y then y else x)]).length) ((n.gs ++ [An.mk (min x y) (if x < y then y else x)]).flatMap anC) :: boxE b7 #[.int .i64 (min x y), .int .i64 (if x < y then y else x)] 80 :: boxE b #[.int .i64 n.ins, n.sv, v14, n.ov] 28 :: l)) rfl rfl rfl (by kernel_rfl) rfl rfl ho17 rfl rfl rfl ?_
         refine hl_less (sx 0 rfl (sx 1 rfl (sx 2 rfl (sx 6 rfl (sx 7 rfl (sx 10 rfl (sx 23 rfl (sx 32 rfl (sx 46 rfl (sx 47 rfl (sx 48 rfl (sx 49 rfl (sx 69 rfl (sub_nil _)))))))))))))) (.refl _) ?_
         refine hl_nil ?_
         refine hq_then ?_
         refine hc_seq ?_
         refine hc_region ?_
         have hnew2 : AddOk n n.gs (n.gs ++ [An.mk (min x y) (if x < y then y else x)]) (2 * (n.fst + n.gs.length)) 1 (fAnd x y) := by rw [hmx]; exact hnew
         have hlen9 : (n.gs ++ [An.mk (min x y) (if x < y then y else x)]).length = n.gs.length + 1 := by simp
         have hcnt9 : ({ n with av := v14, gs := n.gs ++ [An.mk (min x y) (if x < y then y else x)] } : Nt).cnt = n.fst + (n.gs ++ [An.mk (min x y) (if x < y then y else x)]).length := rfl
         refine hl_v rfl rfl rfl (rv_ev rfl) ?_
         refine hl_v rfl rfl rfl (rv_nilCheck rfl rfl) ?_
         refine hl_v rfl rfl rfl (rv_loadN (cs := [.int .i64 n.ins, n.sv, v14, n.ov]) rfl (by kernel_rfl) (by kernel_rfl) rfl rfl (box_part 3 rfl 0 rfl)) ?_
         refine hl_callV rfl rfl rfl (rq_call (by kernel_rfl) rfl (fun w hm => ret_ans (implnodeCount_yes ({ n with av := v14, gs := n.gs ++ [An.mk (min x y) (if x < y then y else x)] } : Nt) w (let h9 := hso w (hm.sub (.cons _ (.cons _ (.cons _ (.cons _ (.refl _)))))); ⟨h9.1, h9.2.1, rd_row 1 rfl w hm, h9.2.2⟩) (nt_like hnew2.ok)))) ?_
         refine hl_v rfl rfl rfl (rv_sub rfl rfl rfl (by constructor <;> omega)) ?_
         refine hl_v rfl rfl rfl (rv_mul rfl rfl rfl (by constructor <;> omega)) ?_
         refine hl_v rfl rfl rfl (rv_ev rfl) ?_
         refine hl_less (sx 0 rfl (sx 1 rfl (sx 2 rfl (sx 6 rfl (sx 7 rfl (sx 10 rfl (sx 23 rfl (sx 32 rfl (sx 46 rfl (sx 47 rfl (sx 48 rfl (sx 49 rfl (sx 69 rfl (sub_nil _)))))))))))))) (.refl _) ?_
         refine hl_nil ?_
         refine hq_then ?_
         refine hc_ret ?_
         refine hq_conv (boxE b #[.int .i64 n.ins, n.sv, v14, n.ov] 28 :: rowE 80 2 v14 ((n.gs ++ [An.mk (min x y) (if x < y then y else x)]).length) ((n.gs ++ [An.mk (min x y) (if x < y then y else x)]).flatMap anC) :: l) (conv_pick (src := [rowE 80 2 (.slice (some ⟨g13, 0, none⟩) 1 1) 1 ([min x y, (if x < y then y else x)].map (Value.int .i64)), rowE 80 2 v14 ((n.gs ++ [An.mk (min x y) (if x < y then y else x)]).length) ((n.gs ++ [An.mk (min x y) (if x < y then y else x)]).flatMap anC), boxE b7 #[.int .i64 (min x y), .int .i64 (if x < y then y else x)] 80, boxE b #[.int .i64 n.ins, n.sv, v14, n.ov] 28]) (dst := [boxE b #[.int .i64 n.ins, n.sv, v14, n.ov] 28, rowE 80 2 v14 ((n.gs ++ [An.mk (min x y) (if x < y then y else x)]).length) ((n.gs ++ [An.mk (min x y) (if x < y then y else x)]).flatMap anC)]) (l := l) [3, 1] (by decide) rfl) ?_
         refine hq_conv (netP b n v14 (n.gs ++ [An.mk (min x y) (if x < y then y else x)]) :: l) (conv_big (ps := [boxE b #[.int .i64 n.ins, n.sv, v14, n.ov] 28, rowE 80 2 v14 ((n.gs ++ [An.mk (min x y) (if x < y then y else x)]).length) ((n.gs ++ [An.mk (min x y) (if x < y then y else x)]).flatMap anC)])) ?_
         exact hq_ret (rs := [.tmp 6]) (vs := [.int .i64 (2 * ((n.fst + (n.gs ++ [An.mk (min x y) (if x < y then y else x)]).length) - 1))]) rfl ⟨rfl, trivial⟩ rfl (fun w hm => ⟨_, netP b n v14 (n.gs ++ [An.mk (min x y) (if x < y then y else x)]), rfl, ⟨_, _, _, rfl, rfl, (by rw [show (2 * ((n.fst + (n.gs ++ [An.mk (min x y) (if x < y then y else x)]).length) - 1)) = 2 * (n.fst + (n.gs.length : Int)) by omega]; exact hnew2)⟩, hm.sub ((.cons_cons _ (.refl _)))⟩)
open Go.RowKit
theorem AddOk.like {n : Nt} {v : Value} {g0 g g2 : List An} {x : Int} {k : Nat} {f : (Int → Int) → Int} (h : AddOk { n with av := v, gs := g0 } g g2 x k f) : AddOk n g g2 x k f := ⟨h.ext, ⟨h.ok.i0, h.ok.i1, h.ok.s1, h.ok.a1, h.ok.o1, h.ok.sq, h.ok.xs, h.ok.an, h.ok.ou⟩, h.lit, h.val⟩
theorem addAnd_on (b : Nat) (n : Nt) (v : Value) (g : List An) (x y : Int) (w0 : World) (l : List HP) (w : World) (hm0 : Mem w0 (netP b n v g :: l) w) (hn : NtOk (withG n g)) (hx : LtOk x (n.fst + g.length)) (hy : LtOk y (n.fst + g.length)) (hl : g.length < 300) (hso : ∀ w, Mem w0 l w → RdsW w n.sv 3 n.ss.length (n.ss.flatMap sqC) ∧ (∀ s ∈ n.ss, RdsW w s.iv 1 s.xs.length (s.xs.map (Value.int .i64))) ∧ RdsW w n.ov 1 n.os.length (n.os.map (Value.int .i64))) (hone : n.sv.oneCell' = true ∧ n.ov.oneCell' = true) :
    Calls Try.prog 74 #[.pointer (some ⟨b, 0, none⟩), .int .i64 x, .int .i64 y] w (fun e_ w_ => ∃ v_ p_, e_ = .returned v_ ∧ (fun u_ p_ => ∃ z v_ g_, u_ = .int .i64 z ∧ p_ = netP b n v_ g_ ∧ AddOk n g g_ z 1 (fAnd x y)) v_ p_ ∧ Mem w0 (p_ :: l) w_) := by
  refine (addAnd_mut b { n with av := v, gs := g } x y w0 l w hm0.unbig ⟨hn.i0, hn.i1, hn.s1, hn.a1, hn.o1, hn.sq, hn.xs, hn.an, hn.ou⟩ hx hy hl hso hone).mono ?_
  rintro e w' ⟨u, p, rfl, ⟨z, v2, g2, rfl, rfl, ha⟩, hm⟩
  exact ⟨_, _, rfl, ⟨z, v2, g2, rfl, rfl, ha.like⟩, hm⟩
set_option maxHeartbeats 4000000 in
set_option maxRecDepth 100000 in
theorem addOr_mut (b : Nat) (n : Nt) (v : Value) (g : List An) (x y : Int) (w0 : World) (l : List HP) (w : World) (hm0 : Mem w0 (netP b n v g :: l) w) (hn : NtOk (withG n g)) (hx : LtOk x (n.fst + g.length)) (hy : LtOk y (n.fst + g.length)) (hl : g.length + 1 ≤ 300) (hso : ∀ w, Mem w0 l w → RdsW w n.sv 3 n.ss.length (n.ss.flatMap sqC) ∧ (∀ s ∈ n.ss, RdsW w s.iv 1 s.xs.length (s.xs.map (Value.int .i64))) ∧ RdsW w n.ov 1 n.os.length (n.os.map (Value.int .i64))) (hone : n.sv.oneCell' = true ∧ n.ov.oneCell' = true) :
  Calls Try.prog 76 #[.pointer (some ⟨b, 0, none⟩), .int .i64 x, .int .i64 y] w (fun e_ w_ => ∃ v_ p_, e_ = .returned v_ ∧ (fun u_ p_ => ∃ z v_ g_, u_ = .int .i64 z ∧ p_ = netP b n v_ g_ ∧ AddOk n g g_ z 1 (fOr x y)) v_ p_ ∧ Mem w0 (p_ :: l) w_) := by
 have hi0 : 0 ≤ n.ins := hn.i0
 have hi1 : n.ins ≤ 20 := hn.i1
 have hs1 : n.ss.length ≤ 12 := hn.s1
 have hf : n.fst = 1 + n.ins + n.ss.length := rfl
 obtain ⟨hx0, hx1⟩ := id hx
 obtain ⟨hy0, hy1⟩ := id hy
 refine calls_hcM (N := 18) (args := [.pointer (some ⟨b, 0, none⟩), .int .i64 x, .int .i64 y]) Try.func76 rfl rfl hm0 ?_
 refine hc_less _ (sx 0 rfl (sx 1 rfl (sx 2 rfl (sub_nil _)))) (.refl _) ?_
 refine hc_seq ?_
 refine hc_region ?_
 refine hl_v rfl rfl rfl (rv_ev rfl) ?_
 refine hl_less (sx 0 rfl (sx 1 rfl (sx 2 rfl (sx 6 rfl (sub_nil _))))) (.refl _) ?_
 refine hl_nil ?_
 refine hq_then ?_
 refine hc_seq ?_
 refine hc_region ?_
 refine hl_v rfl rfl rfl (rv_ev rfl) ?_
 refine hl_v rfl rfl rfl (rv_ev rfl) ?_
 refine hl_v rfl rfl rfl (rv_bits rfl (by decide) rfl rfl (r := xr x) (xor_xr (by omega) (by omega))) ?_
 refine hl_v rfl rfl rfl (rv_ev rfl) ?_
 refine hl_v rfl rfl rfl (rv_bits rfl (by decide) rfl rfl (r := xr y) (xor_xr (by omega) (by omega))) ?_
 refine hl_callM2 (R := (fun u_ p_ => ∃ z v_ g_, u_ = .int .i64 z ∧ p_ = netP b n v_ g_ ∧ AddOk n g g_ z 1 (fAnd (xr x) (xr y)))) 0 rfl rfl (by kernel_rfl) rfl rfl (fun L w hX hm => addAnd_on b n v g (xr x) (xr y) _ _ _ hm hn (xr_ok hx) (xr_ok hy) (by omega) (fun w hm => hso w (hX w hm)) hone) ?_
 intro v1 p2 hR3
 obtain ⟨zhR3, vhR3, ghR3, rfl, rfl, ahR3⟩ := hR3
 have lhR3 := ahR3.len
 have thR3 := ahR3.lit
 obtain ⟨thR3a, thR3b⟩ := id thR3
 refine hl_eqL (l' := (netP b n vhR3 ghR3 :: l)) rfl ?_
 refine hl_v rfl rfl rfl (rv_ev rfl) ?_
 refine hl_less (sx 0 rfl (sx 1 rfl (sx 2 rfl (sx 6 rfl (sx 7 rfl (sub_nil _)))))) (.refl _) ?_
 refine hl_nil ?_
 refine hq_then ?_
 refine hc_seq ?_
 refine hc_seq ?_
 refine hc_region ?_
 refine hl_v rfl rfl rfl (rv_ev rfl) ?_
 refine hl_lss rfl rfl rfl rfl rfl rfl (fun h4 => absurd h4 (by omega)) (fun h4 => ?_)
 refine hl_less (sx 0 rfl (sx 1 rfl (sx 2 rfl (sx 6 rfl (sx 7 rfl (sx 15 rfl (sub_nil _))))))) (.refl _) ?_
 refine hl_nil ?_
 refine hq_then ?_
 refine hc_false rfl ?_
 refine hc_skip ?_
 refine hq_then ?_
 refine hc_seq ?_
 refine hc_region ?_
 refine hl_v rfl rfl rfl (rv_ev rfl) ?_
 refine hl_v rfl rfl rfl (rv_bits rfl (by decide) rfl rfl (r := xr zhR3) (xor_xr (by omega) (by omega))) ?_
 refine hl_v rfl rfl rfl (rv_ev rfl) ?_
 refine hl_less (sx 0 rfl (sx 1 rfl (sx 2 rfl (sx 6 rfl (sx 7 rfl (sx 15 rfl (sub_nil _))))))) (.refl _) ?_
 refine hl_nil ?_
 refine hq_then ?_
 refine hc_ret ?_
 exact hq_ret (rs := [.tmp 6]) (vs := [.int .i64 (xr zhR3)]) rfl ⟨rfl, trivial⟩ rfl (fun w hm => ⟨_, netP b n vhR3 ghR3, rfl, ⟨_, _, _, rfl, rfl, ahR3.orr hx0 hy0⟩, hm.sub ((.cons_cons _ (.refl _)))⟩)
set_option maxHeartbeats 4000000 in
set_option maxRecDepth 100000 in
theorem addXor_mut (b : Nat) (n : Nt) (v : Value) (g : List An) (x y : Int) (w0 : World) (l : List HP) (w : World) (hm0 : Mem w0 (netP b n v g :: l) w) (hn : NtOk (withG n g)) (hx : LtOk x (n.fst + g.length)) (hy : LtOk y (n.fst + g.length)) (hl : g.length + 3 ≤ 300) (hso : ∀ w, Mem w0 l w → RdsW w n.sv 3 n.ss.length (n.ss.flatMap sqC) ∧ (∀ s ∈ n.ss, RdsW w s.iv 1 s.xs.length (s.xs.map (Value.int .i64))) ∧ RdsW w n.ov 1 n.os.length (n.os.map (Value.int .i64))) (hone : n.sv.oneCell' = true ∧ n.ov.oneCell' = true) :
  Calls Try.prog 78 #[.pointer (some ⟨b, 0, none⟩), .int .i64 x, .int .i64 y] w (fun e_ w_ => ∃ v_ p_, e_ = .returned v_ ∧ (fun u_ p_ => ∃ z v_ g_, u_ = .int .i64 z ∧ p_ = netP b n v_ g_ ∧ AddOk n g g_ z 3 (fun ev => 1 - (1 - ev x * ev (xr y)) * (1 - ev (xr x) * ev y))) v_ p_ ∧ Mem w0 (p_ :: l) w_) := by
 have hi0 : 0 ≤ n.ins := hn.i0
 have hi1 : n.ins ≤ 20 := hn.i1
 have hs1 : n.ss.length ≤ 12 := hn.s1
 have hf : n.fst = 1 + n.ins + n.ss.length := rfl
 obtain ⟨hx0, hx1⟩ := id hx
 obtain ⟨hy0, hy1⟩ := id hy
 refine calls_hcM (N := 27) (args := [.pointer (some ⟨b, 0, none⟩), .int .i64 x, .int .i64 y]) Try.func78 rfl rfl hm0 ?_
 refine hc_less _ (sx 0 rfl (sx 1 rfl (sx 2 rfl (sub_nil _)))) (.refl _) ?_
 refine hc_seq ?_
 refine hc_region ?_
 refine hl_v rfl rfl rfl (rv_ev rfl) ?_
 refine hl_less (sx 0 rfl (sx 1 rfl (sx 2 rfl (sx 6 rfl (sub_nil _))))) (.refl _) ?_
 refine hl_nil ?_
 refine hq_then ?_
 refine hc_seq ?_
 refine hc_region ?_
 refine hl_v rfl rfl rfl (rv_ev rfl) ?_
 refine hl_v rfl rfl rfl (rv_ev rfl) ?_
 refine hl_v rfl rfl rfl (rv_ev rfl) ?_
 refine hl_v rfl rfl rfl (rv_bits rfl (by decide) rfl rfl (r := xr y) (xor_xr (by omega) (by omega))) ?_
 refine hl_callM2 (R := (fun u_ p_ => ∃ z v_ g_, u_ = .int .i64 z ∧ p_ = netP b n v_ g_ ∧ AddOk n g g_ z 1 (fAnd x (xr y)))) 0 rfl rfl (by kernel_rfl) rfl rfl (fun L w hX hm => addAnd_on b n v g x (xr y) _ _ _ hm hn hx (xr_ok hy) (by omega) (fun w hm => hso w (hX w hm)) hone) ?_
 intro v1 p2 hR3
 obtain ⟨zhR3, vhR3, ghR3, rfl, rfl, ahR3⟩ := hR3
 have lhR3 := ahR3.len
 have thR3 := ahR3.lit
 obtain ⟨thR3a, thR3b⟩ := id thR3
 refine hl_eqL (l' := (netP b n vhR3 ghR3 :: l)) rfl ?_
 refine hl_v rfl rfl rfl (rv_ev rfl) ?_
 refine hl_less (sx 0 rfl (sx 1 rfl (sx 2 rfl (sx 6 rfl (sx 7 rfl (sub_nil _)))))) (.refl _) ?_
 refine hl_nil ?_
 refine hq_then ?_
 refine hc_seq ?_
 refine hc_seq ?_
 refine hc_region ?_
 refine hl_v rfl rfl rfl (rv_ev rfl) ?_
 refine hl_lss rfl rfl rfl rfl rfl rfl (fun h4 => absurd h4 (by omega)) (fun h4 => ?_)
 refine hl_less (sx 0 rfl (sx 1 rfl (sx 2 rfl (sx 6 rfl (sx 7 rfl (sx 15 rfl (sub_nil _))))))) (.refl _) ?_
 refine hl_nil ?_
 refine hq_then ?_
 refine hc_false rfl ?_
 refine hc_skip ?_
 refine hq_then ?_
 refine hc_seq ?_
 refine hc_region ?_
 refine hl_v rfl rfl rfl (rv_ev rfl) ?_
 refine hl_v rfl rfl rfl (rv_ev rfl) ?_
 refine hl_v rfl rfl rfl (rv_bits rfl (by decide) rfl rfl (r := xr x) (xor_xr (by omega) (by omega))) ?_
 refine hl_v rfl rfl rfl (rv_ev rfl) ?_
 refine hl_callM2 (R := (fun u_ p_ => ∃ z v_ g_, u_ = .int .i64 z ∧ p_ = netP b n v_ g_ ∧ AddOk n ghR3 g_ z 1 (fAnd (xr x) y))) 0 rfl rfl (by kernel_rfl) rfl rfl (fun L w hX hm => addAnd_on b n vhR3 ghR3 (xr x) y _ _ _ hm ahR3.ok (xr_ok (ahR3.lits hx)) (ahR3.lits hy) (by omega) (fun w hm => hso w (hX w hm)) hone) ?_
 intro v5 p6 hR7
 obtain ⟨zhR7, vhR7, ghR7, rfl, rfl, ahR7⟩ := hR7
 have lhR7 := ahR7.len
 have thR7 := ahR7.lit
 obtain ⟨thR7a, thR7b⟩ := id thR7
 refine hl_eqL (l' := (netP b n vhR7 ghR7 :: l)) rfl ?_
 refine hl_v rfl rfl rfl (rv_ev rfl) ?_
 refine hl_less (sx 0 rfl (sx 1 rfl (sx 2 rfl (sx 6 rfl (sx 7 rfl (sx 8 rfl (sx 15 rfl (sub_nil _)))))))) (.refl _) ?_
 refine hl_nil ?_
 refine hq_then ?_
 refine hc_seq ?_
 refine hc_seq ?_
 refine hc_region ?_
 refine hl_v rfl rfl rfl (rv_ev rfl) ?_
 refine hl_lss rfl rfl rfl rfl rfl rfl (fun h8 => absurd h8 (by omega)) (fun h8 => ?_)
 refine hl_less (sx 0 rfl (sx 1 rfl (sx 2 rfl (sx 6 rfl (sx 7 rfl (sx 8 rfl (sx 15 rfl (sx 22 rfl (sub_nil _))))))))) (.refl _) ?_
 refine hl_nil ?_
 refine hq_then ?_
 refine hc_false rfl ?_
 refine hc_skip ?_
 refine hq_then ?_
 refine hc_seq ?_
 refine hc_region ?_
 refine hl_v rfl rfl rfl (rv_ev rfl) ?_
 refine hl_v rfl rfl rfl (rv_ev rfl) ?_
 refine hl_v rfl rfl rfl (rv_ev rfl) ?_
 refine hl_callM2 (R := (fun u_ p_ => ∃ z v_ g_, u_ = .int .i64 z ∧ p_ = netP b n v_ g_ ∧ AddOk n ghR7 g_ z 1 (fOr zhR3 zhR7))) 0 rfl rfl (by kernel_rfl) rfl rfl (fun L w hX hm => addOr_mut b n vhR7 ghR7 zhR3 zhR7 _ _ _ hm ahR7.ok (ahR7.lits thR3) thR7 (by omega) (fun w hm => hso w (hX w hm)) hone) ?_
 intro v9 p10 hR11
 obtain ⟨zhR11, vhR11, ghR11, rfl, rfl, ahR11⟩ := hR11
 have lhR11 := ahR11.len
 have thR11 := ahR11.lit
 obtain ⟨thR11a, thR11b⟩ := id thR11
 refine hl_eqL (l' := (netP b n vhR11 ghR11 :: l)) rfl ?_
 refine hl_v rfl rfl rfl (rv_ev rfl) ?_
 refine hl_less (sx 0 rfl (sx 1 rfl (sx 2 rfl (sx 6 rfl (sx 7 rfl (sx 8 rfl (sx 15 rfl (sx 22 rfl (sub_nil _))))))))) (.refl _) ?_
 refine hl_nil ?_
 refine hq_then ?_
 refine hc_ret ?_
 exact hq_ret (rs := [.tmp 6]) (vs := [.int .i64 zhR11]) rfl ⟨rfl, trivial⟩ rfl (fun w hm => ⟨_, netP b n vhR11 ghR11, rfl, ⟨_, _, _, rfl, rfl, AddOk.pair hn hx (xr_ok hy) (xr_ok hx) hy ahR3 ahR7 ahR11⟩, hm.sub ((.cons_cons _ (.refl _)))⟩)
set_option maxHeartbeats 4000000 in
set_option maxRecDepth 100000 in
theorem addMux_mut (b : Nat) (n : Nt) (v : Value) (g : List An) (t x y : Int) (w0 : World) (l : List HP) (w : World) (hm0 : Mem w0 (netP b n v g :: l) w) (hn : NtOk (withG n g)) (hx : LtOk x (n.fst + g.length)) (hy : LtOk y (n.fst + g.length)) (ht : LtOk t (n.fst + g.length)) (hl : g.length + 3 ≤ 300) (hso : ∀ w, Mem w0 l w → RdsW w n.sv 3 n.ss.length (n.ss.flatMap sqC) ∧ (∀ s ∈ n.ss, RdsW w s.iv 1 s.xs.length (s.xs.map (Value.int .i64))) ∧ RdsW w n.ov 1 n.os.length (n.os.map (Value.int .i64))) (hone : n.sv.oneCell' = true ∧ n.ov.oneCell' = true) :
  Calls Try.prog 80 #[.pointer (some ⟨b, 0, none⟩), .int .i64 t, .int .i64 x, .int .i64 y] w (fun e_ w_ => ∃ v_ p_, e_ = .returned v_ ∧ (fun u_ p_ => ∃ z v_ g_, u_ = .int .i64 z ∧ p_ = netP b n v_ g_ ∧ AddOk n g g_ z 3 (fun ev => 1 - (1 - ev t * ev x) * (1 - ev (xr t) * ev y))) v_ p_ ∧ Mem w0 (p_ :: l) w_) := by
 have hi0 : 0 ≤ n.ins := hn.i0
 have hi1 : n.ins ≤ 20 := hn.i1
 have hs1 : n.ss.length ≤ 12 := hn.s1
 have hf : n.fst = 1 + n.ins + n.ss.length := rfl
 obtain ⟨hx0, hx1⟩ := id hx
 obtain ⟨hy0, hy1⟩ := id hy
 obtain ⟨ht0, ht1⟩ := id ht
 refine calls_hcM (N := 28) (args := [.pointer (some ⟨b, 0, none⟩), .int .i64 t, .int .i64 x, .int .i64 y]) Try.func80 rfl rfl hm0 ?_
 refine hc_less _ (sx 0 rfl (sx 1 rfl (sx 2 rfl (sx 3 rfl (sub_nil _))))) (.refl _) ?_
 refine hc_seq ?_
 refine hc_region ?_
 refine hl_v rfl rfl rfl (rv_ev rfl) ?_
 refine hl_less (sx 0 rfl (sx 1 rfl (sx 2 rfl (sx 3 rfl (sx 8 rfl (sub_nil _)))))) (.refl _) ?_
 refine hl_nil ?_
 refine hq_then ?_
 refine hc_seq ?_
 refine hc_region ?_
 refine hl_v rfl rfl rfl (rv_ev rfl) ?_
 refine hl_v rfl rfl rfl (rv_ev rfl) ?_
 refine hl_v rfl rfl rfl (rv_ev rfl) ?_
 refine hl_callM2 (R := (fun u_ p_ => ∃ z v_ g_, u_ = .int .i64 z ∧ p_ = netP b n v_ g_ ∧ AddOk n g g_ z 1 (fAnd t x))) 0 rfl rfl (by kernel_rfl) rfl rfl (fun L w hX hm => addAnd_on b n v g t x _ _ _ hm hn ht hx (by omega) (fun w hm => hso w (hX w hm)) hone) ?_
 intro v1 p2 hR3
 obtain ⟨zhR3, vhR3, ghR3, rfl, rfl, ahR3⟩ := hR3
 have lhR3 := ahR3.len
 have thR3 := ahR3.lit
 obtain ⟨thR3a, thR3b⟩ := id thR3
 refine hl_eqL (l' := (netP b n vhR3 ghR3 :: l)) rfl ?_
 refine hl_v rfl rfl rfl (rv_ev rfl) ?_
 refine hl_less (sx 0 rfl (sx 1 rfl (sx 2 rfl (sx 3 rfl (sx 8 rfl (sx 9 rfl (sub_nil _))))))) (.refl _) ?_
 refine hl_nil ?_
 refine hq_then ?_
 refine hc_seq ?_
 refine hc_seq ?_
 refine hc_region ?_
 refine hl_v rfl rfl rfl (rv_ev rfl) ?_
 refine hl_lss rfl rfl rfl rfl rfl rfl (fun h4 => absurd h4 (by omega)) (fun h4 => ?_)
 refine hl_less (sx 0 rfl (sx 1 rfl (sx 2 rfl (sx 3 rfl (sx 8 rfl (sx 9 rfl (sx 16 rfl (sub_nil _)))))))) (.refl _) ?_
 refine hl_nil ?_
 refine hq_then ?_
 refine hc_false rfl ?_
 refine hc_skip ?_
 refine hq_then ?_
 refine hc_seq ?_
 refine hc_region ?_
 refine hl_v rfl rfl rfl (rv_ev rfl) ?_
 refine hl_v rfl rfl rfl (rv_ev rfl) ?_
 refine hl_v rfl rfl rfl (rv_bits rfl (by decide) rfl rfl (r := xr t) (xor_xr (by omega) (by omega))) ?_
 refine hl_v rfl rfl rfl (rv_ev rfl) ?_
 refine hl_callM2 (R := (fun u_ p_ => ∃ z v_ g_, u_ = .int .i64 z ∧ p_ = netP b n v_ g_ ∧ AddOk n ghR3 g_ z 1 (fAnd (xr t) y))) 0 rfl rfl (by kernel_rfl) rfl rfl (fun L w hX hm => addAnd_on b n vhR3 ghR3 (xr t) y _ _ _ hm ahR3.ok (xr_ok (ahR3.lits ht)) (ahR3.lits hy) (by omega) (fun w hm => hso w (hX w hm)) hone) ?_
 intro v5 p6 hR7
 obtain ⟨zhR7, vhR7, ghR7, rfl, rfl, ahR7⟩ := hR7
 have lhR7 := ahR7.len
 have thR7 := ahR7.lit
 obtain ⟨thR7a, thR7b⟩ := id thR7
 refine hl_eqL (l' := (netP b n vhR7 ghR7 :: l)) rfl ?_
 refine hl_v rfl rfl rfl (rv_ev rfl) ?_
 refine hl_less (sx 0 rfl (sx 1 rfl (sx 2 rfl (sx 3 rfl (sx 8 rfl (sx 9 rfl (sx 10 rfl (sx 16 rfl (sub_nil _))))))))) (.refl _) ?_
 refine hl_nil ?_
 refine hq_then ?_
 refine hc_seq ?_
 refine hc_seq ?_
 refine hc_region ?_
 refine hl_v rfl rfl rfl (rv_ev rfl) ?_
 refine hl_lss rfl rfl rfl rfl rfl rfl (fun h8 => absurd h8 (by omega)) (fun h8 => ?_)
 refine hl_less (sx 0 rfl (sx 1 rfl (sx 2 rfl (sx 3 rfl (sx 8 rfl (sx 9 rfl (sx 10 rfl (sx 16 rfl (sx 23 rfl (sub_nil _)))))))))) (.refl _) ?_
 refine hl_nil ?_
 refine hq_then ?_
 refine hc_false rfl ?_
 refine hc_skip ?_
 refine hq_then ?_
 refine hc_seq ?_
 refine hc_region ?_
 refine hl_v rfl rfl rfl (rv_ev rfl) ?_
 refine hl_v rfl rfl rfl (rv_ev rfl) ?_
 refine hl_v rfl rfl rfl (rv_ev rfl) ?_
 refine hl_callM2 (R := (fun u_ p_ => ∃ z v_ g_, u_ = .int .i64 z ∧ p_ = netP b n v_ g_ ∧ AddOk n ghR7 g_ z 1 (fOr zhR3 zhR7))) 0 rfl rfl (by kernel_rfl) rfl rfl (fun L w hX hm => addOr_mut b n vhR7 ghR7 zhR3 zhR7 _ _ _ hm ahR7.ok (ahR7.lits thR3) thR7 (by omega) (fun w hm => hso w (hX w hm)) hone) ?_
 intro v9 p10 hR11
 obtain ⟨zhR11, vhR11, ghR11, rfl, rfl, ahR11⟩ := hR11
 have lhR11 := ahR11.len
 have thR11 := ahR11.lit
 obtain ⟨thR11a, thR11b⟩ := id thR11
 refine hl_eqL (l' := (netP b n vhR11 ghR11 :: l)) rfl ?_
 refine hl_v rfl rfl rfl (rv_ev rfl) ?_
 refine hl_less (sx 0 rfl (sx 1 rfl (sx 2 rfl (sx 3 rfl (sx 8 rfl (sx 9 rfl (sx 10 rfl (sx 16 rfl (sx 23 rfl (sub_nil _)))))))))) (.refl _) ?_
 refine hl_nil ?_
 refine hq_then ?_
 refine hc_ret ?_
 exact hq_ret (rs := [.tmp 8]) (vs := [.int .i64 zhR11]) rfl ⟨rfl, trivial⟩ rfl (fun w hm => ⟨_, netP b n vhR11 ghR11, rfl, ⟨_, _, _, rfl, rfl, AddOk.pair hn ht hx (xr_ok ht) hy ahR3 ahR7 ahR11⟩, hm.sub ((.cons_cons _ (.refl _)))⟩)
set_option maxHeartbeats 4000000 in
set_option maxRecDepth 100000 in
theorem addAndC_mut (b : Nat) (n : Nt) (v : Value) (g : List An) (cx cy : Nat) (x y : Int) (w0 : World) (l : List HP) (w : World) (hm0 : Mem w0 (netP b n v g :: l) w) (hn : NtOk (withG n g)) (hx : LtOk x (n.fst + g.length)) (hy : LtOk y (n.fst + g.length)) (hl : g.length < 300) (hso : ∀ w, Mem w0 l w → RdsW w n.sv 3 n.ss.length (n.ss.flatMap sqC) ∧ (∀ s ∈ n.ss, RdsW w s.iv 1 s.xs.length (s.xs.map (Value.int .i64))) ∧ RdsW w n.ov 1 n.os.length (n.os.map (Value.int .i64))) (hone : n.sv.oneCell' = true ∧ n.ov.oneCell' = true) (hcxb : cx < w0.heap.size) (hcxc : w0.cell? ⟨cx, 0, none⟩ = some (.int .i64 x)) (hcyb : cy < w0.heap.size) (hcyc : w0.cell? ⟨cy, 0, none⟩ = some (.int .i64 y)) :
  Calls Try.prog 73 #[.pointer (some ⟨b, 0, none⟩), .pointer (some ⟨cx, 0, none⟩), .pointer (some ⟨cy, 0, none⟩)] w (fun e_ w_ => ∃ v_ p_, e_ = .returned v_ ∧ (fun u_ p_ => ∃ z v_ g_, u_ = .int .i64 z ∧ p_ = netP b n v_ g_ ∧ AddOk n g g_ z 1 (fAnd x y)) v_ p_ ∧ Mem w0 (p_ :: l) w_) := by
 refine calls_hcM (N := 9) (args := [.pointer (some ⟨b, 0, none⟩), .pointer (some ⟨cx, 0, none⟩), .pointer (some ⟨cy, 0, none⟩)]) Try.func73 rfl rfl hm0 ?_
 refine hc_less _ (sx 0 rfl (sx 1 rfl (sx 2 rfl (sub_nil _)))) (.refl _) ?_
 refine hc_seq ?_
 refine hc_region ?_
 refine hl_v rfl rfl rfl (rv_ev rfl) ?_
 refine hl_less (sx 0 rfl (sx 1 rfl (sx 2 rfl (sx 4 rfl (sub_nil _))))) (.refl _) ?_
 refine hl_nil ?_
 refine hq_then ?_
 refine hc_seq ?_
 refine hc_region ?_
 refine hl_v rfl rfl rfl (rv_ev rfl) ?_
 refine hl_v rfl rfl rfl (rv_load rfl (by kernel_rfl) rfl (fun w hm => (hm.bel.cell (p := ⟨cx, 0, none⟩) hcxb).trans hcxc)) ?_
 refine hl_v rfl rfl rfl (rv_load rfl (by kernel_rfl) rfl (fun w hm => (hm.bel.cell (p := ⟨cy, 0, none⟩) hcyb).trans hcyc)) ?_
 refine hl_callM2 (R := (fun u_ p_ => ∃ z v_ g_, u_ = .int .i64 z ∧ p_ = netP b n v_ g_ ∧ AddOk n g g_ z 1 (fAnd x y))) 0 rfl rfl (by kernel_rfl) rfl rfl (fun L w hX hm => addAnd_on b n v g x y _ _ _ hm hn hx hy hl (fun w hm => hso w (hX w hm)) hone) ?_
 intro v1 p2 hR3
 obtain ⟨zhR3, vhR3, ghR3, rfl, rfl, ahR3⟩ := hR3
 refine hl_eqL (l' := (netP b n vhR3 ghR3 :: l)) rfl ?_
 refine hl_v rfl rfl rfl (rv_ev rfl) ?_
 refine hl_less (sx 0 rfl (sx 1 rfl (sx 2 rfl (sx 4 rfl (sub_nil _))))) (.refl _) ?_
 refine hl_nil ?_
 refine hq_then ?_
 refine hc_ret ?_
 exact hq_ret (rs := [.tmp 4]) (vs := [.int .i64 zhR3]) rfl ⟨rfl, trivial⟩ rfl (fun w hm => ⟨_, netP b n vhR3 ghR3, rfl, ⟨_, _, _, rfl, rfl, ahR3⟩, hm.sub ((.cons_cons _ (.refl _)))⟩)
set_option maxHeartbeats 4000000 in
set_option maxRecDepth 100000 in
theorem addOrC_mut (b : Nat) (n : Nt) (v : Value) (g : List An) (cx cy : Nat) (x y : Int) (w0 : World) (l : List HP) (w : World) (hm0 : Mem w0 (netP b n v g :: l) w) (hn : NtOk (withG n g)) (hx : LtOk x (n.fst + g.length)) (hy : LtOk y (n.fst + g.length)) (hl : g.length + 1 ≤ 300) (hso : ∀ w, Mem w0 l w → RdsW w n.sv 3 n.ss.length (n.ss.flatMap sqC) ∧ (∀ s ∈ n.ss, RdsW w s.iv 1 s.xs.length (s.xs.map (Value.int .i64))) ∧ RdsW w n.ov 1 n.os.length (n.os.map (Value.int .i64))) (hone : n.sv.oneCell' = true ∧ n.ov.oneCell' = true) (hcxb : cx < w0.heap.size) (hcxc : w0.cell? ⟨cx, 0, none⟩ = some (.int .i64 x)) (hcyb : cy < w0.heap.size) (hcyc : w0.cell? ⟨cy, 0, none⟩ = some (.int .i64 y)) :
  Calls Try.prog 75 #[.pointer (some ⟨b, 0, none⟩), .pointer (some ⟨cx, 0, none⟩), .pointer (some ⟨cy, 0, none⟩)] w (fun e_ w_ => ∃ v_ p_, e_ = .returned v_ ∧ (fun u_ p_ => ∃ z v_ g_, u_ = .int .i64 z ∧ p_ = netP b n v_ g_ ∧ AddOk n g g_ z 1 (fOr x y)) v_ p_ ∧ Mem w0 (p_ :: l) w_) := by
 refine calls_hcM (N := 9) (args := [.pointer (some ⟨b, 0, none⟩), .pointer (some ⟨cx, 0, none⟩), .pointer (some ⟨cy, 0, none⟩)]) Try.func75 rfl rfl hm0 ?_
 refine hc_less _ (sx 0 rfl (sx 1 rfl (sx 2 rfl (sub_nil _)))) (.refl _) ?_
 refine hc_seq ?_
 refine hc_region ?_
 refine hl_v rfl rfl rfl (rv_ev rfl) ?_
 refine hl_less (sx 0 rfl (sx 1 rfl (sx 2 rfl (sx 4 rfl (sub_nil _))))) (.refl _) ?_
 refine hl_nil ?_
 refine hq_then ?_
 refine hc_seq ?_
 refine hc_region ?_
 refine hl_v rfl rfl rfl (rv_ev rfl) ?_
 refine hl_v rfl rfl rfl (rv_load rfl (by kernel_rfl) rfl (fun w hm => (hm.bel.cell (p := ⟨cx, 0, none⟩) hcxb).trans hcxc)) ?_
 refine hl_v rfl rfl rfl (rv_load rfl (by kernel_rfl) rfl (fun w hm => (hm.bel.cell (p := ⟨cy, 0, none⟩) hcyb).trans hcyc)) ?_
 refine hl_callM2 (R := (fun u_ p_ => ∃ z v_ g_, u_ = .int .i64 z ∧ p_ = netP b n v_ g_ ∧ AddOk n g g_ z 1 (fOr x y))) 0 rfl rfl (by kernel_rfl) rfl rfl (fun L w hX hm => addOr_mut b n v g x y _ _ _ hm hn hx hy hl (fun w hm => hso w (hX w hm)) hone) ?_
 intro v1 p2 hR3
 obtain ⟨zhR3, vhR3, ghR3, rfl, rfl, ahR3⟩ := hR3
 refine hl_eqL (l' := (netP b n vhR3 ghR3 :: l)) rfl ?_
 refine hl_v rfl rfl rfl (rv_ev rfl) ?_
 refine hl_less (sx 0 rfl (sx 1 rfl (sx 2 rfl (sx 4 rfl (sub_nil _))))) (.refl _) ?_
 refine hl_nil ?_
 refine hq_then ?_
 refine hc_ret ?_
 exact hq_ret (rs := [.tmp 4]) (vs := [.int .i64 zhR3]) rfl ⟨rfl, trivial⟩ rfl (fun w hm => ⟨_, netP b n vhR3 ghR3, rfl, ⟨_, _, _, rfl, rfl, ahR3⟩, hm.sub ((.cons_cons _ (.refl _)))⟩)
set_option maxHeartbeats 4000000 in
set_option maxRecDepth 100000 in
theorem addXorC_mut (b : Nat) (n : Nt) (v : Value) (g : List An) (cx cy : Nat) (x y : Int) (w0 : World) (l : List HP) (w : World) (hm0 : Mem w0 (netP b n v g :: l) w) (hn : NtOk (withG n g)) (hx : LtOk x (n.fst + g.length)) (hy : LtOk y (n.fst + g.length)) (hl : g.length + 3 ≤ 300) (hso : ∀ w, Mem w0 l w → RdsW w n.sv 3 n.ss.length (n.ss.flatMap sqC) ∧ (∀ s ∈ n.ss, RdsW w s.iv 1 s.xs.length (s.xs.map (Value.int .i64))) ∧ RdsW w n.ov 1 n.os.length (n.os.map (Value.int .i64))) (hone : n.sv.oneCell' = true ∧ n.ov.oneCell' = true) (hcxb : cx < w0.heap.size) (hcxc : w0.cell? ⟨cx, 0, none⟩ = some (.int .i64 x)) (hcyb : cy < w0.heap.size) (hcyc : w0.cell? ⟨cy, 0, none⟩ = some (.int .i64 y)) :
  Calls Try.prog 77 #[.pointer (some ⟨b, 0, none⟩), .pointer (some ⟨cx, 0, none⟩), .pointer (some ⟨cy, 0, none⟩)] w (fun e_ w_ => ∃ v_ p_, e_ = .returned v_ ∧ (fun u_ p_ => ∃ z v_ g_, u_ = .int .i64 z ∧ p_ = netP b n v_ g_ ∧ AddOk n g g_ z 3 (fun ev => 1 - (1 - ev x * ev (xr y)) * (1 - ev (xr x) * ev y))) v_ p_ ∧ Mem w0 (p_ :: l) w_) := by
 refine calls_hcM (N := 9) (args := [.pointer (some ⟨b, 0, none⟩), .pointer (some ⟨cx, 0, none⟩), .pointer (some ⟨cy, 0, none⟩)]) Try.func77 rfl rfl hm0 ?_
 refine hc_less _ (sx 0 rfl (sx 1 rfl (sx 2 rfl (sub_nil _)))) (.refl _) ?_
 refine hc_seq ?_
 refine hc_region ?_
 refine hl_v rfl rfl rfl (rv_ev rfl) ?_
 refine hl_less (sx 0 rfl (sx 1 rfl (sx 2 rfl (sx 4 rfl (sub_nil _))))) (.refl _) ?_
 refine hl_nil ?_
 refine hq_then ?_
 refine hc_seq ?_
 refine hc_region ?_
 refine hl_v rfl rfl rfl (rv_ev rfl) ?_
 refine hl_v rfl rfl rfl (rv_load rfl (by kernel_rfl) rfl (fun w hm => (hm.bel.cell (p := ⟨cx, 0, none⟩) hcxb).trans hcxc)) ?_
 refine hl_v rfl rfl rfl (rv_load rfl (by kernel_rfl) rfl (fun w hm => (hm.bel.cell (p := ⟨cy, 0, none⟩) hcyb).trans hcyc)) ?_
 refine hl_callM2 (R := (fun u_ p_ => ∃ z v_ g_, u_ = .int .i64 z ∧ p_ = netP b n v_ g_ ∧ AddOk n g g_ z 3 (fun ev => 1 - (1 - ev x * ev (xr y)) * (1 - ev (xr x) * ev y)))) 0 rfl rfl (by kernel_rfl) rfl rfl (fun L w hX hm => addXor_mut b n v g x y _ _ _ hm hn hx hy hl (fun w hm => hso w (hX w hm)) hone) ?_
 intro v1 p2 hR3
 obtain ⟨zhR3, vhR3, ghR3, rfl, rfl, ahR3⟩ := hR3
 refine hl_eqL (l' := (netP b n vhR3 ghR3 :: l)) rfl ?_
 refine hl_v rfl rfl rfl (rv_ev rfl) ?_
 refine hl_less (sx 0 rfl (sx 1 rfl (sx 2 rfl (sx 4 rfl (sub_nil _))))) (.refl _) ?_
 refine hl_nil ?_
 refine hq_then ?_
 refine hc_ret ?_
 exact hq_ret (rs := [.tmp 4]) (vs := [.int .i64 zhR3]) rfl ⟨rfl, trivial⟩ rfl (fun w hm => ⟨_, netP b n vhR3 ghR3, rfl, ⟨_, _, _, rfl, rfl, ahR3⟩, hm.sub ((.cons_cons _ (.refl _)))⟩)
set_option maxHeartbeats 4000000 in
set_option maxRecDepth 100000 in
theorem addMuxC_mut (b : Nat) (n : Nt) (v : Value) (g : List An) (ct cx cy : Nat) (t x y : Int) (w0 : World) (l : List HP) (w : World) (hm0 : Mem w0 (netP b n v g :: l) w) (hn : NtOk (withG n g)) (hx : LtOk x (n.fst + g.length)) (hy : LtOk y (n.fst + g.length)) (ht : LtOk t (n.fst + g.length)) (hl : g.length + 3 ≤ 300) (hso : ∀ w, Mem w0 l w → RdsW w n.sv 3 n.ss.length (n.ss.flatMap sqC) ∧ (∀ s ∈ n.ss, RdsW w s.iv 1 s.xs.length (s.xs.map (Value.int .i64))) ∧ RdsW w n.ov 1 n.os.length (n.os.map (Value.int .i64))) (hone : n.sv.oneCell' = true ∧ n.ov.oneCell' = true) (hctb : ct < w0.heap.size) (hctc : w0.cell? ⟨ct, 0, none⟩ = some (.int .i64 t)) (hcxb : cx < w0.heap.size) (hcxc : w0.cell? ⟨cx, 0, none⟩ = some (.int .i64 x)) (hcyb : cy < w0.heap.size) (hcyc : w0.cell? ⟨cy, 0, none⟩ = some (.int .i64 y)) :
  Calls Try.prog 79 #[.pointer (some ⟨b, 0, none⟩), .pointer (some ⟨ct, 0, none⟩), .pointer (some ⟨cx, 0, none⟩), .pointer (some ⟨cy, 0, none⟩)] w (fun e_ w_ => ∃ v_ p_, e_ = .returned v_ ∧ (fun u_ p_ => ∃ z v_ g_, u_ = .int .i64 z ∧ p_ = netP b n v_ g_ ∧ AddOk n g g_ z 3 (fun ev => 1 - (1 - ev t * ev x) * (1 - ev (xr t) * ev y))) v_ p_ ∧ Mem w0 (p_ :: l) w_) := by
 refine calls_hcM (N := 11) (args := [.pointer (some ⟨b, 0, none⟩), .pointer (some ⟨ct, 0, none⟩), .pointer (some ⟨cx, 0, none⟩), .pointer (some ⟨cy, 0, none⟩)]) Try.func79 rfl rfl hm0 ?_
 refine hc_less _ (sx 0 rfl (sx 1 rfl (sx 2 rfl (sx 3 rfl (sub_nil _))))) (.refl _) ?_
 refine hc_seq ?_
 refine hc_region ?_
 refine hl_v rfl rfl rfl (rv_ev rfl) ?_
 refine hl_less (sx 0 rfl (sx 1 rfl (sx 2 rfl (sx 3 rfl (sx 5 rfl (sub_nil _)))))) (.refl _) ?_
 refine hl_nil ?_
 refine hq_then ?_
 refine hc_seq ?_
 refine hc_region ?_
 refine hl_v rfl rfl rfl (rv_ev rfl) ?_
 refine hl_v rfl rfl rfl (rv_load rfl (by kernel_rfl) rfl (fun w hm => (hm.bel.cell (p := ⟨ct, 0, none⟩) hctb).trans hctc)) ?_
 refine hl_v rfl rfl rfl (rv_load rfl (by kernel_rfl) rfl (fun w hm => (hm.bel.cell (p := ⟨cx, 0, none⟩) hcxb).trans hcxc)) ?_
 refine hl_v rfl rfl rfl (rv_load rfl (by kernel_rfl) rfl (fun w hm => (hm.bel.cell (p := ⟨cy, 0, none⟩) hcyb).trans hcyc)) ?_
 refine hl_callM2 (R := (fun u_ p_ => ∃ z v_ g_, u_ = .int .i64 z ∧ p_ = netP b n v_ g_ ∧ AddOk n g g_ z 3 (fun ev => 1 - (1 - ev t * ev x) * (1 - ev (xr t) * ev y)))) 0 rfl rfl (by kernel_rfl) rfl rfl (fun L w hX hm => addMux_mut b n v g t x y _ _ _ hm hn hx hy ht hl (fun w hm => hso w (hX w hm)) hone) ?_
 intro v1 p2 hR3
 obtain ⟨zhR3, vhR3, ghR3, rfl, rfl, ahR3⟩ := hR3
 refine hl_eqL (l' := (netP b n vhR3 ghR3 :: l)) rfl ?_
 refine hl_v rfl rfl rfl (rv_ev rfl) ?_
 refine hl_less (sx 0 rfl (sx 1 rfl (sx 2 rfl (sx 3 rfl (sx 5 rfl (sub_nil _)))))) (.refl _) ?_
 refine hl_nil ?_
 refine hq_then ?_
 refine hc_ret ?_
 exact hq_ret (rs := [.tmp 5]) (vs := [.int .i64 zhR3]) rfl ⟨rfl, trivial⟩ rfl (fun w hm => ⟨_, netP b n vhR3 ghR3, rfl, ⟨_, _, _, rfl, rfl, ahR3⟩, hm.sub ((.cons_cons _ (.refl _)))⟩)
def Sq.val (s : Sq) : Int × Int × List Int := (s.kd, s.it, s.xs)
/-- a copy -/
structure Like (n n' : Nt) : Prop where
  ins : n'.ins = n.ins
  gs : n'.gs = n.gs
  os : n'.os = n.os
  ss : n'.ss.map Sq.val = n.ss.map Sq.val
theorem vals_len {ss ss' : List Sq} (h : ss'.map Sq.val = ss.map Sq.val) : ss'.length = ss.length := by simpa using congrArg List.length h
theorem vals_at {ss ss' : List Sq} (h : ss'.map Sq.val = ss.map Sq.val) {k : Nat} (hk : k < ss.length) : (ss'.getD k sq0).val = (ss.getD k sq0).val := by
  have hl := vals_len h
  have h1 : (ss'.map Sq.val)[k]? = (ss.map Sq.val)[k]? := by rw [h]
  rw [List.getElem?_map, List.getElem?_map, List.getElem?_eq_getElem (by omega), List.getElem?_eq_getElem hk] at h1
  rw [List.getD_eq_getElem?_getD, List.getD_eq_getElem?_getD, List.getElem?_eq_getElem (by omega), List.getElem?_eq_getElem hk]
  simpa using h1
theorem vals_mem {ss ss' : List Sq} (h : ss'.map Sq.val = ss.map Sq.val) {s : Sq} (hs : s ∈ ss') : ∃ r ∈ ss, r.val = s.val := by
  have h1 : s.val ∈ ss.map Sq.val := h ▸ List.mem_map.2 ⟨s, hs, rfl⟩
  obtain ⟨r, hr, he⟩ := List.mem_map.1 h1
  exact ⟨r, hr, he⟩
theorem Like.fst {n n' : Nt} (h : Like n n') : n'.fst = n.fst := by show 1 + n'.ins + (n'.ss.length : Int) = 1 + n.ins + n.ss.length; rw [h.ins, vals_len h.ss]
theorem Like.cnt {n n' : Nt} (h : Like n n') : n'.cnt = n.cnt := by show n'.fst + (n'.gs.length : Int) = n.fst + n.gs.length; rw [h.fst, h.gs]
theorem Like.ok {n n' : Nt} (h : Like n n') (hn : NtOk n) : NtOk n' := by
  refine ⟨by rw [h.ins]; exact hn.i0, by rw [h.ins]; exact hn.i1, by rw [vals_len h.ss]; exact hn.s1, by rw [h.gs]; exact hn.a1, by rw [h.os]; exact hn.o1, fun s hs => ?_, fun s hs => ?_, by rw [h.gs, h.fst]; exact hn.an, by rw [h.os, h.cnt]; exact hn.ou⟩
  · obtain ⟨r, hr, he⟩ := vals_mem h.ss hs
    simp only [Sq.val, Prod.mk.injEq] at he
    have := hn.sq r hr
    exact ⟨by rw [← he.1, ← he.2.1, ← he.2.2]; exact this.kind⟩
  · obtain ⟨r, hr, he⟩ := vals_mem h.ss hs
    simp only [Sq.val, Prod.mk.injEq] at he
    rw [← he.2.2, h.cnt]; exact hn.xs r hr
/-- a net that has grown by at most k gates; f: what the literal x computes -/
structure Grow (n n' : Nt) (x : Int) (k : Nat) (f : (Int → Int) → Int) : Prop where
  ins : n'.ins = n.ins
  ss : n'.ss.map Sq.val = n.ss.map Sq.val
  ok : NtOk n'
  ext : ∃ t, n'.gs = n.gs ++ t ∧ t.length ≤ k
  lit : LtOk x n'.cnt
  val : ∀ (st : List Int) (inp : Int), st.length = n.ss.length → bitL (valsL n' st inp) x = f (bitL (valsL n st inp))
theorem vals_like {n n' : Nt} (h : n'.ins = n.ins) (st : List Int) (inp : Int) : valsL (withG n' n.gs) st inp = valsL n st inp := by
  unfold valsL valL leafL withG
  rw [h]
theorem vals_self {n : Nt} (v : Value) (g : List An) (st : List Int) (inp : Int) : valsL { n with av := v, gs := g } st inp = valsL (withG n g) st inp := rfl
theorem Grow.make {n n' : Nt} {g : List An} {x : Int} {k : Nat} {f : (Int → Int) → Int} (v : Value) (h : Like n n') (ha : AddOk n' n'.gs g x k f) : Grow n { n' with av := v, gs := g } x k f := by
  refine ⟨h.ins, h.ss, ⟨ha.ok.i0, ha.ok.i1, ha.ok.s1, ha.ok.a1, ha.ok.o1, ha.ok.sq, ha.ok.xs, ha.ok.an, ha.ok.ou⟩, by rw [← h.gs]; exact ha.ext, ha.lit, fun st inp hs => ?_⟩
  have := ha.val st inp (by rw [hs, vals_len h.ss])
  rw [h.gs, vals_like h.ins] at this
  rw [vals_self]
  rw [h.gs] at ha
  exact this
theorem Grow.len {n n' : Nt} {x : Int} {k : Nat} {f : (Int → Int) → Int} (h : Grow n n' x k f) : n.gs.length ≤ n'.gs.length ∧ n'.gs.length ≤ n.gs.length + k := by
  obtain ⟨t, h1, h2⟩ := h.ext; rw [h1, List.length_append]; omega
theorem Grow.fst {n n' : Nt} {x : Int} {k : Nat} {f : (Int → Int) → Int} (h : Grow n n' x k f) : n'.fst = n.fst := by show 1 + n'.ins + (n'.ss.length : Int) = 1 + n.ins + n.ss.length; rw [h.ins, vals_len h.ss]
theorem Grow.cnt {n n' : Nt} {x : Int} {k : Nat} {f : (Int → Int) → Int} (h : Grow n n' x k f) : n.cnt ≤ n'.cnt := by show n.fst + (n.gs.length : Int) ≤ n'.fst + n'.gs.length; have := h.len; rw [h.fst]; omega
theorem Grow.up {n n' : Nt} {x : Int} {k : Nat} {f : (Int → Int) → Int} (h : Grow n n' x k f) {l : Int} (hl : LtOk l n.cnt) : LtOk l n'.cnt := by have := h.cnt; exact ⟨hl.1, by have := hl.2; omega⟩
theorem Grow.pre {n n' : Nt} {x : Int} {k : Nat} {f : (Int → Int) → Int} (h : Grow n n' x k f) (hn : NtOk n) {st : List Int} (hs : st.length = n.ss.length) (inp : Int) : ∀ i, i < n.cnt.toNat → (valsL n' st inp).getD i 0 = (valsL n st inp).getD i 0 := fun i hi => by
  obtain ⟨t, h1, h2⟩ := h.ext
  have hn' : NtOk (withG n n.gs) := hn
  have e1 : valsL n' st inp = valsL (withG n (n.gs ++ t)) st inp := by rw [← h1]; unfold valsL valL leafL withG; rw [h.ins]
  rw [e1]
  exact vals_ext hn' hs inp i hi
theorem Grow.keep {n n' : Nt} {x : Int} {k : Nat} {f : (Int → Int) → Int} (h : Grow n n' x k f) (hn : NtOk n) {st : List Int} (hs : st.length = n.ss.length) (inp : Int) {l : Int} (hl : LtOk l n.cnt) : bitL (valsL n' st inp) l = bitL (valsL n st inp) l := by
  have hc : 0 ≤ n.cnt := by have := hn.i0; show 0 ≤ 1 + n.ins + (n.ss.length : Int) + n.gs.length; omega
  exact bit_pre (m := n.cnt.toNat) (h.pre hn hs inp) hl.1 (by have := hl.2; omega)
theorem Grow.sok {n n' : Nt} {x : Int} {k : Nat} {f : (Int → Int) → Int} (h : Grow n n' x k f) {st : List Int} (hs : StOk n st) : StOk n' st := by
  have hl := vals_len h.ss
  refine ⟨by rw [hl]; exact hs.len, fun k hk => ?_⟩
  have h1 := hs.rng k (by omega)
  have h2 := vals_at h.ss (k := k) (by omega)
  simp only [Sq.val, Prod.mk.injEq] at h2
  rw [h2.1]; exact h1
section
variable {P : Program} {N : Nat} {w0 : World} {l l' : List HP} {env env' : List (Nat × Value)} {Q : Post} {o : Oper}
/-- a call of a function value that turns one part of the caller's memory -/
theorem hl_callMF {ops : Array Oper} {rest : List Oper} {d : Nat} {f : FuncId} {x : Operand} {xs : Array Operand} {ats : Array TypeId} {vs cs : List Value} {p : HP} {R : Value → HP → Prop} {ty : TypeId} {pos : String} {af : Array Edge} {gd : Option (Nat × Bool)} (i : Nat) (hN : Nat.blt d N = true) (hw : want ops env gd = some true)
    (hgo : goesB P f = true) (hx : ev env x = some (.func (.func f) #[] cs.toArray)) (hvs : evs env xs.toList = some vs) (hi : l[i]? = some p)
    (hc : ∀ L w, (∀ w, Mem w0 L w → Mem w0 (l.eraseIdx i) w) → Mem w0 (p :: L) w → Calls P f (vs ++ cs).toArray w fun e w' => ∃ v p', e = .returned v ∧ R v p' ∧ Mem w0 (p' :: L) w') (k : ∀ v p', R v p' → HL P N ops w0 (l.set i p') ((d, v) :: env) rest Q) : HL P N ops w0 l env ({ dst := some d, op := .call { callee := .value x, args := xs, argTypes := ats }, type := ty, pos := pos, after := af, guard := gd } :: rest) Q := fun a w st => wpList_step fun K hK => by
  have h1 := erase_perm l i p hi
  have hil : i < l.length := (List.getElem?_eq_some_iff.1 hi).1
  rw [if_pos (st.wanted hw)]
  unfold Oper.wp
  have h3 := evs_map st _ _ hvs
  have e1 : xs.map a.eval = vs.toArray := by apply Array.toList_inj.1; simpa using h3
  have h2 : (execOp a.eval { dst := some d, op := .call { callee := .value x, args := xs, argTypes := ats }, type := ty, pos := pos, after := af, guard := gd }).run P w = (callFunc f (vs ++ cs).toArray).run P w := by
    simp [execOp, resolve, Deferred.ofValue, invoke, st.eval hx, e1]
  rw [h2, run_go hgo, Oper.upon_enter]
  refine (hc (l.eraseIdx i) w (fun w h => h) (st.mem.perm h1)).mono fun e w' h => ?_
  obtain ⟨v, p', rfl, hR, hm'⟩ := h
  have h4 := erase_perm (l.set i p') i p' (List.getElem?_set_self hil)
  rw [List.eraseIdx_set_eq] at h4
  exact hK _ _ (k v p' hR _ _ (st.put hN (hm'.perm h4.symm)))
end
theorem flat_onesG {α : Type} (f : α → List Value) (xs : List α) (h : ∀ r u, u ∈ f r → u.oneCell' = true) : ∀ q ∈ xs.flatMap f, q.oneCell' = true := fun q hq => by
  obtain ⟨r, -, h2⟩ := List.mem_flatMap.1 hq
  exact h r q h2
theorem rv_buildM {P : Program} {N : Nat} {w0 : World} {l : List HP} {env : List (Nat × Value)} {o : Oper} {t : TypeId} {ps : Array (Nat × Operand)} {vs : List (Nat × Value)} {cs : Array Value} (ho : o.op = .build t ps)
    (hp : ps.toList.mapM (fun p => (ev env p.2).map fun v => (p.1, v)) = some vs) (hb : ∀ w, Mem w0 l w → P.built t vs = some cs) : RunV P N w0 l env o (.agg cs) := fun a w st => rv_build ho hp (hb w st.mem) a w st
theorem box_lt {w0 : World} {l : List HP} {b : Nat} {cs : Array Value} {t : TypeId} (i : Nat) (h : l[i]? = some (boxE b cs t)) {w : World} (hm : Mem w0 l w) : b < w.heap.size := (hm.new _ (mem_at h) b rfl).2
/-- what a function that adds a gate answers -/
def Added (n : Nt) (k : Nat) (f : (Int → Int) → Int) (v : Value) (post : List HP) : Prop := ∃ (n' : Nt) (x : Int), v = .tuple #[n'.agg, .int .i64 x] ∧ post = [ntE n'] ∧ (n'.sv.oneCell' = true ∧ n'.av.oneCell' = true ∧ n'.ov.oneCell' = true) ∧ Grow n n' x k f
/-- the cells of a copy's elements and roots read, whatever comes of its gates -/
theorem sq_reads {w0 : World} {L : List HP} {n : Nt} {i j : Nat} (hi : L[i]? = some (sqsE n.sv n.ss)) (hj : L[j]? = some (rowE 3 1 n.ov n.os.length (n.os.map (Value.int .i64)))) (w : World) (hm : Mem w0 L w) :
    RdsW w n.sv 3 n.ss.length (n.ss.flatMap sqC) ∧ (∀ s ∈ n.ss, RdsW w s.iv 1 s.xs.length (s.xs.map (Value.int .i64))) ∧ RdsW w n.ov 1 n.os.length (n.os.map (Value.int .i64)) := by
  obtain ⟨d1, -⟩ := hm.holds _ (mem_at hi)
  have e1 := (d1 _ (List.mem_cons_self)).2
  have e2 := (d1 _ (List.mem_cons_of_mem _ List.mem_cons_self)).2
  exact ⟨rdsW_own e2, fun s hs => rdsW_own (e1.1 (sqPart s) (List.mem_map.2 ⟨s, hs, rfl⟩)).2, rdsW_own (hm.holds _ (mem_at hj))⟩
set_option maxHeartbeats 4000000 in
theorem built_seq (x0 : Int) (x1 : Int) (x2 : Value) (h2 : x2.oneCell' = true) : Try.prog.built 83 [(0, .int .i64 x0), (1, .int .i64 x1), (2, x2)] = some #[.int .i64 x0, .int .i64 x1, x2] := by
  (cases x2 <;> first | (exact absurd h2 Bool.false_ne_true) | kernel_rfl)
set_option maxHeartbeats 4000000 in
theorem built_net (x0 : Int) (x1 : Value) (x2 : Value) (x3 : Value) (h1 : x1.oneCell' = true) (h2 : x2.oneCell' = true) (h3 : x3.oneCell' = true) : Try.prog.built 28 [(0, .int .i64 x0), (1, x1), (2, x2), (3, x3)] = some #[.int .i64 x0, x1, x2, x3] := by
  (cases x1 <;> first | (exact absurd h1 Bool.false_ne_true) | (cases x2 <;> first | (exact absurd h2 Bool.false_ne_true) | (cases x3 <;> first | (exact absurd h3 Bool.false_ne_true) | kernel_rfl)))
set_option maxHeartbeats 4000000 in
set_option maxRecDepth 100000 in
theorem copySeqs_ret (ss : List Sq) (v : Value) (w : World) (hv : RdsW w v 3 ss.length (ss.flatMap sqC)) (hx : ∀ s ∈ ss, RdsW w s.iv 1 s.xs.length (s.xs.map (Value.int .i64))) (hl : ss.length ≤ 12) (h4 : ∀ s ∈ ss, s.xs.length ≤ 4) :
  Calls Try.prog 148 #[v] w (Ret w (fun u_ p_ => ∃ zs : List Sq, p_ = [sqsE u_ zs] ∧ zs.map Sq.val = ss.map Sq.val)) := by
 refine calls_hc (N := 25) (args := [v]) Try.func148 rfl rfl ?_
 refine hc_less _ (sx 0 rfl (sub_nil _)) (.refl _) ?_
 refine hc_seq ?_
 refine hc_region ?_
 refine hl_v rfl rfl rfl (rv_ev rfl) ?_
 refine hl_less (sx 0 rfl (sx 2 rfl (sub_nil _))) (.refl _) ?_
 refine hl_nil ?_
 refine hq_then ?_
 refine hc_seq ?_
 refine hc_region ?_
 refine hl_nilRow 83 3 ?_
 refine hl_eqL (l' := [rowE 83 3 (.slice none 0 0) (([] : List Sq).length) (([] : List Sq).flatMap sqC)]) rfl ?_
 refine hl_v rfl rfl rfl (rv_ev rfl) ?_
 refine hl_less (sx 0 rfl (sx 2 rfl (sx 3 rfl (sub_nil _)))) (.refl _) ?_
 refine hl_nil ?_
 refine hq_then ?_
 refine hc_seq ?_
 refine hc_seq ?_
 refine hc_region ?_
 refine hl_v rfl rfl rfl (rv_ev rfl) ?_
 refine hl_v rfl rfl rfl (rv_len rfl Try.underlying24 rfl (rd_old hv)) ?_
 refine hl_v rfl rfl rfl (rv_ev rfl) ?_
 refine hl_less (sx 0 rfl (sx 2 rfl (sx 3 rfl (sx 6 rfl (sx 7 rfl (sx 8 rfl (sub_nil _))))))) (.refl _) ?_
 refine hl_nil ?_
 refine hq_then ?_
 refine hc_block ?_
 refine hc_conv [bigE (([] : List Sq).map sqPart), rowE 83 3 (.slice none 0 0) (([] : List Sq).length) (([] : List Sq).flatMap sqC)] (fun w hm => Mem.big (ps := []) hm) ?_
 refine hc_loop3 (α := Nat) (β := Value) (γ := List Sq) (fun i u zs => [bigE (zs.map sqPart), rowE 83 3 u zs.length (zs.flatMap sqC)]) (fun i u zs => [(0, v), (2, .slice none 0 0), (3, u), (6, v), (7, .int .i64 (ss.length : Int)), (8, .int .i64 (i : Int))]) (fun i u zs => i ≤ ss.length ∧ zs.map Sq.val = (ss.take i).map Sq.val) (fun i u zs => ss.length - i) 0 _ [] ⟨by omega, by simp⟩ (sx 0 rfl (sx 2 rfl (sx 3 rfl (sx 6 rfl (sx 7 rfl (sx 8 rfl (sub_nil _))))))) ((.cons_cons _ (.cons_cons _ .slnil))) ?_
 intro i u zs hi2
 obtain ⟨hi, hz⟩ := hi2
 have hzl : zs.length = i := by simpa [Nat.min_eq_left hi] using congrArg List.length hz
 refine hc_seq ?_
 refine hc_region ?_
 refine hl_lss rfl rfl rfl rfl rfl rfl (fun h3 => ?_) (fun h3 => ?_)
 ·
  refine hl_less (sx 0 rfl (sx 2 rfl (sx 3 rfl (sx 6 rfl (sx 7 rfl (sx 8 rfl (sx 9 rfl (sub_nil _)))))))) (.refl _) ?_
  refine hl_nil ?_
  refine hq_then ?_
  refine hc_seq ?_
  refine hc_true rfl ?_
  refine hc_skip ?_
  refine hq_then ?_
  refine hc_seq ?_
  refine hc_block ?_
  refine hc_seq ?_
  refine hc_region ?_
  refine hl_v rfl rfl rfl (rv_index (s := 3) rfl Try.underlying24 (by kernel_rfl) rfl rfl (rd_old hv) (by omega) (by first | omega | (simp only [List.length_set]; omega))) ?_
  refine hl_v rfl rfl rfl (rv_loadElN (us := [.int .i64 ((ss.getD i sq0).kd), .int .i64 ((ss.getD i sq0).it), (ss.getD i sq0).iv]) rfl (by kernel_rfl) (by kernel_rfl) rfl (rd_old hv) (by omega) rfl (flat_atN sqC 3 (fun _ => rfl) ss sq0 (show i < _ by first | omega | (simp only [List.length_set]; omega)) rfl)) ?_
  refine hl_box rfl rfl rfl (rq_alloc (z := .agg #[.int .i64 0, .int .i64 0, .slice none 0 0]) rfl (by kernel_rfl)) ?_
  intro b4
  refine hl_storeBoxN (i := 0) (off := 0) (us := [.int .i64 ((ss.getD i sq0).kd), .int .i64 ((ss.getD i sq0).it), (ss.getD i sq0).iv]) (l' := [boxE b4 #[.int .i64 ((ss.getD i sq0).kd), .int .i64 ((ss.getD i sq0).it), (ss.getD i sq0).iv] 83, bigE (zs.map sqPart), rowE 83 3 u zs.length (zs.flatMap sqC)]) rfl rfl rfl (by kernel_rfl) rfl rfl rfl (all_cons rfl (all_cons rfl (all_cons (hx _ (getD_memX (d := sq0) (show i < ss.length by omega))).one all_nil))) rfl rfl rfl ?_
  refine hl_less (sx 0 rfl (sx 2 rfl (sx 3 rfl (sx 5 rfl (sx 6 rfl (sx 7 rfl (sx 8 rfl (sx 9 rfl (sub_nil _))))))))) (.refl _) ?_
  refine hl_nil ?_
  refine hq_then ?_
  have h44 := h4 _ (getD_memX (d := sq0) (show i < ss.length by omega))
  refine hc_draw (by kernel_rfl) 10 [0, 1, 2, 3, 4, 5, 6, 7, 8, 9] (List.take 10 _) (List.drop 10 _) [[], [], [1], [], [3], [], [5], [6], [2, 4, 7], [7, 8]] [12, 13, 14, 15, 16, 17, 18, 19, 20, 21] (fun i_ vs_ v_ p_ => match i_ with | 0 => v_ = u ∧ p_ = [] | 1 => v_ = .pointer (some ⟨b4, 0 + 0, none⟩) ∧ p_ = [] | 2 => v_ = .int .i64 ((ss.getD i sq0).kd) ∧ p_ = [] | 3 => v_ = .pointer (some ⟨b4, 0 + 1, none⟩) ∧ p_ = [] | 4 => v_ = .int .i64 ((ss.getD i sq0).it) ∧ p_ = [] | 5 => v_ = .pointer (some ⟨b4, 0 + 2, none⟩) ∧ p_ = [] | 6 => v_ = (ss.getD i sq0).iv ∧ p_ = [] | 7 => (fun v' post => post = [rowE 3 1 v' ((ss.getD i sq0).xs).length (((ss.getD i sq0).xs).map (Value.int .i64))]) v_ p_ | 8 => v_ = .agg #[.int .i64 ((ss.getD i sq0).kd), .int .i64 ((ss.getD i sq0).it), (List.getD vs_ 2 undef)] ∧ p_ = [] | 9 => IsRow_o 83 3 1 ([.int .i64 ((ss.getD i sq0).kd), .int .i64 ((ss.getD i sq0).it), (List.getD vs_ 0 undef)]) v_ p_ | _ => True) (List.take_append_drop 10 _).symm (by kernel_rfl) (by kernel_rfl) rfl rfl ?_ ?_
  ·
   refine ⟨?_, ?_, ?_, ?_, ?_, ?_, ?_, ?_, ?_, ?_, trivial⟩
   ·
    intro vf pf hR
    refine Or.inl ⟨rfl, ?_⟩
    refine rq_less (sx 3 rfl (sub_nil _)) (List.sublist_append_right _ _) ?_
    exact rq_v (rv_ev rfl)
   ·
    intro vf pf hR
    refine Or.inl ⟨rfl, ?_⟩
    refine rq_less (sx 5 rfl (sub_nil _)) (List.sublist_append_right _ _) ?_
    exact rq_v (rv_field (k0 := 0) rfl (by kernel_rfl) rfl)
   ·
    intro vf pf hR
    have e1 : (vf 1) = .pointer (some ⟨b4, 0 + 0, none⟩) ∧ (pf 1) = [] := hR 1 (by decide)
    refine Or.inl ⟨rfl, ?_⟩
    refine rq_less (sx 13 (congrArg some e1.1) (sub_nil _)) (List.sublist_append_right _ _) ?_
    exact rq_v (rv_load rfl (by kernel_rfl) rfl (box_cell 0 rfl rfl))
   ·
    intro vf pf hR
    refine Or.inl ⟨rfl, ?_⟩
    refine rq_less (sx 5 rfl (sub_nil _)) (List.sublist_append_right _ _) ?_
    exact rq_v (rv_field (k0 := 1) rfl (by kernel_rfl) rfl)
   ·
    intro vf pf hR
    have e3 : (vf 3) = .pointer (some ⟨b4, 0 + 1, none⟩) ∧ (pf 3) = [] := hR 3 (by decide)
    refine Or.inl ⟨rfl, ?_⟩
    refine rq_less (sx 15 (congrArg some e3.1) (sub_nil _)) (List.sublist_append_right _ _) ?_
    exact rq_v (rv_load rfl (by kernel_rfl) rfl (box_cell 0 rfl rfl))
   ·
    intro vf pf hR
    refine Or.inl ⟨rfl, ?_⟩
    refine rq_less (sx 5 rfl (sub_nil _)) (List.sublist_append_right _ _) ?_
    exact rq_v (rv_field (k0 := 2) rfl (by kernel_rfl) rfl)
   ·
    intro vf pf hR
    have e5 : (vf 5) = .pointer (some ⟨b4, 0 + 2, none⟩) ∧ (pf 5) = [] := hR 5 (by decide)
    refine Or.inl ⟨rfl, ?_⟩
    refine rq_less (sx 17 (congrArg some e5.1) (sub_nil _)) (List.sublist_append_right _ _) ?_
    exact rq_v (rv_load rfl (by kernel_rfl) rfl (box_cell 0 rfl rfl))
   ·
    intro vf pf hR
    have e6 : (vf 6) = (ss.getD i sq0).iv ∧ (pf 6) = [] := hR 6 (by decide)
    refine Or.inl ⟨rfl, ?_⟩
    refine rq_less (sx 18 (congrArg some e6.1) (sub_nil _)) (List.sublist_append_right _ _) ?_
    exact rq_call (by kernel_rfl) rfl (fun w hm => copyIntsN_ret ((ss.getD i sq0).xs) _ w ((rd_old (hx _ (getD_memX (d := sq0) (by omega)))) w hm) (by omega))
   ·
    intro vf pf hR
    have e2 : (vf 2) = .int .i64 ((ss.getD i sq0).kd) ∧ (pf 2) = [] := hR 2 (by decide)
    have e4 : (vf 4) = .int .i64 ((ss.getD i sq0).it) ∧ (pf 4) = [] := hR 4 (by decide)
    have e7 : (fun v' post => post = [rowE 3 1 v' ((ss.getD i sq0).xs).length (((ss.getD i sq0).xs).map (Value.int .i64))]) (vf 7) (pf 7) := hR 7 (by decide)
    obtain ⟨v5, v7⟩ : ∃ x, vf 7 = x := ⟨_, rfl⟩
    obtain ⟨p6, p7⟩ : ∃ x, pf 7 = x := ⟨_, rfl⟩
    have hR7 := e7
    rw [v7, p7] at hR7
    subst hR7
    refine Or.inl ⟨rfl, ?_⟩
    refine rq_less (l' := [rowE 3 1 v5 (((ss.getD i sq0).xs).length) (((ss.getD i sq0).xs).map (Value.int .i64)), boxE b4 #[.int .i64 ((ss.getD i sq0).kd), .int .i64 ((ss.getD i sq0).it), (ss.getD i sq0).iv] 83, bigE (zs.map sqPart), rowE 83 3 u zs.length (zs.flatMap sqC)]) (sx 14 (congrArg some e2.1) (sx 16 (congrArg some e4.1) (sx 19 (congrArg some v7) (sub_nil _)))) (by first | (simp only [p7, v7, e2.2, e4.2, List.flatMap_cons, List.flatMap_nil, List.append_nil, List.nil_append, List.cons_append]; exact List.Sublist.refl _) | simp [p7, v7, e2.2, e4.2]) ?_
    exact rq_mono (rq_v (rv_buildM (cs := #[.int .i64 ((ss.getD i sq0).kd), .int .i64 ((ss.getD i sq0).it), v5]) rfl rfl (fun w hm => built_seq ((ss.getD i sq0).kd) ((ss.getD i sq0).it) v5 ((rd_row 0 rfl w hm).one)))) (fun _ _ h => ⟨h.1.trans (by show _ = (.agg #[.int .i64 ((ss.getD i sq0).kd), .int .i64 ((ss.getD i sq0).it), (vf 7)] : Value); first | (rw [v7]; done) | (rw [v7]; rfl)), h.2⟩)
   ·
    intro vf pf hR
    have e7 : (fun v' post => post = [rowE 3 1 v' ((ss.getD i sq0).xs).length (((ss.getD i sq0).xs).map (Value.int .i64))]) (vf 7) (pf 7) := hR 7 (by decide)
    obtain ⟨v5, v7⟩ : ∃ x, vf 7 = x := ⟨_, rfl⟩
    obtain ⟨p6, p7⟩ : ∃ x, pf 7 = x := ⟨_, rfl⟩
    have hR7 := e7
    rw [v7, p7] at hR7
    subst hR7
    have e8 : (vf 8) = .agg #[.int .i64 ((ss.getD i sq0).kd), .int .i64 ((ss.getD i sq0).it), (vf 7)] ∧ (pf 8) = [] := hR 8 (by decide)
    rw [v7] at e8
    refine Or.inl ⟨rfl, ?_⟩
    refine rq_less (l' := [rowE 3 1 v5 (((ss.getD i sq0).xs).length) (((ss.getD i sq0).xs).map (Value.int .i64)), boxE b4 #[.int .i64 ((ss.getD i sq0).kd), .int .i64 ((ss.getD i sq0).it), (ss.getD i sq0).iv] 83, bigE (zs.map sqPart), rowE 83 3 u zs.length (zs.flatMap sqC)]) (sx 20 (congrArg some e8.1) (sub_nil _)) (by first | (simp only [p7, v7, e8.2, List.flatMap_cons, List.flatMap_nil, List.append_nil, List.nil_append, List.cons_append]; exact List.Sublist.refl _) | simp [p7, v7, e8.2]) ?_
    exact rq_mono (rq_buildSlice (z := .agg #[.int .i64 0, .int .i64 0, .slice none 0 0]) (s := 3) (cs := [.int .i64 ((ss.getD i sq0).kd), .int .i64 ((ss.getD i sq0).it), v5]) rfl Try.underlying24 (by kernel_rfl) (by decide) rfl (by kernel_rfl) rfl) (fun v_ p_ h => by show IsRow_o 83 3 1 ([.int .i64 ((ss.getD i sq0).kd), .int .i64 ((ss.getD i sq0).it), (vf 7)]) v_ p_; rw [v7]; exact h)
  ·
   intro vf pf hR
   have e0 : (vf 0) = u ∧ (pf 0) = [] := hR 0 (by decide)
   have e7 : (fun v' post => post = [rowE 3 1 v' ((ss.getD i sq0).xs).length (((ss.getD i sq0).xs).map (Value.int .i64))]) (vf 7) (pf 7) := hR 7 (by decide)
   obtain ⟨v5, v7⟩ : ∃ x, vf 7 = x := ⟨_, rfl⟩
   obtain ⟨p6, p7⟩ : ∃ x, pf 7 = x := ⟨_, rfl⟩
   have hR7 := e7
   rw [v7, p7] at hR7
   subst hR7
   have e9 : IsRow_o 83 3 1 ([.int .i64 ((ss.getD i sq0).kd), .int .i64 ((ss.getD i sq0).it), (vf 7)]) (vf 9) (pf 9) := hR 9 (by decide)
   rw [v7] at e9
   obtain ⟨g8, v9, p9⟩ := e9
   have q0 : (vf 0) = u ∧ (pf 0) = [] := hR 0 (by decide)
   have q1 : (vf 1) = .pointer (some ⟨b4, 0 + 0, none⟩) ∧ (pf 1) = [] := hR 1 (by decide)
   have q2 : (vf 2) = .int .i64 ((ss.getD i sq0).kd) ∧ (pf 2) = [] := hR 2 (by decide)
   have q3 : (vf 3) = .pointer (some ⟨b4, 0 + 1, none⟩) ∧ (pf 3) = [] := hR 3 (by decide)
   have q4 : (vf 4) = .int .i64 ((ss.getD i sq0).it) ∧ (pf 4) = [] := hR 4 (by decide)
   have q5 : (vf 5) = .pointer (some ⟨b4, 0 + 2, none⟩) ∧ (pf 5) = [] := hR 5 (by decide)
   have q6 : (vf 6) = (ss.getD i sq0).iv ∧ (pf 6) = [] := hR 6 (by decide)
   have q8 : (vf 8) = .agg #[.int .i64 ((ss.getD i sq0).kd), .int .i64 ((ss.getD i sq0).it), (vf 7)] ∧ (pf 8) = [] := hR 8 (by decide)
   refine hl_less (l' := [rowE 3 1 v5 (((ss.getD i sq0).xs).length) (((ss.getD i sq0).xs).map (Value.int .i64)), rowE 83 3 (.slice (some ⟨g8, 0, none⟩) 1 1) 1 ([.int .i64 ((ss.getD i sq0).kd), .int .i64 ((ss.getD i sq0).it), v5]), boxE b4 #[.int .i64 ((ss.getD i sq0).kd), .int .i64 ((ss.getD i sq0).it), (ss.getD i sq0).iv] 83, bigE (zs.map sqPart), rowE 83 3 u zs.length (zs.flatMap sqC)]) (sx 0 rfl (sx 2 rfl (sx 3 rfl (sx 5 rfl (sx 6 rfl (sx 7 rfl (sx 8 rfl (sx 9 rfl (sx 12 (congrArg some e0.1) (sx 21 (congrArg some v9) (sub_nil _))))))))))) (by first | (simp only [p7, v7, p9, v9, q0.2, q1.2, q2.2, q3.2, q4.2, q5.2, q6.2, q8.2, List.flatMap_cons, List.flatMap_nil, List.append_nil, List.nil_append, List.cons_append]; exact List.Sublist.refl _) | simp [p7, v7, p9, v9, q0.2, q1.2, q2.2, q3.2, q4.2, q5.2, q6.2, q8.2]) ?_
   simp only [List.drop_succ_cons, List.drop_zero]
   refine hl_one (i := 0) rfl (fun ho9 => ?_)
   refine hl_append (i := 4) (z := .agg #[.int .i64 0, .int .i64 0, .slice none 0 0]) (bytes := 40) (n' := (zs ++ [(Sq.mk ((ss.getD i sq0).kd) ((ss.getD i sq0).it) v5 ((ss.getD i sq0).xs))]).length) (xs' := ((zs ++ [(Sq.mk ((ss.getD i sq0).kd) ((ss.getD i sq0).it) v5 ((ss.getD i sq0).xs))]).flatMap sqC)) (L := fun v10 => [rowE 3 1 v5 (((ss.getD i sq0).xs).length) (((ss.getD i sq0).xs).map (Value.int .i64)), rowE 83 3 (.slice (some ⟨g8, 0, none⟩) 1 1) 1 ([.int .i64 ((ss.getD i sq0).kd), .int .i64 ((ss.getD i sq0).it), v5]), boxE b4 #[.int .i64 ((ss.getD i sq0).kd), .int .i64 ((ss.getD i sq0).it), (ss.getD i sq0).iv] 83, bigE (zs.map sqPart), rowE 83 3 v10 ((zs ++ [(Sq.mk ((ss.getD i sq0).kd) ((ss.getD i sq0).it) v5 ((ss.getD i sq0).xs))]).length) ((zs ++ [(Sq.mk ((ss.getD i sq0).kd) ((ss.getD i sq0).it) v5 ((ss.getD i sq0).xs))]).flatMap sqC)]) rfl rfl rfl rfl Try.underlying24 (by kernel_rfl) (by kernel_rfl) rfl rfl rfl (rd_row 1 rfl) (all_cons rfl (all_cons rfl (all_cons ho9 all_nil))) (by first | omega | (simp only [List.length_append, List.length_cons, List.length_nil]; omega)) (len_app zs [(Sq.mk ((ss.getD i sq0).kd) ((ss.getD i sq0).it) v5 ((ss.getD i sq0).xs))]) (flat_app1 sqC zs (Sq.mk ((ss.getD i sq0).kd) ((ss.getD i sq0).it) v5 ((ss.getD i sq0).xs)) _ rfl) (fun _ => rfl) ?_
   intro v10
   refine hl_v rfl rfl rfl (rv_ev rfl) ?_
   refine hl_less (sx 0 rfl (sx 2 rfl (sx 3 rfl (sx 5 rfl (sx 6 rfl (sx 7 rfl (sx 8 rfl (sx 9 rfl (sub_nil _))))))))) (.refl _) ?_
   refine hl_nil ?_
   refine hq_block_normal ?_
   refine hq_then ?_
   refine hc_region ?_
   refine hl_v rfl rfl rfl (rv_add rfl rfl rfl (by constructor <;> omega)) ?_
   refine hl_v rfl rfl rfl (rv_ev rfl) ?_
   refine hl_less (sx 0 rfl (sx 2 rfl (sx 3 rfl (sx 5 rfl (sx 6 rfl (sx 7 rfl (sx 8 rfl (sx 9 rfl (sub_nil _))))))))) (.refl _) ?_
   refine hl_nil ?_
   refine hq_conv [bigE (zs.map sqPart), rowE 3 1 v5 (((ss.getD i sq0).xs).length) (((ss.getD i sq0).xs).map (Value.int .i64)), rowE 83 3 (.slice (some ⟨g8, 0, none⟩) 1 1) 1 ([.int .i64 ((ss.getD i sq0).kd), .int .i64 ((ss.getD i sq0).it), v5]), boxE b4 #[.int .i64 ((ss.getD i sq0).kd), .int .i64 ((ss.getD i sq0).it), (ss.getD i sq0).iv] 83, rowE 83 3 v10 ((zs ++ [(Sq.mk ((ss.getD i sq0).kd) ((ss.getD i sq0).it) v5 ((ss.getD i sq0).xs))]).length) ((zs ++ [(Sq.mk ((ss.getD i sq0).kd) ((ss.getD i sq0).it) v5 ((ss.getD i sq0).xs))]).flatMap sqC)] (conv_pick (src := [rowE 3 1 v5 (((ss.getD i sq0).xs).length) (((ss.getD i sq0).xs).map (Value.int .i64)), rowE 83 3 (.slice (some ⟨g8, 0, none⟩) 1 1) 1 ([.int .i64 ((ss.getD i sq0).kd), .int .i64 ((ss.getD i sq0).it), v5]), boxE b4 #[.int .i64 ((ss.getD i sq0).kd), .int .i64 ((ss.getD i sq0).it), (ss.getD i sq0).iv] 83, bigE (zs.map sqPart), rowE 83 3 v10 ((zs ++ [(Sq.mk ((ss.getD i sq0).kd) ((ss.getD i sq0).it) v5 ((ss.getD i sq0).xs))]).length) ((zs ++ [(Sq.mk ((ss.getD i sq0).kd) ((ss.getD i sq0).it) v5 ((ss.getD i sq0).xs))]).flatMap sqC)]) (dst := [bigE (zs.map sqPart), rowE 3 1 v5 (((ss.getD i sq0).xs).length) (((ss.getD i sq0).xs).map (Value.int .i64)), rowE 83 3 (.slice (some ⟨g8, 0, none⟩) 1 1) 1 ([.int .i64 ((ss.getD i sq0).kd), .int .i64 ((ss.getD i sq0).it), v5]), boxE b4 #[.int .i64 ((ss.getD i sq0).kd), .int .i64 ((ss.getD i sq0).it), (ss.getD i sq0).iv] 83, rowE 83 3 v10 ((zs ++ [(Sq.mk ((ss.getD i sq0).kd) ((ss.getD i sq0).it) v5 ((ss.getD i sq0).xs))]).length) ((zs ++ [(Sq.mk ((ss.getD i sq0).kd) ((ss.getD i sq0).it) v5 ((ss.getD i sq0).xs))]).flatMap sqC)]) (l := []) [3, 0, 1, 2, 4] (by decide) rfl) ?_
   refine hq_conv [bigE ((zs ++ [(Sq.mk ((ss.getD i sq0).kd) ((ss.getD i sq0).it) v5 ((ss.getD i sq0).xs))]).map sqPart), rowE 83 3 (.slice (some ⟨g8, 0, none⟩) 1 1) 1 ([.int .i64 ((ss.getD i sq0).kd), .int .i64 ((ss.getD i sq0).it), v5]), boxE b4 #[.int .i64 ((ss.getD i sq0).kd), .int .i64 ((ss.getD i sq0).it), (ss.getD i sq0).iv] 83, rowE 83 3 v10 ((zs ++ [(Sq.mk ((ss.getD i sq0).kd) ((ss.getD i sq0).it) v5 ((ss.getD i sq0).xs))]).length) ((zs ++ [(Sq.mk ((ss.getD i sq0).kd) ((ss.getD i sq0).it) v5 ((ss.getD i sq0).xs))]).flatMap sqC)] (fun w hm => by rw [List.map_append]; exact conv_snocX w hm) ?_
   exact hq_round3 (i + 1) v10 (zs ++ [(Sq.mk ((ss.getD i sq0).kd) ((ss.getD i sq0).it) v5 ((ss.getD i sq0).xs))]) ⟨by omega, by rw [List.map_append, hz, take_snocG sq0 (show i < ss.length by omega), List.map_append]; rfl⟩ (by omega) (sx 0 rfl (sx 2 rfl (sx 3 rfl (sx 6 rfl (sx 7 rfl (sx 8 rfl (sub_nil _))))))) ((.cons_cons _ (.cons _ (.cons _ (.cons_cons _ .slnil)))))
 ·
  refine hl_less (sx 0 rfl (sx 2 rfl (sx 3 rfl (sx 6 rfl (sx 7 rfl (sx 8 rfl (sx 9 rfl (sub_nil _)))))))) (.refl _) ?_
  refine hl_nil ?_
  refine hq_then ?_
  refine hc_seq ?_
  refine hc_false rfl ?_
  refine hc_exit ?_
  refine hq_then_exit ?_
  refine hq_then_exit ?_
  refine hq_block_exit ?_
  refine hq_then ?_
  refine hc_seq ?_
  refine hc_region ?_
  refine hl_v rfl rfl rfl (rv_ev rfl) ?_
  refine hl_v rfl rfl rfl (rv_ev rfl) ?_
  refine hl_less (sx 0 rfl (sx 2 rfl (sx 3 rfl (sx 6 rfl (sx 7 rfl (sx 8 rfl (sx 9 rfl (sub_nil _)))))))) (.refl _) ?_
  refine hl_nil ?_
  refine hq_then ?_
  refine hc_ret ?_
  refine hq_conv [bigE (zs.map sqPart), rowE 83 3 u zs.length (zs.flatMap sqC)] (conv_pick (src := [bigE (zs.map sqPart), rowE 83 3 u zs.length (zs.flatMap sqC)]) (dst := [bigE (zs.map sqPart), rowE 83 3 u zs.length (zs.flatMap sqC)]) (l := []) [0, 1] (by decide) rfl) ?_
  refine hq_conv [sqsE u zs] (conv_big (ps := [bigE (zs.map sqPart), rowE 83 3 u zs.length (zs.flatMap sqC)])) ?_
  exact hq_retR (post := [sqsE u zs]) rfl rfl (.refl _) ⟨zs, rfl, by rw [hz, show i = ss.length by omega, List.take_length]⟩
theorem sqs_one {w0 : World} {l : List HP} {i : Nat} {v : Value} {es : List Sq} (hi : l[i]? = some (sqsE v es)) (w : World) (hm : Mem w0 l w) : v.oneCell' = true := by
  obtain ⟨b1, -⟩ := hm.holds _ (mem_at hi)
  exact (rdsW_own (b1 _ (List.mem_cons_of_mem _ List.mem_cons_self)).2).one
section
variable {P : Program} {N : Nat} {w0 : World} {l l' : List HP} {env : List (Nat × Value)} {Q : Post} {ops : Array Oper} {rest : List Oper}
theorem hl_sqs {i : Nat} {v : Value} {es : List Sq} (hi : l[i]? = some (sqsE v es)) (k : v.oneCell' = true → HL P N ops w0 l env rest Q) : HL P N ops w0 l env rest Q := hl_know (sqs_one hi) k
end
set_option maxHeartbeats 4000000 in
set_option maxRecDepth 100000 in
theorem copyNet_ret (n : Nt) (w : World) (hr : RdsNt w n) (hn : NtOk n) :
  Calls Try.prog 98 #[.agg #[.int .i64 n.ins, n.sv, n.av, n.ov]] w (Ret w (fun v_ p_ => ∃ n2 : Nt, v_ = n2.agg ∧ p_ = [sqsE n2.sv n2.ss, rowE 80 2 n2.av n2.gs.length (n2.gs.flatMap anC), rowE 3 1 n2.ov n2.os.length (n2.os.map (Value.int .i64))] ∧ Like n n2)) := by
 have hi0 := hn.i0
 have hi1 := hn.i1
 have hs1 := hn.s1
 have ha1 := hn.a1
 have ho1 := hn.o1
 have hcnt : n.cnt = 1 + n.ins + n.ss.length + n.gs.length := rfl
 have hfst : n.fst = 1 + n.ins + n.ss.length := rfl
 refine calls_hc (N := 16) (args := [.agg #[.int .i64 n.ins, n.sv, n.av, n.ov]]) Try.func98 rfl rfl ?_
 refine hc_less _ (sx 0 rfl (sub_nil _)) (.refl _) ?_
 refine hc_seq ?_
 refine hc_region ?_
 refine hl_box rfl rfl rfl (rq_box rfl rfl) ?_
 intro b1
 refine hl_box rfl rfl rfl (rq_alloc (z := .agg #[.int .i64 0, .slice none 0 0, .slice none 0 0, .slice none 0 0]) rfl (by kernel_rfl)) ?_
 intro b2
 refine hl_less (sx 0 rfl (sx 1 rfl (sx 2 rfl (sub_nil _)))) (.refl _) ?_
 refine hl_nil ?_
 refine hq_then ?_
 refine hc_seq ?_
 refine hc_draw3 (l := [boxE b2 #[.int .i64 0, .slice none 0 0, .slice none 0 0, .slice none 0 0] 28, boxE b1 #[.int .i64 n.ins, n.sv, n.av, n.ov] 28]) (by kernel_rfl) 12 [0, 1, 2, 3, 4, 5, 6, 7, 8, 9, 10, 11] (List.take 12 _) (List.drop 12 _) [[], [0], [], [2], [3], [], [], [6], [5, 7], [], [9], [10]] [some 3, some 4, some 5, some 6, some 7, some 8, some 9, some 10, some 11, some 12, some 13, some 14] (fun i_ vs_ v_ p_ => match i_ with | 0 => v_ = .pointer (some ⟨b1, 0 + 0, none⟩) ∧ p_ = [] | 1 => v_ = .int .i64 n.ins ∧ p_ = [] | 2 => v_ = .pointer (some ⟨b1, 0 + 1, none⟩) ∧ p_ = [] | 3 => v_ = n.sv ∧ p_ = [] | 4 => (fun u_ p_ => ∃ zs : List Sq, p_ = [sqsE u_ zs] ∧ zs.map Sq.val = n.ss.map Sq.val) v_ p_ | 5 => IsRow_o 80 2 0 ([]) v_ p_ | 6 => v_ = .pointer (some ⟨b1, 0 + 2, none⟩) ∧ p_ = [] | 7 => v_ = n.av ∧ p_ = [] | 8 => (∃ pm_, p_ = [pm_] ∧ (fun u_ p_ => p_ = rowE 80 2 u_ n.gs.length (n.gs.flatMap anC)) v_ pm_) | 9 => v_ = .pointer (some ⟨b1, 0 + 3, none⟩) ∧ p_ = [] | 10 => v_ = n.ov ∧ p_ = [] | 11 => (fun v' post => post = [rowE 3 1 v' (n.os).length ((n.os).map (Value.int .i64))]) v_ p_ | _ => True) [[], [0], [], [2], [3], [], [], [6], [7], [], [9], [10]] [none, none, none, none, none, none, none, none, some 5, none, none, none] [] [0, 1, 2, 3, 4, 6, 7, 8, 9, 10, 11] 14 (List.take_append_drop 12 _).symm (by kernel_rfl) (by kernel_rfl) (by kernel_rfl) rfl rfl ?_ ?_
 ·
  refine ⟨?_, ?_, ?_, ?_, ?_, ?_, ?_, ?_, ?_, ?_, ?_, ?_, trivial⟩
  ·
   intro vf pf hmu hR
   refine Or.inl ⟨rfl, ?_⟩
   show RunQ _ _ _ (([] : List Nat).flatMap pf ++ _) (envOf3 _ vf [] ++ _) _ _
   refine rq_less (sx 1 rfl (sub_nil _)) (List.sublist_append_right _ _) ?_
   exact rq_v (rv_field (k0 := 0) rfl (by kernel_rfl) rfl)
  ·
   intro vf pf hmu hR
   have e0 : (vf 0) = .pointer (some ⟨b1, 0 + 0, none⟩) ∧ (pf 0) = [] := hR 0 (by decide)
   refine Or.inl ⟨rfl, ?_⟩
   show RunQ _ _ _ (([0] : List Nat).flatMap pf ++ _) (envOf3 _ vf [0] ++ _) _ _
   refine rq_less (sx 3 (congrArg some e0.1) (sub_nil _)) (List.sublist_append_right _ _) ?_
   exact rq_v (rv_load rfl (by kernel_rfl) rfl (box_cell 1 rfl rfl))
  ·
   intro vf pf hmu hR
   refine Or.inl ⟨rfl, ?_⟩
   show RunQ _ _ _ (([] : List Nat).flatMap pf ++ _) (envOf3 _ vf [] ++ _) _ _
   refine rq_less (sx 1 rfl (sub_nil _)) (List.sublist_append_right _ _) ?_
   exact rq_v (rv_field (k0 := 1) rfl (by kernel_rfl) rfl)
  ·
   intro vf pf hmu hR
   have e2 : (vf 2) = .pointer (some ⟨b1, 0 + 1, none⟩) ∧ (pf 2) = [] := hR 2 (by decide)
   refine Or.inl ⟨rfl, ?_⟩
   show RunQ _ _ _ (([2] : List Nat).flatMap pf ++ _) (envOf3 _ vf [2] ++ _) _ _
   refine rq_less (sx 5 (congrArg some e2.1) (sub_nil _)) (List.sublist_append_right _ _) ?_
   exact rq_v (rv_load rfl (by kernel_rfl) rfl (box_cell 1 rfl rfl))
  ·
   intro vf pf hmu hR
   have e3 : (vf 3) = n.sv ∧ (pf 3) = [] := hR 3 (by decide)
   refine Or.inl ⟨rfl, ?_⟩
   show RunQ _ _ _ (([3] : List Nat).flatMap pf ++ _) (envOf3 _ vf [3] ++ _) _ _
   refine rq_less (sx 6 (congrArg some e3.1) (sub_nil _)) (List.sublist_append_right _ _) ?_
   exact rq_call (by kernel_rfl) rfl (fun w hm => copySeqs_ret n.ss _ w (hr.sq.below hm.bel) (fun s hs => (hr.xs s hs).below hm.bel) hs1 (fun s hs => (hn.sq s hs).len))
  ·
   intro vf pf hmu hR
   refine Or.inl ⟨rfl, ?_⟩
   show RunQ _ _ _ (([] : List Nat).flatMap pf ++ _) (envOf3 _ vf [] ++ _) _ _
   refine rq_less (sub_nil _) (List.sublist_append_right _ _) ?_
   exact rq_slice0 (s := 2) rfl Try.underlying25 (by kernel_rfl)
  ·
   intro vf pf hmu hR
   refine Or.inl ⟨rfl, ?_⟩
   show RunQ _ _ _ (([] : List Nat).flatMap pf ++ _) (envOf3 _ vf [] ++ _) _ _
   refine rq_less (sx 1 rfl (sub_nil _)) (List.sublist_append_right _ _) ?_
   exact rq_v (rv_field (k0 := 2) rfl (by kernel_rfl) rfl)
  ·
   intro vf pf hmu hR
   have e6 : (vf 6) = .pointer (some ⟨b1, 0 + 2, none⟩) ∧ (pf 6) = [] := hR 6 (by decide)
   refine Or.inl ⟨rfl, ?_⟩
   show RunQ _ _ _ (([6] : List Nat).flatMap pf ++ _) (envOf3 _ vf [6] ++ _) _ _
   refine rq_less (sx 9 (congrArg some e6.1) (sub_nil _)) (List.sublist_append_right _ _) ?_
   exact rq_v (rv_load rfl (by kernel_rfl) rfl (box_cell 1 rfl rfl))
  ·
   intro vf pf hmu hR
   have e5 : IsRow_o 80 2 0 ([]) (vf 5) (pf 5) := hR 5 (by decide)
   obtain ⟨g6, v5, p5⟩ := e5
   have e7 : (vf 7) = n.av ∧ (pf 7) = [] := hR 7 (by decide)
   refine Or.inl ⟨rfl, ?_⟩
   show RunM _ _ _ (pf 5) (([7] : List Nat).flatMap pf ++ _) (envOf3 _ vf [5, 7] ++ _) _ _
   rw [p5]; rw [v5]
   refine rm_less (X' := [boxE b2 #[.int .i64 0, .slice none 0 0, .slice none 0 0, .slice none 0 0] 28, boxE b1 #[.int .i64 n.ins, n.sv, n.av, n.ov] 28]) (sx 8 (congrArg some v5) (sx 10 (congrArg some e7.1) (sub_nil _))) (by first | (simp only [e7.2, List.flatMap_cons, List.flatMap_nil, List.append_nil, List.nil_append, List.cons_append]; exact List.Sublist.refl _) | simp [e7.2]) ?_
   exact rm_append (d := 0) (z := .agg #[.int .i64 0, .int .i64 0]) (bytes := 16) (n' := n.gs.length) (xs' := (n.gs.flatMap anC)) rfl Try.underlying25 (by kernel_rfl) (by kernel_rfl) rfl rfl (rd_old hr.an) (flat_onesG anC n.gs (fun r u hu => by simp [anC] at hu; first | (subst hu; rfl) | (rcases hu with rfl | rfl <;> rfl))) (by omega) (Nat.zero_add _) (List.nil_append _)
  ·
   intro vf pf hmu hR
   refine Or.inl ⟨rfl, ?_⟩
   show RunQ _ _ _ (([] : List Nat).flatMap pf ++ _) (envOf3 _ vf [] ++ _) _ _
   refine rq_less (sx 1 rfl (sub_nil _)) (List.sublist_append_right _ _) ?_
   exact rq_v (rv_field (k0 := 3) rfl (by kernel_rfl) rfl)
  ·
   intro vf pf hmu hR
   have e9 : (vf 9) = .pointer (some ⟨b1, 0 + 3, none⟩) ∧ (pf 9) = [] := hR 9 (by decide)
   refine Or.inl ⟨rfl, ?_⟩
   show RunQ _ _ _ (([9] : List Nat).flatMap pf ++ _) (envOf3 _ vf [9] ++ _) _ _
   refine rq_less (sx 12 (congrArg some e9.1) (sub_nil _)) (List.sublist_append_right _ _) ?_
   exact rq_v (rv_load rfl (by kernel_rfl) rfl (box_cell 1 rfl rfl))
  ·
   intro vf pf hmu hR
   have e10 : (vf 10) = n.ov ∧ (pf 10) = [] := hR 10 (by decide)
   refine Or.inl ⟨rfl, ?_⟩
   show RunQ _ _ _ (([10] : List Nat).flatMap pf ++ _) (envOf3 _ vf [10] ++ _) _ _
   refine rq_less (sx 13 (congrArg some e10.1) (sub_nil _)) (List.sublist_append_right _ _) ?_
   exact rq_call (by kernel_rfl) rfl (fun w hm => copyIntsN_ret n.os _ w ((rd_old hr.ou) w hm) (by omega))
 ·
  intro vf pf hmu hR
  have e1 : (vf 1) = .int .i64 n.ins ∧ (pf 1) = [] := hR 1 (by decide)
  have e4 : (fun u_ p_ => ∃ zs : List Sq, p_ = [sqsE u_ zs] ∧ zs.map Sq.val = n.ss.map Sq.val) (vf 4) (pf 4) := hR 4 (by decide)
  obtain ⟨v3, v4⟩ : ∃ x, vf 4 = x := ⟨_, rfl⟩
  obtain ⟨p4, p4⟩ : ∃ x, pf 4 = x := ⟨_, rfl⟩
  have hR5 := e4
  rw [v4, p4] at hR5
  obtain ⟨zhR5, rfl, chR5⟩ := hR5
  have e5 : IsRow_o 80 2 0 ([]) (vf 5) (pf 5) := hR 5 (by decide)
  obtain ⟨g6, v5, p5⟩ := e5
  have e8 : (∃ pm_, (pf 8) = [pm_] ∧ (fun u_ p_ => p_ = rowE 80 2 u_ n.gs.length (n.gs.flatMap anC)) (vf 8) pm_) := hR 8 (by decide)
  obtain ⟨p8, p8, hR9⟩ := e8
  obtain ⟨v7, v8⟩ : ∃ x, vf 8 = x := ⟨_, rfl⟩
  rw [v8] at hR9
  subst hR9
  have e11 : (fun v' post => post = [rowE 3 1 v' (n.os).length ((n.os).map (Value.int .i64))]) (vf 11) (pf 11) := hR 11 (by decide)
  obtain ⟨v10, v11⟩ : ∃ x, vf 11 = x := ⟨_, rfl⟩
  obtain ⟨p11, p11⟩ : ∃ x, pf 11 = x := ⟨_, rfl⟩
  have hR12 := e11
  rw [v11, p11] at hR12
  subst hR12
  have q0 : (vf 0) = .pointer (some ⟨b1, 0 + 0, none⟩) ∧ (pf 0) = [] := hR 0 (by decide)
  have q1 : (vf 1) = .int .i64 n.ins ∧ (pf 1) = [] := hR 1 (by decide)
  have q2 : (vf 2) = .pointer (some ⟨b1, 0 + 1, none⟩) ∧ (pf 2) = [] := hR 2 (by decide)
  have q3 : (vf 3) = n.sv ∧ (pf 3) = [] := hR 3 (by decide)
  have q6 : (vf 6) = .pointer (some ⟨b1, 0 + 2, none⟩) ∧ (pf 6) = [] := hR 6 (by decide)
  have q7 : (vf 7) = n.av ∧ (pf 7) = [] := hR 7 (by decide)
  have q9 : (vf 9) = .pointer (some ⟨b1, 0 + 3, none⟩) ∧ (pf 9) = [] := hR 9 (by decide)
  have q10 : (vf 10) = n.ov ∧ (pf 10) = [] := hR 10 (by decide)
  refine hl_less (l' := [sqsE v3 zhR5, rowE 80 2 v7 n.gs.length (n.gs.flatMap anC), rowE 3 1 v10 n.os.length (n.os.map (Value.int .i64)), boxE b2 #[.int .i64 0, .slice none 0 0, .slice none 0 0, .slice none 0 0] 28, boxE b1 #[.int .i64 n.ins, n.sv, n.av, n.ov] 28]) (sx 0 rfl (sx 1 rfl (sx 2 rfl (sx 4 (congrArg some e1.1) (sx 7 (congrArg some v4) (sx 11 (congrArg some v8) (sx 14 (congrArg some v11) (sub_nil _)))))))) (by first | (simp only [p4, v4, p8, v8, p11, v11, q0.2, q1.2, q2.2, q3.2, q6.2, q7.2, q9.2, q10.2, List.flatMap_cons, List.flatMap_nil, List.append_nil, List.nil_append, List.cons_append]; exact List.Sublist.refl _) | simp [p4, v4, p8, v8, p11, v11, q0.2, q1.2, q2.2, q3.2, q6.2, q7.2, q9.2, q10.2]) ?_
  simp only [List.drop_succ_cons, List.drop_zero]
  refine hl_v rfl rfl rfl (rv_buildM (cs := #[.int .i64 n.ins, v3, v7, v10]) rfl rfl (fun w hm => built_net n.ins v3 v7 v10 (sqs_one (i := 0) rfl w hm) ((rd_row 1 rfl w hm).one) ((rd_row 2 rfl w hm).one))) ?_
  refine hl_one (i := 2) rfl (fun ho13 => ?_)
  refine hl_one (i := 1) rfl (fun ho14 => ?_)
  refine hl_sqs (i := 0) rfl (fun ho15 => ?_)
  refine hl_storeBoxN (i := 3) (off := 0) (us := [.int .i64 n.ins, v3, v7, v10]) (l' := [sqsE v3 zhR5, rowE 80 2 v7 n.gs.length (n.gs.flatMap anC), rowE 3 1 v10 n.os.length (n.os.map (Value.int .i64)), boxE b2 #[.int .i64 n.ins, v3, v7, v10] 28, boxE b1 #[.int .i64 n.ins, n.sv, n.av, n.ov] 28]) rfl rfl rfl (by kernel_rfl) rfl rfl rfl (all_cons rfl (all_cons ho15 (all_cons ho14 (all_cons ho13 all_nil)))) rfl rfl rfl ?_
  refine hl_less (sx 0 rfl (sx 1 rfl (sx 2 rfl (sub_nil _)))) (.refl _) ?_
  refine hl_nil ?_
  refine hq_then ?_
  refine hc_ret ?_
  exact hq_retM (rs := [.cell 2 28]) (vs := [.agg #[.int .i64 n.ins, v3, v7, v10]]) (post := [sqsE v3 zhR5, rowE 80 2 v7 n.gs.length (n.gs.flatMap anC), rowE 3 1 v10 n.os.length (n.os.map (Value.int .i64))]) rfl ⟨⟨b2, 0, [.int .i64 n.ins, v3, v7, v10], rfl, rfl, by kernel_rfl, by kernel_rfl, box_part 3 rfl 0 rfl⟩, trivial⟩ rfl ((.cons_cons _ (.cons_cons _ (.cons_cons _ (.cons _ (.cons _ .slnil)))))) ⟨Nt.mk n.ins v3 v7 v10 zhR5 n.gs n.os, rfl, rfl, ⟨rfl, by simp, rfl, chR5⟩⟩
open Go.RowKit
theorem Like.lit {n n' : Nt} (h : Like n n') {l : Int} (hl : LtOk l n.cnt) : LtOk l (n'.fst + n'.gs.length) := by
  have : n'.fst + (n'.gs.length : Int) = n.cnt := h.cnt
  rw [this]; exact hl
theorem lits2 {m x y : Int} (hx : LtOk x m) (hy : LtOk y m) : ∀ q, q < [x, y].length → LtOk ([x, y].getD q 0) m := fun q hq => by
  match q, hq with
  | 0, _ => exact hx
  | 1, _ => exact hy
theorem lits3 {m t x y : Int} (ht : LtOk t m) (hx : LtOk x m) (hy : LtOk y m) : ∀ q, q < [t, x, y].length → LtOk ([t, x, y].getD q 0) m := fun q hq => by
  match q, hq with
  | 0, _ => exact ht
  | 1, _ => exact hx
  | 2, _ => exact hy
set_option maxHeartbeats 4000000 in
set_option maxRecDepth 100000 in
theorem adding_ret (n : Nt) (ls : List Int) (lv : Value) (F : FuncId) (cs : List Value) (k : Nat) (f : (Int → Int) → Int) (w : World) (hr : RdsNt w n) (hn : NtOk n) (hlv : RdsW w lv 1 ls.length (ls.map (Value.int .i64))) (hls : ∀ q, q < ls.length → LtOk (ls.getD q 0) n.cnt) (hll : ls.length ≤ 100) (hgo : goesB Try.prog F = true) (hadd : ∀ (b : Nat) (n2 : Nt) (L : List HP) (w1 : World), Like n n2 → Mem w (netP b n2 n2.av n2.gs :: L) w1 → (∀ w2, Mem w L w2 → (RdsW w2 n2.sv 3 n2.ss.length (n2.ss.flatMap sqC) ∧ (∀ s ∈ n2.ss, RdsW w2 s.iv 1 s.xs.length (s.xs.map (Value.int .i64))) ∧ RdsW w2 n2.ov 1 n2.os.length (n2.os.map (Value.int .i64)))) → (n2.sv.oneCell' = true ∧ n2.ov.oneCell' = true) → Calls Try.prog F ([Value.pointer (some ⟨b, 0, none⟩)] ++ cs).toArray w1 (fun e_ w_ => ∃ v_ p_, e_ = .returned v_ ∧ (∃ z v g, v_ = .int .i64 z ∧ p_ = netP b n2 v g ∧ AddOk n2 n2.gs g z k f) ∧ Mem w (p_ :: L) w_)) :
  Calls Try.prog 72 #[.agg #[.int .i64 n.ins, n.sv, n.av, n.ov], lv, .func (.func F) #[] cs.toArray] w (Ret w (Added n k f)) := by
 have hi0 := hn.i0
 have hi1 := hn.i1
 have hs1 := hn.s1
 have ha1 := hn.a1
 have ho1 := hn.o1
 have hcnt : n.cnt = 1 + n.ins + n.ss.length + n.gs.length := rfl
 have hfst : n.fst = 1 + n.ins + n.ss.length := rfl
 refine calls_hc (N := 43) (args := [.agg #[.int .i64 n.ins, n.sv, n.av, n.ov], lv, .func (.func F) #[] cs.toArray]) Try.func72 rfl rfl ?_
 refine hc_less _ (sx 0 rfl (sx 1 rfl (sx 2 rfl (sub_nil _)))) (.refl _) ?_
 refine hc_seq ?_
 refine hc_region ?_
 refine hl_box rfl rfl rfl (rq_box rfl rfl) ?_
 intro b1
 refine hl_box rfl rfl rfl (rq_alloc (z := .agg #[.int .i64 0, .slice none 0 0, .slice none 0 0, .slice none 0 0]) rfl (by kernel_rfl)) ?_
 intro b2
 refine hl_v rfl rfl rfl (rv_ev rfl) ?_
 refine hl_less (sx 0 rfl (sx 1 rfl (sx 2 rfl (sx 3 rfl (sx 6 rfl (sx 7 rfl (sub_nil _))))))) (.refl _) ?_
 refine hl_nil ?_
 refine hq_then ?_
 refine hc_seq ?_
 refine hc_seq ?_
 refine hc_region ?_
 refine hl_v rfl rfl rfl (rv_loadN (cs := [.int .i64 n.ins, n.sv, n.av, n.ov]) rfl (by kernel_rfl) (by kernel_rfl) rfl rfl (box_part 1 rfl 0 rfl)) ?_
 refine hl_callV rfl rfl rfl (rq_call (by kernel_rfl) rfl (fun w hm => ret_ans (implNetOk_yes n w (hr.below hm.bel) hn))) ?_
 refine hl_v rfl rfl rfl (rv_ev rfl) ?_
 refine hl_less (sx 0 rfl (sx 1 rfl (sx 2 rfl (sx 3 rfl (sx 6 rfl (sx 7 rfl (sx 14 rfl (sub_nil _)))))))) (.refl _) ?_
 refine hl_nil ?_
 refine hq_then ?_
 refine hc_false rfl ?_
 refine hc_skip ?_
 refine hq_then ?_
 refine hc_seq ?_
 refine hc_seq ?_
 refine hc_region ?_
 refine hl_v rfl rfl rfl (rv_ev rfl) ?_
 refine hl_v rfl rfl rfl (rv_len rfl Try.underlying26 rfl (rd_old hlv)) ?_
 refine hl_v rfl rfl rfl (rv_ev rfl) ?_
 refine hl_less (sx 0 rfl (sx 1 rfl (sx 2 rfl (sx 3 rfl (sx 6 rfl (sx 7 rfl (sx 14 rfl (sx 17 rfl (sx 18 rfl (sx 19 rfl (sub_nil _))))))))))) (.refl _) ?_
 refine hl_nil ?_
 refine hq_then ?_
 refine hc_block ?_
 refine hc_loop1 (α := Nat) (fun q => [boxE b2 #[.int .i64 0, .slice none 0 0, .slice none 0 0, .slice none 0 0] 28, boxE b1 #[.int .i64 n.ins, n.sv, n.av, n.ov] 28]) (fun q => [(0, .agg #[.int .i64 n.ins, n.sv, n.av, n.ov]), (1, lv), (2, .func (.func F) #[] cs.toArray), (3, .pointer (some ⟨b1, 0, none⟩)), (6, .pointer (some ⟨b2, 0, none⟩)), (7, .int .i64 0), (14, .bool false), (17, lv), (18, .int .i64 (ls.length : Int)), (19, .int .i64 (q : Int))]) (fun q => q ≤ ls.length) (fun q => ls.length - q) 0 (Nat.zero_le _) (sx 0 rfl (sx 1 rfl (sx 2 rfl (sx 3 rfl (sx 6 rfl (sx 7 rfl (sx 14 rfl (sx 17 rfl (sx 18 rfl (sx 19 rfl (sub_nil _))))))))))) ((.cons_cons _ (.cons_cons _ .slnil))) ?_
 intro q hi3
 have hq := hi3
 refine hc_seq ?_
 refine hc_region ?_
 refine hl_lss rfl rfl rfl rfl rfl rfl (fun h4 => ?_) (fun h4 => ?_)
 ·
  refine hl_less (sx 0 rfl (sx 1 rfl (sx 2 rfl (sx 3 rfl (sx 6 rfl (sx 7 rfl (sx 14 rfl (sx 17 rfl (sx 18 rfl (sx 19 rfl (sx 20 rfl (sub_nil _)))))))))))) (.refl _) ?_
  refine hl_nil ?_
  refine hq_then ?_
  refine hc_seq ?_
  refine hc_true rfl ?_
  refine hc_skip ?_
  refine hq_then ?_
  refine hc_seq ?_
  refine hc_block ?_
  refine hc_seq ?_
  refine hc_region ?_
  refine hl_v rfl rfl rfl (rv_index (s := 1) rfl Try.underlying26 (by kernel_rfl) rfl rfl (rd_old hlv) (by omega) (by first | omega | (simp only [List.length_set]; omega))) ?_
  refine hl_v rfl rfl rfl (rv_loadEl (u := .int .i64 (ls.getD q 0)) rfl (by kernel_rfl) rfl (rd_old hlv) (ints_at1 (show _ < ls.length by first | omega | (simp only [List.length_set]; omega)))) ?_
  refine hl_v rfl rfl rfl (rv_ev rfl) ?_
  refine hl_less (sx 0 rfl (sx 1 rfl (sx 2 rfl (sx 3 rfl (sx 6 rfl (sx 7 rfl (sx 9 rfl (sx 14 rfl (sx 17 rfl (sx 18 rfl (sx 19 rfl (sx 20 rfl (sub_nil _))))))))))))) (.refl _) ?_
  refine hl_nil ?_
  refine hq_then ?_
  refine hc_seq ?_
  refine hc_region ?_
  refine hl_v rfl rfl rfl (rv_ev rfl) ?_
  have hlq := hls q (by omega)
  obtain ⟨hlq0, hlq1⟩ := hlq
  refine hl_v rfl rfl rfl (rv_loadN (cs := [.int .i64 n.ins, n.sv, n.av, n.ov]) rfl (by kernel_rfl) (by kernel_rfl) rfl rfl (box_part 1 rfl 0 rfl)) ?_
  refine hl_callV rfl rfl rfl (rq_call (by kernel_rfl) rfl (fun w hm => ret_ans (implnodeCount_yes n w (hr.below hm.bel) hn))) ?_
  refine hl_v rfl rfl rfl (rv_mul rfl rfl rfl (by constructor <;> omega)) ?_
  refine hl_v rfl rfl rfl (rv_sub rfl rfl rfl (by constructor <;> omega)) ?_
  refine hl_callV rfl rfl rfl (rq_call (by kernel_rfl) rfl (fun w hm => ret_ans (ans_of (inRange_any _ _ _ w)))) ?_
  refine hl_bool (fun h5 => ?_) (fun h5 => absurd ((((inR_iff _ _ _).2 (by omega))).symm.trans h5) (by decide))
  refine hl_v rfl rfl rfl (rv_ev rfl) ?_
  refine hl_less (sx 0 rfl (sx 1 rfl (sx 2 rfl (sx 3 rfl (sx 6 rfl (sx 7 rfl (sx 9 rfl (sx 14 rfl (sx 17 rfl (sx 18 rfl (sx 19 rfl (sx 20 rfl (sx 29 rfl (sub_nil _)))))))))))))) (.refl _) ?_
  refine hl_nil ?_
  refine hq_then ?_
  refine hc_false rfl ?_
  refine hc_skip ?_
  refine hq_block_normal ?_
  refine hq_then ?_
  refine hc_region ?_
  refine hl_v rfl rfl rfl (rv_add rfl rfl rfl (by constructor <;> omega)) ?_
  refine hl_v rfl rfl rfl (rv_ev rfl) ?_
  refine hl_less (sx 0 rfl (sx 1 rfl (sx 2 rfl (sx 3 rfl (sx 6 rfl (sx 7 rfl (sx 9 rfl (sx 14 rfl (sx 17 rfl (sx 18 rfl (sx 19 rfl (sx 20 rfl (sx 29 rfl (sub_nil _)))))))))))))) (.refl _) ?_
  refine hl_nil ?_
  exact hq_round1 (q + 1) (by omega) (by omega) (sx 0 rfl (sx 1 rfl (sx 2 rfl (sx 3 rfl (sx 6 rfl (sx 7 rfl (sx 14 rfl (sx 17 rfl (sx 18 rfl (sx 19 rfl (sub_nil _))))))))))) ((.cons_cons _ (.cons_cons _ .slnil)))
 ·
  refine hl_less (sx 0 rfl (sx 1 rfl (sx 2 rfl (sx 3 rfl (sx 6 rfl (sx 7 rfl (sx 14 rfl (sx 17 rfl (sx 18 rfl (sx 19 rfl (sx 20 rfl (sub_nil _)))))))))))) (.refl _) ?_
  refine hl_nil ?_
  refine hq_then ?_
  refine hc_seq ?_
  refine hc_false rfl ?_
  refine hc_exit ?_
  refine hq_then_exit ?_
  refine hq_then_exit ?_
  refine hq_block_exit ?_
  refine hq_then ?_
  refine hc_seq ?_
  refine hc_region ?_
  refine hl_v rfl rfl rfl (rv_loadN (cs := [.int .i64 n.ins, n.sv, n.av, n.ov]) rfl (by kernel_rfl) (by kernel_rfl) rfl rfl (box_part 1 rfl 0 rfl)) ?_
  refine hl_q rfl rfl rfl (rq_call (by kernel_rfl) rfl (fun w hm => copyNet_ret n w (hr.below hm.bel) hn)) ?_
  intro v6 p7 hR8
  obtain ⟨n2, rfl, rfl, hlk⟩ := hR8
  refine hl_sqs (i := 0) rfl (fun hosv => ?_)
  refine hl_one (i := 2) rfl (fun hoov => ?_)
  refine hl_box rfl rfl rfl (rq_alloc (z := .agg #[.int .i64 0, .slice none 0 0, .slice none 0 0, .slice none 0 0]) rfl (by kernel_rfl)) ?_
  intro b9
  refine hl_one (i := 2) rfl (fun ho10 => ?_)
  refine hl_storeBoxN (i := 0) (off := 0) (us := [.int .i64 n2.ins, n2.sv, n2.av, n2.ov]) (l' := [boxE b9 #[.int .i64 n2.ins, n2.sv, n2.av, n2.ov] 28, sqsE n2.sv n2.ss, rowE 80 2 n2.av n2.gs.length (n2.gs.flatMap anC), rowE 3 1 n2.ov n2.os.length (n2.os.map (Value.int .i64)), boxE b2 #[.int .i64 0, .slice none 0 0, .slice none 0 0, .slice none 0 0] 28, boxE b1 #[.int .i64 n.ins, n.sv, n.av, n.ov] 28]) rfl rfl rfl (by kernel_rfl) rfl rfl rfl (all_cons rfl (all_cons hosv (all_cons ho10 (all_cons hoov all_nil)))) rfl rfl rfl ?_
  refine hl_less (sx 0 rfl (sx 1 rfl (sx 2 rfl (sx 3 rfl (sx 6 rfl (sx 7 rfl (sx 10 rfl (sx 14 rfl (sx 17 rfl (sx 18 rfl (sx 19 rfl (sx 20 rfl (sub_nil _))))))))))))) (.refl _) ?_
  refine hl_nil ?_
  refine hq_then ?_
  refine hc_seq ?_
  refine hc_region ?_
  refine hl_v rfl rfl rfl (rv_ev rfl) ?_
  refine hl_conv [boxE b9 #[.int .i64 n2.ins, n2.sv, n2.av, n2.ov] 28, rowE 80 2 n2.av n2.gs.length (n2.gs.flatMap anC), sqsE n2.sv n2.ss, rowE 3 1 n2.ov n2.os.length (n2.os.map (Value.int .i64)), boxE b2 #[.int .i64 0, .slice none 0 0, .slice none 0 0, .slice none 0 0] 28, boxE b1 #[.int .i64 n.ins, n.sv, n.av, n.ov] 28] (conv_pick (src := [boxE b9 #[.int .i64 n2.ins, n2.sv, n2.av, n2.ov] 28, sqsE n2.sv n2.ss, rowE 80 2 n2.av n2.gs.length (n2.gs.flatMap anC), rowE 3 1 n2.ov n2.os.length (n2.os.map (Value.int .i64)), boxE b2 #[.int .i64 0, .slice none 0 0, .slice none 0 0, .slice none 0 0] 28, boxE b1 #[.int .i64 n.ins, n.sv, n.av, n.ov] 28]) (dst := [boxE b9 #[.int .i64 n2.ins, n2.sv, n2.av, n2.ov] 28, rowE 80 2 n2.av n2.gs.length (n2.gs.flatMap anC), sqsE n2.sv n2.ss, rowE 3 1 n2.ov n2.os.length (n2.os.map (Value.int .i64)), boxE b2 #[.int .i64 0, .slice none 0 0, .slice none 0 0, .slice none 0 0] 28, boxE b1 #[.int .i64 n.ins, n.sv, n.av, n.ov] 28]) (l := []) [0, 2, 1, 3, 4, 5] (by decide) rfl) ?_
  refine hl_conv [netP b9 n2 n2.av n2.gs, sqsE n2.sv n2.ss, rowE 3 1 n2.ov n2.os.length (n2.os.map (Value.int .i64)), boxE b2 #[.int .i64 0, .slice none 0 0, .slice none 0 0, .slice none 0 0] 28, boxE b1 #[.int .i64 n.ins, n.sv, n.av, n.ov] 28] (conv_big (ps := [boxE b9 #[.int .i64 n2.ins, n2.sv, n2.av, n2.ov] 28, rowE 80 2 n2.av n2.gs.length (n2.gs.flatMap anC)])) ?_
  refine hl_callMF (R := (fun v_ p_ => ∃ z v g, v_ = .int .i64 z ∧ p_ = netP b9 n2 v g ∧ AddOk n2 n2.gs g z k f)) 0 rfl rfl hgo rfl rfl rfl (fun L w hX hm => hadd b9 n2 L w hlk hm (fun w2 h2 => sq_reads (i := 0) (j := 1) rfl rfl w2 (hX w2 h2)) ⟨hosv, hoov⟩) ?_
  intro v11 p12 hR13
  obtain ⟨zhR13, vhR13, ghR13, rfl, rfl, ahR13⟩ := hR13
  obtain ⟨yhR13, -⟩ := id ahR13.lit
  refine hl_eqL (l' := [netP b9 n2 vhR13 ghR13, sqsE n2.sv n2.ss, rowE 3 1 n2.ov n2.os.length (n2.os.map (Value.int .i64)), boxE b2 #[.int .i64 0, .slice none 0 0, .slice none 0 0, .slice none 0 0] 28, boxE b1 #[.int .i64 n.ins, n.sv, n.av, n.ov] 28]) rfl ?_
  refine hl_v rfl rfl rfl (rv_ev rfl) ?_
  refine hl_less (sx 0 rfl (sx 1 rfl (sx 2 rfl (sx 3 rfl (sx 6 rfl (sx 7 rfl (sx 10 rfl (sx 11 rfl (sx 14 rfl (sx 17 rfl (sx 18 rfl (sx 19 rfl (sx 20 rfl (sub_nil _)))))))))))))) (.refl _) ?_
  refine hl_nil ?_
  refine hq_then ?_
  refine hc_seq ?_
  refine hc_seq ?_
  refine hc_region ?_
  refine hl_conv [boxE b9 #[.int .i64 n2.ins, n2.sv, vhR13, n2.ov] 28, rowE 80 2 vhR13 ghR13.length (ghR13.flatMap anC), sqsE n2.sv n2.ss, rowE 3 1 n2.ov n2.os.length (n2.os.map (Value.int .i64)), boxE b2 #[.int .i64 0, .slice none 0 0, .slice none 0 0, .slice none 0 0] 28, boxE b1 #[.int .i64 n.ins, n.sv, n.av, n.ov] 28] (conv_unbig (ps := [boxE b9 #[.int .i64 n2.ins, n2.sv, vhR13, n2.ov] 28, rowE 80 2 vhR13 ghR13.length (ghR13.flatMap anC)])) ?_
  refine hl_v rfl rfl rfl (rv_ev rfl) ?_
  refine hl_lss rfl rfl rfl rfl rfl rfl (fun h14 => absurd h14 (by omega)) (fun h14 => ?_)
  refine hl_less (sx 0 rfl (sx 1 rfl (sx 2 rfl (sx 3 rfl (sx 6 rfl (sx 7 rfl (sx 10 rfl (sx 11 rfl (sx 14 rfl (sx 17 rfl (sx 18 rfl (sx 19 rfl (sx 20 rfl (sx 38 rfl (sub_nil _))))))))))))))) (.refl _) ?_
  refine hl_nil ?_
  refine hq_then ?_
  refine hc_false rfl ?_
  refine hc_skip ?_
  refine hq_then ?_
  refine hc_seq ?_
  refine hc_region ?_
  refine hl_v rfl rfl rfl (rv_loadN (cs := [.int .i64 n2.ins, n2.sv, vhR13, n2.ov]) rfl (by kernel_rfl) (by kernel_rfl) rfl rfl (box_part 0 rfl 0 rfl)) ?_
  refine hl_v rfl rfl rfl (rv_ev rfl) ?_
  refine hl_one (i := 1) rfl (fun ho15 => ?_)
  refine hl_storeBoxN (i := 4) (off := 0) (us := [.int .i64 n2.ins, n2.sv, vhR13, n2.ov]) (l' := [boxE b9 #[.int .i64 n2.ins, n2.sv, vhR13, n2.ov] 28, rowE 80 2 vhR13 ghR13.length (ghR13.flatMap anC), sqsE n2.sv n2.ss, rowE 3 1 n2.ov n2.os.length (n2.os.map (Value.int .i64)), boxE b2 #[.int .i64 n2.ins, n2.sv, vhR13, n2.ov] 28, boxE b1 #[.int .i64 n.ins, n.sv, n.av, n.ov] 28]) rfl rfl rfl (by kernel_rfl) rfl rfl rfl (all_cons rfl (all_cons hosv (all_cons ho15 (all_cons hoov all_nil)))) rfl rfl rfl ?_
  refine hl_v rfl rfl rfl (rv_ev rfl) ?_
  refine hl_less (sx 0 rfl (sx 1 rfl (sx 2 rfl (sx 3 rfl (sx 6 rfl (sx 7 rfl (sx 10 rfl (sx 11 rfl (sx 14 rfl (sx 17 rfl (sx 18 rfl (sx 19 rfl (sx 20 rfl (sx 38 rfl (sub_nil _))))))))))))))) (.refl _) ?_
  refine hl_nil ?_
  refine hq_then ?_
  refine hc_ret ?_
  refine hq_oneX (i := 1) rfl (fun hoav => ?_)
  refine hq_conv [sqsE n2.sv n2.ss, rowE 80 2 vhR13 ghR13.length (ghR13.flatMap anC), rowE 3 1 n2.ov n2.os.length (n2.os.map (Value.int .i64)), boxE b9 #[.int .i64 n2.ins, n2.sv, vhR13, n2.ov] 28, boxE b2 #[.int .i64 n2.ins, n2.sv, vhR13, n2.ov] 28, boxE b1 #[.int .i64 n.ins, n.sv, n.av, n.ov] 28] (conv_pick (src := [boxE b9 #[.int .i64 n2.ins, n2.sv, vhR13, n2.ov] 28, rowE 80 2 vhR13 ghR13.length (ghR13.flatMap anC), sqsE n2.sv n2.ss, rowE 3 1 n2.ov n2.os.length (n2.os.map (Value.int .i64)), boxE b2 #[.int .i64 n2.ins, n2.sv, vhR13, n2.ov] 28, boxE b1 #[.int .i64 n.ins, n.sv, n.av, n.ov] 28]) (dst := [sqsE n2.sv n2.ss, rowE 80 2 vhR13 ghR13.length (ghR13.flatMap anC), rowE 3 1 n2.ov n2.os.length (n2.os.map (Value.int .i64)), boxE b9 #[.int .i64 n2.ins, n2.sv, vhR13, n2.ov] 28, boxE b2 #[.int .i64 n2.ins, n2.sv, vhR13, n2.ov] 28, boxE b1 #[.int .i64 n.ins, n.sv, n.av, n.ov] 28]) (l := []) [2, 1, 3, 0, 4, 5] (by decide) rfl) ?_
  refine hq_conv [ntE { n2 with av := vhR13, gs := ghR13 }, boxE b9 #[.int .i64 n2.ins, n2.sv, vhR13, n2.ov] 28, boxE b2 #[.int .i64 n2.ins, n2.sv, vhR13, n2.ov] 28, boxE b1 #[.int .i64 n.ins, n.sv, n.av, n.ov] 28] (conv_big (ps := [sqsE n2.sv n2.ss, rowE 80 2 vhR13 ghR13.length (ghR13.flatMap anC), rowE 3 1 n2.ov n2.os.length (n2.os.map (Value.int .i64))])) ?_
  exact hq_retM (rs := [.cell 6 28, .tmp 7]) (vs := [.agg #[.int .i64 n2.ins, n2.sv, vhR13, n2.ov], .int .i64 zhR13]) (post := [ntE { n2 with av := vhR13, gs := ghR13 }]) rfl ⟨⟨b2, 0, [.int .i64 n2.ins, n2.sv, vhR13, n2.ov], rfl, rfl, by kernel_rfl, by kernel_rfl, box_part 2 rfl 0 rfl⟩, rfl, trivial⟩ rfl ((.cons_cons _ (.cons _ (.cons _ (.cons _ .slnil))))) ⟨{ n2 with av := vhR13, gs := ghR13 }, zhR13, rfl, rfl, ⟨hosv, hoav, hoov⟩, Grow.make vhR13 hlk ahR13⟩
set_option maxHeartbeats 4000000 in
set_option maxRecDepth 100000 in
theorem AddAnd_ret (n : Nt) (x y : Int) (w : World) (hr : RdsNt w n) (hn : NtOk n) (hx : LtOk x n.cnt) (hy : LtOk y n.cnt) (hl : n.gs.length + 1 ≤ 300) :
  Calls Try.prog 21 #[.agg #[.int .i64 n.ins, n.sv, n.av, n.ov], .int .i64 x, .int .i64 y] w (Ret w (Added n 1 (fAnd x y))) := by
 have hi0 := hn.i0
 have hi1 := hn.i1
 have hs1 := hn.s1
 have ha1 := hn.a1
 have ho1 := hn.o1
 have hcnt : n.cnt = 1 + n.ins + n.ss.length + n.gs.length := rfl
 have hfst : n.fst = 1 + n.ins + n.ss.length := rfl
 refine calls_hc (N := 16) (args := [.agg #[.int .i64 n.ins, n.sv, n.av, n.ov], .int .i64 x, .int .i64 y]) Try.func21 rfl rfl ?_
 refine hc_less _ (sx 0 rfl (sx 1 rfl (sx 2 rfl (sub_nil _)))) (.refl _) ?_
 refine hc_seq ?_
 refine hc_region ?_
 refine hl_box rfl rfl rfl (rq_box rfl rfl) ?_
 intro b1
 refine hl_box rfl rfl rfl (rq_box rfl rfl) ?_
 intro b2
 refine hl_box rfl rfl rfl (rq_box rfl rfl) ?_
 intro b3
 refine hl_box rfl rfl rfl (rq_alloc (z := .agg #[.int .i64 0, .slice none 0 0, .slice none 0 0, .slice none 0 0]) rfl (by kernel_rfl)) ?_
 intro b4
 refine hl_v rfl rfl rfl (rv_ev rfl) ?_
 refine hl_less (sx 0 rfl (sx 1 rfl (sx 2 rfl (sx 3 rfl (sx 4 rfl (sx 5 rfl (sx 6 rfl (sx 7 rfl (sub_nil _))))))))) (.refl _) ?_
 refine hl_nil ?_
 refine hq_then ?_
 refine hc_seq ?_
 refine hc_region ?_
 refine hl_v rfl rfl rfl (rv_loadN (cs := [.int .i64 n.ins, n.sv, n.av, n.ov]) rfl (by kernel_rfl) (by kernel_rfl) rfl rfl (box_part 3 rfl 0 rfl)) ?_
 refine hl_v rfl rfl rfl (rv_load rfl (by kernel_rfl) rfl (box_cell 2 rfl rfl)) ?_
 refine hl_v rfl rfl rfl (rv_load rfl (by kernel_rfl) rfl (box_cell 1 rfl rfl)) ?_
 refine hl_row rfl rfl rfl (rq_buildSlice (z := .int .i64 0) (s := 1) (cs := ([x, y].map (Value.int .i64))) rfl Try.underlying26 (by kernel_rfl) (by decide) rfl (by kernel_rfl) rfl) ?_
 intro g5
 refine hl_v rfl rfl rfl (rv_makeFunc (us := []) (vs := [.pointer (some ⟨b2, 0, none⟩), .pointer (some ⟨b3, 0, none⟩)]) rfl rfl rfl) ?_
 refine hl_q rfl rfl rfl (rq_call (by kernel_rfl) rfl (fun w hm => adding_ret n [x, y] _ 73 [.pointer (some ⟨b2, 0, none⟩), .pointer (some ⟨b3, 0, none⟩)] 1 (fAnd x y) w (hr.below hm.bel) hn ((rd_row 0 rfl) w hm) (lits2 hx hy) (by simp) (by kernel_rfl) (fun b n2 L w1 hlk hm1 hso hone => addAndC_mut b n2 n2.av n2.gs b2 b3 x y w L w1 hm1 (hlk.ok hn) (hlk.lit hx) (hlk.lit hy) (by rw [hlk.gs]; omega) hso hone (box_lt 3 rfl hm) (box_cell 3 rfl rfl w hm) (box_lt 2 rfl hm) (box_cell 2 rfl rfl w hm)))) ?_
 intro v6 p7 hR8
 obtain ⟨nhR8, xhR8, rfl, rfl, ⟨o1hR8, o2hR8, o3hR8⟩, grhR8⟩ := hR8
 refine hl_v rfl rfl rfl (rv_ev rfl) ?_
 refine hl_v rfl rfl rfl (rv_ev rfl) ?_
 refine hl_storeBoxN (i := 2) (off := 0) (us := [.int .i64 nhR8.ins, nhR8.sv, nhR8.av, nhR8.ov]) (l' := [ntE nhR8, rowE 3 1 (.slice (some ⟨g5, 0, none⟩) 2 2) 2 ([x, y].map (Value.int .i64)), boxE b4 #[.int .i64 nhR8.ins, nhR8.sv, nhR8.av, nhR8.ov] 28, boxE b3 #[.int .i64 y] 3, boxE b2 #[.int .i64 x] 3, boxE b1 #[.int .i64 n.ins, n.sv, n.av, n.ov] 28]) rfl rfl rfl (by kernel_rfl) rfl rfl rfl (all_cons rfl (all_cons o1hR8 (all_cons o2hR8 (all_cons o3hR8 all_nil)))) rfl rfl rfl ?_
 refine hl_v rfl rfl rfl (rv_ev rfl) ?_
 refine hl_less (sx 0 rfl (sx 1 rfl (sx 2 rfl (sx 3 rfl (sx 4 rfl (sx 5 rfl (sx 6 rfl (sx 7 rfl (sub_nil _))))))))) (.refl _) ?_
 refine hl_nil ?_
 refine hq_then ?_
 refine hc_ret ?_
 exact hq_retM (rs := [.cell 6 28, .tmp 7]) (vs := [.agg #[.int .i64 nhR8.ins, nhR8.sv, nhR8.av, nhR8.ov], .int .i64 xhR8]) (post := [ntE nhR8]) rfl ⟨⟨b4, 0, [.int .i64 nhR8.ins, nhR8.sv, nhR8.av, nhR8.ov], rfl, rfl, by kernel_rfl, by kernel_rfl, box_part 2 rfl 0 rfl⟩, rfl, trivial⟩ rfl ((.cons_cons _ (.cons _ (.cons _ (.cons _ (.cons _ (.cons _ .slnil))))))) ⟨nhR8, xhR8, rfl, rfl, ⟨o1hR8, o2hR8, o3hR8⟩, grhR8⟩
set_option maxHeartbeats 4000000 in
set_option maxRecDepth 100000 in
theorem AddOr_ret (n : Nt) (x y : Int) (w : World) (hr : RdsNt w n) (hn : NtOk n) (hx : LtOk x n.cnt) (hy : LtOk y n.cnt) (hl : n.gs.length + 1 ≤ 300) :
  Calls Try.prog 22 #[.agg #[.int .i64 n.ins, n.sv, n.av, n.ov], .int .i64 x, .int .i64 y] w (Ret w (Added n 1 (fOr x y))) := by
 have hi0 := hn.i0
 have hi1 := hn.i1
 have hs1 := hn.s1
 have ha1 := hn.a1
 have ho1 := hn.o1
 have hcnt : n.cnt = 1 + n.ins + n.ss.length + n.gs.length := rfl
 have hfst : n.fst = 1 + n.ins + n.ss.length := rfl
 refine calls_hc (N := 16) (args := [.agg #[.int .i64 n.ins, n.sv, n.av, n.ov], .int .i64 x, .int .i64 y]) Try.func22 rfl rfl ?_
 refine hc_less _ (sx 0 rfl (sx 1 rfl (sx 2 rfl (sub_nil _)))) (.refl _) ?_
 refine hc_seq ?_
 refine hc_region ?_
 refine hl_box rfl rfl rfl (rq_box rfl rfl) ?_
 intro b1
 refine hl_box rfl rfl rfl (rq_box rfl rfl) ?_
 intro b2
 refine hl_box rfl rfl rfl (rq_box rfl rfl) ?_
 intro b3
 refine hl_box rfl rfl rfl (rq_alloc (z := .agg #[.int .i64 0, .slice none 0 0, .slice none 0 0, .slice none 0 0]) rfl (by kernel_rfl)) ?_
 intro b4
 refine hl_v rfl rfl rfl (rv_ev rfl) ?_
 refine hl_less (sx 0 rfl (sx 1 rfl (sx 2 rfl (sx 3 rfl (sx 4 rfl (sx 5 rfl (sx 6 rfl (sx 7 rfl (sub_nil _))))))))) (.refl _) ?_
 refine hl_nil ?_
 refine hq_then ?_
 refine hc_seq ?_
 refine hc_region ?_
 refine hl_v rfl rfl rfl (rv_loadN (cs := [.int .i64 n.ins, n.sv, n.av, n.ov]) rfl (by kernel_rfl) (by kernel_rfl) rfl rfl (box_part 3 rfl 0 rfl)) ?_
 refine hl_v rfl rfl rfl (rv_load rfl (by kernel_rfl) rfl (box_cell 2 rfl rfl)) ?_
 refine hl_v rfl rfl rfl (rv_load rfl (by kernel_rfl) rfl (box_cell 1 rfl rfl)) ?_
 refine hl_row rfl rfl rfl (rq_buildSlice (z := .int .i64 0) (s := 1) (cs := ([x, y].map (Value.int .i64))) rfl Try.underlying26 (by kernel_rfl) (by decide) rfl (by kernel_rfl) rfl) ?_
 intro g5
 refine hl_v rfl rfl rfl (rv_makeFunc (us := []) (vs := [.pointer (some ⟨b2, 0, none⟩), .pointer (some ⟨b3, 0, none⟩)]) rfl rfl rfl) ?_
 refine hl_q rfl rfl rfl (rq_call (by kernel_rfl) rfl (fun w hm => adding_ret n [x, y] _ 75 [.pointer (some ⟨b2, 0, none⟩), .pointer (some ⟨b3, 0, none⟩)] 1 (fOr x y) w (hr.below hm.bel) hn ((rd_row 0 rfl) w hm) (lits2 hx hy) (by simp) (by kernel_rfl) (fun b n2 L w1 hlk hm1 hso hone => addOrC_mut b n2 n2.av n2.gs b2 b3 x y w L w1 hm1 (hlk.ok hn) (hlk.lit hx) (hlk.lit hy) (by rw [hlk.gs]; omega) hso hone (box_lt 3 rfl hm) (box_cell 3 rfl rfl w hm) (box_lt 2 rfl hm) (box_cell 2 rfl rfl w hm)))) ?_
 intro v6 p7 hR8
 obtain ⟨nhR8, xhR8, rfl, rfl, ⟨o1hR8, o2hR8, o3hR8⟩, grhR8⟩ := hR8
 refine hl_v rfl rfl rfl (rv_ev rfl) ?_
 refine hl_v rfl rfl rfl (rv_ev rfl) ?_
 refine hl_storeBoxN (i := 2) (off := 0) (us := [.int .i64 nhR8.ins, nhR8.sv, nhR8.av, nhR8.ov]) (l' := [ntE nhR8, rowE 3 1 (.slice (some ⟨g5, 0, none⟩) 2 2) 2 ([x, y].map (Value.int .i64)), boxE b4 #[.int .i64 nhR8.ins, nhR8.sv, nhR8.av, nhR8.ov] 28, boxE b3 #[.int .i64 y] 3, boxE b2 #[.int .i64 x] 3, boxE b1 #[.int .i64 n.ins, n.sv, n.av, n.ov] 28]) rfl rfl rfl (by kernel_rfl) rfl rfl rfl (all_cons rfl (all_cons o1hR8 (all_cons o2hR8 (all_cons o3hR8 all_nil)))) rfl rfl rfl ?_
 refine hl_v rfl rfl rfl (rv_ev rfl) ?_
 refine hl_less (sx 0 rfl (sx 1 rfl (sx 2 rfl (sx 3 rfl (sx 4 rfl (sx 5 rfl (sx 6 rfl (sx 7 rfl (sub_nil _))))))))) (.refl _) ?_
 refine hl_nil ?_
 refine hq_then ?_
 refine hc_ret ?_
 exact hq_retM (rs := [.cell 6 28, .tmp 7]) (vs := [.agg #[.int .i64 nhR8.ins, nhR8.sv, nhR8.av, nhR8.ov], .int .i64 xhR8]) (post := [ntE nhR8]) rfl ⟨⟨b4, 0, [.int .i64 nhR8.ins, nhR8.sv, nhR8.av, nhR8.ov], rfl, rfl, by kernel_rfl, by kernel_rfl, box_part 2 rfl 0 rfl⟩, rfl, trivial⟩ rfl ((.cons_cons _ (.cons _ (.cons _ (.cons _ (.cons _ (.cons _ .slnil))))))) ⟨nhR8, xhR8, rfl, rfl, ⟨o1hR8, o2hR8, o3hR8⟩, grhR8⟩
set_option maxHeartbeats 4000000 in
set_option maxRecDepth 100000 in
theorem AddXor_ret (n : Nt) (x y : Int) (w : World) (hr : RdsNt w n) (hn : NtOk n) (hx : LtOk x n.cnt) (hy : LtOk y n.cnt) (hl : n.gs.length + 3 ≤ 300) :
  Calls Try.prog 23 #[.agg #[.int .i64 n.ins, n.sv, n.av, n.ov], .int .i64 x, .int .i64 y] w (Ret w (Added n 3 (fun ev => 1 - (1 - ev x * ev (xr y)) * (1 - ev (xr x) * ev y)))) := by
 have hi0 := hn.i0
 have hi1 := hn.i1
 have hs1 := hn.s1
 have ha1 := hn.a1
 have ho1 := hn.o1
 have hcnt : n.cnt = 1 + n.ins + n.ss.length + n.gs.length := rfl
 have hfst : n.fst = 1 + n.ins + n.ss.length := rfl
 refine calls_hc (N := 16) (args := [.agg #[.int .i64 n.ins, n.sv, n.av, n.ov], .int .i64 x, .int .i64 y]) Try.func23 rfl rfl ?_
 refine hc_less _ (sx 0 rfl (sx 1 rfl (sx 2 rfl (sub_nil _)))) (.refl _) ?_
 refine hc_seq ?_
 refine hc_region ?_
 refine hl_box rfl rfl rfl (rq_box rfl rfl) ?_
 intro b1
 refine hl_box rfl rfl rfl (rq_box rfl rfl) ?_
 intro b2
 refine hl_box rfl rfl rfl (rq_box rfl rfl) ?_
 intro b3
 refine hl_box rfl rfl rfl (rq_alloc (z := .agg #[.int .i64 0, .slice none 0 0, .slice none 0 0, .slice none 0 0]) rfl (by kernel_rfl)) ?_
 intro b4
 refine hl_v rfl rfl rfl (rv_ev rfl) ?_
 refine hl_less (sx 0 rfl (sx 1 rfl (sx 2 rfl (sx 3 rfl (sx 4 rfl (sx 5 rfl (sx 6 rfl (sx 7 rfl (sub_nil _))))))))) (.refl _) ?_
 refine hl_nil ?_
 refine hq_then ?_
 refine hc_seq ?_
 refine hc_region ?_
 refine hl_v rfl rfl rfl (rv_loadN (cs := [.int .i64 n.ins, n.sv, n.av, n.ov]) rfl (by kernel_rfl) (by kernel_rfl) rfl rfl (box_part 3 rfl 0 rfl)) ?_
 refine hl_v rfl rfl rfl (rv_load rfl (by kernel_rfl) rfl (box_cell 2 rfl rfl)) ?_
 refine hl_v rfl rfl rfl (rv_load rfl (by kernel_rfl) rfl (box_cell 1 rfl rfl)) ?_
 refine hl_row rfl rfl rfl (rq_buildSlice (z := .int .i64 0) (s := 1) (cs := ([x, y].map (Value.int .i64))) rfl Try.underlying26 (by kernel_rfl) (by decide) rfl (by kernel_rfl) rfl) ?_
 intro g5
 refine hl_v rfl rfl rfl (rv_makeFunc (us := []) (vs := [.pointer (some ⟨b2, 0, none⟩), .pointer (some ⟨b3, 0, none⟩)]) rfl rfl rfl) ?_
 refine hl_q rfl rfl rfl (rq_call (by kernel_rfl) rfl (fun w hm => adding_ret n [x, y] _ 77 [.pointer (some ⟨b2, 0, none⟩), .pointer (some ⟨b3, 0, none⟩)] 3 (fun ev => 1 - (1 - ev x * ev (xr y)) * (1 - ev (xr x) * ev y)) w (hr.below hm.bel) hn ((rd_row 0 rfl) w hm) (lits2 hx hy) (by simp) (by kernel_rfl) (fun b n2 L w1 hlk hm1 hso hone => addXorC_mut b n2 n2.av n2.gs b2 b3 x y w L w1 hm1 (hlk.ok hn) (hlk.lit hx) (hlk.lit hy) (by rw [hlk.gs]; omega) hso hone (box_lt 3 rfl hm) (box_cell 3 rfl rfl w hm) (box_lt 2 rfl hm) (box_cell 2 rfl rfl w hm)))) ?_
 intro v6 p7 hR8
 obtain ⟨nhR8, xhR8, rfl, rfl, ⟨o1hR8, o2hR8, o3hR8⟩, grhR8⟩ := hR8
 refine hl_v rfl rfl rfl (rv_ev rfl) ?_
 refine hl_v rfl rfl rfl (rv_ev rfl) ?_
 refine hl_storeBoxN (i := 2) (off := 0) (us := [.int .i64 nhR8.ins, nhR8.sv, nhR8.av, nhR8.ov]) (l' := [ntE nhR8, rowE 3 1 (.slice (some ⟨g5, 0, none⟩) 2 2) 2 ([x, y].map (Value.int .i64)), boxE b4 #[.int .i64 nhR8.ins, nhR8.sv, nhR8.av, nhR8.ov] 28, boxE b3 #[.int .i64 y] 3, boxE b2 #[.int .i64 x] 3, boxE b1 #[.int .i64 n.ins, n.sv, n.av, n.ov] 28]) rfl rfl rfl (by kernel_rfl) rfl rfl rfl (all_cons rfl (all_cons o1hR8 (all_cons o2hR8 (all_cons o3hR8 all_nil)))) rfl rfl rfl ?_
 refine hl_v rfl rfl rfl (rv_ev rfl) ?_
 refine hl_less (sx 0 rfl (sx 1 rfl (sx 2 rfl (sx 3 rfl (sx 4 rfl (sx 5 rfl (sx 6 rfl (sx 7 rfl (sub_nil _))))))))) (.refl _) ?_
 refine hl_nil ?_
 refine hq_then ?_
 refine hc_ret ?_
 exact hq_retM (rs := [.cell 6 28, .tmp 7]) (vs := [.agg #[.int .i64 nhR8.ins, nhR8.sv, nhR8.av, nhR8.ov], .int .i64 xhR8]) (post := [ntE nhR8]) rfl ⟨⟨b4, 0, [.int .i64 nhR8.ins, nhR8.sv, nhR8.av, nhR8.ov], rfl, rfl, by kernel_rfl, by kernel_rfl, box_part 2 rfl 0 rfl⟩, rfl, trivial⟩ rfl ((.cons_cons _ (.cons _ (.cons _ (.cons _ (.cons _ (.cons _ .slnil))))))) ⟨nhR8, xhR8, rfl, rfl, ⟨o1hR8, o2hR8, o3hR8⟩, grhR8⟩
set_option maxHeartbeats 4000000 in
set_option maxRecDepth 100000 in
theorem AddMux_ret (n : Nt) (t x y : Int) (w : World) (hr : RdsNt w n) (hn : NtOk n) (ht : LtOk t n.cnt) (hx : LtOk x n.cnt) (hy : LtOk y n.cnt) (hl : n.gs.length + 3 ≤ 300) :
  Calls Try.prog 24 #[.agg #[.int .i64 n.ins, n.sv, n.av, n.ov], .int .i64 t, .int .i64 x, .int .i64 y] w (Ret w (Added n 3 (fun ev => 1 - (1 - ev t * ev x) * (1 - ev (xr t) * ev y)))) := by
 have hi0 := hn.i0
 have hi1 := hn.i1
 have hs1 := hn.s1
 have ha1 := hn.a1
 have ho1 := hn.o1
 have hcnt : n.cnt = 1 + n.ins + n.ss.length + n.gs.length := rfl
 have hfst : n.fst = 1 + n.ins + n.ss.length := rfl
 refine calls_hc (N := 19) (args := [.agg #[.int .i64 n.ins, n.sv, n.av, n.ov], .int .i64 t, .int .i64 x, .int .i64 y]) Try.func24 rfl rfl ?_
 refine hc_less _ (sx 0 rfl (sx 1 rfl (sx 2 rfl (sx 3 rfl (sub_nil _))))) (.refl _) ?_
 refine hc_seq ?_
 refine hc_region ?_
 refine hl_box rfl rfl rfl (rq_box rfl rfl) ?_
 intro b1
 refine hl_box rfl rfl rfl (rq_box rfl rfl) ?_
 intro b2
 refine hl_box rfl rfl rfl (rq_box rfl rfl) ?_
 intro b3
 refine hl_box rfl rfl rfl (rq_box rfl rfl) ?_
 intro b4
 refine hl_box rfl rfl rfl (rq_alloc (z := .agg #[.int .i64 0, .slice none 0 0, .slice none 0 0, .slice none 0 0]) rfl (by kernel_rfl)) ?_
 intro b5
 refine hl_v rfl rfl rfl (rv_ev rfl) ?_
 refine hl_less (sx 0 rfl (sx 1 rfl (sx 2 rfl (sx 3 rfl (sx 4 rfl (sx 5 rfl (sx 6 rfl (sx 7 rfl (sx 8 rfl (sx 9 rfl (sub_nil _))))))))))) (.refl _) ?_
 refine hl_nil ?_
 refine hq_then ?_
 refine hc_seq ?_
 refine hc_region ?_
 refine hl_v rfl rfl rfl (rv_loadN (cs := [.int .i64 n.ins, n.sv, n.av, n.ov]) rfl (by kernel_rfl) (by kernel_rfl) rfl rfl (box_part 4 rfl 0 rfl)) ?_
 refine hl_v rfl rfl rfl (rv_load rfl (by kernel_rfl) rfl (box_cell 3 rfl rfl)) ?_
 refine hl_v rfl rfl rfl (rv_load rfl (by kernel_rfl) rfl (box_cell 2 rfl rfl)) ?_
 refine hl_v rfl rfl rfl (rv_load rfl (by kernel_rfl) rfl (box_cell 1 rfl rfl)) ?_
 refine hl_row rfl rfl rfl (rq_buildSlice (z := .int .i64 0) (s := 1) (cs := ([t, x, y].map (Value.int .i64))) rfl Try.underlying26 (by kernel_rfl) (by decide) rfl (by kernel_rfl) rfl) ?_
 intro g6
 refine hl_v rfl rfl rfl (rv_makeFunc (us := []) (vs := [.pointer (some ⟨b2, 0, none⟩), .pointer (some ⟨b3, 0, none⟩), .pointer (some ⟨b4, 0, none⟩)]) rfl rfl rfl) ?_
 refine hl_q rfl rfl rfl (rq_call (by kernel_rfl) rfl (fun w hm => adding_ret n [t, x, y] _ 79 [.pointer (some ⟨b2, 0, none⟩), .pointer (some ⟨b3, 0, none⟩), .pointer (some ⟨b4, 0, none⟩)] 3 (fun ev => 1 - (1 - ev t * ev x) * (1 - ev (xr t) * ev y)) w (hr.below hm.bel) hn ((rd_row 0 rfl) w hm) (lits3 ht hx hy) (by simp) (by kernel_rfl) (fun b n2 L w1 hlk hm1 hso hone => addMuxC_mut b n2 n2.av n2.gs b2 b3 b4 t x y w L w1 hm1 (hlk.ok hn) (hlk.lit hx) (hlk.lit hy) (hlk.lit ht) (by rw [hlk.gs]; omega) hso hone (box_lt 4 rfl hm) (box_cell 4 rfl rfl w hm) (box_lt 3 rfl hm) (box_cell 3 rfl rfl w hm) (box_lt 2 rfl hm) (box_cell 2 rfl rfl w hm)))) ?_
 intro v7 p8 hR9
 obtain ⟨nhR9, xhR9, rfl, rfl, ⟨o1hR9, o2hR9, o3hR9⟩, grhR9⟩ := hR9
 refine hl_v rfl rfl rfl (rv_ev rfl) ?_
 refine hl_v rfl rfl rfl (rv_ev rfl) ?_
 refine hl_storeBoxN (i := 2) (off := 0) (us := [.int .i64 nhR9.ins, nhR9.sv, nhR9.av, nhR9.ov]) (l' := [ntE nhR9, rowE 3 1 (.slice (some ⟨g6, 0, none⟩) 3 3) 3 ([t, x, y].map (Value.int .i64)), boxE b5 #[.int .i64 nhR9.ins, nhR9.sv, nhR9.av, nhR9.ov] 28, boxE b4 #[.int .i64 y] 3, boxE b3 #[.int .i64 x] 3, boxE b2 #[.int .i64 t] 3, boxE b1 #[.int .i64 n.ins, n.sv, n.av, n.ov] 28]) rfl rfl rfl (by kernel_rfl) rfl rfl rfl (all_cons rfl (all_cons o1hR9 (all_cons o2hR9 (all_cons o3hR9 all_nil)))) rfl rfl rfl ?_
 refine hl_v rfl rfl rfl (rv_ev rfl) ?_
 refine hl_less (sx 0 rfl (sx 1 rfl (sx 2 rfl (sx 3 rfl (sx 4 rfl (sx 5 rfl (sx 6 rfl (sx 7 rfl (sx 8 rfl (sx 9 rfl (sub_nil _))))))))))) (.refl _) ?_
 refine hl_nil ?_
 refine hq_then ?_
 refine hc_ret ?_
 exact hq_retM (rs := [.cell 8 28, .tmp 9]) (vs := [.agg #[.int .i64 nhR9.ins, nhR9.sv, nhR9.av, nhR9.ov], .int .i64 xhR9]) (post := [ntE nhR9]) rfl ⟨⟨b5, 0, [.int .i64 nhR9.ins, nhR9.sv, nhR9.av, nhR9.ov], rfl, rfl, by kernel_rfl, by kernel_rfl, box_part 2 rfl 0 rfl⟩, rfl, trivial⟩ rfl ((.cons_cons _ (.cons _ (.cons _ (.cons _ (.cons _ (.cons _ (.cons _ .slnil)))))))) ⟨nhR9, xhR9, rfl, rfl, ⟨o1hR9, o2hR9, o3hR9⟩, grhR9⟩
open Go.RowKit
theorem or01 {a b : Int} (ha : a = 0 ∨ a = 1) (hb : b = 0 ∨ b = 1) : bits .or .i64 a b = 1 - (1 - a) * (1 - b) := by
  rcases ha with e | e <;> rcases hb with e' | e' <;> rw [e, e'] <;> decide
theorem xor01b {a b : Int} (ha : a = 0 ∨ a = 1) (hb : b = 0 ∨ b = 1) : bits .xor .i64 a b = 1 - (1 - a * (1 - b)) * (1 - (1 - a) * b) := by
  rcases ha with e | e <;> rcases hb with e' | e' <;> rw [e, e'] <;> decide
theorem mux01 {t a b : Int} (ht : t = 0 ∨ t = 1) (ha : a = 0 ∨ a = 1) (hb : b = 0 ∨ b = 1) : 1 - (1 - t * a) * (1 - (1 - t) * b) = if t = 1 then a else b := by
  rcases ht with e | e <;> rcases ha with e' | e' <;> rcases hb with e'' | e'' <;> rw [e, e', e''] <;> decide
theorem gates_all {n n1 n2 n3 n4 : Nt} {a b s x y z w : Int} (hn : NtOk n) (ha : LtOk a n.cnt) (hb : LtOk b n.cnt) (hs : LtOk s n.cnt) (g1 : Grow n n1 x 1 (fAnd a b)) (g2 : Grow n1 n2 y 1 (fOr a b))
    (g3 : Grow n2 n3 z 3 (fun ev => 1 - (1 - ev a * ev (xr b)) * (1 - ev (xr a) * ev b))) (g4 : Grow n3 n4 w 3 (fun ev => 1 - (1 - ev s * ev a) * (1 - ev (xr s) * ev b))) {st : List Int} (h0 : st.length = n.ss.length) (i : Int) :
    bitL (valsL n4 st i) x = bitL (valsL n st i) a * bitL (valsL n st i) b ∧ bitL (valsL n4 st i) y = 1 - (1 - bitL (valsL n st i) a) * (1 - bitL (valsL n st i) b) ∧
    bitL (valsL n4 st i) z = 1 - (1 - bitL (valsL n st i) a * (1 - bitL (valsL n st i) b)) * (1 - (1 - bitL (valsL n st i) a) * bitL (valsL n st i) b) ∧
    bitL (valsL n4 st i) w = 1 - (1 - bitL (valsL n st i) s * bitL (valsL n st i) a) * (1 - (1 - bitL (valsL n st i) s) * bitL (valsL n st i) b) ∧
    ∀ k : Nat, k < n.cnt.toNat → (valsL n4 st i).getD k 0 = (valsL n st i).getD k 0 := by
  have h1 : st.length = n1.ss.length := by rw [vals_len g1.ss]; exact h0
  have h2 : st.length = n2.ss.length := by rw [vals_len g2.ss]; exact h1
  have h3 : st.length = n3.ss.length := by rw [vals_len g3.ss]; exact h2
  have up1 : ∀ {l}, LtOk l n.cnt → bitL (valsL n1 st i) l = bitL (valsL n st i) l := fun h => g1.keep hn h0 i h
  have up2 : ∀ {l}, LtOk l n.cnt → bitL (valsL n2 st i) l = bitL (valsL n st i) l := fun h => (g2.keep g1.ok h1 i (g1.up h)).trans (up1 h)
  have up3 : ∀ {l}, LtOk l n.cnt → bitL (valsL n3 st i) l = bitL (valsL n st i) l := fun h => (g3.keep g2.ok h2 i (g2.up (g1.up h))).trans (up2 h)
  refine ⟨?_, ?_, ?_, ?_, fun k hk => ?_⟩
  · rw [g4.keep g3.ok h3 i (g3.up (g2.up g1.lit)), g3.keep g2.ok h2 i (g2.up g1.lit), g2.keep g1.ok h1 i g1.lit, g1.val st i h0]
  · rw [g4.keep g3.ok h3 i (g3.up g2.lit), g3.keep g2.ok h2 i g2.lit, g2.val st i h1]
    show 1 - (1 - bitL _ a) * (1 - bitL _ b) = _
    rw [up1 ha, up1 hb]
  · rw [g4.keep g3.ok h3 i g3.lit, g3.val st i h2]
    show 1 - (1 - bitL _ a * bitL _ (xr b)) * (1 - bitL _ (xr a) * bitL _ b) = _
    rw [up2 ha, up2 hb, up2 (xr_ok ha), up2 (xr_ok hb), bit_xr _ ha.1, bit_xr _ hb.1]
  · rw [g4.val st i h3]
    show 1 - (1 - bitL _ s * bitL _ a) * (1 - bitL _ (xr s) * bitL _ b) = _
    rw [up3 ha, up3 hb, up3 hs, up3 (xr_ok hs), bit_xr _ hs.1]
  · have hc1 := g1.cnt; have hc2 := g2.cnt; have hc3 := g3.cnt
    rw [g4.pre g3.ok h3 i k (by omega), g3.pre g2.ok h2 i k (by omega), g2.pre g1.ok h1 i k (by omega), g1.pre hn h0 i k hk]
set_option maxHeartbeats 4000000 in
set_option maxRecDepth 100000 in
theorem lawsGet_ans (xs : List Int) (x : Int) (v : Value) (w : World) (hv : RdsW w v 1 xs.length (xs.map (Value.int .i64))) (hlen : xs.length ≤ 1000000000) :
  Calls Try.prog 26 #[v, .int .i64 x] w (Ans w (.int .i64 (getI xs x))) := by
 refine calls_hc (N := 17) (args := [v, .int .i64 x]) Try.func26 rfl rfl ?_
 refine hc_less _ (sx 0 rfl (sx 1 rfl (sub_nil _))) (.refl _) ?_
 refine hc_seq ?_
 refine hc_region ?_
 refine hl_v rfl rfl rfl (rv_ev rfl) ?_
 refine hl_less (sx 0 rfl (sx 1 rfl (sx 4 rfl (sub_nil _)))) (.refl _) ?_
 refine hl_nil ?_
 refine hq_then ?_
 refine hc_seq ?_
 refine hc_seq ?_
 refine hc_region ?_
 refine hl_v rfl rfl rfl (rv_ev rfl) ?_
 refine hl_lss rfl rfl rfl rfl rfl rfl (fun h1 => ?_) (fun h1 => ?_)
 ·
  refine hl_v rfl rfl rfl (rv_ev rfl) ?_
  refine hl_skip rfl rfl rfl ?_
  refine hl_skip rfl rfl rfl ?_
  refine hl_skip rfl rfl rfl ?_
  refine hl_skip rfl rfl rfl ?_
  refine hl_v rfl rfl rfl (rv_ev rfl) ?_
  refine hl_less (sx 0 rfl (sx 1 rfl (sx 4 rfl (sx 12 rfl (sub_nil _))))) (.refl _) ?_
  refine hl_nil ?_
  refine hq_then ?_
  refine hc_true rfl ?_
  refine hc_seq ?_
  refine hc_region ?_
  refine hl_v rfl rfl rfl (rv_ev rfl) ?_
  refine hl_less (sx 0 rfl (sx 1 rfl (sx 4 rfl (sx 12 rfl (sub_nil _))))) (.refl _) ?_
  refine hl_nil ?_
  refine hq_then ?_
  refine hc_ret ?_
  refine hq_then_ret ?_
  exact hq_ans rfl rfl (by unfold getI; rw [if_neg (by omega)])
 ·
  refine hl_v rfl rfl rfl (rv_ev rfl) ?_
  refine hl_v rfl rfl rfl (rv_ev rfl) ?_
  refine hl_v rfl rfl rfl (rv_ev rfl) ?_
  refine hl_v rfl rfl rfl (rv_len rfl Try.underlying26 rfl (rd_old hv)) ?_
  refine hl_geq rfl rfl rfl rfl rfl rfl (fun h2 => ?_) (fun h2 => ?_)
  ·
   refine hl_v rfl rfl rfl (rv_ev rfl) ?_
   refine hl_less (sx 0 rfl (sx 1 rfl (sx 4 rfl (sx 12 rfl (sub_nil _))))) (.refl _) ?_
   refine hl_nil ?_
   refine hq_then ?_
   refine hc_true rfl ?_
   refine hc_seq ?_
   refine hc_region ?_
   refine hl_v rfl rfl rfl (rv_ev rfl) ?_
   refine hl_less (sx 0 rfl (sx 1 rfl (sx 4 rfl (sx 12 rfl (sub_nil _))))) (.refl _) ?_
   refine hl_nil ?_
   refine hq_then ?_
   refine hc_ret ?_
   refine hq_then_ret ?_
   exact hq_ans rfl rfl (by unfold getI; rw [if_neg (by omega)])
  ·
   refine hl_v rfl rfl rfl (rv_ev rfl) ?_
   refine hl_less (sx 0 rfl (sx 1 rfl (sx 4 rfl (sx 12 rfl (sub_nil _))))) (.refl _) ?_
   refine hl_nil ?_
   refine hq_then ?_
   refine hc_false rfl ?_
   refine hc_skip ?_
   refine hq_then ?_
   refine hc_seq ?_
   refine hc_region ?_
   refine hl_v rfl rfl rfl (rv_ev rfl) ?_
   refine hl_v rfl rfl rfl (rv_ev rfl) ?_
   refine hl_v rfl rfl rfl (rv_index (s := 1) rfl Try.underlying26 (by kernel_rfl) rfl rfl (rd_old hv) (by omega) (by first | omega | (simp only [List.length_set]; omega))) ?_
   refine hl_v rfl rfl rfl (rv_loadEl (u := .int .i64 (xs.getD ((x).toNat) 0)) rfl (by kernel_rfl) rfl (rd_old hv) (ints_at1 (show _ < xs.length by first | omega | (simp only [List.length_set]; omega)))) ?_
   refine hl_v rfl rfl rfl (rv_ev rfl) ?_
   refine hl_less (sx 0 rfl (sx 1 rfl (sx 4 rfl (sx 12 rfl (sub_nil _))))) (.refl _) ?_
   refine hl_nil ?_
   refine hq_then ?_
   refine hc_ret ?_
   exact hq_ans rfl rfl (by unfold getI; rw [if_pos (by omega)])
set_option maxHeartbeats 4000000 in
set_option maxRecDepth 100000 in
theorem walk_FnGates (a0 : Option Addr) (len0 cap0 : Nat) (z0 : List Int) (w : World) (hbr : BRow .u8 w a0 len0 cap0 z0) :
  Calls Try.prog 4 #[.slice a0 len0 cap0] w (Ans w (.bool true)) := by
 have hcd0 := cod_le hbr 0
 have hcd1 := cod_le hbr 1
 have hcd2 := cod_le hbr 2
 have hcd3 := cod_le hbr 3
 refine calls_hc (N := 151) (args := [.slice a0 len0 cap0]) Try.func4 rfl rfl ?_
 refine hc_less _ (sx 0 rfl (sub_nil _)) (.refl _) ?_
 refine hc_seq ?_
 refine hc_region ?_
 refine hl_v rfl rfl rfl (rv_ev rfl) ?_
 refine hl_less (sx 0 rfl (sx 2 rfl (sub_nil _))) (.refl _) ?_
 refine hl_nil ?_
 refine hq_then ?_
 refine hc_seq ?_
 refine hc_seq ?_
 refine hc_region ?_
 refine hl_v rfl rfl rfl (rv_ev rfl) ?_
 refine hl_callV rfl rfl rfl (rq_call (by kernel_rfl) rfl (fun w hm => ret_ans (ans_of (big_any a0 len0 cap0 w (hbr.len_le))))) ?_
 refine hl_bool (fun h1 => ?_) (fun h1 => ?_)
 ·
  have h1p := of_decide_eq_true h1
  refine hl_less (sx 0 rfl (sx 2 rfl (sx 23 rfl (sub_nil _)))) (.refl _) ?_
  refine hl_nil ?_
  refine hq_then ?_
  refine hc_true rfl ?_
  refine hc_seq ?_
  refine hc_region ?_
  refine hl_v rfl rfl rfl (rv_ev rfl) ?_
  refine hl_less (sx 0 rfl (sx 2 rfl (sx 23 rfl (sub_nil _)))) (.refl _) ?_
  refine hl_nil ?_
  refine hq_then ?_
  refine hc_ret ?_
  refine hq_then_ret ?_
  exact hq_ans rfl rfl rfl
 ·
  have h1p := of_decide_eq_false h1
  refine hl_less (sx 0 rfl (sx 2 rfl (sx 23 rfl (sub_nil _)))) (.refl _) ?_
  refine hl_nil ?_
  refine hq_then ?_
  refine hc_false rfl ?_
  refine hc_skip ?_
  refine hq_then ?_
  refine hc_seq ?_
  refine hc_region ?_
  refine hl_v rfl rfl rfl (rv_ev rfl) ?_
  refine hl_q rfl rfl rfl (rq_call (by kernel_rfl) rfl (fun w hm => DrawNet_ret _ _ _ z0 w (hbr.below hm.bel) (by omega))) ?_
  intro v2 p3 hR4
  obtain ⟨n, rfl, rfl, ⟨o1n, o2n, o3n⟩, hn, hnq1, hnq2, hnq3⟩ := hR4
  have hi0 := hn.i0
  have hi1 := hn.i1
  have hs1 := hn.s1
  have ha1 := hn.a1
  have ho1 := hn.o1
  have hcnt : n.cnt = 1 + n.ins + n.ss.length + n.gs.length := rfl
  have hfst : n.fst = 1 + n.ins + n.ss.length := rfl
  refine hl_box rfl rfl rfl (rq_alloc (z := .agg #[.int .i64 0, .slice none 0 0, .slice none 0 0, .slice none 0 0]) rfl (by kernel_rfl)) ?_
  intro b5
  refine hl_storeBoxN (i := 0) (off := 0) (us := [.int .i64 n.ins, n.sv, n.av, n.ov]) (l' := [boxE b5 #[.int .i64 n.ins, n.sv, n.av, n.ov] 28, ntE n]) rfl rfl rfl (by kernel_rfl) rfl rfl rfl (all_cons rfl (all_cons o1n (all_cons o2n (all_cons o3n all_nil)))) rfl rfl rfl ?_
  refine hl_less (sx 0 rfl (sx 2 rfl (sx 3 rfl (sx 23 rfl (sub_nil _))))) (.refl _) ?_
  refine hl_nil ?_
  refine hq_then ?_
  refine hc_seq ?_
  refine hc_region ?_
  refine hl_v rfl rfl rfl (rv_ev rfl) ?_
  refine hl_callV rfl rfl rfl (rq_call (by kernel_rfl) rfl (fun w hm => ret_ans (at_ans hbr 0 (by omega) w hm))) ?_
  refine hl_v rfl rfl rfl (rv_ev rfl) ?_
  refine hl_less (sx 0 rfl (sx 2 rfl (sx 3 rfl (sx 4 rfl (sx 23 rfl (sub_nil _)))))) (.refl _) ?_
  refine hl_nil ?_
  refine hq_then ?_
  refine hc_seq ?_
  refine hc_region ?_
  refine hl_v rfl rfl rfl (rv_loadN (cs := [.int .i64 n.ins, n.sv, n.av, n.ov]) rfl (by kernel_rfl) (by kernel_rfl) rfl rfl (box_part 0 rfl 0 rfl)) ?_
  refine hl_callV rfl rfl rfl (rq_call (by kernel_rfl) rfl (fun w hm => ret_ans (specNodeCount_yes n w (nt_rds 1 rfl w hm) hn))) ?_
  refine hl_v rfl rfl rfl (rv_mul rfl rfl rfl (by constructor <;> omega)) ?_
  refine hl_v rfl rfl rfl (rv_ev rfl) ?_
  refine hl_less (sx 0 rfl (sx 2 rfl (sx 3 rfl (sx 4 rfl (sx 5 rfl (sx 23 rfl (sub_nil _))))))) (.refl _) ?_
  refine hl_nil ?_
  refine hq_then ?_
  refine hc_seq ?_
  refine hc_region ?_
  refine hl_v rfl rfl rfl (rv_ev rfl) ?_
  refine hl_callV rfl rfl rfl (rq_call (by kernel_rfl) rfl (fun w hm => ret_ans (at_ans hbr 1 (by omega) w hm))) ?_
  refine hl_v rfl rfl rfl (rv_ev rfl) ?_
  refine hl_v rfl rfl rfl (rv_rem rfl rfl rfl (by constructor <;> omega)) ?_
  refine hl_v rfl rfl rfl (rv_ev rfl) ?_
  obtain ⟨a, ha⟩ : ∃ x, (cod z0 len0 1 : Int) % (2 * n.cnt) = x := ⟨_, rfl⟩
  rw [ha]
  have haL : LtOk a n.cnt := ⟨by rw [← ha]; exact Int.emod_nonneg _ (by omega), by rw [← ha]; exact Int.emod_lt_of_pos _ (by omega)⟩
  have haL0 := haL.1
  have haL1 := haL.2
  refine hl_less (sx 0 rfl (sx 2 rfl (sx 3 rfl (sx 4 rfl (sx 5 rfl (sx 6 rfl (sx 23 rfl (sub_nil _)))))))) (.refl _) ?_
  refine hl_nil ?_
  refine hq_then ?_
  refine hc_seq ?_
  refine hc_region ?_
  refine hl_v rfl rfl rfl (rv_ev rfl) ?_
  refine hl_callV rfl rfl rfl (rq_call (by kernel_rfl) rfl (fun w hm => ret_ans (at_ans hbr 2 (by omega) w hm))) ?_
  refine hl_v rfl rfl rfl (rv_ev rfl) ?_
  refine hl_v rfl rfl rfl (rv_rem rfl rfl rfl (by constructor <;> omega)) ?_
  refine hl_v rfl rfl rfl (rv_ev rfl) ?_
  obtain ⟨b, hb⟩ : ∃ x, (cod z0 len0 2 : Int) % (2 * n.cnt) = x := ⟨_, rfl⟩
  rw [hb]
  have hbL : LtOk b n.cnt := ⟨by rw [← hb]; exact Int.emod_nonneg _ (by omega), by rw [← hb]; exact Int.emod_lt_of_pos _ (by omega)⟩
  have hbL0 := hbL.1
  have hbL1 := hbL.2
  refine hl_less (sx 0 rfl (sx 2 rfl (sx 3 rfl (sx 4 rfl (sx 5 rfl (sx 6 rfl (sx 7 rfl (sx 23 rfl (sub_nil _))))))))) (.refl _) ?_
  refine hl_nil ?_
  refine hq_then ?_
  refine hc_seq ?_
  refine hc_region ?_
  refine hl_v rfl rfl rfl (rv_ev rfl) ?_
  refine hl_callV rfl rfl rfl (rq_call (by kernel_rfl) rfl (fun w hm => ret_ans (at_ans hbr 3 (by omega) w hm))) ?_
  refine hl_v rfl rfl rfl (rv_ev rfl) ?_
  refine hl_v rfl rfl rfl (rv_rem rfl rfl rfl (by constructor <;> omega)) ?_
  refine hl_v rfl rfl rfl (rv_ev rfl) ?_
  obtain ⟨s, hs⟩ : ∃ x, (cod z0 len0 3 : Int) % (2 * n.cnt) = x := ⟨_, rfl⟩
  rw [hs]
  have hsL : LtOk s n.cnt := ⟨by rw [← hs]; exact Int.emod_nonneg _ (by omega), by rw [← hs]; exact Int.emod_lt_of_pos _ (by omega)⟩
  have hsL0 := hsL.1
  have hsL1 := hsL.2
  refine hl_less (sx 0 rfl (sx 2 rfl (sx 3 rfl (sx 4 rfl (sx 5 rfl (sx 6 rfl (sx 7 rfl (sx 8 rfl (sx 23 rfl (sub_nil _)))))))))) (.refl _) ?_
  refine hl_nil ?_
  refine hq_then ?_
  refine hc_seq ?_
  refine hc_region ?_
  refine hl_v rfl rfl rfl (rv_loadN (cs := [.int .i64 n.ins, n.sv, n.av, n.ov]) rfl (by kernel_rfl) (by kernel_rfl) rfl rfl (box_part 0 rfl 0 rfl)) ?_
  refine hl_q rfl rfl rfl (rq_call (by kernel_rfl) rfl (fun w hm => NetStart_ret n w (nt_rds 1 rfl w hm) hn)) ?_
  intro v6 p7 hR8
  subst hR8
  refine hl_v rfl rfl rfl (rv_ev rfl) ?_
  refine hl_less (sx 0 rfl (sx 2 rfl (sx 3 rfl (sx 4 rfl (sx 5 rfl (sx 6 rfl (sx 7 rfl (sx 8 rfl (sx 9 rfl (sx 23 rfl (sub_nil _))))))))))) (.refl _) ?_
  refine hl_nil ?_
  refine hq_then ?_
  refine hc_seq ?_
  refine hc_region ?_
  refine hl_v rfl rfl rfl (rv_loadN (cs := [.int .i64 n.ins, n.sv, n.av, n.ov]) rfl (by kernel_rfl) (by kernel_rfl) rfl rfl (box_part 1 rfl 0 rfl)) ?_
  refine hl_v rfl rfl rfl (rv_ev rfl) ?_
  refine hl_v rfl rfl rfl (rv_ev rfl) ?_
  refine hl_q rfl rfl rfl (rq_call (by kernel_rfl) rfl (fun w hm => specNodeValues_ret n (stL n) _ (cod z0 len0 0 : Int) w (nt_rds 2 rfl w hm) hn ((rd_row 0 rfl) w hm) (start_ok hn) (by omega))) ?_
  intro v9 p10 hR11
  subst hR11
  refine hl_v rfl rfl rfl (rv_ev rfl) ?_
  refine hl_less (sx 0 rfl (sx 2 rfl (sx 3 rfl (sx 4 rfl (sx 5 rfl (sx 6 rfl (sx 7 rfl (sx 8 rfl (sx 9 rfl (sx 10 rfl (sx 23 rfl (sub_nil _)))))))))))) (.refl _) ?_
  refine hl_nil ?_
  refine hq_then ?_
  refine hc_seq ?_
  refine hc_region ?_
  have hst0 : (stL n).length = n.ss.length := str_len n (Nat.le_refl _)
  have hvl : ((valsL n (stL n) (cod z0 len0 0 : Int)).length : Int) = n.cnt := by have h9 : (valsL n (stL n) (cod z0 len0 0 : Int)).length = _ := val_len n (stL n) (cod z0 len0 0 : Int) n.gs.length (Nat.le_refl _); omega
  have hv01 : B01 (valsL n (stL n) (cod z0 len0 0 : Int)) := val01 hn hst0 _ _ (Nat.le_refl _)
  refine hl_v rfl rfl rfl (rv_ev rfl) ?_
  refine hl_v rfl rfl rfl (rv_ev rfl) ?_
  refine hl_callV rfl rfl rfl (rq_call (by kernel_rfl) rfl (fun w hm => ret_ans (specLitValue_ans (valsL n (stL n) (cod z0 len0 0 : Int)) a _ w ((rd_row 0 rfl) w hm) (by omega) (hv01 _ (by omega)) (by omega)))) ?_
  refine hl_v rfl rfl rfl (rv_ev rfl) ?_
  obtain ⟨va, hva⟩ : ∃ x, bitL (valsL n (stL n) (cod z0 len0 0 : Int)) a = x := ⟨_, rfl⟩
  rw [hva]
  have hva1 : va = 0 ∨ va = 1 := by rw [← hva]; exact bit01 hv01 haL.1 (by have := haL.2; omega)
  refine hl_less (sx 0 rfl (sx 2 rfl (sx 3 rfl (sx 4 rfl (sx 5 rfl (sx 6 rfl (sx 7 rfl (sx 8 rfl (sx 9 rfl (sx 10 rfl (sx 11 rfl (sx 23 rfl (sub_nil _))))))))))))) (.refl _) ?_
  refine hl_nil ?_
  refine hq_then ?_
  refine hc_seq ?_
  refine hc_region ?_
  refine hl_v rfl rfl rfl (rv_ev rfl) ?_
  refine hl_v rfl rfl rfl (rv_ev rfl) ?_
  refine hl_callV rfl rfl rfl (rq_call (by kernel_rfl) rfl (fun w hm => ret_ans (specLitValue_ans (valsL n (stL n) (cod z0 len0 0 : Int)) b _ w ((rd_row 0 rfl) w hm) (by omega) (hv01 _ (by omega)) (by omega)))) ?_
  refine hl_v rfl rfl rfl (rv_ev rfl) ?_
  obtain ⟨vb, hvb⟩ : ∃ x, bitL (valsL n (stL n) (cod z0 len0 0 : Int)) b = x := ⟨_, rfl⟩
  rw [hvb]
  have hvb1 : vb = 0 ∨ vb = 1 := by rw [← hvb]; exact bit01 hv01 hbL.1 (by have := hbL.2; omega)
  refine hl_less (sx 0 rfl (sx 2 rfl (sx 3 rfl (sx 4 rfl (sx 5 rfl (sx 6 rfl (sx 7 rfl (sx 8 rfl (sx 9 rfl (sx 10 rfl (sx 11 rfl (sx 12 rfl (sx 23 rfl (sub_nil _)))))))))))))) (.refl _) ?_
  refine hl_nil ?_
  refine hq_then ?_
  refine hc_seq ?_
  refine hc_region ?_
  refine hl_v rfl rfl rfl (rv_ev rfl) ?_
  refine hl_v rfl rfl rfl (rv_ev rfl) ?_
  refine hl_callV rfl rfl rfl (rq_call (by kernel_rfl) rfl (fun w hm => ret_ans (specLitValue_ans (valsL n (stL n) (cod z0 len0 0 : Int)) s _ w ((rd_row 0 rfl) w hm) (by omega) (hv01 _ (by omega)) (by omega)))) ?_
  refine hl_v rfl rfl rfl (rv_ev rfl) ?_
  obtain ⟨vs, hvs⟩ : ∃ x, bitL (valsL n (stL n) (cod z0 len0 0 : Int)) s = x := ⟨_, rfl⟩
  rw [hvs]
  have hvs1 : vs = 0 ∨ vs = 1 := by rw [← hvs]; exact bit01 hv01 hsL.1 (by have := hsL.2; omega)
  refine hl_less (sx 0 rfl (sx 2 rfl (sx 3 rfl (sx 4 rfl (sx 5 rfl (sx 6 rfl (sx 7 rfl (sx 8 rfl (sx 9 rfl (sx 10 rfl (sx 11 rfl (sx 12 rfl (sx 13 rfl (sx 23 rfl (sub_nil _))))))))))))))) (.refl _) ?_
  refine hl_nil ?_
  refine hq_then ?_
  refine hc_seq ?_
  refine hc_region ?_
  refine hl_v rfl rfl rfl (rv_loadN (cs := [.int .i64 n.ins, n.sv, n.av, n.ov]) rfl (by kernel_rfl) (by kernel_rfl) rfl rfl (box_part 2 rfl 0 rfl)) ?_
  refine hl_v rfl rfl rfl (rv_ev rfl) ?_
  refine hl_v rfl rfl rfl (rv_ev rfl) ?_
  refine hl_q rfl rfl rfl (rq_call (by kernel_rfl) rfl (fun w hm => AddAnd_ret n a b w (nt_rds 3 rfl w hm) hn haL hbL (by omega))) ?_
  intro v12 p13 hR14
  obtain ⟨nhR14, xhR14, rfl, rfl, ⟨o1hR14, o2hR14, o3hR14⟩, grhR14⟩ := hR14
  have glhR14 := grhR14.len
  have gchR14 := grhR14.cnt
  have gvhR14 := vals_len grhR14.ss
  have gihR14 := grhR14.ins
  have hcnthR14 : nhR14.cnt = 1 + nhR14.ins + nhR14.ss.length + nhR14.gs.length := rfl
  refine hl_v rfl rfl rfl (rv_ev rfl) ?_
  refine hl_v rfl rfl rfl (rv_ev rfl) ?_
  refine hl_v rfl rfl rfl (rv_ev rfl) ?_
  refine hl_box rfl rfl rfl (rq_alloc (z := .agg #[.int .i64 0, .slice none 0 0, .slice none 0 0, .slice none 0 0]) rfl (by kernel_rfl)) ?_
  intro b15
  refine hl_storeBoxN (i := 0) (off := 0) (us := [.int .i64 nhR14.ins, nhR14.sv, nhR14.av, nhR14.ov]) (l' := [boxE b15 #[.int .i64 nhR14.ins, nhR14.sv, nhR14.av, nhR14.ov] 28, ntE nhR14, rowE 3 1 v9 ((valsL n (stL n) (cod z0 len0 0 : Int)).length) ((valsL n (stL n) (cod z0 len0 0 : Int)).map (Value.int .i64)), rowE 3 1 v6 ((stL n).length) ((stL n).map (Value.int .i64)), boxE b5 #[.int .i64 n.ins, n.sv, n.av, n.ov] 28, ntE n]) rfl rfl rfl (by kernel_rfl) rfl rfl rfl (all_cons rfl (all_cons o1hR14 (all_cons o2hR14 (all_cons o3hR14 all_nil)))) rfl rfl rfl ?_
  refine hl_v rfl rfl rfl (rv_ev rfl) ?_
  refine hl_less (sx 0 rfl (sx 2 rfl (sx 3 rfl (sx 4 rfl (sx 5 rfl (sx 6 rfl (sx 7 rfl (sx 8 rfl (sx 9 rfl (sx 10 rfl (sx 11 rfl (sx 12 rfl (sx 13 rfl (sx 14 rfl (sx 15 rfl (sx 23 rfl (sub_nil _))))))))))))))))) (.refl _) ?_
  refine hl_nil ?_
  refine hq_then ?_
  refine hc_seq ?_
  refine hc_region ?_
  refine hl_v rfl rfl rfl (rv_loadN (cs := [.int .i64 nhR14.ins, nhR14.sv, nhR14.av, nhR14.ov]) rfl (by kernel_rfl) (by kernel_rfl) rfl rfl (box_part 0 rfl 0 rfl)) ?_
  refine hl_v rfl rfl rfl (rv_ev rfl) ?_
  refine hl_v rfl rfl rfl (rv_ev rfl) ?_
  refine hl_q rfl rfl rfl (rq_call (by kernel_rfl) rfl (fun w hm => AddOr_ret nhR14 a b w (nt_rds 1 rfl w hm) grhR14.ok (grhR14.up haL) (grhR14.up hbL) (by omega))) ?_
  intro v16 p17 hR18
  obtain ⟨nhR18, xhR18, rfl, rfl, ⟨o1hR18, o2hR18, o3hR18⟩, grhR18⟩ := hR18
  have glhR18 := grhR18.len
  have gchR18 := grhR18.cnt
  have gvhR18 := vals_len grhR18.ss
  have gihR18 := grhR18.ins
  have hcnthR18 : nhR18.cnt = 1 + nhR18.ins + nhR18.ss.length + nhR18.gs.length := rfl
  refine hl_v rfl rfl rfl (rv_ev rfl) ?_
  refine hl_v rfl rfl rfl (rv_ev rfl) ?_
  refine hl_v rfl rfl rfl (rv_ev rfl) ?_
  refine hl_storeBoxN (i := 1) (off := 0) (us := [.int .i64 nhR18.ins, nhR18.sv, nhR18.av, nhR18.ov]) (l' := [ntE nhR18, boxE b15 #[.int .i64 nhR18.ins, nhR18.sv, nhR18.av, nhR18.ov] 28, ntE nhR14, rowE 3 1 v9 ((valsL n (stL n) (cod z0 len0 0 : Int)).length) ((valsL n (stL n) (cod z0 len0 0 : Int)).map (Value.int .i64)), rowE 3 1 v6 ((stL n).length) ((stL n).map (Value.int .i64)), boxE b5 #[.int .i64 n.ins, n.sv, n.av, n.ov] 28, ntE n]) rfl rfl rfl (by kernel_rfl) rfl rfl rfl (all_cons rfl (all_cons o1hR18 (all_cons o2hR18 (all_cons o3hR18 all_nil)))) rfl rfl rfl ?_
  refine hl_v rfl rfl rfl (rv_ev rfl) ?_
  refine hl_less (sx 0 rfl (sx 2 rfl (sx 3 rfl (sx 4 rfl (sx 5 rfl (sx 6 rfl (sx 7 rfl (sx 8 rfl (sx 9 rfl (sx 10 rfl (sx 11 rfl (sx 12 rfl (sx 13 rfl (sx 14 rfl (sx 15 rfl (sx 16 rfl (sx 23 rfl (sub_nil _)))))))))))))))))) (.refl _) ?_
  refine hl_nil ?_
  refine hq_then ?_
  refine hc_seq ?_
  refine hc_region ?_
  refine hl_v rfl rfl rfl (rv_loadN (cs := [.int .i64 nhR18.ins, nhR18.sv, nhR18.av, nhR18.ov]) rfl (by kernel_rfl) (by kernel_rfl) rfl rfl (box_part 1 rfl 0 rfl)) ?_
  refine hl_v rfl rfl rfl (rv_ev rfl) ?_
  refine hl_v rfl rfl rfl (rv_ev rfl) ?_
  refine hl_q rfl rfl rfl (rq_call (by kernel_rfl) rfl (fun w hm => AddXor_ret nhR18 a b w (nt_rds 0 rfl w hm) grhR18.ok (grhR18.up (grhR14.up haL)) (grhR18.up (grhR14.up hbL)) (by omega))) ?_
  intro v19 p20 hR21
  obtain ⟨nhR21, xhR21, rfl, rfl, ⟨o1hR21, o2hR21, o3hR21⟩, grhR21⟩ := hR21
  have glhR21 := grhR21.len
  have gchR21 := grhR21.cnt
  have gvhR21 := vals_len grhR21.ss
  have gihR21 := grhR21.ins
  have hcnthR21 : nhR21.cnt = 1 + nhR21.ins + nhR21.ss.length + nhR21.gs.length := rfl
  refine hl_v rfl rfl rfl (rv_ev rfl) ?_
  refine hl_v rfl rfl rfl (rv_ev rfl) ?_
  refine hl_v rfl rfl rfl (rv_ev rfl) ?_
  refine hl_storeBoxN (i := 2) (off := 0) (us := [.int .i64 nhR21.ins, nhR21.sv, nhR21.av, nhR21.ov]) (l' := [ntE nhR21, ntE nhR18, boxE b15 #[.int .i64 nhR21.ins, nhR21.sv, nhR21.av, nhR21.ov] 28, ntE nhR14, rowE 3 1 v9 ((valsL n (stL n) (cod z0 len0 0 : Int)).length) ((valsL n (stL n) (cod z0 len0 0 : Int)).map (Value.int .i64)), rowE 3 1 v6 ((stL n).length) ((stL n).map (Value.int .i64)), boxE b5 #[.int .i64 n.ins, n.sv, n.av, n.ov] 28, ntE n]) rfl rfl rfl (by kernel_rfl) rfl rfl rfl (all_cons rfl (all_cons o1hR21 (all_cons o2hR21 (all_cons o3hR21 all_nil)))) rfl rfl rfl ?_
  refine hl_v rfl rfl rfl (rv_ev rfl) ?_
  refine hl_less (sx 0 rfl (sx 2 rfl (sx 3 rfl (sx 4 rfl (sx 5 rfl (sx 6 rfl (sx 7 rfl (sx 8 rfl (sx 9 rfl (sx 10 rfl (sx 11 rfl (sx 12 rfl (sx 13 rfl (sx 14 rfl (sx 15 rfl (sx 16 rfl (sx 17 rfl (sx 23 rfl (sub_nil _))))))))))))))))))) (.refl _) ?_
  refine hl_nil ?_
  refine hq_then ?_
  refine hc_seq ?_
  refine hc_region ?_
  refine hl_v rfl rfl rfl (rv_loadN (cs := [.int .i64 nhR21.ins, nhR21.sv, nhR21.av, nhR21.ov]) rfl (by kernel_rfl) (by kernel_rfl) rfl rfl (box_part 2 rfl 0 rfl)) ?_
  refine hl_v rfl rfl rfl (rv_ev rfl) ?_
  refine hl_v rfl rfl rfl (rv_ev rfl) ?_
  refine hl_v rfl rfl rfl (rv_ev rfl) ?_
  refine hl_q rfl rfl rfl (rq_call (by kernel_rfl) rfl (fun w hm => AddMux_ret nhR21 s a b w (nt_rds 0 rfl w hm) grhR21.ok (grhR21.up (grhR18.up (grhR14.up hsL))) (grhR21.up (grhR18.up (grhR14.up haL))) (grhR21.up (grhR18.up (grhR14.up hbL))) (by omega))) ?_
  intro v22 p23 hR24
  obtain ⟨nhR24, xhR24, rfl, rfl, ⟨o1hR24, o2hR24, o3hR24⟩, grhR24⟩ := hR24
  have glhR24 := grhR24.len
  have gchR24 := grhR24.cnt
  have gvhR24 := vals_len grhR24.ss
  have gihR24 := grhR24.ins
  have hcnthR24 : nhR24.cnt = 1 + nhR24.ins + nhR24.ss.length + nhR24.gs.length := rfl
  refine hl_v rfl rfl rfl (rv_ev rfl) ?_
  refine hl_v rfl rfl rfl (rv_ev rfl) ?_
  refine hl_v rfl rfl rfl (rv_ev rfl) ?_
  refine hl_storeBoxN (i := 3) (off := 0) (us := [.int .i64 nhR24.ins, nhR24.sv, nhR24.av, nhR24.ov]) (l' := [ntE nhR24, ntE nhR21, ntE nhR18, boxE b15 #[.int .i64 nhR24.ins, nhR24.sv, nhR24.av, nhR24.ov] 28, ntE nhR14, rowE 3 1 v9 ((valsL n (stL n) (cod z0 len0 0 : Int)).length) ((valsL n (stL n) (cod z0 len0 0 : Int)).map (Value.int .i64)), rowE 3 1 v6 ((stL n).length) ((stL n).map (Value.int .i64)), boxE b5 #[.int .i64 n.ins, n.sv, n.av, n.ov] 28, ntE n]) rfl rfl rfl (by kernel_rfl) rfl rfl rfl (all_cons rfl (all_cons o1hR24 (all_cons o2hR24 (all_cons o3hR24 all_nil)))) rfl rfl rfl ?_
  refine hl_v rfl rfl rfl (rv_ev rfl) ?_
  refine hl_less (sx 0 rfl (sx 2 rfl (sx 3 rfl (sx 4 rfl (sx 5 rfl (sx 6 rfl (sx 7 rfl (sx 8 rfl (sx 9 rfl (sx 10 rfl (sx 11 rfl (sx 12 rfl (sx 13 rfl (sx 14 rfl (sx 15 rfl (sx 16 rfl (sx 17 rfl (sx 18 rfl (sx 23 rfl (sub_nil _)))))))))))))))))))) (.refl _) ?_
  refine hl_nil ?_
  refine hq_then ?_
  refine hc_seq ?_
  refine hc_region ?_
  refine hl_v rfl rfl rfl (rv_loadN (cs := [.int .i64 nhR24.ins, nhR24.sv, nhR24.av, nhR24.ov]) rfl (by kernel_rfl) (by kernel_rfl) rfl rfl (box_part 3 rfl 0 rfl)) ?_
  refine hl_v rfl rfl rfl (rv_ev rfl) ?_
  refine hl_v rfl rfl rfl (rv_ev rfl) ?_
  refine hl_q rfl rfl rfl (rq_call (by kernel_rfl) rfl (fun w hm => implNodeValues_ret nhR24 (stL n) _ (cod z0 len0 0 : Int) w (nt_rds 0 rfl w hm) grhR24.ok ((rd_row 6 rfl) w hm) (grhR24.sok (grhR21.sok (grhR18.sok (grhR14.sok (start_ok hn))))) (by omega))) ?_
  intro v25 p26 hR27
  subst hR27
  obtain ⟨hU1, hU2, hU3, hU4, hU5⟩ := gates_all hn haL hbL hsL grhR14 grhR18 grhR21 grhR24 hst0 (cod z0 len0 0 : Int)
  have hul : ((valsL nhR24 (stL n) (cod z0 len0 0 : Int)).length : Int) = nhR24.cnt := by have h9 : (valsL nhR24 (stL n) (cod z0 len0 0 : Int)).length = _ := val_len nhR24 (stL n) (cod z0 len0 0 : Int) nhR24.gs.length (Nat.le_refl _); omega
  have hu01 : B01 (valsL nhR24 (stL n) (cod z0 len0 0 : Int)) := val01 grhR24.ok (by omega) _ _ (Nat.le_refl _)
  rw [hva, hvb] at hU1 hU2 hU3 hU4
  rw [hvs] at hU4
  have hxhR14b := grhR14.lit
  have hxhR18b := grhR18.lit
  have hxhR21b := grhR21.lit
  have hxhR24b := grhR24.lit
  obtain ⟨hxhR140, hxhR141⟩ := hxhR14b
  obtain ⟨hxhR180, hxhR181⟩ := hxhR18b
  obtain ⟨hxhR210, hxhR211⟩ := hxhR21b
  obtain ⟨hxhR240, hxhR241⟩ := hxhR24b
  refine hl_v rfl rfl rfl (rv_ev rfl) ?_
  refine hl_less (sx 0 rfl (sx 2 rfl (sx 3 rfl (sx 4 rfl (sx 5 rfl (sx 6 rfl (sx 7 rfl (sx 8 rfl (sx 9 rfl (sx 10 rfl (sx 11 rfl (sx 12 rfl (sx 13 rfl (sx 14 rfl (sx 15 rfl (sx 16 rfl (sx 17 rfl (sx 18 rfl (sx 19 rfl (sx 23 rfl (sub_nil _))))))))))))))))))))) (.refl _) ?_
  refine hl_nil ?_
  refine hq_then ?_
  refine hc_seq ?_
  refine hc_seq ?_
  refine hc_region ?_
  refine hl_v rfl rfl rfl (rv_ev rfl) ?_
  refine hl_less (sx 0 rfl (sx 2 rfl (sx 3 rfl (sx 4 rfl (sx 5 rfl (sx 6 rfl (sx 7 rfl (sx 8 rfl (sx 9 rfl (sx 10 rfl (sx 11 rfl (sx 12 rfl (sx 13 rfl (sx 14 rfl (sx 15 rfl (sx 16 rfl (sx 17 rfl (sx 18 rfl (sx 19 rfl (sx 20 rfl (sx 23 rfl (sub_nil _)))))))))))))))))))))) (.refl _) ?_
  refine hl_nil ?_
  refine hq_then ?_
  refine hc_block ?_
  refine hc_loop1 (α := Nat) (fun i => [rowE 3 1 v25 ((valsL nhR24 (stL n) (cod z0 len0 0 : Int)).length) ((valsL nhR24 (stL n) (cod z0 len0 0 : Int)).map (Value.int .i64)), ntE nhR24, ntE nhR21, ntE nhR18, boxE b15 #[.int .i64 nhR24.ins, nhR24.sv, nhR24.av, nhR24.ov] 28, ntE nhR14, rowE 3 1 v9 ((valsL n (stL n) (cod z0 len0 0 : Int)).length) ((valsL n (stL n) (cod z0 len0 0 : Int)).map (Value.int .i64)), rowE 3 1 v6 ((stL n).length) ((stL n).map (Value.int .i64)), boxE b5 #[.int .i64 n.ins, n.sv, n.av, n.ov] 28, ntE n]) (fun i => [(0, .slice a0 len0 cap0), (2, .bool false), (3, .pointer (some ⟨b5, 0, none⟩)), (4, .int .i64 (cod z0 len0 0 : Int)), (5, .int .i64 (2 * n.cnt)), (6, .int .i64 a), (7, .int .i64 b), (8, .int .i64 s), (9, v6), (10, v9), (11, .int .i64 va), (12, .int .i64 vb), (13, .int .i64 vs), (14, .pointer (some ⟨b15, 0, none⟩)), (15, .int .i64 xhR14), (16, .int .i64 xhR18), (17, .int .i64 xhR21), (18, .int .i64 xhR24), (19, v25), (20, .int .i64 (i : Int)), (23, .bool false)]) (fun i => i ≤ (valsL n (stL n) (cod z0 len0 0 : Int)).length) (fun i => (valsL n (stL n) (cod z0 len0 0 : Int)).length - i) 0 (Nat.zero_le _) (sx 0 rfl (sx 2 rfl (sx 3 rfl (sx 4 rfl (sx 5 rfl (sx 6 rfl (sx 7 rfl (sx 8 rfl (sx 9 rfl (sx 10 rfl (sx 11 rfl (sx 12 rfl (sx 13 rfl (sx 14 rfl (sx 15 rfl (sx 16 rfl (sx 17 rfl (sx 18 rfl (sx 19 rfl (sx 20 rfl (sx 23 rfl (sub_nil _)))))))))))))))))))))) ((.cons_cons _ (.cons_cons _ (.cons_cons _ (.cons_cons _ (.cons_cons _ (.cons_cons _ (.cons_cons _ (.cons_cons _ (.cons_cons _ (.cons_cons _ .slnil))))))))))) ?_
  intro i hi28
  have hi := hi28
  refine hc_seq ?_
  refine hc_seq ?_
  refine hc_region ?_
  refine hl_v rfl rfl rfl (rv_ev rfl) ?_
  refine hl_v rfl rfl rfl (rv_ev rfl) ?_
  refine hl_v rfl rfl rfl (rv_len rfl Try.underlying26 rfl (rd_row 6 rfl)) ?_
  refine hl_lss rfl rfl rfl rfl rfl rfl (fun h29 => ?_) (fun h29 => ?_)
  ·
   refine hl_less (sx 0 rfl (sx 2 rfl (sx 3 rfl (sx 4 rfl (sx 5 rfl (sx 6 rfl (sx 7 rfl (sx 8 rfl (sx 9 rfl (sx 10 rfl (sx 11 rfl (sx 12 rfl (sx 13 rfl (sx 14 rfl (sx 15 rfl (sx 16 rfl (sx 17 rfl (sx 18 rfl (sx 19 rfl (sx 20 rfl (sx 23 rfl (sx 94 rfl (sub_nil _))))))))))))))))))))))) (.refl _) ?_
   refine hl_nil ?_
   refine hq_then ?_
   refine hc_true rfl ?_
   refine hc_skip ?_
   refine hq_then ?_
   refine hc_seq ?_
   refine hc_block ?_
   refine hc_seq ?_
   have hU6 : getI (valsL nhR24 (stL n) (cod z0 len0 0 : Int)) (i : Int) = (valsL n (stL n) (cod z0 len0 0 : Int)).getD i 0 := by unfold getI; rw [if_pos (by omega), Int.toNat_natCast]; exact hU5 i (by omega)
   have hb30 : ((getI (valsL nhR24 (stL n) (cod z0 len0 0 : Int)) (i : Int)) != ((valsL n (stL n) (cod z0 len0 0 : Int)).getD i 0)) = false := Bool.eq_false_iff.2 (fun h => bne_iff_ne.1 h (by omega))
   refine hc_draw (by kernel_rfl) 8 [0, 1, 2, 3, 4, 5, 6, 7] (List.take 8 _) (List.drop 8 _) [[], [], [0, 1], [], [], [3, 4], [5], [2, 6]] [97, 98, 99, 100, 101, 102, 103, 104] (fun i_ vs_ v_ p_ => match i_ with | 0 => v_ = v25 ∧ p_ = [] | 1 => v_ = .int .i64 (i : Int) ∧ p_ = [] | 2 => v_ = .int .i64 (getI (valsL nhR24 (stL n) (cod z0 len0 0 : Int)) (i : Int)) ∧ p_ = [] | 3 => v_ = v9 ∧ p_ = [] | 4 => v_ = .int .i64 (i : Int) ∧ p_ = [] | 5 => v_ = elP v9 (((i : Int)).toNat * 1) ∧ p_ = [] | 6 => v_ = .int .i64 ((valsL n (stL n) (cod z0 len0 0 : Int)).getD i 0) ∧ p_ = [] | 7 => v_ = .bool false ∧ p_ = [] | _ => True) (List.take_append_drop 8 _).symm (by kernel_rfl) (by kernel_rfl) rfl rfl ?_ ?_
   ·
    refine ⟨?_, ?_, ?_, ?_, ?_, ?_, ?_, ?_, trivial⟩
    ·
     intro vf pf hR
     refine Or.inl ⟨rfl, ?_⟩
     refine rq_less (sx 19 rfl (sub_nil _)) (List.sublist_append_right _ _) ?_
     exact rq_v (rv_ev rfl)
    ·
     intro vf pf hR
     refine Or.inl ⟨rfl, ?_⟩
     refine rq_less (sx 20 rfl (sub_nil _)) (List.sublist_append_right _ _) ?_
     exact rq_v (rv_ev rfl)
    ·
     intro vf pf hR
     have e0 : (vf 0) = v25 ∧ (pf 0) = [] := hR 0 (by decide)
     have e1 : (vf 1) = .int .i64 (i : Int) ∧ (pf 1) = [] := hR 1 (by decide)
     refine Or.inl ⟨rfl, ?_⟩
     refine rq_less (sx 97 (congrArg some e0.1) (sx 98 (congrArg some e1.1) (sub_nil _))) (List.sublist_append_right _ _) ?_
     exact (rq_call (by kernel_rfl) rfl (fun w hm => ret_ans (lawsGet_ans (valsL nhR24 (stL n) (cod z0 len0 0 : Int)) (i : Int) _ w ((rd_row 0 rfl) w hm) (by first | omega | simp))))
    ·
     intro vf pf hR
     refine Or.inl ⟨rfl, ?_⟩
     refine rq_less (sx 10 rfl (sub_nil _)) (List.sublist_append_right _ _) ?_
     exact rq_v (rv_ev rfl)
    ·
     intro vf pf hR
     refine Or.inl ⟨rfl, ?_⟩
     refine rq_less (sx 20 rfl (sub_nil _)) (List.sublist_append_right _ _) ?_
     exact rq_v (rv_ev rfl)
    ·
     intro vf pf hR
     have e3 : (vf 3) = v9 ∧ (pf 3) = [] := hR 3 (by decide)
     have e4 : (vf 4) = .int .i64 (i : Int) ∧ (pf 4) = [] := hR 4 (by decide)
     refine Or.inl ⟨rfl, ?_⟩
     refine rq_less (sx 100 (congrArg some e3.1) (sx 101 (congrArg some e4.1) (sub_nil _))) (List.sublist_append_right _ _) ?_
     exact rq_v (rv_index (s := 1) rfl Try.underlying26 (by kernel_rfl) rfl rfl (rd_row 6 rfl) (by omega) (by first | omega | (simp only [List.length_set]; omega)))
    ·
     intro vf pf hR
     have e5 : (vf 5) = elP v9 (((i : Int)).toNat * 1) ∧ (pf 5) = [] := hR 5 (by decide)
     refine Or.inl ⟨rfl, ?_⟩
     refine rq_less (sx 102 (congrArg some e5.1) (sub_nil _)) (List.sublist_append_right _ _) ?_
     exact rq_v (rv_loadEl (u := .int .i64 ((valsL n (stL n) (cod z0 len0 0 : Int)).getD i 0)) rfl (by kernel_rfl) rfl (rd_row 6 rfl) (ints_at1 (show _ < (valsL n (stL n) (cod z0 len0 0 : Int)).length by first | omega | (simp only [List.length_set]; omega))))
    ·
     intro vf pf hR
     have e2 : (vf 2) = .int .i64 (getI (valsL nhR24 (stL n) (cod z0 len0 0 : Int)) (i : Int)) ∧ (pf 2) = [] := hR 2 (by decide)
     have e6 : (vf 6) = .int .i64 ((valsL n (stL n) (cod z0 len0 0 : Int)).getD i 0) ∧ (pf 6) = [] := hR 6 (by decide)
     refine Or.inl ⟨rfl, ?_⟩
     refine rq_less (sx 99 (congrArg some e2.1) (sx 103 (congrArg some e6.1) (sub_nil _))) (List.sublist_append_right _ _) ?_
     exact rq_mono (rq_v (rv_cmp rfl rfl rfl rfl)) (fun _ _ h => ⟨h.1.trans (congrArg Value.bool hb30), h.2⟩)
   ·
    intro vf pf hR
    have e7 : (vf 7) = .bool false ∧ (pf 7) = [] := hR 7 (by decide)
    refine hl_less (l' := [rowE 3 1 v25 ((valsL nhR24 (stL n) (cod z0 len0 0 : Int)).length) ((valsL nhR24 (stL n) (cod z0 len0 0 : Int)).map (Value.int .i64)), ntE nhR24, ntE nhR21, ntE nhR18, boxE b15 #[.int .i64 nhR24.ins, nhR24.sv, nhR24.av, nhR24.ov] 28, ntE nhR14, rowE 3 1 v9 ((valsL n (stL n) (cod z0 len0 0 : Int)).length) ((valsL n (stL n) (cod z0 len0 0 : Int)).map (Value.int .i64)), rowE 3 1 v6 ((stL n).length) ((stL n).map (Value.int .i64)), boxE b5 #[.int .i64 n.ins, n.sv, n.av, n.ov] 28, ntE n]) (sx 0 rfl (sx 2 rfl (sx 3 rfl (sx 4 rfl (sx 5 rfl (sx 6 rfl (sx 7 rfl (sx 8 rfl (sx 9 rfl (sx 10 rfl (sx 11 rfl (sx 12 rfl (sx 13 rfl (sx 14 rfl (sx 15 rfl (sx 16 rfl (sx 17 rfl (sx 18 rfl (sx 19 rfl (sx 20 rfl (sx 23 rfl (sx 94 rfl (sx 104 (congrArg some e7.1) (sub_nil _)))))))))))))))))))))))) (List.sublist_append_right _ _) ?_
    simp only [List.drop_succ_cons, List.drop_zero]
    refine hl_less (sx 0 rfl (sx 2 rfl (sx 3 rfl (sx 4 rfl (sx 5 rfl (sx 6 rfl (sx 7 rfl (sx 8 rfl (sx 9 rfl (sx 10 rfl (sx 11 rfl (sx 12 rfl (sx 13 rfl (sx 14 rfl (sx 15 rfl (sx 16 rfl (sx 17 rfl (sx 18 rfl (sx 19 rfl (sx 20 rfl (sx 23 rfl (sx 94 rfl (sx 104 rfl (sub_nil _)))))))))))))))))))))))) (.refl _) ?_
    refine hl_nil ?_
    refine hq_then ?_
    refine hc_false rfl ?_
    refine hc_skip ?_
    refine hq_block_normal ?_
    refine hq_then ?_
    refine hc_region ?_
    refine hl_v rfl rfl rfl (rv_ev rfl) ?_
    refine hl_v rfl rfl rfl (rv_add rfl rfl rfl (by constructor <;> omega)) ?_
    refine hl_v rfl rfl rfl (rv_ev rfl) ?_
    refine hl_less (sx 0 rfl (sx 2 rfl (sx 3 rfl (sx 4 rfl (sx 5 rfl (sx 6 rfl (sx 7 rfl (sx 8 rfl (sx 9 rfl (sx 10 rfl (sx 11 rfl (sx 12 rfl (sx 13 rfl (sx 14 rfl (sx 15 rfl (sx 16 rfl (sx 17 rfl (sx 18 rfl (sx 19 rfl (sx 20 rfl (sx 23 rfl (sx 94 rfl (sx 104 rfl (sub_nil _)))))))))))))))))))))))) (.refl _) ?_
    refine hl_nil ?_
    exact hq_round1 (i + 1) (by omega) (by omega) (sx 0 rfl (sx 2 rfl (sx 3 rfl (sx 4 rfl (sx 5 rfl (sx 6 rfl (sx 7 rfl (sx 8 rfl (sx 9 rfl (sx 10 rfl (sx 11 rfl (sx 12 rfl (sx 13 rfl (sx 14 rfl (sx 15 rfl (sx 16 rfl (sx 17 rfl (sx 18 rfl (sx 19 rfl (sx 20 rfl (sx 23 rfl (sub_nil _)))))))))))))))))))))) ((.cons_cons _ (.cons_cons _ (.cons_cons _ (.cons_cons _ (.cons_cons _ (.cons_cons _ (.cons_cons _ (.cons_cons _ (.cons_cons _ (.cons_cons _ .slnil)))))))))))
  ·
   refine hl_less (sx 0 rfl (sx 2 rfl (sx 3 rfl (sx 4 rfl (sx 5 rfl (sx 6 rfl (sx 7 rfl (sx 8 rfl (sx 9 rfl (sx 10 rfl (sx 11 rfl (sx 12 rfl (sx 13 rfl (sx 14 rfl (sx 15 rfl (sx 16 rfl (sx 17 rfl (sx 18 rfl (sx 19 rfl (sx 20 rfl (sx 23 rfl (sx 94 rfl (sub_nil _))))))))))))))))))))))) (.refl _) ?_
   refine hl_nil ?_
   refine hq_then ?_
   refine hc_false rfl ?_
   refine hc_exit ?_
   refine hq_then_exit ?_
   refine hq_then_exit ?_
   refine hq_block_exit ?_
   refine hq_then ?_
   refine hc_seq ?_
   refine hc_region ?_
   refine hl_v rfl rfl rfl (rv_ev rfl) ?_
   refine hl_v rfl rfl rfl (rv_ev rfl) ?_
   refine hl_less (sx 0 rfl (sx 2 rfl (sx 3 rfl (sx 4 rfl (sx 5 rfl (sx 6 rfl (sx 7 rfl (sx 8 rfl (sx 9 rfl (sx 10 rfl (sx 11 rfl (sx 12 rfl (sx 13 rfl (sx 14 rfl (sx 15 rfl (sx 16 rfl (sx 17 rfl (sx 18 rfl (sx 19 rfl (sx 20 rfl (sx 21 rfl (sx 23 rfl (sx 94 rfl (sub_nil _)))))))))))))))))))))))) (.refl _) ?_
   refine hl_nil ?_
   refine hq_then ?_
   refine hc_seq ?_
   refine hc_seq ?_
   refine hc_region ?_
   refine hl_v rfl rfl rfl (rv_ev rfl) ?_
   refine hl_eql rfl rfl rfl rfl rfl rfl (fun h31 => ?_) (fun h31 => ?_)
   ·
    refine hl_less (sx 0 rfl (sx 2 rfl (sx 3 rfl (sx 4 rfl (sx 5 rfl (sx 6 rfl (sx 7 rfl (sx 8 rfl (sx 9 rfl (sx 10 rfl (sx 11 rfl (sx 12 rfl (sx 13 rfl (sx 14 rfl (sx 15 rfl (sx 16 rfl (sx 17 rfl (sx 18 rfl (sx 19 rfl (sx 20 rfl (sx 21 rfl (sx 23 rfl (sx 94 rfl (sx 107 rfl (sub_nil _))))))))))))))))))))))))) (.refl _) ?_
    refine hl_nil ?_
    refine hq_then ?_
    refine hc_true rfl ?_
    refine hc_region ?_
    refine hl_v rfl rfl rfl (rv_ev rfl) ?_
    refine hl_v rfl rfl rfl (rv_ev rfl) ?_
    refine hl_less (sx 0 rfl (sx 2 rfl (sx 3 rfl (sx 4 rfl (sx 5 rfl (sx 6 rfl (sx 7 rfl (sx 8 rfl (sx 9 rfl (sx 10 rfl (sx 11 rfl (sx 12 rfl (sx 13 rfl (sx 14 rfl (sx 15 rfl (sx 16 rfl (sx 17 rfl (sx 18 rfl (sx 19 rfl (sx 20 rfl (sx 21 rfl (sx 23 rfl (sx 94 rfl (sx 107 rfl (sub_nil _))))))))))))))))))))))))) (.refl _) ?_
    refine hl_nil ?_
    refine hq_then ?_
    refine hc_seq ?_
    refine hc_region ?_
    have hW : bitL (valsL nhR24 (stL n) (cod z0 len0 0 : Int)) xhR24 = va := by rw [hU4, mux01 hvs1 hva1 hvb1]; first | rw [if_pos (by omega)] | rw [if_neg (by omega)]
    refine hl_v rfl rfl rfl (rv_ev rfl) ?_
    refine hl_v rfl rfl rfl (rv_ev rfl) ?_
    refine hl_callV rfl rfl rfl (rq_call (by kernel_rfl) rfl (fun w hm => ret_ans (impLitValue_ans (valsL nhR24 (stL n) (cod z0 len0 0 : Int)) xhR14 _ w ((rd_row 0 rfl) w hm) (by omega) (hu01 _ (by omega)) (by omega)))) ?_
    refine hl_v rfl rfl rfl (rv_ev rfl) ?_
    refine hl_v rfl rfl rfl (rv_ev rfl) ?_
    refine hl_v rfl rfl rfl (rv_bits rfl (by decide) rfl rfl (r := va * vb) (and01 hva1 hvb1)) ?_
    refine hl_eql rfl rfl rfl rfl rfl rfl (fun h32 => ?_) (fun h32 => absurd h32 (by omega))
    refine hl_v rfl rfl rfl (rv_ev rfl) ?_
    refine hl_v rfl rfl rfl (rv_ev rfl) ?_
    refine hl_v rfl rfl rfl (rv_ev rfl) ?_
    refine hl_callV rfl rfl rfl (rq_call (by kernel_rfl) rfl (fun w hm => ret_ans (impLitValue_ans (valsL nhR24 (stL n) (cod z0 len0 0 : Int)) xhR18 _ w ((rd_row 0 rfl) w hm) (by omega) (hu01 _ (by omega)) (by omega)))) ?_
    refine hl_v rfl rfl rfl (rv_ev rfl) ?_
    refine hl_v rfl rfl rfl (rv_ev rfl) ?_
    refine hl_v rfl rfl rfl (rv_bits rfl (by decide) rfl rfl (r := 1 - (1 - va) * (1 - vb)) (or01 hva1 hvb1)) ?_
    refine hl_eql rfl rfl rfl rfl rfl rfl (fun h33 => ?_) (fun h33 => absurd h33 (by omega))
    refine hl_v rfl rfl rfl (rv_ev rfl) ?_
    refine hl_v rfl rfl rfl (rv_ev rfl) ?_
    refine hl_v rfl rfl rfl (rv_ev rfl) ?_
    refine hl_v rfl rfl rfl (rv_ev rfl) ?_
    refine hl_callV rfl rfl rfl (rq_call (by kernel_rfl) rfl (fun w hm => ret_ans (impLitValue_ans (valsL nhR24 (stL n) (cod z0 len0 0 : Int)) xhR21 _ w ((rd_row 0 rfl) w hm) (by omega) (hu01 _ (by omega)) (by omega)))) ?_
    refine hl_v rfl rfl rfl (rv_ev rfl) ?_
    refine hl_v rfl rfl rfl (rv_ev rfl) ?_
    refine hl_v rfl rfl rfl (rv_bits rfl (by decide) rfl rfl (r := 1 - (1 - va * (1 - vb)) * (1 - (1 - va) * vb)) (xor01b hva1 hvb1)) ?_
    refine hl_eql rfl rfl rfl rfl rfl rfl (fun h34 => ?_) (fun h34 => absurd h34 (by omega))
    refine hl_v rfl rfl rfl (rv_ev rfl) ?_
    refine hl_v rfl rfl rfl (rv_ev rfl) ?_
    refine hl_v rfl rfl rfl (rv_ev rfl) ?_
    refine hl_v rfl rfl rfl (rv_ev rfl) ?_
    refine hl_callV rfl rfl rfl (rq_call (by kernel_rfl) rfl (fun w hm => ret_ans (impLitValue_ans (valsL nhR24 (stL n) (cod z0 len0 0 : Int)) xhR24 _ w ((rd_row 0 rfl) w hm) (by omega) (hu01 _ (by omega)) (by omega)))) ?_
    refine hl_v rfl rfl rfl (rv_ev rfl) ?_
    refine hl_eql rfl rfl rfl rfl rfl rfl (fun h35 => ?_) (fun h35 => absurd h35 (by omega))
    refine hl_v rfl rfl rfl (rv_ev rfl) ?_
    refine hl_v rfl rfl rfl (rv_ev rfl) ?_
    refine hl_v rfl rfl rfl (rv_field (k0 := 2) rfl (by kernel_rfl) rfl) ?_
    refine hl_v rfl rfl rfl (rv_load rfl (by kernel_rfl) rfl (box_cell 4 rfl rfl)) ?_
    refine hl_v rfl rfl rfl (rv_len rfl Try.underlying25 rfl (fun w hm => (nt_rds 1 rfl w hm).an)) ?_
    refine hl_v rfl rfl rfl (rv_field (k0 := 2) rfl (by kernel_rfl) rfl) ?_
    refine hl_v rfl rfl rfl (rv_load rfl (by kernel_rfl) rfl (box_cell 8 rfl rfl)) ?_
    refine hl_v rfl rfl rfl (rv_len rfl Try.underlying25 rfl (fun w hm => (nt_rds 9 rfl w hm).an)) ?_
    refine hl_v rfl rfl rfl (rv_add rfl rfl rfl (by constructor <;> omega)) ?_
    refine hl_leq rfl rfl rfl rfl rfl rfl (fun h36 => ?_) (fun h36 => absurd h36 (by omega))
    refine hl_v rfl rfl rfl (rv_ev rfl) ?_
    refine hl_v rfl rfl rfl (rv_ev rfl) ?_
    refine hl_less (sx 0 rfl (sx 2 rfl (sx 3 rfl (sx 4 rfl (sx 5 rfl (sx 6 rfl (sx 7 rfl (sx 8 rfl (sx 9 rfl (sx 10 rfl (sx 11 rfl (sx 12 rfl (sx 13 rfl (sx 14 rfl (sx 15 rfl (sx 16 rfl (sx 17 rfl (sx 18 rfl (sx 19 rfl (sx 20 rfl (sx 21 rfl (sx 23 rfl (sx 94 rfl (sx 107 rfl (sub_nil _))))))))))))))))))))))))) (.refl _) ?_
    refine hl_nil ?_
    refine hq_then ?_
    refine hc_ret ?_
    exact hq_ans rfl rfl rfl
   ·
    refine hl_less (sx 0 rfl (sx 2 rfl (sx 3 rfl (sx 4 rfl (sx 5 rfl (sx 6 rfl (sx 7 rfl (sx 8 rfl (sx 9 rfl (sx 10 rfl (sx 11 rfl (sx 12 rfl (sx 13 rfl (sx 14 rfl (sx 15 rfl (sx 16 rfl (sx 17 rfl (sx 18 rfl (sx 19 rfl (sx 20 rfl (sx 21 rfl (sx 23 rfl (sx 94 rfl (sx 107 rfl (sub_nil _))))))))))))))))))))))))) (.refl _) ?_
    refine hl_nil ?_
    refine hq_then ?_
    refine hc_false rfl ?_
    refine hc_skip ?_
    refine hq_then ?_
    refine hc_seq ?_
    refine hc_region ?_
    have hW : bitL (valsL nhR24 (stL n) (cod z0 len0 0 : Int)) xhR24 = vb := by rw [hU4, mux01 hvs1 hva1 hvb1]; first | rw [if_pos (by omega)] | rw [if_neg (by omega)]
    refine hl_v rfl rfl rfl (rv_ev rfl) ?_
    refine hl_v rfl rfl rfl (rv_ev rfl) ?_
    refine hl_callV rfl rfl rfl (rq_call (by kernel_rfl) rfl (fun w hm => ret_ans (impLitValue_ans (valsL nhR24 (stL n) (cod z0 len0 0 : Int)) xhR14 _ w ((rd_row 0 rfl) w hm) (by omega) (hu01 _ (by omega)) (by omega)))) ?_
    refine hl_v rfl rfl rfl (rv_ev rfl) ?_
    refine hl_v rfl rfl rfl (rv_ev rfl) ?_
    refine hl_v rfl rfl rfl (rv_bits rfl (by decide) rfl rfl (r := va * vb) (and01 hva1 hvb1)) ?_
    refine hl_eql rfl rfl rfl rfl rfl rfl (fun h37 => ?_) (fun h37 => absurd h37 (by omega))
    refine hl_v rfl rfl rfl (rv_ev rfl) ?_
    refine hl_v rfl rfl rfl (rv_ev rfl) ?_
    refine hl_v rfl rfl rfl (rv_ev rfl) ?_
    refine hl_callV rfl rfl rfl (rq_call (by kernel_rfl) rfl (fun w hm => ret_ans (impLitValue_ans (valsL nhR24 (stL n) (cod z0 len0 0 : Int)) xhR18 _ w ((rd_row 0 rfl) w hm) (by omega) (hu01 _ (by omega)) (by omega)))) ?_
    refine hl_v rfl rfl rfl (rv_ev rfl) ?_
    refine hl_v rfl rfl rfl (rv_ev rfl) ?_
    refine hl_v rfl rfl rfl (rv_bits rfl (by decide) rfl rfl (r := 1 - (1 - va) * (1 - vb)) (or01 hva1 hvb1)) ?_
    refine hl_eql rfl rfl rfl rfl rfl rfl (fun h38 => ?_) (fun h38 => absurd h38 (by omega))
    refine hl_v rfl rfl rfl (rv_ev rfl) ?_
    refine hl_v rfl rfl rfl (rv_ev rfl) ?_
    refine hl_v rfl rfl rfl (rv_ev rfl) ?_
    refine hl_v rfl rfl rfl (rv_ev rfl) ?_
    refine hl_callV rfl rfl rfl (rq_call (by kernel_rfl) rfl (fun w hm => ret_ans (impLitValue_ans (valsL nhR24 (stL n) (cod z0 len0 0 : Int)) xhR21 _ w ((rd_row 0 rfl) w hm) (by omega) (hu01 _ (by omega)) (by omega)))) ?_
    refine hl_v rfl rfl rfl (rv_ev rfl) ?_
    refine hl_v rfl rfl rfl (rv_ev rfl) ?_
    refine hl_v rfl rfl rfl (rv_bits rfl (by decide) rfl rfl (r := 1 - (1 - va * (1 - vb)) * (1 - (1 - va) * vb)) (xor01b hva1 hvb1)) ?_
    refine hl_eql rfl rfl rfl rfl rfl rfl (fun h39 => ?_) (fun h39 => absurd h39 (by omega))
    refine hl_v rfl rfl rfl (rv_ev rfl) ?_
    refine hl_v rfl rfl rfl (rv_ev rfl) ?_
    refine hl_v rfl rfl rfl (rv_ev rfl) ?_
    refine hl_v rfl rfl rfl (rv_ev rfl) ?_
    refine hl_callV rfl rfl rfl (rq_call (by kernel_rfl) rfl (fun w hm => ret_ans (impLitValue_ans (valsL nhR24 (stL n) (cod z0 len0 0 : Int)) xhR24 _ w ((rd_row 0 rfl) w hm) (by omega) (hu01 _ (by omega)) (by omega)))) ?_
    refine hl_v rfl rfl rfl (rv_ev rfl) ?_
    refine hl_eql rfl rfl rfl rfl rfl rfl (fun h40 => ?_) (fun h40 => absurd h40 (by omega))
    refine hl_v rfl rfl rfl (rv_ev rfl) ?_
    refine hl_v rfl rfl rfl (rv_ev rfl) ?_
    refine hl_v rfl rfl rfl (rv_field (k0 := 2) rfl (by kernel_rfl) rfl) ?_
    refine hl_v rfl rfl rfl (rv_load rfl (by kernel_rfl) rfl (box_cell 4 rfl rfl)) ?_
    refine hl_v rfl rfl rfl (rv_len rfl Try.underlying25 rfl (fun w hm => (nt_rds 1 rfl w hm).an)) ?_
    refine hl_v rfl rfl rfl (rv_field (k0 := 2) rfl (by kernel_rfl) rfl) ?_
    refine hl_v rfl rfl rfl (rv_load rfl (by kernel_rfl) rfl (box_cell 8 rfl rfl)) ?_
    refine hl_v rfl rfl rfl (rv_len rfl Try.underlying25 rfl (fun w hm => (nt_rds 9 rfl w hm).an)) ?_
    refine hl_v rfl rfl rfl (rv_add rfl rfl rfl (by constructor <;> omega)) ?_
    refine hl_leq rfl rfl rfl rfl rfl rfl (fun h41 => ?_) (fun h41 => absurd h41 (by omega))
    refine hl_v rfl rfl rfl (rv_ev rfl) ?_
    refine hl_v rfl rfl rfl (rv_ev rfl) ?_
    refine hl_less (sx 0 rfl (sx 2 rfl (sx 3 rfl (sx 4 rfl (sx 5 rfl (sx 6 rfl (sx 7 rfl (sx 8 rfl (sx 9 rfl (sx 10 rfl (sx 11 rfl (sx 12 rfl (sx 13 rfl (sx 14 rfl (sx 15 rfl (sx 16 rfl (sx 17 rfl (sx 18 rfl (sx 19 rfl (sx 20 rfl (sx 21 rfl (sx 23 rfl (sx 94 rfl (sx 107 rfl (sub_nil _))))))))))))))))))))))))) (.refl _) ?_
    refine hl_nil ?_
    refine hq_then ?_
    refine hc_ret ?_
    exact hq_ans rfl rfl rfl
end Go.Proofs.Ytakbbebpimlnpaa
