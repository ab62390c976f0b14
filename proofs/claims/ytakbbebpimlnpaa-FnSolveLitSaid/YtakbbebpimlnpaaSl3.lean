/- Texts of the law FnSolveLit, part 3: what it uses. -/
import Derived.Test.YtakbbebpimlnpaaSl2
set_option linter.unusedVariables false
set_option linter.unusedSimpArgs false
namespace Go.Proofs.Ytakbbebpimlnpaa
open Go.RowKit Go.ChangeShapes
open Go.RowKit
set_option maxHeartbeats 4000000 in
set_option maxRecDepth 100000 in
theorem copyIntsN_ret (xs : List Int) (v : Value) (w : World) (hv : RdsW w v 1 xs.length (xs.map (Value.int .i64))) (hlen : xs.length ≤ 1000000000) :
  Calls Try.prog 134 #[v] w (Ret w (fun v' post => post = [rowE 3 1 v' (xs).length ((xs).map (Value.int .i64))])) := by
 refine calls_hc (N := 6) (args := [v]) Try.func134 rfl rfl ?_
 refine hc_less _ (sx 0 rfl (sub_nil _)) (.refl _) ?_
 refine hc_seq ?_
 refine hc_region ?_
 refine hl_v rfl rfl rfl (rv_ev rfl) ?_
 refine hl_less (sx 0 rfl (sx 2 rfl (sub_nil _))) (.refl _) ?_
 refine hl_nil ?_
 refine hq_then ?_
 refine hc_seq ?_
 refine hc_region ?_
 refine hl_row rfl rfl rfl (rq_slice0 (s := 1) rfl Try.underlying26 (by kernel_rfl)) ?_
 intro g1
 refine hl_v rfl rfl rfl (rv_ev rfl) ?_
 refine hl_append (i := 0) (z := .int .i64 0) (bytes := 8) (n' := xs.length) (xs' := (xs.map (Value.int .i64))) (L := fun v2 => [rowE 3 1 v2 xs.length (xs.map (Value.int .i64))]) rfl rfl rfl rfl Try.underlying26 (by kernel_rfl) (by kernel_rfl) rfl rfl rfl (rd_old hv) (ints_one _) (by first | omega | (simp; omega)) ((Nat.zero_add _)) ((List.nil_append _)) (fun _ => rfl) ?_
 intro v2
 refine hl_v rfl rfl rfl (rv_ev rfl) ?_
 refine hl_less (sx 0 rfl (sx 2 rfl (sub_nil _))) (.refl _) ?_
 refine hl_nil ?_
 refine hq_then ?_
 refine hc_ret ?_
 exact hq_retR (post := [rowE 3 1 v2 xs.length (xs.map (Value.int .i64))]) rfl rfl ((.cons_cons _ .slnil)) rfl
set_option maxHeartbeats 4000000 in
set_option maxRecDepth 100000 in
theorem roots_ret (n : Nt) (w : World) (hr : RdsNt w n) (hn : NtOk n) :
  Calls Try.prog 126 #[.agg #[.int .i64 n.ins, n.sv, n.av, n.ov]] w (Ret w (fun v' post => post = [rowE 3 1 v' (rtsL n n.ss.length).length ((rtsL n n.ss.length).map (Value.int .i64))])) := by
 have hi0 := hn.i0
 have hi1 := hn.i1
 have hs1 := hn.s1
 have ha1 := hn.a1
 have ho1 := hn.o1
 have hcnt : n.cnt = 1 + n.ins + n.ss.length + n.gs.length := rfl
 have hfst : n.fst = 1 + n.ins + n.ss.length := rfl
 refine calls_hc (N := 22) (args := [.agg #[.int .i64 n.ins, n.sv, n.av, n.ov]]) Try.func126 rfl rfl ?_
 refine hc_less _ (sx 0 rfl (sub_nil _)) (.refl _) ?_
 refine hc_seq ?_
 refine hc_region ?_
 refine hl_box rfl rfl rfl (rq_box rfl rfl) ?_
 intro b1
 refine hl_v rfl rfl rfl (rv_ev rfl) ?_
 refine hl_less (sx 0 rfl (sx 1 rfl (sx 2 rfl (sub_nil _)))) (.refl _) ?_
 refine hl_nil ?_
 refine hq_then ?_
 refine hc_seq ?_
 refine hc_region ?_
 refine hl_v rfl rfl rfl (rv_field (k0 := 3) rfl (by kernel_rfl) rfl) ?_
 refine hl_v rfl rfl rfl (rv_load rfl (by kernel_rfl) rfl (box_cell 0 rfl rfl)) ?_
 refine hl_q rfl rfl rfl (rq_call (by kernel_rfl) rfl (fun w hm => copyIntsN_ret n.os _ w ((rd_old hr.ou) w hm) (by omega))) ?_
 intro v2 p3 hR4
 subst hR4
 refine hl_v rfl rfl rfl (rv_ev rfl) ?_
 refine hl_less (sx 0 rfl (sx 1 rfl (sx 2 rfl (sx 3 rfl (sub_nil _))))) (.refl _) ?_
 refine hl_nil ?_
 refine hq_then ?_
 refine hc_seq ?_
 refine hc_seq ?_
 refine hc_region ?_
 refine hl_v rfl rfl rfl (rv_field (k0 := 1) rfl (by kernel_rfl) rfl) ?_
 refine hl_v rfl rfl rfl (rv_load rfl (by kernel_rfl) rfl (box_cell 1 rfl rfl)) ?_
 refine hl_v rfl rfl rfl (rv_len rfl Try.underlying24 rfl (rd_old hr.sq)) ?_
 refine hl_v rfl rfl rfl (rv_ev rfl) ?_
 refine hl_less (sx 0 rfl (sx 1 rfl (sx 2 rfl (sx 3 rfl (sx 10 rfl (sx 11 rfl (sx 12 rfl (sub_nil _)))))))) (.refl _) ?_
 refine hl_nil ?_
 refine hq_then ?_
 refine hc_block ?_
 refine hc_loop3 (α := Nat) (β := Value) (γ := List Int) (fun k u zs => [rowE 3 1 u zs.length (zs.map (Value.int .i64)), boxE b1 #[.int .i64 n.ins, n.sv, n.av, n.ov] 28]) (fun k u zs => [(0, .agg #[.int .i64 n.ins, n.sv, n.av, n.ov]), (1, .pointer (some ⟨b1, 0, none⟩)), (2, .slice none 0 0), (3, u), (10, n.sv), (11, .int .i64 (n.ss.length : Int)), (12, .int .i64 (k : Int))]) (fun k u zs => k ≤ n.ss.length ∧ zs = rtsL n k) (fun k u zs => n.ss.length - k) 0 _ n.os ⟨by omega, by simp [rtsL]⟩ (sx 0 rfl (sx 1 rfl (sx 2 rfl (sx 3 rfl (sx 10 rfl (sx 11 rfl (sx 12 rfl (sub_nil _)))))))) ((.cons_cons _ (.cons_cons _ .slnil))) ?_
 intro k u zs hi5
 obtain ⟨hk, hz⟩ := hi5
 have hzl : zs.length ≤ 16 + 4 * k := by rw [hz]; exact rts_len hn k hk
 refine hc_seq ?_
 refine hc_region ?_
 refine hl_lss rfl rfl rfl rfl rfl rfl (fun h6 => ?_) (fun h6 => ?_)
 ·
  refine hl_less (sx 0 rfl (sx 1 rfl (sx 2 rfl (sx 3 rfl (sx 10 rfl (sx 11 rfl (sx 12 rfl (sx 13 rfl (sub_nil _))))))))) (.refl _) ?_
  refine hl_nil ?_
  refine hq_then ?_
  refine hc_seq ?_
  refine hc_true rfl ?_
  refine hc_skip ?_
  refine hq_then ?_
  refine hc_seq ?_
  refine hc_block ?_
  refine hc_seq ?_
  refine hc_region ?_
  refine hl_v rfl rfl rfl (rv_index (s := 3) rfl Try.underlying24 (by kernel_rfl) rfl rfl (rd_old hr.sq) (by omega) (by first | omega | (simp only [List.length_set]; omega))) ?_
  refine hl_v rfl rfl rfl (rv_loadElN (us := [.int .i64 ((n.ss.getD k sq0).kd), .int .i64 ((n.ss.getD k sq0).it), (n.ss.getD k sq0).iv]) rfl (by kernel_rfl) (by kernel_rfl) rfl (rd_old hr.sq) (by omega) rfl (flat_atN sqC 3 (fun _ => rfl) n.ss sq0 (show k < _ by first | omega | (simp only [List.length_set]; omega)) rfl)) ?_
  refine hl_box rfl rfl rfl (rq_alloc (z := .agg #[.int .i64 0, .int .i64 0, .slice none 0 0]) rfl (by kernel_rfl)) ?_
  intro b7
  refine hl_storeBoxN (i := 0) (off := 0) (us := [.int .i64 ((n.ss.getD k sq0).kd), .int .i64 ((n.ss.getD k sq0).it), (n.ss.getD k sq0).iv])  (l' := [boxE b7 #[.int .i64 ((n.ss.getD k sq0).kd), .int .i64 ((n.ss.getD k sq0).it), (n.ss.getD k sq0).iv] 83, rowE 3 1 u zs.length (zs.map (Value.int .i64)), boxE b1 #[.int .i64 n.ins, n.sv, n.av, n.ov] 28]) rfl rfl rfl (by kernel_rfl) rfl rfl rfl (all_cons rfl (all_cons rfl (all_cons (hr.at (k := k) (by omega)).one all_nil))) rfl rfl rfl ?_
  refine hl_less (sx 0 rfl (sx 1 rfl (sx 2 rfl (sx 3 rfl (sx 5 rfl (sx 10 rfl (sx 11 rfl (sx 12 rfl (sx 13 rfl (sub_nil _)))))))))) (.refl _) ?_
  refine hl_nil ?_
  refine hq_then ?_
  refine hc_region ?_
  have hx4 := (hn.sq _ (getD_memX (d := sq0) (show k < n.ss.length by omega))).len
  refine hl_v rfl rfl rfl (rv_ev rfl) ?_
  refine hl_v rfl rfl rfl (rv_field (k0 := 2) rfl (by kernel_rfl) rfl) ?_
  refine hl_v rfl rfl rfl (rv_load rfl (by kernel_rfl) rfl (box_cell 0 rfl rfl)) ?_
  refine hl_append (i := 1) (z := .int .i64 0) (bytes := 8) (n' := (zs ++ ((n.ss.getD k sq0).xs)).length) (xs' := ((zs ++ ((n.ss.getD k sq0).xs)).map (Value.int .i64))) (L := fun v8 => [boxE b7 #[.int .i64 ((n.ss.getD k sq0).kd), .int .i64 ((n.ss.getD k sq0).it), (n.ss.getD k sq0).iv] 83, rowE 3 1 v8 ((zs ++ ((n.ss.getD k sq0).xs)).length) ((zs ++ ((n.ss.getD k sq0).xs)).map (Value.int .i64)), boxE b1 #[.int .i64 n.ins, n.sv, n.av, n.ov] 28]) rfl rfl rfl rfl Try.underlying26 (by kernel_rfl) (by kernel_rfl) rfl rfl rfl (fun w hm => (hr.at (k := k) (by omega)).below hm.bel) (ints_one _) (by first | omega | (simp; omega)) (len_app zs ((n.ss.getD k sq0).xs)) (ints_app zs ((n.ss.getD k sq0).xs)) (fun _ => rfl) ?_
  intro v8
  refine hl_v rfl rfl rfl (rv_ev rfl) ?_
  refine hl_less (sx 0 rfl (sx 1 rfl (sx 2 rfl (sx 3 rfl (sx 5 rfl (sx 10 rfl (sx 11 rfl (sx 12 rfl (sx 13 rfl (sub_nil _)))))))))) (.refl _) ?_
  refine hl_nil ?_
  refine hq_block_normal ?_
  refine hq_then ?_
  refine hc_region ?_
  refine hl_v rfl rfl rfl (rv_add rfl rfl rfl (by constructor <;> omega)) ?_
  refine hl_v rfl rfl rfl (rv_ev rfl) ?_
  refine hl_less (sx 0 rfl (sx 1 rfl (sx 2 rfl (sx 3 rfl (sx 5 rfl (sx 10 rfl (sx 11 rfl (sx 12 rfl (sx 13 rfl (sub_nil _)))))))))) (.refl _) ?_
  refine hl_nil ?_
  exact hq_round3 (k + 1) v8 (zs ++ ((n.ss.getD k sq0).xs)) ⟨by omega, by rw [hz, rts_step n (by omega)]⟩ (by omega) (sx 0 rfl (sx 1 rfl (sx 2 rfl (sx 3 rfl (sx 10 rfl (sx 11 rfl (sx 12 rfl (sub_nil _)))))))) ((.cons _ (.cons_cons _ (.cons_cons _ .slnil))))
 ·
  refine hl_less (sx 0 rfl (sx 1 rfl (sx 2 rfl (sx 3 rfl (sx 10 rfl (sx 11 rfl (sx 12 rfl (sx 13 rfl (sub_nil _))))))))) (.refl _) ?_
  refine hl_nil ?_
  refine hq_then ?_
  refine hc_seq ?_
  refine hc_false rfl ?_
  refine hc_exit ?_
  refine hq_then_exit ?_
  refine hq_then_exit ?_
  refine hq_block_exit ?_
  refine hq_then ?_
  refine hc_seq ?_
  refine hc_region ?_
  refine hl_v rfl rfl rfl (rv_ev rfl) ?_
  refine hl_v rfl rfl rfl (rv_ev rfl) ?_
  refine hl_less (sx 0 rfl (sx 1 rfl (sx 2 rfl (sx 3 rfl (sx 10 rfl (sx 11 rfl (sx 12 rfl (sx 13 rfl (sub_nil _))))))))) (.refl _) ?_
  refine hl_nil ?_
  refine hq_then ?_
  refine hc_ret ?_
  exact hq_retR (post := [rowE 3 1 u zs.length (zs.map (Value.int .i64))]) rfl rfl ((.cons_cons _ (.cons _ .slnil))) (by rw [hz, show k = n.ss.length by omega])
set_option maxHeartbeats 4000000 in
set_option maxRecDepth 100000 in
theorem implNetOk_yes (n : Nt) (w : World) (hr : RdsNt w n) (hn : NtOk n) :
  Calls Try.prog 67 #[.agg #[.int .i64 n.ins, n.sv, n.av, n.ov]] w (Ans w (.bool true)) := by
 have hi0 := hn.i0
 have hi1 := hn.i1
 have hs1 := hn.s1
 have ha1 := hn.a1
 have ho1 := hn.o1
 have hcnt : n.cnt = 1 + n.ins + n.ss.length + n.gs.length := rfl
 have hfst : n.fst = 1 + n.ins + n.ss.length := rfl
 refine calls_hc (N := 67) (args := [.agg #[.int .i64 n.ins, n.sv, n.av, n.ov]]) Try.func67 rfl rfl ?_
 refine hc_less _ (sx 0 rfl (sub_nil _)) (.refl _) ?_
 refine hc_seq ?_
 refine hc_region ?_
 refine hl_box rfl rfl rfl (rq_box rfl rfl) ?_
 intro b1
 refine hl_v rfl rfl rfl (rv_ev rfl) ?_
 refine hl_less (sx 0 rfl (sx 1 rfl (sx 2 rfl (sub_nil _)))) (.refl _) ?_
 refine hl_nil ?_
 refine hq_then ?_
 refine hc_seq ?_
 refine hc_region ?_
 refine hl_v rfl rfl rfl (rv_loadN (cs := [.int .i64 n.ins, n.sv, n.av, n.ov]) rfl (by kernel_rfl) (by kernel_rfl) rfl rfl (box_part 0 rfl 0 rfl)) ?_
 refine hl_callV rfl rfl rfl (rq_call (by kernel_rfl) rfl (fun w hm => ret_ans (implNodeCount_yes n w (hr.below hm.bel) hn))) ?_
 refine hl_v rfl rfl rfl (rv_ev rfl) ?_
 refine hl_less (sx 0 rfl (sx 1 rfl (sx 2 rfl (sx 3 rfl (sub_nil _))))) (.refl _) ?_
 refine hl_nil ?_
 refine hq_then ?_
 refine hc_seq ?_
 refine hc_seq ?_
 refine hc_region ?_
 refine hl_v rfl rfl rfl (rv_ev rfl) ?_
 refine hl_eql rfl rfl rfl rfl rfl rfl (fun h2 => absurd h2 (by omega)) (fun h2 => ?_)
 refine hl_less (sx 0 rfl (sx 1 rfl (sx 2 rfl (sx 3 rfl (sx 14 rfl (sub_nil _)))))) (.refl _) ?_
 refine hl_nil ?_
 refine hq_then ?_
 refine hc_false rfl ?_
 refine hc_skip ?_
 refine hq_then ?_
 refine hc_seq ?_
 refine hc_seq ?_
 refine hc_region ?_
 refine hl_v rfl rfl rfl (rv_field (k0 := 1) rfl (by kernel_rfl) rfl) ?_
 refine hl_v rfl rfl rfl (rv_load rfl (by kernel_rfl) rfl (box_cell 0 rfl rfl)) ?_
 refine hl_v rfl rfl rfl (rv_len rfl Try.underlying24 rfl (rd_old hr.sq)) ?_
 refine hl_v rfl rfl rfl (rv_ev rfl) ?_
 refine hl_less (sx 0 rfl (sx 1 rfl (sx 2 rfl (sx 3 rfl (sx 14 rfl (sx 16 rfl (sx 17 rfl (sx 18 rfl (sub_nil _))))))))) (.refl _) ?_
 refine hl_nil ?_
 refine hq_then ?_
 refine hc_block ?_
 refine hc_loop1 (α := Nat) (fun k => [boxE b1 #[.int .i64 n.ins, n.sv, n.av, n.ov] 28]) (fun k => [(0, .agg #[.int .i64 n.ins, n.sv, n.av, n.ov]), (1, .pointer (some ⟨b1, 0, none⟩)), (2, .bool false), (3, .int .i64 n.cnt), (14, .bool false), (16, n.sv), (17, .int .i64 (n.ss.length : Int)), (18, .int .i64 (k : Int))]) (fun k => k ≤ n.ss.length) (fun k => n.ss.length - k) 0 (Nat.zero_le _) (sx 0 rfl (sx 1 rfl (sx 2 rfl (sx 3 rfl (sx 14 rfl (sx 16 rfl (sx 17 rfl (sx 18 rfl (sub_nil _))))))))) ((.cons_cons _ .slnil)) ?_
 intro k hi3
 have hk := hi3
 refine hc_seq ?_
 refine hc_region ?_
 refine hl_lss rfl rfl rfl rfl rfl rfl (fun h4 => ?_) (fun h4 => ?_)
 ·
  refine hl_less (sx 0 rfl (sx 1 rfl (sx 2 rfl (sx 3 rfl (sx 14 rfl (sx 16 rfl (sx 17 rfl (sx 18 rfl (sx 19 rfl (sub_nil _)))))))))) (.refl _) ?_
  refine hl_nil ?_
  refine hq_then ?_
  refine hc_seq ?_
  refine hc_true rfl ?_
  refine hc_skip ?_
  refine hq_then ?_
  refine hc_seq ?_
  refine hc_block ?_
  refine hc_seq ?_
  refine hc_region ?_
  refine hl_v rfl rfl rfl (rv_index (s := 3) rfl Try.underlying24 (by kernel_rfl) rfl rfl (rd_old hr.sq) (by omega) (by first | omega | (simp only [List.length_set]; omega))) ?_
  refine hl_v rfl rfl rfl (rv_loadElN (us := [.int .i64 ((n.ss.getD k sq0).kd), .int .i64 ((n.ss.getD k sq0).it), (n.ss.getD k sq0).iv]) rfl (by kernel_rfl) (by kernel_rfl) rfl (rd_old hr.sq) (by omega) rfl (flat_atN sqC 3 (fun _ => rfl) n.ss sq0 (show k < _ by first | omega | (simp only [List.length_set]; omega)) rfl)) ?_
  refine hl_box rfl rfl rfl (rq_alloc (z := .agg #[.int .i64 0, .int .i64 0, .slice none 0 0]) rfl (by kernel_rfl)) ?_
  intro b5
  refine hl_storeBoxN (i := 0) (off := 0) (us := [.int .i64 ((n.ss.getD k sq0).kd), .int .i64 ((n.ss.getD k sq0).it), (n.ss.getD k sq0).iv])  (l' := [boxE b5 #[.int .i64 ((n.ss.getD k sq0).kd), .int .i64 ((n.ss.getD k sq0).it), (n.ss.getD k sq0).iv] 83, boxE b1 #[.int .i64 n.ins, n.sv, n.av, n.ov] 28]) rfl rfl rfl (by kernel_rfl) rfl rfl rfl (all_cons rfl (all_cons rfl (all_cons (hr.at (k := k) (by omega)).one all_nil))) rfl rfl rfl ?_
  refine hl_less (sx 0 rfl (sx 1 rfl (sx 2 rfl (sx 3 rfl (sx 5 rfl (sx 14 rfl (sx 16 rfl (sx 17 rfl (sx 18 rfl (sx 19 rfl (sub_nil _))))))))))) (.refl _) ?_
  refine hl_nil ?_
  refine hq_then ?_
  refine hc_seq ?_
  refine hc_region ?_
  refine hl_v rfl rfl rfl (rv_loadN (cs := [.int .i64 ((n.ss.getD k sq0).kd), .int .i64 ((n.ss.getD k sq0).it), (n.ss.getD k sq0).iv]) rfl (by kernel_rfl) (by kernel_rfl) rfl rfl (box_part 0 rfl 0 rfl)) ?_
  refine hl_callV rfl rfl rfl (rq_call (by kernel_rfl) rfl (fun w hm => ret_ans (seqOk_yes (n.ss.getD k sq0) w (hn.sq _ (getD_memX (d := sq0) (by omega))) ((hr.at (k := k) (by omega)).below hm.bel)))) ?_
  refine hl_v rfl rfl rfl (rv_ev rfl) ?_
  refine hl_less (sx 0 rfl (sx 1 rfl (sx 2 rfl (sx 3 rfl (sx 5 rfl (sx 14 rfl (sx 16 rfl (sx 17 rfl (sx 18 rfl (sx 19 rfl (sx 24 rfl (sub_nil _)))))))))))) (.refl _) ?_
  refine hl_nil ?_
  refine hq_then ?_
  refine hc_false rfl ?_
  refine hc_skip ?_
  refine hq_block_normal ?_
  refine hq_then ?_
  refine hc_region ?_
  refine hl_v rfl rfl rfl (rv_add rfl rfl rfl (by constructor <;> omega)) ?_
  refine hl_v rfl rfl rfl (rv_ev rfl) ?_
  refine hl_less (sx 0 rfl (sx 1 rfl (sx 2 rfl (sx 3 rfl (sx 5 rfl (sx 14 rfl (sx 16 rfl (sx 17 rfl (sx 18 rfl (sx 19 rfl (sx 24 rfl (sub_nil _)))))))))))) (.refl _) ?_
  refine hl_nil ?_
  exact hq_round1 (k + 1) (by omega) (by omega) (sx 0 rfl (sx 1 rfl (sx 2 rfl (sx 3 rfl (sx 14 rfl (sx 16 rfl (sx 17 rfl (sx 18 rfl (sub_nil _))))))))) ((.cons _ (.cons_cons _ .slnil)))
 ·
  refine hl_less (sx 0 rfl (sx 1 rfl (sx 2 rfl (sx 3 rfl (sx 14 rfl (sx 16 rfl (sx 17 rfl (sx 18 rfl (sx 19 rfl (sub_nil _)))))))))) (.refl _) ?_
  refine hl_nil ?_
  refine hq_then ?_
  refine hc_seq ?_
  refine hc_false rfl ?_
  refine hc_exit ?_
  refine hq_then_exit ?_
  refine hq_then_exit ?_
  refine hq_block_exit ?_
  refine hq_then ?_
  refine hc_seq ?_
  refine hc_seq ?_
  refine hc_region ?_
  refine hl_v rfl rfl rfl (rv_loadN (cs := [.int .i64 n.ins, n.sv, n.av, n.ov]) rfl (by kernel_rfl) (by kernel_rfl) rfl rfl (box_part 0 rfl 0 rfl)) ?_
  refine hl_q rfl rfl rfl (rq_call (by kernel_rfl) rfl (fun w hm => roots_ret n w (hr.below hm.bel) hn)) ?_
  intro v6 p7 hR8
  subst hR8
  refine hl_v rfl rfl rfl (rv_len rfl Try.underlying26 rfl (rd_row 0 rfl)) ?_
  have hzl := rts_len hn n.ss.length (Nat.le_refl _)
  refine hl_v rfl rfl rfl (rv_ev rfl) ?_
  refine hl_less (sx 0 rfl (sx 1 rfl (sx 2 rfl (sx 3 rfl (sx 14 rfl (sx 16 rfl (sx 17 rfl (sx 18 rfl (sx 19 rfl (sx 27 rfl (sx 28 rfl (sx 29 rfl (sub_nil _))))))))))))) (.refl _) ?_
  refine hl_nil ?_
  refine hq_then ?_
  refine hc_block ?_
  refine hc_loop1 (α := Nat) (fun q => [rowE 3 1 v6 ((rtsL n n.ss.length).length) ((rtsL n n.ss.length).map (Value.int .i64)), boxE b1 #[.int .i64 n.ins, n.sv, n.av, n.ov] 28]) (fun q => [(0, .agg #[.int .i64 n.ins, n.sv, n.av, n.ov]), (1, .pointer (some ⟨b1, 0, none⟩)), (2, .bool false), (3, .int .i64 n.cnt), (14, .bool false), (16, n.sv), (17, .int .i64 (n.ss.length : Int)), (18, .int .i64 (k : Int)), (19, .bool false), (27, v6), (28, .int .i64 ((rtsL n n.ss.length).length : Int)), (29, .int .i64 (q : Int))]) (fun q => q ≤ (rtsL n n.ss.length).length) (fun q => (rtsL n n.ss.length).length - q) 0 (Nat.zero_le _) (sx 0 rfl (sx 1 rfl (sx 2 rfl (sx 3 rfl (sx 14 rfl (sx 16 rfl (sx 17 rfl (sx 18 rfl (sx 19 rfl (sx 27 rfl (sx 28 rfl (sx 29 rfl (sub_nil _))))))))))))) ((.cons_cons _ (.cons_cons _ .slnil))) ?_
  intro q hi9
  have hq := hi9
  refine hc_seq ?_
  refine hc_region ?_
  refine hl_lss rfl rfl rfl rfl rfl rfl (fun h10 => ?_) (fun h10 => ?_)
  ·
   refine hl_less (sx 0 rfl (sx 1 rfl (sx 2 rfl (sx 3 rfl (sx 14 rfl (sx 16 rfl (sx 17 rfl (sx 18 rfl (sx 19 rfl (sx 27 rfl (sx 28 rfl (sx 29 rfl (sx 30 rfl (sub_nil _)))))))))))))) (.refl _) ?_
   refine hl_nil ?_
   refine hq_then ?_
   refine hc_seq ?_
   refine hc_true rfl ?_
   refine hc_skip ?_
   refine hq_then ?_
   refine hc_seq ?_
   refine hc_block ?_
   refine hc_seq ?_
   refine hc_region ?_
   refine hl_v rfl rfl rfl (rv_index (s := 1) rfl Try.underlying26 (by kernel_rfl) rfl rfl (rd_row 0 rfl) (by omega) (by first | omega | (simp only [List.length_set]; omega))) ?_
   refine hl_v rfl rfl rfl (rv_loadEl (u := .int .i64 ((rtsL n n.ss.length).getD q 0)) rfl (by kernel_rfl) rfl (rd_row 0 rfl) (ints_at1 (show _ < (rtsL n n.ss.length).length by first | omega | (simp only [List.length_set]; omega)))) ?_
   refine hl_v rfl rfl rfl (rv_ev rfl) ?_
   refine hl_less (sx 0 rfl (sx 1 rfl (sx 2 rfl (sx 3 rfl (sx 7 rfl (sx 14 rfl (sx 16 rfl (sx 17 rfl (sx 18 rfl (sx 19 rfl (sx 27 rfl (sx 28 rfl (sx 29 rfl (sx 30 rfl (sub_nil _))))))))))))))) (.refl _) ?_
   refine hl_nil ?_
   refine hq_then ?_
   refine hc_seq ?_
   refine hc_region ?_
   have hlk := rts_ok hn (i := q) (by omega)
   obtain ⟨hlk1, hlk2⟩ := hlk
   refine hl_v rfl rfl rfl (rv_ev rfl) ?_
   refine hl_v rfl rfl rfl (rv_ev rfl) ?_
   refine hl_v rfl rfl rfl (rv_mul rfl rfl rfl (by constructor <;> omega)) ?_
   refine hl_v rfl rfl rfl (rv_sub rfl rfl rfl (by constructor <;> omega)) ?_
   refine hl_callV rfl rfl rfl (rq_call (by kernel_rfl) rfl (fun w hm => ret_ans (ans_of (inRange_any _ _ _ w)))) ?_
   refine hl_bool (fun h11 => ?_) (fun h11 => absurd ((((inR_iff _ _ _).2 (by omega))).symm.trans h11) (by decide))
   refine hl_v rfl rfl rfl (rv_ev rfl) ?_
   refine hl_less (sx 0 rfl (sx 1 rfl (sx 2 rfl (sx 3 rfl (sx 7 rfl (sx 14 rfl (sx 16 rfl (sx 17 rfl (sx 18 rfl (sx 19 rfl (sx 27 rfl (sx 28 rfl (sx 29 rfl (sx 30 rfl (sx 38 rfl (sub_nil _)))))))))))))))) (.refl _) ?_
   refine hl_nil ?_
   refine hq_then ?_
   refine hc_false rfl ?_
   refine hc_skip ?_
   refine hq_block_normal ?_
   refine hq_then ?_
   refine hc_region ?_
   refine hl_v rfl rfl rfl (rv_add rfl rfl rfl (by constructor <;> omega)) ?_
   have hzl := rts_len hn n.ss.length (Nat.le_refl _)
   refine hl_v rfl rfl rfl (rv_ev rfl) ?_
   refine hl_less (sx 0 rfl (sx 1 rfl (sx 2 rfl (sx 3 rfl (sx 7 rfl (sx 14 rfl (sx 16 rfl (sx 17 rfl (sx 18 rfl (sx 19 rfl (sx 27 rfl (sx 28 rfl (sx 29 rfl (sx 30 rfl (sx 38 rfl (sub_nil _)))))))))))))))) (.refl _) ?_
   refine hl_nil ?_
   exact hq_round1 (q + 1) (by omega) (by omega) (sx 0 rfl (sx 1 rfl (sx 2 rfl (sx 3 rfl (sx 14 rfl (sx 16 rfl (sx 17 rfl (sx 18 rfl (sx 19 rfl (sx 27 rfl (sx 28 rfl (sx 29 rfl (sub_nil _))))))))))))) ((.cons_cons _ (.cons_cons _ .slnil)))
  ·
   refine hl_less (sx 0 rfl (sx 1 rfl (sx 2 rfl (sx 3 rfl (sx 14 rfl (sx 16 rfl (sx 17 rfl (sx 18 rfl (sx 19 rfl (sx 27 rfl (sx 28 rfl (sx 29 rfl (sx 30 rfl (sub_nil _)))))))))))))) (.refl _) ?_
   refine hl_nil ?_
   refine hq_then ?_
   refine hc_seq ?_
   refine hc_false rfl ?_
   refine hc_exit ?_
   refine hq_then_exit ?_
   refine hq_then_exit ?_
   refine hq_block_exit ?_
   refine hq_then ?_
   refine hc_seq ?_
   refine hc_seq ?_
   refine hc_region ?_
   refine hl_v rfl rfl rfl (rv_field (k0 := 2) rfl (by kernel_rfl) rfl) ?_
   refine hl_v rfl rfl rfl (rv_load rfl (by kernel_rfl) rfl (box_cell 1 rfl rfl)) ?_
   refine hl_v rfl rfl rfl (rv_len rfl Try.underlying25 rfl (rd_old hr.an)) ?_
   refine hl_v rfl rfl rfl (rv_ev rfl) ?_
   refine hl_less (sx 0 rfl (sx 1 rfl (sx 2 rfl (sx 3 rfl (sx 14 rfl (sx 16 rfl (sx 17 rfl (sx 18 rfl (sx 19 rfl (sx 27 rfl (sx 28 rfl (sx 29 rfl (sx 30 rfl (sx 41 rfl (sx 42 rfl (sx 43 rfl (sub_nil _))))))))))))))))) (.refl _) ?_
   refine hl_nil ?_
   refine hq_then ?_
   refine hc_block ?_
   refine hc_loop1 (α := Nat) (fun j => [rowE 3 1 v6 ((rtsL n n.ss.length).length) ((rtsL n n.ss.length).map (Value.int .i64)), boxE b1 #[.int .i64 n.ins, n.sv, n.av, n.ov] 28]) (fun j => [(0, .agg #[.int .i64 n.ins, n.sv, n.av, n.ov]), (1, .pointer (some ⟨b1, 0, none⟩)), (2, .bool false), (3, .int .i64 n.cnt), (14, .bool false), (16, n.sv), (17, .int .i64 (n.ss.length : Int)), (18, .int .i64 (k : Int)), (19, .bool false), (27, v6), (28, .int .i64 ((rtsL n n.ss.length).length : Int)), (29, .int .i64 (q : Int)), (30, .bool false), (41, n.av), (42, .int .i64 (n.gs.length : Int)), (43, .int .i64 (j : Int))]) (fun j => j ≤ n.gs.length) (fun j => n.gs.length - j) 0 (Nat.zero_le _) (sx 0 rfl (sx 1 rfl (sx 2 rfl (sx 3 rfl (sx 14 rfl (sx 16 rfl (sx 17 rfl (sx 18 rfl (sx 19 rfl (sx 27 rfl (sx 28 rfl (sx 29 rfl (sx 30 rfl (sx 41 rfl (sx 42 rfl (sx 43 rfl (sub_nil _))))))))))))))))) ((.cons_cons _ (.cons_cons _ .slnil))) ?_
   intro j hi12
   have hj := hi12
   refine hc_seq ?_
   refine hc_region ?_
   refine hl_lss rfl rfl rfl rfl rfl rfl (fun h13 => ?_) (fun h13 => ?_)
   ·
    refine hl_less (sx 0 rfl (sx 1 rfl (sx 2 rfl (sx 3 rfl (sx 14 rfl (sx 16 rfl (sx 17 rfl (sx 18 rfl (sx 19 rfl (sx 27 rfl (sx 28 rfl (sx 29 rfl (sx 30 rfl (sx 41 rfl (sx 42 rfl (sx 43 rfl (sx 44 rfl (sub_nil _)))))))))))))))))) (.refl _) ?_
    refine hl_nil ?_
    refine hq_then ?_
    refine hc_seq ?_
    refine hc_true rfl ?_
    refine hc_skip ?_
    refine hq_then ?_
    refine hc_seq ?_
    refine hc_block ?_
    refine hc_seq ?_
    refine hc_region ?_
    refine hl_v rfl rfl rfl (rv_ev rfl) ?_
    refine hl_v rfl rfl rfl (rv_index (s := 2) rfl Try.underlying25 (by kernel_rfl) rfl rfl (rd_old hr.an) (by omega) (by first | omega | (simp only [List.length_set]; omega))) ?_
    refine hl_v rfl rfl rfl (rv_loadElN (us := [.int .i64 ((n.gs.getD j an0).a), .int .i64 ((n.gs.getD j an0).b)]) rfl (by kernel_rfl) (by kernel_rfl) rfl (rd_old hr.an) (by omega) rfl (flat_atN anC 2 (fun _ => rfl) n.gs an0 (show j < _ by first | omega | (simp only [List.length_set]; omega)) rfl)) ?_
    refine hl_box rfl rfl rfl (rq_alloc (z := .agg #[.int .i64 0, .int .i64 0]) rfl (by kernel_rfl)) ?_
    intro b14
    refine hl_v rfl rfl rfl (rv_ev rfl) ?_
    refine hl_storeBoxN (i := 0) (off := 0) (us := [.int .i64 ((n.gs.getD j an0).a), .int .i64 ((n.gs.getD j an0).b)])  (l' := [boxE b14 #[.int .i64 ((n.gs.getD j an0).a), .int .i64 ((n.gs.getD j an0).b)] 80, rowE 3 1 v6 ((rtsL n n.ss.length).length) ((rtsL n n.ss.length).map (Value.int .i64)), boxE b1 #[.int .i64 n.ins, n.sv, n.av, n.ov] 28]) rfl rfl rfl (by kernel_rfl) rfl rfl rfl (all_cons rfl (all_cons rfl all_nil)) rfl rfl rfl ?_
    refine hl_less (sx 0 rfl (sx 1 rfl (sx 2 rfl (sx 3 rfl (sx 8 rfl (sx 9 rfl (sx 14 rfl (sx 16 rfl (sx 17 rfl (sx 18 rfl (sx 19 rfl (sx 27 rfl (sx 28 rfl (sx 29 rfl (sx 30 rfl (sx 41 rfl (sx 42 rfl (sx 43 rfl (sx 44 rfl (sub_nil _)))))))))))))))))))) (.refl _) ?_
    refine hl_nil ?_
    refine hq_then ?_
    refine hc_seq ?_
    refine hc_region ?_
    refine hl_v rfl rfl rfl (rv_loadN (cs := [.int .i64 n.ins, n.sv, n.av, n.ov]) rfl (by kernel_rfl) (by kernel_rfl) rfl rfl (box_part 2 rfl 0 rfl)) ?_
    refine hl_callV rfl rfl rfl (rq_call (by kernel_rfl) rfl (fun w hm => ret_ans (firstAnd_yes n w (hr.below hm.bel) hn))) ?_
    refine hl_v rfl rfl rfl (rv_ev rfl) ?_
    refine hl_v rfl rfl rfl (rv_add rfl rfl rfl (by constructor <;> omega)) ?_
    refine hl_v rfl rfl rfl (rv_mul rfl rfl rfl (by constructor <;> omega)) ?_
    refine hl_v rfl rfl rfl (rv_sub rfl rfl rfl (by constructor <;> omega)) ?_
    refine hl_v rfl rfl rfl (rv_ev rfl) ?_
    refine hl_less (sx 0 rfl (sx 1 rfl (sx 2 rfl (sx 3 rfl (sx 8 rfl (sx 9 rfl (sx 10 rfl (sx 14 rfl (sx 16 rfl (sx 17 rfl (sx 18 rfl (sx 19 rfl (sx 27 rfl (sx 28 rfl (sx 29 rfl (sx 30 rfl (sx 41 rfl (sx 42 rfl (sx 43 rfl (sx 44 rfl (sub_nil _))))))))))))))))))))) (.refl _) ?_
    refine hl_nil ?_
    refine hq_then ?_
    refine hc_seq ?_
    refine hc_region ?_
    have hlj := hn.an j (by omega)
    obtain ⟨⟨hlj1, hlj2⟩, hlj3, hlj4⟩ := hlj
    refine hl_v rfl rfl rfl (rv_field (k0 := 0) rfl (by kernel_rfl) rfl) ?_
    refine hl_v rfl rfl rfl (rv_load rfl (by kernel_rfl) rfl (box_cell 0 rfl rfl)) ?_
    refine hl_v rfl rfl rfl (rv_ev rfl) ?_
    refine hl_callV rfl rfl rfl (rq_call (by kernel_rfl) rfl (fun w hm => ret_ans (ans_of (inRange_any _ _ _ w)))) ?_
    refine hl_bool (fun h15 => ?_) (fun h15 => absurd ((((inR_iff _ _ _).2 (by omega))).symm.trans h15) (by decide))
    refine hl_v rfl rfl rfl (rv_ev rfl) ?_
    refine hl_v rfl rfl rfl (rv_ev rfl) ?_
    refine hl_v rfl rfl rfl (rv_field (k0 := 1) rfl (by kernel_rfl) rfl) ?_
    refine hl_v rfl rfl rfl (rv_load rfl (by kernel_rfl) rfl (box_cell 0 rfl rfl)) ?_
    refine hl_v rfl rfl rfl (rv_ev rfl) ?_
    refine hl_callV rfl rfl rfl (rq_call (by kernel_rfl) rfl (fun w hm => ret_ans (ans_of (inRange_any _ _ _ w)))) ?_
    refine hl_bool (fun h16 => ?_) (fun h16 => absurd ((((inR_iff _ _ _).2 (by omega))).symm.trans h16) (by decide))
    refine hl_v rfl rfl rfl (rv_ev rfl) ?_
    refine hl_v rfl rfl rfl (rv_ev rfl) ?_
    refine hl_less (sx 0 rfl (sx 1 rfl (sx 2 rfl (sx 3 rfl (sx 8 rfl (sx 9 rfl (sx 10 rfl (sx 14 rfl (sx 16 rfl (sx 17 rfl (sx 18 rfl (sx 19 rfl (sx 27 rfl (sx 28 rfl (sx 29 rfl (sx 30 rfl (sx 41 rfl (sx 42 rfl (sx 43 rfl (sx 44 rfl (sx 65 rfl (sub_nil _)))))))))))))))))))))) (.refl _) ?_
    refine hl_nil ?_
    refine hq_then ?_
    refine hc_false rfl ?_
    refine hc_skip ?_
    refine hq_block_normal ?_
    refine hq_then ?_
    refine hc_region ?_
    refine hl_v rfl rfl rfl (rv_add rfl rfl rfl (by constructor <;> omega)) ?_
    refine hl_v rfl rfl rfl (rv_ev rfl) ?_
    refine hl_less (sx 0 rfl (sx 1 rfl (sx 2 rfl (sx 3 rfl (sx 8 rfl (sx 9 rfl (sx 10 rfl (sx 14 rfl (sx 16 rfl (sx 17 rfl (sx 18 rfl (sx 19 rfl (sx 27 rfl (sx 28 rfl (sx 29 rfl (sx 30 rfl (sx 41 rfl (sx 42 rfl (sx 43 rfl (sx 44 rfl (sx 65 rfl (sub_nil _)))))))))))))))))))))) (.refl _) ?_
    refine hl_nil ?_
    exact hq_round1 (j + 1) (by omega) (by omega) (sx 0 rfl (sx 1 rfl (sx 2 rfl (sx 3 rfl (sx 14 rfl (sx 16 rfl (sx 17 rfl (sx 18 rfl (sx 19 rfl (sx 27 rfl (sx 28 rfl (sx 29 rfl (sx 30 rfl (sx 41 rfl (sx 42 rfl (sx 43 rfl (sub_nil _))))))))))))))))) ((.cons _ (.cons_cons _ (.cons_cons _ .slnil))))
   ·
    refine hl_less (sx 0 rfl (sx 1 rfl (sx 2 rfl (sx 3 rfl (sx 14 rfl (sx 16 rfl (sx 17 rfl (sx 18 rfl (sx 19 rfl (sx 27 rfl (sx 28 rfl (sx 29 rfl (sx 30 rfl (sx 41 rfl (sx 42 rfl (sx 43 rfl (sx 44 rfl (sub_nil _)))))))))))))))))) (.refl _) ?_
    refine hl_nil ?_
    refine hq_then ?_
    refine hc_seq ?_
    refine hc_false rfl ?_
    refine hc_exit ?_
    refine hq_then_exit ?_
    refine hq_then_exit ?_
    refine hq_block_exit ?_
    refine hq_then ?_
    refine hc_seq ?_
    refine hc_region ?_
    refine hl_v rfl rfl rfl (rv_ev rfl) ?_
    refine hl_less (sx 0 rfl (sx 1 rfl (sx 2 rfl (sx 3 rfl (sx 14 rfl (sx 16 rfl (sx 17 rfl (sx 18 rfl (sx 19 rfl (sx 27 rfl (sx 28 rfl (sx 29 rfl (sx 30 rfl (sx 41 rfl (sx 42 rfl (sx 43 rfl (sx 44 rfl (sub_nil _)))))))))))))))))) (.refl _) ?_
    refine hl_nil ?_
    refine hq_then ?_
    refine hc_ret ?_
    exact hq_ans rfl rfl rfl
theorem bitL_xor {xs : List Int} {l : Int} (h : xs.getD (l / 2).toNat 0 = 0 ∨ xs.getD (l / 2).toNat 0 = 1) : bits .xor .i64 (xs.getD (l / 2).toNat 0) (l % 2) = bitL xs l := by unfold bitL; exact xor01 h
set_option maxHeartbeats 4000000 in
set_option maxRecDepth 100000 in
theorem implitValue_ans (xs : List Int) (l : Int) (v : Value) (w : World) (hv : RdsW w v 1 xs.length (xs.map (Value.int .i64))) (hl : 0 ≤ l ∧ l < 2 * xs.length) (h01 : xs.getD (l / 2).toNat 0 = 0 ∨ xs.getD (l / 2).toNat 0 = 1) (hlen : xs.length ≤ 100000) :
  Calls Try.prog 71 #[v, .int .i64 l] w (Ans w (.int .i64 (bitL xs l))) := by
 refine calls_hc (N := 13) (args := [v, .int .i64 l]) Try.func71 rfl rfl ?_
 refine hc_less _ (sx 0 rfl (sx 1 rfl (sub_nil _))) (.refl _) ?_
 refine hc_seq ?_
 refine hc_region ?_
 refine hl_v rfl rfl rfl (rv_ev rfl) ?_
 refine hl_less (sx 0 rfl (sx 1 rfl (sx 4 rfl (sub_nil _)))) (.refl _) ?_
 refine hl_nil ?_
 refine hq_then ?_
 refine hc_seq ?_
 refine hc_region ?_
 refine hl_v rfl rfl rfl (rv_ev rfl) ?_
 refine hl_v rfl rfl rfl (rv_ev rfl) ?_
 refine hl_v rfl rfl rfl (rv_quo rfl rfl rfl (by refine ⟨?_, ?_, ?_⟩ <;> omega)) ?_
 refine hl_v rfl rfl rfl (rv_index (s := 1) rfl Try.underlying26 (by kernel_rfl) rfl rfl (rd_old hv) (by omega) (by first | omega | (simp only [List.length_set]; omega))) ?_
 refine hl_v rfl rfl rfl (rv_loadEl (u := .int .i64 (xs.getD ((l / 2).toNat) 0)) rfl (by kernel_rfl) rfl (rd_old hv) (ints_at1 (show _ < xs.length by first | omega | (simp only [List.length_set]; omega)))) ?_
 refine hl_v rfl rfl rfl (rv_ev rfl) ?_
 refine hl_v rfl rfl rfl (rv_bits rfl (by decide) rfl rfl (r := l % 2) (Bit.and_one _ (by omega) (by omega))) ?_
 refine hl_v rfl rfl rfl (rv_bits rfl (by decide) rfl rfl (r := bitL xs l) (bitL_xor h01)) ?_
 refine hl_v rfl rfl rfl (rv_ev rfl) ?_
 refine hl_less (sx 0 rfl (sx 1 rfl (sx 4 rfl (sub_nil _)))) (.refl _) ?_
 refine hl_nil ?_
 refine hq_then ?_
 refine hc_ret ?_
 exact hq_ans rfl rfl rfl
set_option maxHeartbeats 4000000 in
set_option maxRecDepth 100000 in
theorem impLitValue_ans (xs : List Int) (l : Int) (v : Value) (w : World) (hv : RdsW w v 1 xs.length (xs.map (Value.int .i64))) (hl : 0 ≤ l ∧ l < 2 * xs.length) (h01 : xs.getD (l / 2).toNat 0 = 0 ∨ xs.getD (l / 2).toNat 0 = 1) (hlen : xs.length ≤ 100000) :
  Calls Try.prog 18 #[v, .int .i64 l] w (Ans w (.int .i64 (bitL xs l))) := by
 refine calls_hc (N := 26) (args := [v, .int .i64 l]) Try.func18 rfl rfl ?_
 refine hc_less _ (sx 0 rfl (sx 1 rfl (sub_nil _))) (.refl _) ?_
 refine hc_seq ?_
 refine hc_region ?_
 refine hl_v rfl rfl rfl (rv_ev rfl) ?_
 refine hl_less (sx 0 rfl (sx 1 rfl (sx 4 rfl (sub_nil _)))) (.refl _) ?_
 refine hl_nil ?_
 refine hq_then ?_
 refine hc_seq ?_
 refine hc_seq ?_
 refine hc_region ?_
 refine hl_v rfl rfl rfl (rv_ev rfl) ?_
 refine hl_lss rfl rfl rfl rfl rfl rfl (fun h1 => absurd h1 (by omega)) (fun h1 => ?_)
 refine hl_v rfl rfl rfl (rv_ev rfl) ?_
 refine hl_v rfl rfl rfl (rv_ev rfl) ?_
 refine hl_v rfl rfl rfl (rv_quo rfl rfl rfl (by refine ⟨?_, ?_, ?_⟩ <;> omega)) ?_
 refine hl_v rfl rfl rfl (rv_ev rfl) ?_
 refine hl_v rfl rfl rfl (rv_len rfl Try.underlying26 rfl (rd_old hv)) ?_
 refine hl_geq rfl rfl rfl rfl rfl rfl (fun h2 => absurd h2 (by omega)) (fun h2 => ?_)
 refine hl_v rfl rfl rfl (rv_ev rfl) ?_
 refine hl_v rfl rfl rfl (rv_ev rfl) ?_
 refine hl_v rfl rfl rfl (rv_ev rfl) ?_
 refine hl_v rfl rfl rfl (rv_ev rfl) ?_
 refine hl_v rfl rfl rfl (rv_quo rfl rfl rfl (by refine ⟨?_, ?_, ?_⟩ <;> omega)) ?_
 refine hl_v rfl rfl rfl (rv_index (s := 1) rfl Try.underlying26 (by kernel_rfl) rfl rfl (rd_old hv) (by omega) (by first | omega | (simp only [List.length_set]; omega))) ?_
 refine hl_v rfl rfl rfl (rv_loadEl (u := .int .i64 (xs.getD ((l / 2).toNat) 0)) rfl (by kernel_rfl) rfl (rd_old hv) (ints_at1 (show _ < xs.length by first | omega | (simp only [List.length_set]; omega)))) ?_
 refine hl_callV rfl rfl rfl (rq_call (by kernel_rfl) rfl (fun w hm => ret_ans (ans_of (inRange_any _ _ _ w)))) ?_
 refine hl_bool (fun h3 => ?_) (fun h3 => absurd ((((inR_iff _ _ _).2 (by omega))).symm.trans h3) (by decide))
 refine hl_v rfl rfl rfl (rv_ev rfl) ?_
 refine hl_v rfl rfl rfl (rv_ev rfl) ?_
 refine hl_less (sx 0 rfl (sx 1 rfl (sx 4 rfl (sx 22 rfl (sub_nil _))))) (.refl _) ?_
 refine hl_nil ?_
 refine hq_then ?_
 refine hc_false rfl ?_
 refine hc_skip ?_
 refine hq_then ?_
 refine hc_seq ?_
 refine hc_region ?_
 refine hl_v rfl rfl rfl (rv_ev rfl) ?_
 refine hl_v rfl rfl rfl (rv_ev rfl) ?_
 refine hl_callV rfl rfl rfl (rq_call (by kernel_rfl) rfl (fun w hm => ret_ans (implitValue_ans xs l _ w (hv.below hm.bel) hl h01 hlen))) ?_
 refine hl_v rfl rfl rfl (rv_ev rfl) ?_
 refine hl_less (sx 0 rfl (sx 1 rfl (sx 4 rfl (sx 22 rfl (sub_nil _))))) (.refl _) ?_
 refine hl_nil ?_
 refine hq_then ?_
 refine hc_ret ?_
 exact hq_ans rfl rfl rfl
set_option maxHeartbeats 4000000 in
set_option maxRecDepth 100000 in
theorem l08Net_mut (g : Nat) (a : Option Addr) (len cap : Nat) (z : List Int) (w0 : World) (l : List HP) (w : World) (hm0 : Mem w0 (curE g a len cap :: l) w) (hb : BRow .u8 w0 a len cap z) :
  Calls Try.prog 61 #[.pointer (some ⟨g, 0, none⟩)] w (fun e_ w_ => ∃ v_ p_, e_ = .returned v_ ∧ (fun u_ p_ => ∃ n : Nt, u_ = n.agg ∧ p_ = bigE [curE g a len cap, ntE n] ∧ (n.sv.oneCell' = true ∧ n.av.oneCell' = true ∧ n.ov.oneCell' = true) ∧ NtOk n ∧ n.ins ≤ 4 ∧ (n.ss.length : Int) ≤ 3 ∧ (n.gs.length : Int) ≤ 14) v_ p_ ∧ Mem w0 (p_ :: l) w_) := by
 refine calls_hcM (N := 5) (args := [.pointer (some ⟨g, 0, none⟩)]) Try.func61 rfl rfl hm0 ?_
 refine hc_less _ (sx 0 rfl (sub_nil _)) (.refl _) ?_
 refine hc_seq ?_
 refine hc_region ?_
 refine hl_box rfl rfl rfl (rq_alloc (z := .agg #[.int .i64 0, .slice none 0 0, .slice none 0 0, .slice none 0 0]) rfl (by kernel_rfl)) ?_
 intro b1
 refine hl_less (sx 0 rfl (sx 2 rfl (sub_nil _))) (.refl _) ?_
 refine hl_nil ?_
 refine hq_then ?_
 refine hc_seq ?_
 refine hc_region ?_
 refine hl_v rfl rfl rfl (rv_ev rfl) ?_
 refine hl_callM (R := (fun u_ p_ => ∃ n : Nt, u_ = n.agg ∧ p_ = bigE [curE g a len cap, ntE n] ∧ (n.sv.oneCell' = true ∧ n.av.oneCell' = true ∧ n.ov.oneCell' = true) ∧ NtOk n ∧ n.ins ≤ 4 ∧ (n.ss.length : Int) ≤ 3 ∧ (n.gs.length : Int) ≤ 14)) 1 rfl rfl (by kernel_rfl) rfl rfl (fun l' w hm => l08Sized_mut g a len cap z 4 3 14 _ _ _ hm hb (by decide) (by decide) (by decide)) ?_
 intro v2 p3 hR4
 obtain ⟨n, rfl, rfl, ⟨o1n, o2n, o3n⟩, hn, hnq1, hnq2, hnq3⟩ := hR4
 refine hl_eqL (l' := (boxE b1 #[.int .i64 0, .slice none 0 0, .slice none 0 0, .slice none 0 0] 28 :: bigE [curE g a len cap, ntE n] :: l)) rfl ?_
 refine hl_storeBoxN (i := 0) (off := 0) (us := [.int .i64 n.ins, n.sv, n.av, n.ov])  (l' := (boxE b1 #[.int .i64 n.ins, n.sv, n.av, n.ov] 28 :: bigE [curE g a len cap, ntE n] :: l)) rfl rfl rfl (by kernel_rfl) rfl rfl rfl (all_cons rfl (all_cons o1n (all_cons o2n (all_cons o3n all_nil)))) rfl rfl rfl ?_
 refine hl_less (sx 0 rfl (sx 2 rfl (sub_nil _))) (.refl _) ?_
 refine hl_nil ?_
 refine hq_then ?_
 refine hc_ret ?_
 exact hq_ret (rs := [.cell 2 28]) (vs := [.agg #[.int .i64 n.ins, n.sv, n.av, n.ov]]) rfl ⟨⟨b1, 0, [.int .i64 n.ins, n.sv, n.av, n.ov], rfl, rfl, by kernel_rfl, by kernel_rfl, box_part 0 rfl 0 rfl⟩, trivial⟩ rfl (fun w hm => ⟨_, bigE [curE g a len cap, ntE n], rfl, ⟨n, rfl, rfl, ⟨o1n, o2n, o3n⟩, hn, hnq1, hnq2, hnq3⟩, hm.sub ((.cons _ (.cons_cons _ (.refl _))))⟩)
section
variable {P : Program} {N : Nat} {w0 : World} {l : List HP} {env : List (Nat × Value)} {o : Oper}
theorem rq_buildSlice1 {t e : TypeId} {x : Operand} {v : Value} (ho : o.op = .buildSlice t 1 #[(0, x)]) (hu : P.underlying t = some (.slice e)) (hi : (P.info? e).map (fun i => (i.zero, i.size)) = some (some (.slice none 0 0), 1)) (hx : ev env x = some v) (h1 : v.oneCell' = true) :
    RunQ P N w0 l env o (IsRow_o e 1 1 [v]) :=
  rq_buildSlice (vs := [(0, v)]) ho hu hi (by decide) (by simp [hx]) (by cases v <;> first | (exact absurd h1 Bool.false_ne_true) | kernel_rfl) rfl
end
theorem conv_snoc {w0 : World} {ps l : List HP} {p : HP} : Conv w0 (bigE ps :: p :: l) (bigE (ps ++ [p]) :: l) := fun w hm => by
  have h1 : Mem w0 (ps ++ (p :: l)) w := hm.unbig
  have h2 : Mem w0 ((ps ++ [p]) ++ l) w := by simpa using h1
  exact h2.big
structure CRow where
  v : Value
  xs : List Int
abbrev crow0 : CRow := ⟨.slice none 0 0, []⟩
def crowC (r : CRow) : List Value := [r.v]
abbrev cPart (r : CRow) : HP := rowE 3 1 r.v r.xs.length (r.xs.map (Value.int .i64))
abbrev clE (v : Value) (rs : List CRow) : HP := bigE [bigE (rs.map cPart), rowE 26 1 v rs.length (rs.flatMap crowC)]
structure RdsCl (w : World) (v : Value) (rs : List CRow) : Prop where
  row : RdsW w v 1 rs.length (rs.flatMap crowC)
  xs : ∀ r ∈ rs, RdsW w r.v 1 r.xs.length (r.xs.map (Value.int .i64))
theorem RdsCl.below {w w' : World} {v : Value} {rs : List CRow} (h : RdsCl w v rs) (hb : Below w.heap.size w w') : RdsCl w' v rs := ⟨h.row.below hb, fun r hr => (h.xs r hr).below hb⟩
theorem RdsCl.at {w : World} {v : Value} {rs : List CRow} (h : RdsCl w v rs) {k : Nat} (hk : k < rs.length) : RdsW w (rs.getD k crow0).v 1 (rs.getD k crow0).xs.length ((rs.getD k crow0).xs.map (Value.int .i64)) := h.xs _ (getD_mem' hk)
theorem cl_rds {w0 : World} {l : List HP} {v : Value} {rs : List CRow} (i : Nat) (hi : l[i]? = some (clE v rs)) (w : World) (hm : Mem w0 l w) : RdsCl w v rs := by
  obtain ⟨b1, -⟩ := hm.holds _ (mem_at hi)
  have c1 := (b1 _ (List.mem_cons_self)).2
  have c2 := (b1 _ (List.mem_cons_of_mem _ List.mem_cons_self)).2
  exact ⟨rdsW_own c2, fun r hr => rdsW_own (c1.1 (cPart r) (List.mem_map.2 ⟨r, hr, rfl⟩)).2⟩
def LitOk (n : Int) (xs : List Int) : Prop := xs.length ≤ 400 ∧ ∀ i, i < xs.length → xs.getD i 0 ≠ 0 ∧ -n ≤ xs.getD i 0 ∧ xs.getD i 0 ≤ n
structure ClOk (n : Int) (rs : List CRow) : Prop where
  n0 : 0 ≤ n
  n1 : n ≤ 400
  len : rs.length ≤ 1600
  ok : ∀ k, k < rs.length → LitOk n (rs.getD k crow0).xs
def valI (ps : List Int) (l : Int) : Int := if l < 0 then -(ps.getD (-l - 1).toNat 0) else ps.getD (l - 1).toNat 0
def PsOk (n : Int) (ps : List Int) : Prop := (ps.length : Int) = n ∧ ∀ i, i < ps.length → -1 ≤ ps.getD i 0 ∧ ps.getD i 0 ≤ 1
theorem val_rng {n : Int} {ps : List Int} (h : PsOk n ps) {l : Int} (h0 : l ≠ 0) (h1 : -n ≤ l) (h2 : l ≤ n) : -1 ≤ valI ps l ∧ valI ps l ≤ 1 := by
  unfold valI
  have hl := h.1
  split
  · have := h.2 (-l - 1).toNat (by omega); omega
  · exact h.2 (l - 1).toNat (by omega)
def Full (n : Int) (fs : List Int) : Prop := PsOk n fs ∧ ∀ i, i < fs.length → fs.getD i 0 ≠ 0
def Agree (ps fs : List Int) : Prop := ∀ k, k < ps.length → ps.getD k 0 ≠ 0 → ps.getD k 0 = fs.getD k 0
def SatC (xs fs : List Int) : Prop := ∃ i, i < xs.length ∧ valI fs (xs.getD i 0) = 1
def SatF (rs : List CRow) (fs : List Int) : Prop := ∀ k, k < rs.length → SatC (rs.getD k crow0).xs fs
theorem val_agree {n : Int} {ps fs : List Int} (hp : PsOk n ps) (ha : Agree ps fs) {l : Int} (h0 : l ≠ 0) (h1 : -n ≤ l) (h2 : l ≤ n) (hv : valI ps l ≠ 0) : valI ps l = valI fs l := by
  have hl := hp.1
  unfold valI at *
  split at hv
  · rename_i hc
    rw [if_pos hc, if_pos hc, ha (-l - 1).toNat (by omega) (by omega)]
  · rename_i hc
    rw [if_neg hc, if_neg hc, ha (l - 1).toNat (by omega) hv]
/-- what unitOf answers -/
structure UOk (xs ps : List Int) (u : Int) (cf : Bool) : Prop where
  conf : cf = true → u = 0 ∧ ∀ i, i < xs.length → valI ps (xs.getD i 0) = -1
  unit : u ≠ 0 → cf = false ∧ valI ps u = 0 ∧ (∃ i, i < xs.length ∧ xs.getD i 0 = u) ∧ ∀ i, i < xs.length → xs.getD i 0 = u ∨ valI ps (xs.getD i 0) = -1
  none : cf = false → u = 0 → ∃ i, i < xs.length ∧ valI ps (xs.getD i 0) ≠ -1
theorem UOk.rng {n : Int} {xs ps : List Int} {u : Int} {cf : Bool} (h : UOk xs ps u cf) (hx : LitOk n xs) (hu : u ≠ 0) : -n ≤ u ∧ u ≤ n := by
  obtain ⟨-, -, ⟨i, hi, rfl⟩, -⟩ := h.unit hu
  exact (hx.2 i hi).2
theorem no_conf {n : Int} {xs ps fs : List Int} {u : Int} (h : UOk xs ps u true) (hx : LitOk n xs) (hp : PsOk n ps) (ha : Agree ps fs) (hs : SatC xs fs) : False := by
  obtain ⟨i, hi, h1⟩ := hs
  have h2 := (h.conf rfl).2 i hi
  have h3 := hx.2 i hi
  have := val_agree hp ha h3.1 h3.2.1 h3.2.2 (by omega)
  omega
theorem unit_true {n : Int} {xs ps fs : List Int} {u : Int} {cf : Bool} (h : UOk xs ps u cf) (hu : u ≠ 0) (hx : LitOk n xs) (hp : PsOk n ps) (ha : Agree ps fs) (hs : SatC xs fs) : valI fs u = 1 := by
  obtain ⟨i, hi, h1⟩ := hs
  rcases (h.unit hu).2.2.2 i hi with h2 | h2
  · rw [← h2]; exact h1
  · have h3 := hx.2 i hi
    have := val_agree hp ha h3.1 h3.2.1 h3.2.2 (by omega)
    omega
def zeros_o : List Int → Nat
  | [] => 0
  | x :: xs => (if x = 0 then 1 else 0) + zeros_o xs
theorem zeros_set : ∀ (xs : List Int) (k : Nat) (x : Int), k < xs.length → xs.getD k 0 = 0 → x ≠ 0 → zeros_o (xs.set k x) + 1 = zeros_o xs
  | [], k, x, h, _, _ => by simp at h
  | a :: xs, 0, x, _, h, hx => by
    have : a = 0 := by simpa using h
    subst this
    simp [zeros_o, hx]; omega
  | a :: xs, k + 1, x, h, h0, hx => by
    have := zeros_set xs k x (by simpa using h) (by simpa using h0) hx
    simp only [List.set_cons_succ, zeros_o]; omega
structure PInv (n : Int) (rs : List CRow) (ps zs : List Int) : Prop where
  ok : PsOk n zs
  len : zs.length = ps.length
  ext : ∀ k, k < ps.length → ps.getD k 0 ≠ 0 → zs.getD k 0 = ps.getD k 0
  agr : ∀ fs, Full n fs → SatF rs fs → Agree ps fs → Agree zs fs
  full : (∀ k, k < ps.length → ps.getD k 0 ≠ 0) → zs = ps
theorem pinv_start {n : Int} {rs : List CRow} {ps : List Int} (h : PsOk n ps) : PInv n rs ps ps := ⟨h, rfl, fun _ _ _ => rfl, fun _ _ _ h => h, fun _ => rfl⟩
theorem getD_set_ne3 {α : Type} {es : List α} {i j : Nat} {d e : α} (h : j ≠ i) : (es.set j e).getD i d = es.getD i d := by
  rw [List.getD_eq_getElem?_getD, List.getElem?_set_ne h, ← List.getD_eq_getElem?_getD]
theorem pinv_set {n : Int} {rs : List CRow} {ps zs : List Int} {q j : Nat} {x : Int} (h : PInv n rs ps zs) (hj : j < zs.length) (hz : zs.getD j 0 = 0) (hx : x = 1 ∨ x = -1) (ht : ∀ fs, Full n fs → SatF rs fs → Agree zs fs → fs.getD j 0 = x) : PInv n rs ps (zs.set j x) := by
  refine ⟨⟨by rw [List.length_set]; exact h.ok.1, fun i hi => ?_⟩, by rw [List.length_set]; exact h.len, fun k hk hp => ?_, fun fs hf hs ha k hk hne => ?_, fun hfull => ?_⟩
  · rw [List.length_set] at hi
    by_cases hij : i = j
    · subst hij; rw [getD_set_self' hi]; omega
    · rw [getD_set_ne3 (fun e => hij e.symm)]; exact h.ok.2 i hi
  · have := h.ext k hk hp
    by_cases hkj : k = j
    · subst hkj; rw [hz] at this; exact absurd this.symm hp
    · rw [getD_set_ne3 (fun e => hkj e.symm)]; exact this
  · rw [List.length_set] at hk
    have hA := h.agr fs hf hs ha
    by_cases hkj : k = j
    · subst hkj; rw [getD_set_self' hk]; exact (ht fs hf hs hA).symm
    · rw [getD_set_ne3 (fun e => hkj e.symm)] at hne ⊢; exact hA k hk hne
  · have e := h.full hfull
    exfalso
    rw [e] at hz hj
    exact hfull j hj hz
theorem pinv_pos {n : Int} {rs : List CRow} {ps zs : List Int} {m : Nat} {u : Int} {cf : Bool} (hr : ClOk n rs) (h : PInv n rs ps zs) (hm : m < rs.length) (hu : UOk (rs.getD m crow0).xs zs u cf) (h0 : 0 < u) : PInv n rs ps (zs.set (u - 1).toNat 1) ∧ zeros_o (zs.set (u - 1).toNat 1) + 1 = zeros_o zs ∧ (u - 1).toNat < zs.length := by
  have hl := hr.ok m hm
  have hur := hu.rng hl (by omega)
  have hz : zs.getD (u - 1).toNat 0 = 0 := by have := (hu.unit (by omega)).2.1; unfold valI at this; rwa [if_neg (by omega)] at this
  have hlen := h.ok.1
  refine ⟨pinv_set (q := m) h (by omega) hz (.inl rfl) (fun fs hf hs ha => ?_), zeros_set _ _ _ (by omega) hz (by decide), by omega⟩
  have := unit_true hu (by omega) hl h.ok ha (hs m hm)
  unfold valI at this; rwa [if_neg (by omega)] at this
theorem pinv_neg {n : Int} {rs : List CRow} {ps zs : List Int} {m : Nat} {u : Int} {cf : Bool} (hr : ClOk n rs) (h : PInv n rs ps zs) (hm : m < rs.length) (hu : UOk (rs.getD m crow0).xs zs u cf) (h0 : u < 0) : PInv n rs ps (zs.set (-u - 1).toNat (-1)) ∧ zeros_o (zs.set (-u - 1).toNat (-1)) + 1 = zeros_o zs ∧ (-u - 1).toNat < zs.length := by
  have hl := hr.ok m hm
  have hur := hu.rng hl (by omega)
  have hz : zs.getD (-u - 1).toNat 0 = 0 := by have := (hu.unit (by omega)).2.1; unfold valI at this; rw [if_pos h0] at this; omega
  have hlen := h.ok.1
  refine ⟨pinv_set (q := m) h (by omega) hz (.inr rfl) (fun fs hf hs ha => ?_), zeros_set _ _ _ (by omega) hz (by decide), by omega⟩
  have := unit_true hu (by omega) hl h.ok ha (hs m hm)
  unfold valI at this; rw [if_pos h0] at this; omega
/-- clauses that a complete assignment has satisfied so far -/
def Done (rs : List CRow) (ps : List Int) (m : Nat) : Prop := (∀ k, k < ps.length → ps.getD k 0 ≠ 0) → ∀ q, q < m → SatC (rs.getD q crow0).xs ps
theorem done_zero (rs : List CRow) (ps : List Int) : Done rs ps 0 := fun _ q hq => absurd hq (by omega)
theorem done_unit {n : Int} {rs : List CRow} {ps zs : List Int} {m : Nat} {u : Int} {cf : Bool} (hr : ClOk n rs) (h : PInv n rs ps zs) (hm : m < rs.length) (hu : UOk (rs.getD m crow0).xs zs u cf) (h0 : u ≠ 0) : Done rs ps (m + 1) := fun hf => by
  exfalso
  have e := h.full hf
  have hur := hu.rng (hr.ok m hm) h0
  have hz := (hu.unit h0).2.1
  have hl := h.ok.1
  rw [e] at hz hl
  unfold valI at hz
  split at hz
  · exact hf (-u - 1).toNat (by omega) (by omega)
  · exact hf (u - 1).toNat (by omega) hz
theorem done_none {n : Int} {rs : List CRow} {ps zs : List Int} {m : Nat} (hr : ClOk n rs) (h : PInv n rs ps zs) (hm : m < rs.length) (hu : UOk (rs.getD m crow0).xs zs 0 false) (hd : Done rs ps m) : Done rs ps (m + 1) := fun hf q hq => by
  by_cases hqm : q = m
  · subst hqm
    have e := h.full hf
    obtain ⟨i, hi, hv⟩ := hu.none rfl rfl
    have hl := hr.ok q hm
    have h3 := hl.2 i hi
    have hok := h.ok
    rw [e] at hv hok
    have hr2 := val_rng hok h3.1 h3.2.1 h3.2.2
    refine ⟨i, hi, ?_⟩
    have hne : valI ps ((rs.getD q crow0).xs.getD i 0) ≠ 0 := by
      have hlen := hok.1
      unfold valI
      split
      · have := hf (-(rs.getD q crow0).xs.getD i 0 - 1).toNat (by omega); omega
      · exact hf ((rs.getD q crow0).xs.getD i 0 - 1).toNat (by omega)
    omega
  · exact hd hf q (by omega)
/-- what propagation answers -/
structure POk (n : Int) (rs : List CRow) (ps out : List Int) (ok : Bool) : Prop where
  yes : ∀ fs, Full n fs → SatF rs fs → Agree ps fs → ok = true ∧ Agree out fs ∧ ∀ k, k < ps.length → ps.getD k 0 ≠ 0 → out.getD k 0 = ps.getD k 0
  full : (∀ k, k < ps.length → ps.getD k 0 ≠ 0) → (ok = true ↔ SatF rs ps)
  len : ok = true → out.length = ps.length
theorem pok_conf {n : Int} {rs : List CRow} {ps zs : List Int} {m : Nat} {u : Int} (hr : ClOk n rs) (h : PInv n rs ps zs) (hm : m < rs.length) (hu : UOk (rs.getD m crow0).xs zs u true) : POk n rs ps [] false := by
  refine ⟨fun fs hf hs ha => ?_, fun hf => ⟨(fun h => by cases h), fun hs => ?_⟩, (fun h => by cases h)⟩
  · exact (no_conf hu (hr.ok m hm) h.ok (h.agr fs hf hs ha) (hs m hm)).elim
  · exfalso
    have e := h.full hf
    have hok := h.ok
    rw [e] at hu hok
    exact no_conf hu (hr.ok m hm) hok (fun _ _ _ => rfl) (hs m hm)
theorem pok_end {n : Int} {rs : List CRow} {ps zs : List Int} (h : PInv n rs ps zs) (hd : Done rs ps rs.length) : POk n rs ps zs true :=
  ⟨fun fs hf hs ha => ⟨rfl, h.agr fs hf hs ha, h.ext⟩, fun hf => ⟨fun _ k hk => hd hf k hk, fun _ => rfl⟩, fun _ => h.len⟩
def litB (bs : List Bl) (l : Int) : Bool := if 0 < l then (bs.getD (l - 1).toNat bl0).b else !(bs.getD (-l - 1).toNat bl0).b
def clB (bs : List Bl) (xs : List Int) : Bool := xs.any (litB bs)
def cnfB (bs : List Bl) (rs : List CRow) : Bool := rs.all (fun r => clB bs r.xs)
def fullL (bs : List Bl) : List Int := bs.map (fun b => if b.b = true then 1 else -1)
theorem full_at (bs : List Bl) (i : Nat) (h : i < bs.length) : (fullL bs).getD i 0 = if (bs.getD i bl0).b = true then 1 else -1 := by
  unfold fullL
  rw [List.getD_eq_getElem?_getD, List.getElem?_map, List.getD_eq_getElem?_getD, List.getElem?_eq_getElem h]; rfl
theorem full_ok {n : Int} {bs : List Bl} (h : (bs.length : Int) = n) : Full n (fullL bs) := by
  have hl : (fullL bs).length = bs.length := by simp [fullL]
  refine ⟨⟨by omega, fun i hi => ?_⟩, fun i hi => ?_⟩
  · rw [full_at bs i (by omega)]; split <;> omega
  · rw [full_at bs i (by omega)]; split <;> omega
theorem full_lit {n : Int} {bs : List Bl} (h : (bs.length : Int) = n) {l : Int} (h0 : l ≠ 0) (h1 : -n ≤ l) (h2 : l ≤ n) : valI (fullL bs) l = 1 ↔ litB bs l = true := by
  unfold valI litB
  by_cases hl : l < 0
  · rw [if_pos hl, if_neg (by omega), full_at bs _ (by omega)]
    cases (bs.getD (-l - 1).toNat bl0).b <;> simp
  · rw [if_neg hl, if_pos (by omega), full_at bs _ (by omega)]
    cases (bs.getD (l - 1).toNat bl0).b <;> simp
theorem full_sat {n : Int} {bs : List Bl} {rs : List CRow} (h : (bs.length : Int) = n) (hr : ClOk n rs) : SatF rs (fullL bs) ↔ cnfB bs rs = true := by
  unfold SatF SatC cnfB clB
  simp only [List.all_eq_true, List.any_eq_true]
  constructor
  · intro hs r hr2
    obtain ⟨k, hk, rfl⟩ := List.mem_iff_getElem.1 hr2
    obtain ⟨i, hi, hv⟩ := hs k hk
    have hl := (hr.ok k hk).2 i hi
    rw [full_lit h hl.1 hl.2.1 hl.2.2] at hv
    rw [show rs.getD k crow0 = rs[k] by rw [List.getD_eq_getElem?_getD, List.getElem?_eq_getElem hk]; rfl] at hi hv
    exact ⟨_, getD_mem' hi, hv⟩
  · intro hs k hk
    have hmem : rs.getD k crow0 ∈ rs := getD_mem' hk
    obtain ⟨x, hx, hv⟩ := hs _ hmem
    obtain ⟨i, hi, rfl⟩ := List.mem_iff_getElem.1 hx
    have hl := (hr.ok k hk).2 i hi
    have e : (rs.getD k crow0).xs.getD i 0 = (rs.getD k crow0).xs[i] := by rw [List.getD_eq_getElem?_getD, List.getElem?_eq_getElem hi]; rfl
    refine ⟨i, hi, ?_⟩
    rw [full_lit h hl.1 hl.2.1 hl.2.2, e]; exact hv
open Go.RowKit
theorem inr_yes3 {a b c : Int} (h1 : b ≤ a) (h2 : a ≤ c) (w : World) : Calls Try.prog 70 #[.int .i64 a, .int .i64 b, .int .i64 c] w (Ans w (.bool true)) := by
  rw [← inR_true h1 h2]; exact ans_of (inRange_any _ _ _ w)
set_option maxHeartbeats 4000000 in
set_option maxRecDepth 100000 in
theorem copyInts_ret (xs : List Int) (v : Value) (w : World) (hv : RdsW w v 1 xs.length (xs.map (Value.int .i64))) (hlen : xs.length ≤ 1000000) :
  Calls Try.prog 134 #[v] w (Ret w (fun v' post => post = [rowE 3 1 v' (xs).length ((xs).map (Value.int .i64))])) := by
 refine calls_hc (N := 6) (args := [v]) Try.func134 rfl rfl ?_
 refine hc_less _ (sx 0 rfl (sub_nil _)) (.refl _) ?_
 refine hc_seq ?_
 refine hc_region ?_
 refine hl_v rfl rfl rfl (rv_ev rfl) ?_
 refine hl_less (sx 0 rfl (sx 2 rfl (sub_nil _))) (.refl _) ?_
 refine hl_nil ?_
 refine hq_then ?_
 refine hc_seq ?_
 refine hc_region ?_
 refine hl_row rfl rfl rfl (rq_slice0 (s := 1) rfl Try.underlying26 (by kernel_rfl)) ?_
 intro g1
 refine hl_v rfl rfl rfl (rv_ev rfl) ?_
 refine hl_append (i := 0) (z := .int .i64 0) (bytes := 8) (n' := xs.length) (xs' := (xs.map (Value.int .i64))) (L := fun v2 => [rowE 3 1 v2 xs.length (xs.map (Value.int .i64))]) rfl rfl rfl rfl Try.underlying26 (by kernel_rfl) (by kernel_rfl) rfl rfl rfl (rd_old hv) (ints_one _) (by first | omega | (simp; omega)) ((Nat.zero_add _)) ((List.nil_append _)) (fun _ => rfl) ?_
 intro v2
 refine hl_v rfl rfl rfl (rv_ev rfl) ?_
 refine hl_less (sx 0 rfl (sx 2 rfl (sub_nil _))) (.refl _) ?_
 refine hl_nil ?_
 refine hq_then ?_
 refine hc_ret ?_
 exact hq_retR (post := [rowE 3 1 v2 xs.length (xs.map (Value.int .i64))]) rfl rfl ((.cons_cons _ .slnil)) rfl
set_option maxHeartbeats 4000000 in
set_option maxRecDepth 100000 in
theorem valueIn_ans (n : Int) (ps : List Int) (v : Value) (l : Int) (w : World) (hv : RdsW w v 1 ps.length (ps.map (Value.int .i64))) (hp : PsOk n ps) (hl : l ≠ 0 ∧ -n ≤ l ∧ l ≤ n) (hn : n ≤ 400) :
  Calls Try.prog 183 #[v, .int .i64 l] w (Ans w (.int .i64 (valI ps l))) := by
 have hpl := hp.1
 have hb1 : l < 0 → -1 ≤ ps.getD (-l - 1).toNat 0 ∧ ps.getD (-l - 1).toNat 0 ≤ 1 := fun h => hp.2 _ (by omega)
 refine calls_hc (N := 19) (args := [v, .int .i64 l]) Try.func183 rfl rfl ?_
 refine hc_less _ (sx 0 rfl (sx 1 rfl (sub_nil _))) (.refl _) ?_
 refine hc_seq ?_
 refine hc_region ?_
 refine hl_v rfl rfl rfl (rv_ev rfl) ?_
 refine hl_less (sx 0 rfl (sx 1 rfl (sx 4 rfl (sub_nil _)))) (.refl _) ?_
 refine hl_nil ?_
 refine hq_then ?_
 refine hc_seq ?_
 refine hc_seq ?_
 refine hc_region ?_
 refine hl_v rfl rfl rfl (rv_ev rfl) ?_
 refine hl_lss rfl rfl rfl rfl rfl rfl (fun h1 => ?_) (fun h1 => ?_)
 ·
  refine hl_less (sx 0 rfl (sx 1 rfl (sx 4 rfl (sx 6 rfl (sub_nil _))))) (.refl _) ?_
  refine hl_nil ?_
  refine hq_then ?_
  refine hc_true rfl ?_
  refine hc_seq ?_
  refine hc_region ?_
  refine hl_v rfl rfl rfl (rv_ev rfl) ?_
  refine hl_v rfl rfl rfl (rv_ev rfl) ?_
  refine hl_v rfl rfl rfl (rv_neg rfl rfl (by omega) (by omega)) ?_
  refine hl_v rfl rfl rfl (rv_sub rfl rfl rfl (by constructor <;> omega)) ?_
  refine hl_v rfl rfl rfl (rv_index (s := 1) rfl Try.underlying26 (by kernel_rfl) rfl rfl (rd_old hv) (by omega) (by first | omega | (simp only [List.length_set]; omega))) ?_
  refine hl_v rfl rfl rfl (rv_loadEl (u := .int .i64 (ps.getD (((-l) - 1).toNat) 0)) rfl (by kernel_rfl) rfl (rd_old hv) (ints_at1 (show _ < ps.length by first | omega | (simp only [List.length_set]; omega)))) ?_
  refine hl_v rfl rfl rfl (rv_neg rfl rfl (by omega) (by omega)) ?_
  refine hl_v rfl rfl rfl (rv_ev rfl) ?_
  refine hl_less (sx 0 rfl (sx 1 rfl (sx 4 rfl (sx 6 rfl (sub_nil _))))) (.refl _) ?_
  refine hl_nil ?_
  refine hq_then ?_
  refine hc_ret ?_
  refine hq_then_ret ?_
  exact hq_ans rfl rfl (by unfold valI; first | rw [if_pos (by omega)] | rw [if_neg (by omega)])
 ·
  refine hl_less (sx 0 rfl (sx 1 rfl (sx 4 rfl (sx 6 rfl (sub_nil _))))) (.refl _) ?_
  refine hl_nil ?_
  refine hq_then ?_
  refine hc_false rfl ?_
  refine hc_skip ?_
  refine hq_then ?_
  refine hc_seq ?_
  refine hc_region ?_
  refine hl_v rfl rfl rfl (rv_ev rfl) ?_
  refine hl_v rfl rfl rfl (rv_ev rfl) ?_
  refine hl_v rfl rfl rfl (rv_sub rfl rfl rfl (by constructor <;> omega)) ?_
  refine hl_v rfl rfl rfl (rv_index (s := 1) rfl Try.underlying26 (by kernel_rfl) rfl rfl (rd_old hv) (by omega) (by first | omega | (simp only [List.length_set]; omega))) ?_
  refine hl_v rfl rfl rfl (rv_loadEl (u := .int .i64 (ps.getD ((l - 1).toNat) 0)) rfl (by kernel_rfl) rfl (rd_old hv) (ints_at1 (show _ < ps.length by first | omega | (simp only [List.length_set]; omega)))) ?_
  refine hl_v rfl rfl rfl (rv_ev rfl) ?_
  refine hl_less (sx 0 rfl (sx 1 rfl (sx 4 rfl (sx 6 rfl (sub_nil _))))) (.refl _) ?_
  refine hl_nil ?_
  refine hq_then ?_
  refine hc_ret ?_
  exact hq_ans rfl rfl (by unfold valI; first | rw [if_pos (by omega)] | rw [if_neg (by omega)])
/-- what has been seen of a clause -/
structure USeen (xs ps : List Int) (m : Nat) (u : Int) : Prop where
  all : ∀ i, i < m → xs.getD i 0 = u ∨ valI ps (xs.getD i 0) = -1
  one : u ≠ 0 → valI ps u = 0 ∧ ∃ i, i < m ∧ xs.getD i 0 = u
theorem seen_skip {xs ps : List Int} {m : Nat} {u : Int} (h : USeen xs ps m u) (hv : valI ps (xs.getD m 0) = -1) : USeen xs ps (m + 1) u :=
  ⟨fun i hi => by by_cases e : i = m; (subst e; exact .inr hv); exact h.all i (by omega), fun hu => ⟨(h.one hu).1, by obtain ⟨i, hi, e⟩ := (h.one hu).2; exact ⟨i, by omega, e⟩⟩⟩
theorem seen_new {xs ps : List Int} {m : Nat} {u : Int} (h : USeen xs ps m u) (hv : valI ps (xs.getD m 0) = 0) (hu : u = 0 ∨ u = xs.getD m 0) (hx : ∀ i, i < m → xs.getD i 0 ≠ 0) : USeen xs ps (m + 1) (xs.getD m 0) :=
  ⟨fun i hi => by
    by_cases e : i = m
    · subst e; exact .inl rfl
    · rcases h.all i (by omega) with h1 | h1
      · rcases hu with h2 | h2
        · exact absurd (h1.trans h2) (hx i (by omega))
        · exact .inl (h1.trans h2)
      · exact .inr h1, fun _ => ⟨hv, m, by omega, rfl⟩⟩
theorem uok_end {xs ps : List Int} {u : Int} {b : Bool} (h : USeen xs ps xs.length u) (hx : ∀ i, i < xs.length → xs.getD i 0 ≠ 0) (hb : b = decide (u = 0)) : UOk xs ps u b := by
  subst hb
  refine ⟨fun hc => ?_, fun hu => ⟨by simp [hu], (h.one hu).1, by obtain ⟨i, hi, e⟩ := (h.one hu).2; exact ⟨i, hi, e⟩, h.all⟩, fun hc hu => ?_⟩
  · have hu : u = 0 := by simpa using hc
    refine ⟨hu, fun i hi => ?_⟩
    rcases h.all i hi with h1 | h1
    · exact absurd (h1.trans hu) (hx i hi)
    · exact h1
  · simp [hu] at hc
theorem uok_no {xs ps : List Int} {m : Nat} (hm : m < xs.length) (hv : valI ps (xs.getD m 0) ≠ -1) : UOk xs ps 0 false :=
  ⟨(fun h => by cases h), fun h => absurd rfl h, fun _ _ => ⟨m, hm, hv⟩⟩
set_option maxHeartbeats 4000000 in
set_option maxRecDepth 100000 in
theorem clauseOk_yes (n : Int) (xs : List Int) (v : Value) (w : World) (hv : RdsW w v 1 xs.length (xs.map (Value.int .i64))) (hx : LitOk n xs) (hn : 0 ≤ n ∧ n ≤ 400) :
  Calls Try.prog 87 #[v, .int .i64 n] w (Ans w (.bool true)) := by
 have hxl := hx.1
 refine calls_hc (N := 27) (args := [v, .int .i64 n]) Try.func87 rfl rfl ?_
 refine hc_less _ (sx 0 rfl (sx 1 rfl (sub_nil _))) (.refl _) ?_
 refine hc_seq ?_
 refine hc_region ?_
 refine hl_v rfl rfl rfl (rv_ev rfl) ?_
 refine hl_less (sx 0 rfl (sx 1 rfl (sx 4 rfl (sub_nil _)))) (.refl _) ?_
 refine hl_nil ?_
 refine hq_then ?_
 refine hc_seq ?_
 refine hc_seq ?_
 refine hc_region ?_
 refine hl_v rfl rfl rfl (rv_ev rfl) ?_
 refine hl_v rfl rfl rfl (rv_len rfl Try.underlying26 rfl (rd_old hv)) ?_
 refine hl_gtr rfl rfl rfl rfl rfl rfl (fun h1 => absurd h1 (by omega)) (fun h1 => ?_)
 refine hl_less (sx 0 rfl (sx 1 rfl (sx 4 rfl (sx 9 rfl (sub_nil _))))) (.refl _) ?_
 refine hl_nil ?_
 refine hq_then ?_
 refine hc_false rfl ?_
 refine hc_skip ?_
 refine hq_then ?_
 refine hc_seq ?_
 refine hc_seq ?_
 refine hc_region ?_
 refine hl_v rfl rfl rfl (rv_ev rfl) ?_
 refine hl_v rfl rfl rfl (rv_len rfl Try.underlying26 rfl (rd_old hv)) ?_
 refine hl_v rfl rfl rfl (rv_ev rfl) ?_
 refine hl_less (sx 0 rfl (sx 1 rfl (sx 4 rfl (sx 9 rfl (sx 10 rfl (sx 11 rfl (sx 12 rfl (sub_nil _)))))))) (.refl _) ?_
 refine hl_nil ?_
 refine hq_then ?_
 refine hc_block ?_
 refine hc_loop1 (α := Nat) (fun j => []) (fun j => [(0, v), (1, .int .i64 n), (4, .bool false), (9, .bool false), (10, v), (11, .int .i64 (xs.length : Int)), (12, .int .i64 (j : Int))]) (fun j => j ≤ xs.length) (fun j => xs.length - j) 0 (Nat.zero_le _) (sx 0 rfl (sx 1 rfl (sx 4 rfl (sx 9 rfl (sx 10 rfl (sx 11 rfl (sx 12 rfl (sub_nil _)))))))) (.slnil) ?_
 intro j hi2
 have hj := hi2
 refine hc_seq ?_
 refine hc_region ?_
 refine hl_lss rfl rfl rfl rfl rfl rfl (fun h3 => ?_) (fun h3 => ?_)
 ·
  refine hl_less (sx 0 rfl (sx 1 rfl (sx 4 rfl (sx 9 rfl (sx 10 rfl (sx 11 rfl (sx 12 rfl (sx 13 rfl (sub_nil _))))))))) (.refl _) ?_
  refine hl_nil ?_
  refine hq_then ?_
  refine hc_seq ?_
  refine hc_true rfl ?_
  refine hc_skip ?_
  refine hq_then ?_
  refine hc_seq ?_
  refine hc_block ?_
  refine hc_seq ?_
  refine hc_region ?_
  refine hl_v rfl rfl rfl (rv_index (s := 1) rfl Try.underlying26 (by kernel_rfl) rfl rfl (rd_old hv) (by omega) (by first | omega | (simp only [List.length_set]; omega))) ?_
  refine hl_v rfl rfl rfl (rv_loadEl (u := .int .i64 (xs.getD j 0)) rfl (by kernel_rfl) rfl (rd_old hv) (ints_at1 (show _ < xs.length by first | omega | (simp only [List.length_set]; omega)))) ?_
  refine hl_v rfl rfl rfl (rv_ev rfl) ?_
  refine hl_less (sx 0 rfl (sx 1 rfl (sx 4 rfl (sx 6 rfl (sx 9 rfl (sx 10 rfl (sx 11 rfl (sx 12 rfl (sx 13 rfl (sub_nil _)))))))))) (.refl _) ?_
  refine hl_nil ?_
  refine hq_then ?_
  refine hc_seq ?_
  refine hc_region ?_
  have hxj := hx.2 j (by omega)
  refine hl_v rfl rfl rfl (rv_ev rfl) ?_
  refine hl_eql rfl rfl rfl rfl rfl rfl (fun h4 => absurd h4 (by omega)) (fun h4 => ?_)
  have hxj := hx.2 j (by omega)
  refine hl_v rfl rfl rfl (rv_ev rfl) ?_
  have hxj := hx.2 j (by omega)
  refine hl_v rfl rfl rfl (rv_ev rfl) ?_
  have hxj := hx.2 j (by omega)
  refine hl_v rfl rfl rfl (rv_ev rfl) ?_
  refine hl_v rfl rfl rfl (rv_neg rfl rfl (by omega) (by omega)) ?_
  have hxj := hx.2 j (by omega)
  refine hl_v rfl rfl rfl (rv_ev rfl) ?_
  refine hl_callV rfl rfl rfl (rq_call (by kernel_rfl) rfl (fun w hm => ret_ans (inr_yes3 (by omega) (by omega) w))) ?_
  refine hl_v rfl rfl rfl (rv_ev rfl) ?_
  refine hl_v rfl rfl rfl (rv_ev rfl) ?_
  refine hl_less (sx 0 rfl (sx 1 rfl (sx 4 rfl (sx 6 rfl (sx 9 rfl (sx 10 rfl (sx 11 rfl (sx 12 rfl (sx 13 rfl (sx 25 rfl (sub_nil _))))))))))) (.refl _) ?_
  refine hl_nil ?_
  refine hq_then ?_
  refine hc_false rfl ?_
  refine hc_skip ?_
  refine hq_block_normal ?_
  refine hq_then ?_
  refine hc_region ?_
  refine hl_v rfl rfl rfl (rv_add rfl rfl rfl (by constructor <;> omega)) ?_
  refine hl_v rfl rfl rfl (rv_ev rfl) ?_
  refine hl_less (sx 0 rfl (sx 1 rfl (sx 4 rfl (sx 6 rfl (sx 9 rfl (sx 10 rfl (sx 11 rfl (sx 12 rfl (sx 13 rfl (sx 25 rfl (sub_nil _))))))))))) (.refl _) ?_
  refine hl_nil ?_
  exact hq_round1 (j + 1) (by omega) (by omega) (sx 0 rfl (sx 1 rfl (sx 4 rfl (sx 9 rfl (sx 10 rfl (sx 11 rfl (sx 12 rfl (sub_nil _)))))))) (.slnil)
 ·
  refine hl_less (sx 0 rfl (sx 1 rfl (sx 4 rfl (sx 9 rfl (sx 10 rfl (sx 11 rfl (sx 12 rfl (sx 13 rfl (sub_nil _))))))))) (.refl _) ?_
  refine hl_nil ?_
  refine hq_then ?_
  refine hc_seq ?_
  refine hc_false rfl ?_
  refine hc_exit ?_
  refine hq_then_exit ?_
  refine hq_then_exit ?_
  refine hq_block_exit ?_
  refine hq_then ?_
  refine hc_seq ?_
  refine hc_region ?_
  refine hl_v rfl rfl rfl (rv_ev rfl) ?_
  refine hl_less (sx 0 rfl (sx 1 rfl (sx 4 rfl (sx 9 rfl (sx 10 rfl (sx 11 rfl (sx 12 rfl (sx 13 rfl (sub_nil _))))))))) (.refl _) ?_
  refine hl_nil ?_
  refine hq_then ?_
  refine hc_ret ?_
  exact hq_ans rfl rfl rfl
set_option maxHeartbeats 4000000 in
set_option maxRecDepth 100000 in
theorem implCnfOk_yes (n : Int) (rs : List CRow) (v : Value) (w : World) (hr : ClOk n rs) (hv : RdsCl w v rs) :
  Calls Try.prog 30 #[.agg #[.int .i64 n, v]] w (Ans w (.bool true)) := by
 have hn0 := hr.n0
 have hn1 := hr.n1
 have hrl := hr.len
 refine calls_hc (N := 28) (args := [.agg #[.int .i64 n, v]]) Try.func30 rfl rfl ?_
 refine hc_less _ (sx 0 rfl (sub_nil _)) (.refl _) ?_
 refine hc_seq ?_
 refine hc_region ?_
 refine hl_box rfl rfl rfl (rq_box rfl rfl) ?_
 intro b1
 refine hl_v rfl rfl rfl (rv_ev rfl) ?_
 refine hl_less (sx 0 rfl (sx 1 rfl (sx 2 rfl (sub_nil _)))) (.refl _) ?_
 refine hl_nil ?_
 refine hq_then ?_
 refine hc_seq ?_
 refine hc_seq ?_
 refine hc_region ?_
 refine hl_v rfl rfl rfl (rv_field (k0 := 0) rfl (by kernel_rfl) rfl) ?_
 refine hl_v rfl rfl rfl (rv_load rfl (by kernel_rfl) rfl (box_cell 0 rfl rfl)) ?_
 refine hl_callV rfl rfl rfl (rq_call (by kernel_rfl) rfl (fun w hm => ret_ans (inr_yes3 (by omega) (by omega) w))) ?_
 refine hl_v rfl rfl rfl (rv_ev rfl) ?_
 refine hl_v rfl rfl rfl (rv_ev rfl) ?_
 refine hl_v rfl rfl rfl (rv_field (k0 := 1) rfl (by kernel_rfl) rfl) ?_
 refine hl_v rfl rfl rfl (rv_load rfl (by kernel_rfl) rfl (box_cell 0 rfl rfl)) ?_
 refine hl_v rfl rfl rfl (rv_len rfl Try.underlying40 rfl (rd_old hv.row)) ?_
 refine hl_gtr rfl rfl rfl rfl rfl rfl (fun h2 => absurd h2 (by omega)) (fun h2 => ?_)
 refine hl_v rfl rfl rfl (rv_ev rfl) ?_
 refine hl_less (sx 0 rfl (sx 1 rfl (sx 2 rfl (sx 14 rfl (sub_nil _))))) (.refl _) ?_
 refine hl_nil ?_
 refine hq_then ?_
 refine hc_false rfl ?_
 refine hc_skip ?_
 refine hq_then ?_
 refine hc_seq ?_
 refine hc_seq ?_
 refine hc_region ?_
 refine hl_v rfl rfl rfl (rv_field (k0 := 1) rfl (by kernel_rfl) rfl) ?_
 refine hl_v rfl rfl rfl (rv_load rfl (by kernel_rfl) rfl (box_cell 0 rfl rfl)) ?_
 refine hl_v rfl rfl rfl (rv_len rfl Try.underlying40 rfl (rd_old hv.row)) ?_
 refine hl_v rfl rfl rfl (rv_ev rfl) ?_
 refine hl_less (sx 0 rfl (sx 1 rfl (sx 2 rfl (sx 14 rfl (sx 16 rfl (sx 17 rfl (sx 18 rfl (sub_nil _)))))))) (.refl _) ?_
 refine hl_nil ?_
 refine hq_then ?_
 refine hc_block ?_
 refine hc_loop1 (α := Nat) (fun k => [boxE b1 #[.int .i64 n, v] 42]) (fun k => [(0, .agg #[.int .i64 n, v]), (1, .pointer (some ⟨b1, 0, none⟩)), (2, .bool false), (14, .bool false), (16, v), (17, .int .i64 (rs.length : Int)), (18, .int .i64 (k : Int))]) (fun k => k ≤ rs.length) (fun k => rs.length - k) 0 (Nat.zero_le _) (sx 0 rfl (sx 1 rfl (sx 2 rfl (sx 14 rfl (sx 16 rfl (sx 17 rfl (sx 18 rfl (sub_nil _)))))))) ((.cons_cons _ .slnil)) ?_
 intro k hi3
 have hk := hi3
 refine hc_seq ?_
 refine hc_region ?_
 refine hl_lss rfl rfl rfl rfl rfl rfl (fun h4 => ?_) (fun h4 => ?_)
 ·
  refine hl_less (sx 0 rfl (sx 1 rfl (sx 2 rfl (sx 14 rfl (sx 16 rfl (sx 17 rfl (sx 18 rfl (sx 19 rfl (sub_nil _))))))))) (.refl _) ?_
  refine hl_nil ?_
  refine hq_then ?_
  refine hc_seq ?_
  refine hc_true rfl ?_
  refine hc_skip ?_
  refine hq_then ?_
  refine hc_seq ?_
  refine hc_block ?_
  refine hc_seq ?_
  refine hc_region ?_
  refine hl_v rfl rfl rfl (rv_index (s := 1) rfl Try.underlying40 (by kernel_rfl) rfl rfl (rd_old hv.row) (by omega) (by first | omega | (simp only [List.length_set]; omega))) ?_
  refine hl_v rfl rfl rfl (rv_loadEl (u := (rs.getD k crow0).v) rfl (by kernel_rfl) rfl (rd_old hv.row) (flat_one crowC (fun r => r.v) (fun _ => rfl) rs crow0 (show k < _ by first | omega | (simp only [List.length_set]; omega)))) ?_
  refine hl_v rfl rfl rfl (rv_ev rfl) ?_
  refine hl_less (sx 0 rfl (sx 1 rfl (sx 2 rfl (sx 4 rfl (sx 14 rfl (sx 16 rfl (sx 17 rfl (sx 18 rfl (sx 19 rfl (sub_nil _)))))))))) (.refl _) ?_
  refine hl_nil ?_
  refine hq_then ?_
  refine hc_seq ?_
  refine hc_region ?_
  refine hl_v rfl rfl rfl (rv_ev rfl) ?_
  refine hl_v rfl rfl rfl (rv_field (k0 := 0) rfl (by kernel_rfl) rfl) ?_
  refine hl_v rfl rfl rfl (rv_load rfl (by kernel_rfl) rfl (box_cell 0 rfl rfl)) ?_
  refine hl_callV rfl rfl rfl (rq_call (by kernel_rfl) rfl (fun w hm => ret_ans (clauseOk_yes n (rs.getD k crow0).xs _ w ((hv.at (by omega)).below hm.bel) (hr.ok k (by omega)) ⟨hn0, hn1⟩))) ?_
  refine hl_v rfl rfl rfl (rv_ev rfl) ?_
  refine hl_less (sx 0 rfl (sx 1 rfl (sx 2 rfl (sx 4 rfl (sx 14 rfl (sx 16 rfl (sx 17 rfl (sx 18 rfl (sx 19 rfl (sx 26 rfl (sub_nil _))))))))))) (.refl _) ?_
  refine hl_nil ?_
  refine hq_then ?_
  refine hc_false rfl ?_
  refine hc_skip ?_
  refine hq_block_normal ?_
  refine hq_then ?_
  refine hc_region ?_
  refine hl_v rfl rfl rfl (rv_add rfl rfl rfl (by constructor <;> omega)) ?_
  refine hl_v rfl rfl rfl (rv_ev rfl) ?_
  refine hl_less (sx 0 rfl (sx 1 rfl (sx 2 rfl (sx 4 rfl (sx 14 rfl (sx 16 rfl (sx 17 rfl (sx 18 rfl (sx 19 rfl (sx 26 rfl (sub_nil _))))))))))) (.refl _) ?_
  refine hl_nil ?_
  exact hq_round1 (k + 1) (by omega) (by omega) (sx 0 rfl (sx 1 rfl (sx 2 rfl (sx 14 rfl (sx 16 rfl (sx 17 rfl (sx 18 rfl (sub_nil _)))))))) ((.cons_cons _ .slnil))
 ·
  refine hl_less (sx 0 rfl (sx 1 rfl (sx 2 rfl (sx 14 rfl (sx 16 rfl (sx 17 rfl (sx 18 rfl (sx 19 rfl (sub_nil _))))))))) (.refl _) ?_
  refine hl_nil ?_
  refine hq_then ?_
  refine hc_seq ?_
  refine hc_false rfl ?_
  refine hc_exit ?_
  refine hq_then_exit ?_
  refine hq_then_exit ?_
  refine hq_block_exit ?_
  refine hq_then ?_
  refine hc_seq ?_
  refine hc_region ?_
  refine hl_v rfl rfl rfl (rv_ev rfl) ?_
  refine hl_less (sx 0 rfl (sx 1 rfl (sx 2 rfl (sx 14 rfl (sx 16 rfl (sx 17 rfl (sx 18 rfl (sx 19 rfl (sub_nil _))))))))) (.refl _) ?_
  refine hl_nil ?_
  refine hq_then ?_
  refine hc_ret ?_
  exact hq_ans rfl rfl rfl
abbrev ndA (n : Nt) (k : Int) : Int := (n.gs.getD (k - n.fst).toNat an0).a
abbrev ndB (n : Nt) (k : Int) : Int := (n.gs.getD (k - n.fst).toNat an0).b
abbrev mk (bs : List Bl) (k : Int) : Prop := (bs.getD k.toNat bl0).b = true
theorem nd_ok {n : Nt} (hn : NtOk n) {k : Int} (h0 : n.fst ≤ k) (h1 : k < n.cnt) : (k - n.fst).toNat < n.gs.length ∧ 0 ≤ n.fst ∧ 0 ≤ ndA n k ∧ ndA n k < 2 * k ∧ 0 ≤ ndB n k ∧ ndB n k < 2 * k := by
  have hc : n.cnt = n.fst + n.gs.length := by unfold Nt.cnt Nt.fst; omega
  have hf : 0 ≤ n.fst := by have := hn.i0; unfold Nt.fst; omega
  have ha := hn.an (k - n.fst).toNat (by omega)
  unfold LtOk at ha
  unfold ndA ndB
  omega
structure MkOk (n : Nt) (node : Int) (bs bs' : List Bl) : Prop where
  len : bs'.length = bs.length
  mono : ∀ k : Int, 0 ≤ k → mk bs k → mk bs' k
  at_ : mk bs' node
  new : ∀ k : Int, n.fst ≤ k → k < n.cnt → mk bs' k → mk bs k ∨ (mk bs' (ndA n k / 2) ∧ mk bs' (ndB n k / 2))
theorem mk_set {bs : List Bl} {j : Nat} {b : Bl} (hj : j < bs.length) (hb : b.b = true) {k : Int} : mk (bs.set j b) k ↔ k.toNat = j ∨ mk bs k := by
  unfold mk
  by_cases e : k.toNat = j
  · rw [e, getD_set_self' hj]; exact ⟨fun _ => .inl rfl, fun _ => hb⟩
  · rw [List.getD_eq_getElem?_getD, List.getElem?_set_ne (fun h => e h.symm), ← List.getD_eq_getElem?_getD]
    exact ⟨fun h => .inr h, fun h => h.resolve_left e⟩
theorem mk_same {n : Nt} {node : Int} {bs : List Bl} (h : mk bs node) : MkOk n node bs bs := ⟨rfl, fun _ _ h => h, h, fun k _ _ h => .inl h⟩
theorem mk_leaf {n : Nt} {node : Int} {bs : List Bl} {b : Bl} (h0 : 0 ≤ node) (h1 : node.toNat < bs.length) (hf : 0 ≤ n.fst) (hl : node < n.fst) (hb : b.b = true) : MkOk n node bs (bs.set node.toNat b) :=
  ⟨by simp, fun k k0 h => (mk_set h1 hb).2 (.inr h), (mk_set h1 hb).2 (.inl rfl), fun k k0 k1 h => by
    rcases (mk_set h1 hb).1 h with h | h
    · omega
    · exact .inl h⟩
theorem mk_and {n : Nt} (hn : NtOk n) {node : Int} {bs b2 b3 : List Bl} {b : Bl} (h0 : n.fst ≤ node) (h9 : node < n.cnt) (h1 : node.toNat < bs.length) (hb : b.b = true) (ha : MkOk n (ndA n node / 2) (bs.set node.toNat b) b2) (hc : MkOk n (ndB n node / 2) b2 b3) : MkOk n node bs b3 := by
  obtain ⟨o1, o2, o3, o4, o5, o6⟩ := nd_ok hn h0 h9
  have hm : ∀ k : Int, 0 ≤ k → mk (bs.set node.toNat b) k → mk b3 k := fun k k0 h => hc.mono k k0 (ha.mono k k0 h)
  refine ⟨by rw [hc.len, ha.len]; simp, fun k k0 h => hm k k0 ((mk_set h1 hb).2 (.inr h)), hm node (by omega) ((mk_set h1 hb).2 (.inl rfl)), fun k k0 k1 h => ?_⟩
  obtain ⟨p1, p2, p3, p4, p5, p6⟩ := nd_ok hn k0 k1
  rcases hc.new k k0 k1 h with h | h
  · rcases ha.new k k0 k1 h with h | h
    · rcases (mk_set h1 hb).1 h with h | h
      · have : k = node := by omega
        subst this
        exact .inr ⟨hc.mono _ (by omega) ha.at_, hc.at_⟩
      · exact .inl h
    · exact .inr ⟨hc.mono _ (by omega) h.1, hc.mono _ (by omega) h.2⟩
  · exact .inr h
/-- the marked ones -/
def mkL (bs : List Bl) (k : Nat) : List Int := ((List.range k).filter fun i : Nat => (bs.getD i bl0).b).map fun i : Nat => (i : Int)
theorem mkL_yes {bs : List Bl} {k : Nat} (h : (bs.getD k bl0).b = true) : mkL bs k ++ [(k : Int)] = mkL bs (k + 1) := by
  unfold mkL; rw [List.range_succ, List.filter_append, List.map_append, List.filter_cons_of_pos (p := fun i : Nat => (bs.getD i bl0).b) h]; rfl
theorem mkL_no {bs : List Bl} {k : Nat} (h : (bs.getD k bl0).b = false) : mkL bs k = mkL bs (k + 1) := by
  unfold mkL; rw [List.range_succ, List.filter_append, List.map_append, List.filter_cons_of_neg (p := fun i : Nat => (bs.getD i bl0).b) (by simpa using h)]; simp
theorem mkL_len (bs : List Bl) (k : Nat) : (mkL bs k).length ≤ k := by
  unfold mkL; rw [List.length_map]; have := List.length_filter_le (fun i => (bs.getD i bl0).b) (List.range k); simpa using this
theorem mkL_mem {bs : List Bl} {k : Nat} {x : Int} : x ∈ mkL bs k ↔ (0 ≤ x ∧ x < k) ∧ mk bs x := by
  unfold mkL mk
  simp only [List.mem_map, List.mem_filter, List.mem_range]
  constructor
  · rintro ⟨i, ⟨h1, h2⟩, rfl⟩
    exact ⟨⟨by omega, by omega⟩, by rw [Int.toNat_natCast]; exact h2⟩
  · rintro ⟨⟨h1, h2⟩, h3⟩
    exact ⟨x.toNat, ⟨by omega, h3⟩, by omega⟩
structure ConeOk (n : Nt) (node : Int) (xs : List Int) : Prop where
  len : xs.length ≤ n.cnt.toNat
  rng : ∀ x ∈ xs, 0 ≤ x ∧ x < n.cnt
  top : node ∈ xs
  clo : ∀ k ∈ xs, n.fst ≤ k → ndA n k / 2 ∈ xs ∧ ndB n k / 2 ∈ xs
theorem cone_of {n : Nt} (hn : NtOk n) {node : Int} {bs : List Bl} (h0 : 0 ≤ node) (h1 : node < n.cnt) (hl : bs.length = n.cnt.toNat) (h : MkOk n node (List.replicate n.cnt.toNat bl0) bs) : ConeOk n node (mkL bs bs.length) := by
  have hno : ∀ k : Int, ¬ mk (List.replicate n.cnt.toNat bl0) k := fun k hk => by
    unfold mk at hk
    rw [List.getD_eq_getElem?_getD, List.getElem?_replicate] at hk
    split at hk <;> exact absurd hk (by decide)
  refine ⟨by have := mkL_len bs bs.length; omega, fun x hx => by have := (mkL_mem.1 hx).1; omega, mkL_mem.2 ⟨by omega, h.at_⟩, fun k hk hf => ?_⟩
  obtain ⟨hk1, hk2⟩ := mkL_mem.1 hk
  obtain ⟨p1, p2, p3, p4, p5, p6⟩ := nd_ok hn hf (by omega)
  have := (h.new k hf (by omega) hk2).resolve_left (hno k)
  exact ⟨mkL_mem.2 ⟨by omega, this.1⟩, mkL_mem.2 ⟨by omega, this.2⟩⟩
set_option maxHeartbeats 4000000 in
set_option maxRecDepth 100000 in
theorem markCone_step (n : Nt) (node : Int) (bs : List Bl) (v : Value) (w0 : World) (l : List HP) (w : World) (hm0 : Mem w0 (rowE 4 1 v bs.length (bs.flatMap blC) :: l) w) (hr : RdsNt w0 n) (hn : NtOk n) (hnd : 0 ≤ node ∧ node < n.cnt) (hbl : (bs.length : Int) = n.cnt) (IH : ∀ (m : Int) (bs2 : List Bl) (l2 : List HP) (w2 : World), 0 ≤ m → m < node → bs2.length = bs.length → Mem w0 (rowE 4 1 v (bs2).length ((bs2).flatMap blC) :: l2) w2 → Calls Try.prog 131 #[n.agg, .int .i64 m, v] w2 (fun e_ w_ => ∃ v_ p_, e_ = .returned v_ ∧ (∃ bs' : List Bl, p_ = rowE 4 1 v (bs').length ((bs').flatMap blC) ∧ MkOk n m bs2 bs') ∧ Mem w0 (p_ :: l2) w_)) :
  Calls Try.prog 131 #[.agg #[.int .i64 n.ins, n.sv, n.av, n.ov], .int .i64 node, v] w (fun e_ w_ => ∃ v_ p_, e_ = .returned v_ ∧ (fun v_ p_ => ∃ bs' : List Bl, p_ = rowE 4 1 v (bs').length ((bs').flatMap blC) ∧ MkOk n node bs bs') v_ p_ ∧ Mem w0 (p_ :: l) w_) := by
 have hi0 := hn.i0
 have hi1 := hn.i1
 have hs1 := hn.s1
 have ha1 := hn.a1
 have ho1 := hn.o1
 have hcnt : n.cnt = 1 + n.ins + n.ss.length + n.gs.length := rfl
 have hfst : n.fst = 1 + n.ins + n.ss.length := rfl
 refine calls_hcM (N := 40) (args := [.agg #[.int .i64 n.ins, n.sv, n.av, n.ov], .int .i64 node, v]) Try.func131 rfl rfl hm0 ?_
 refine hc_less _ (sx 0 rfl (sx 1 rfl (sx 2 rfl (sub_nil _)))) (.refl _) ?_
 refine hc_seq ?_
 refine hc_region ?_
 refine hl_box rfl rfl rfl (rq_box rfl rfl) ?_
 intro b1
 refine hl_less (sx 0 rfl (sx 1 rfl (sx 2 rfl (sx 3 rfl (sub_nil _))))) (.refl _) ?_
 refine hl_nil ?_
 refine hq_then ?_
 refine hc_seq ?_
 refine hc_seq ?_
 refine hc_region ?_
 refine hl_v rfl rfl rfl (rv_ev rfl) ?_
 refine hl_v rfl rfl rfl (rv_ev rfl) ?_
 refine hl_v rfl rfl rfl (rv_index (s := 1) rfl Try.underlying45 (by kernel_rfl) rfl rfl (rd_row 1 rfl) (by omega) (by first | omega | (simp only [List.length_set]; omega))) ?_
 refine hl_v rfl rfl rfl (rv_loadEl (u := .bool ((bs.getD ((node).toNat) bl0).b)) rfl (by kernel_rfl) rfl (rd_row 1 rfl) (flat_one blC (fun r => .bool r.b) (fun _ => rfl) bs bl0 (show (node).toNat < _ by first | omega | (simp only [List.length_set]; omega)))) ?_
 refine hl_bool (fun h2 => ?_) (fun h2 => ?_)
 ·
  refine hl_less (sx 0 rfl (sx 1 rfl (sx 2 rfl (sx 3 rfl (sx 10 rfl (sub_nil _)))))) (.refl _) ?_
  refine hl_nil ?_
  refine hq_then ?_
  refine hc_true rfl ?_
  refine hc_ret ?_
  refine hq_then_ret ?_
  exact hq_ret (rs := []) (vs := []) rfl trivial rfl (fun w hm => ⟨_, rowE 4 1 v bs.length (bs.flatMap blC), rfl, ⟨_, rfl, mk_same (by unfold mk; assumption)⟩, hm.sub ((.cons _ (.cons_cons _ (.refl _))))⟩)
 ·
  refine hl_less (sx 0 rfl (sx 1 rfl (sx 2 rfl (sx 3 rfl (sx 10 rfl (sub_nil _)))))) (.refl _) ?_
  refine hl_nil ?_
  refine hq_then ?_
  refine hc_false rfl ?_
  refine hc_skip ?_
  refine hq_then ?_
  refine hc_seq ?_
  refine hc_region ?_
  refine hl_v rfl rfl rfl (rv_ev rfl) ?_
  refine hl_v rfl rfl rfl (rv_ev rfl) ?_
  refine hl_v rfl rfl rfl (rv_index (s := 1) rfl Try.underlying45 (by kernel_rfl) rfl rfl (rd_row 1 rfl) (by omega) (by first | omega | (simp only [List.length_set]; omega))) ?_
  refine hl_storeEl (i := 1) (n' := (bs.set ((node).toNat) { bs.getD ((node).toNat) bl0 with b := true }).length) (xs' := ((bs.set ((node).toNat) { bs.getD ((node).toNat) bl0 with b := true }).flatMap blC)) (l' := (boxE b1 #[.int .i64 n.ins, n.sv, n.av, n.ov] 28 :: rowE 4 1 v ((bs.set ((node).toNat) { bs.getD ((node).toNat) bl0 with b := true }).length) ((bs.set ((node).toNat) { bs.getD ((node).toNat) bl0 with b := true }).flatMap blC) :: l)) rfl rfl rfl (by kernel_rfl) rfl rfl rfl rfl (by first | omega | (simp only [List.length_set]; omega)) List.length_set.symm (flat_set1 blC (fun r => .bool r.b) (fun _ => rfl) _ ({ bs.getD ((node).toNat) bl0 with b := true }) rfl) rfl ?_
  refine hl_less (sx 0 rfl (sx 1 rfl (sx 2 rfl (sx 3 rfl (sx 10 rfl (sub_nil _)))))) (.refl _) ?_
  refine hl_nil ?_
  refine hq_then ?_
  refine hc_seq ?_
  refine hc_region ?_
  refine hl_v rfl rfl rfl (rv_ev rfl) ?_
  refine hl_v rfl rfl rfl (rv_loadN (cs := [.int .i64 n.ins, n.sv, n.av, n.ov]) rfl (by kernel_rfl) (by kernel_rfl) rfl rfl (box_part 0 rfl 0 rfl)) ?_
  refine hl_callV rfl rfl rfl (rq_call (by kernel_rfl) rfl (fun w hm => ret_ans (firstAnd_yes n w (hr.below hm.bel) hn))) ?_
  refine hl_v rfl rfl rfl (rv_sub rfl rfl rfl (by constructor <;> omega)) ?_
  refine hl_v rfl rfl rfl (rv_ev rfl) ?_
  refine hl_less (sx 0 rfl (sx 1 rfl (sx 2 rfl (sx 3 rfl (sx 6 rfl (sx 10 rfl (sub_nil _))))))) (.refl _) ?_
  refine hl_nil ?_
  refine hq_then ?_
  refine hc_seq ?_
  refine hc_region ?_
  refine hl_v rfl rfl rfl (rv_ev rfl) ?_
  refine hl_geq rfl rfl rfl rfl rfl rfl (fun h3 => ?_) (fun h3 => ?_)
  ·
   refine hl_less (sx 0 rfl (sx 1 rfl (sx 2 rfl (sx 3 rfl (sx 6 rfl (sx 10 rfl (sx 19 rfl (sub_nil _)))))))) (.refl _) ?_
   refine hl_nil ?_
   refine hq_then ?_
   refine hc_true rfl ?_
   refine hc_seq ?_
   obtain ⟨o1, o2, o3, o4, o5, o6⟩ := nd_ok hn (k := node) (by omega) (by omega)
   unfold ndA at o3 o4
   unfold ndB at o5 o6
   refine hc_conv (rowE 4 1 v ((bs.set ((node).toNat) { bs.getD ((node).toNat) bl0 with b := true }).length) ((bs.set ((node).toNat) { bs.getD ((node).toNat) bl0 with b := true }).flatMap blC) :: boxE b1 #[.int .i64 n.ins, n.sv, n.av, n.ov] 28 :: l) (conv_pick (src := [boxE b1 #[.int .i64 n.ins, n.sv, n.av, n.ov] 28, rowE 4 1 v ((bs.set ((node).toNat) { bs.getD ((node).toNat) bl0 with b := true }).length) ((bs.set ((node).toNat) { bs.getD ((node).toNat) bl0 with b := true }).flatMap blC)]) (dst := [rowE 4 1 v ((bs.set ((node).toNat) { bs.getD ((node).toNat) bl0 with b := true }).length) ((bs.set ((node).toNat) { bs.getD ((node).toNat) bl0 with b := true }).flatMap blC), boxE b1 #[.int .i64 n.ins, n.sv, n.av, n.ov] 28]) (l := l) [1, 0] (by decide) rfl) ?_
   refine hc_draw2 (l := (boxE b1 #[.int .i64 n.ins, n.sv, n.av, n.ov] 28 :: l)) (by kernel_rfl) 10 [0, 1, 2, 3, 4, 5, 6, 7, 8, 9] (List.take 10 _) (List.drop 10 _) [[], [], [1], [], [2, 3], [4], [5], [6], [], [0, 7, 8]] [20, 21, 22, 23, 24, 25, 26, 27, 28, 29] (fun i_ vs_ v_ p_ => match i_ with | 0 => v_ = .agg #[.int .i64 n.ins, n.sv, n.av, n.ov] ∧ p_ = [] | 1 => v_ = .pointer (some ⟨b1, 0 + 2, none⟩) ∧ p_ = [] | 2 => v_ = n.av ∧ p_ = [] | 3 => v_ = .int .i64 (node - n.fst) ∧ p_ = [] | 4 => v_ = elP n.av ((node - n.fst).toNat * 2) ∧ p_ = [] | 5 => v_ = elP n.av ((node - n.fst).toNat * 2 + 0) ∧ p_ = [] | 6 => v_ = .int .i64 ((n.gs.getD ((node - n.fst).toNat) an0).a) ∧ p_ = [] | 7 => v_ = .int .i64 (((n.gs.getD ((node - n.fst).toNat) an0).a) / 2) ∧ p_ = [] | 8 => v_ = v ∧ p_ = [] | 9 => (∃ pm_, p_ = [pm_] ∧ (fun v_ p_ => ∃ bs' : List Bl, p_ = rowE 4 1 v (bs').length ((bs').flatMap blC) ∧ MkOk n (((n.gs.getD ((node - n.fst).toNat) an0).a) / 2) (bs.set ((node).toNat) { bs.getD ((node).toNat) bl0 with b := true }) bs') v_ pm_) | _ => True) [[], [], [1], [], [2, 3], [4], [5], [6], [], [0, 7, 8]] [none, none, none, none, none, none, none, none, none, some 10] [rowE 4 1 v ((bs.set ((node).toNat) { bs.getD ((node).toNat) bl0 with b := true }).length) ((bs.set ((node).toNat) { bs.getD ((node).toNat) bl0 with b := true }).flatMap blC)] [0, 1, 2, 3, 4, 5, 6, 7, 8, 9] 10 (List.take_append_drop 10 _).symm (by kernel_rfl) (by kernel_rfl) (by kernel_rfl) rfl rfl ?_ ?_
   ·
    refine ⟨?_, ?_, ?_, ?_, ?_, ?_, ?_, ?_, ?_, ?_, trivial⟩
    ·
     intro vf pf hmu hR
     refine Or.inl ⟨rfl, ?_⟩
     show RunQ _ _ _ (([] : List Nat).flatMap pf ++ _) (envOf _ vf [] ++ _) _ _
     refine rq_less (sx 3 rfl (sub_nil _)) (List.sublist_append_right _ _) ?_
     exact rq_v (rv_loadN (cs := [.int .i64 n.ins, n.sv, n.av, n.ov]) rfl (by kernel_rfl) (by kernel_rfl) rfl rfl (box_part 0 rfl 0 rfl))
    ·
     intro vf pf hmu hR
     refine Or.inl ⟨rfl, ?_⟩
     show RunQ _ _ _ (([] : List Nat).flatMap pf ++ _) (envOf _ vf [] ++ _) _ _
     refine rq_less (sx 3 rfl (sub_nil _)) (List.sublist_append_right _ _) ?_
     exact rq_v (rv_field (k0 := 2) rfl (by kernel_rfl) rfl)
    ·
     intro vf pf hmu hR
     have e1 : (vf 1) = .pointer (some ⟨b1, 0 + 2, none⟩) ∧ (pf 1) = [] := hR 1 (by decide)
     refine Or.inl ⟨rfl, ?_⟩
     show RunQ _ _ _ (([1] : List Nat).flatMap pf ++ _) (envOf _ vf [1] ++ _) _ _
     refine rq_less (sx 21 (congrArg some e1.1) (sub_nil _)) (List.sublist_append_right _ _) ?_
     exact rq_v (rv_load rfl (by kernel_rfl) rfl (box_cell 0 rfl rfl))
    ·
     intro vf pf hmu hR
     refine Or.inl ⟨rfl, ?_⟩
     show RunQ _ _ _ (([] : List Nat).flatMap pf ++ _) (envOf _ vf [] ++ _) _ _
     refine rq_less (sx 6 rfl (sub_nil _)) (List.sublist_append_right _ _) ?_
     exact rq_v (rv_ev rfl)
    ·
     intro vf pf hmu hR
     have e2 : (vf 2) = n.av ∧ (pf 2) = [] := hR 2 (by decide)
     have e3 : (vf 3) = .int .i64 (node - n.fst) ∧ (pf 3) = [] := hR 3 (by decide)
     refine Or.inl ⟨rfl, ?_⟩
     show RunQ _ _ _ (([2, 3] : List Nat).flatMap pf ++ _) (envOf _ vf [2, 3] ++ _) _ _
     refine rq_less (sx 22 (congrArg some e2.1) (sx 23 (congrArg some e3.1) (sub_nil _))) (List.sublist_append_right _ _) ?_
     exact rq_v (rv_index (s := 2) rfl Try.underlying25 (by kernel_rfl) rfl rfl (rd_old hr.an) (by omega) (by first | omega | (simp only [List.length_set]; omega)))
    ·
     intro vf pf hmu hR
     have e4 : (vf 4) = elP n.av ((node - n.fst).toNat * 2) ∧ (pf 4) = [] := hR 4 (by decide)
     refine Or.inl ⟨rfl, ?_⟩
     show RunQ _ _ _ (([4] : List Nat).flatMap pf ++ _) (envOf _ vf [4] ++ _) _ _
     refine rq_less (sx 24 (congrArg some e4.1) (sub_nil _)) (List.sublist_append_right _ _) ?_
     exact rq_v (rv_fieldEl (k0 := 0) rfl (by kernel_rfl) rfl (rd_old hr.an) (by first | omega | (simp only [List.length_set]; omega)))
    ·
     intro vf pf hmu hR
     have e5 : (vf 5) = elP n.av ((node - n.fst).toNat * 2 + 0) ∧ (pf 5) = [] := hR 5 (by decide)
     refine Or.inl ⟨rfl, ?_⟩
     show RunQ _ _ _ (([5] : List Nat).flatMap pf ++ _) (envOf _ vf [5] ++ _) _ _
     refine rq_less (sx 25 (congrArg some e5.1) (sub_nil _)) (List.sublist_append_right _ _) ?_
     exact rq_v (rv_loadEl (u := .int .i64 ((n.gs.getD ((node - n.fst).toNat) an0).a)) rfl (by kernel_rfl) rfl (rd_old hr.an) ((flat_at anC 2 (fun _ => rfl) n.gs an0 (show (node - n.fst).toNat < _ by first | omega | (simp only [List.length_set]; omega)) (by decide)).trans rfl))
    ·
     intro vf pf hmu hR
     have e6 : (vf 6) = .int .i64 ((n.gs.getD ((node - n.fst).toNat) an0).a) ∧ (pf 6) = [] := hR 6 (by decide)
     refine Or.inl ⟨rfl, ?_⟩
     show RunQ _ _ _ (([6] : List Nat).flatMap pf ++ _) (envOf _ vf [6] ++ _) _ _
     refine rq_less (sx 26 (congrArg some e6.1) (sub_nil _)) (List.sublist_append_right _ _) ?_
     exact rq_v (rv_quo rfl rfl rfl (by refine ⟨?_, ?_, ?_⟩ <;> omega))
    ·
     intro vf pf hmu hR
     refine Or.inl ⟨rfl, ?_⟩
     show RunQ _ _ _ (([] : List Nat).flatMap pf ++ _) (envOf _ vf [] ++ _) _ _
     refine rq_less (sx 2 rfl (sub_nil _)) (List.sublist_append_right _ _) ?_
     exact rq_v (rv_ev rfl)
    ·
     intro vf pf hmu hR
     have e0 : (vf 0) = .agg #[.int .i64 n.ins, n.sv, n.av, n.ov] ∧ (pf 0) = [] := hR 0 (by decide)
     have e7 : (vf 7) = .int .i64 (((n.gs.getD ((node - n.fst).toNat) an0).a) / 2) ∧ (pf 7) = [] := hR 7 (by decide)
     have e8 : (vf 8) = v ∧ (pf 8) = [] := hR 8 (by decide)
     refine Or.inl ⟨rfl, ?_⟩
     show RunM _ _ _ (pf 10) (([0, 7, 8] : List Nat).flatMap pf ++ _) (envOf _ vf [0, 7, 8] ++ _) _ _
     rw [hmu]
     refine rm_less (X' := (boxE b1 #[.int .i64 n.ins, n.sv, n.av, n.ov] 28 :: l)) (sx 20 (congrArg some e0.1) (sx 27 (congrArg some e7.1) (sx 28 (congrArg some e8.1) (sub_nil _)))) (by first | (simp only [e0.2, e7.2, e8.2, List.flatMap_cons, List.flatMap_nil, List.append_nil, List.nil_append, List.cons_append]; exact List.Sublist.refl _) | simp [e0.2, e7.2, e8.2]) ?_
     exact rq_callM (R := (fun v_ p_ => ∃ bs' : List Bl, p_ = rowE 4 1 v (bs').length ((bs').flatMap blC) ∧ MkOk n (((n.gs.getD ((node - n.fst).toNat) an0).a) / 2) (bs.set ((node).toNat) { bs.getD ((node).toNat) bl0 with b := true }) bs')) (by kernel_rfl) rfl (fun L w hX hm => IH (((n.gs.getD ((node - n.fst).toNat) an0).a) / 2) (bs.set ((node).toNat) { bs.getD ((node).toNat) bl0 with b := true }) _ _ (by omega) (by omega) (by first | (rw [List.length_set]; done) | (rw [lb2, List.length_set])) hm)
   ·
    intro vf pf hmu hR
    have e9 : (∃ pm_, (pf 9) = [pm_] ∧ (fun v_ p_ => ∃ bs' : List Bl, p_ = rowE 4 1 v (bs').length ((bs').flatMap blC) ∧ MkOk n (((n.gs.getD ((node - n.fst).toNat) an0).a) / 2) (bs.set ((node).toNat) { bs.getD ((node).toNat) bl0 with b := true }) bs') (vf 9) pm_) := hR 9 (by decide)
    obtain ⟨p5, p9, hR6⟩ := e9
    obtain ⟨v4, v9⟩ : ∃ x, vf 9 = x := ⟨_, rfl⟩
    try rw [v9] at hR6
    obtain ⟨b2, rfl, hb2⟩ := hR6
    have lb2 := hb2.len
    have q0 : (vf 0) = .agg #[.int .i64 n.ins, n.sv, n.av, n.ov] ∧ (pf 0) = [] := hR 0 (by decide)
    have q1 : (vf 1) = .pointer (some ⟨b1, 0 + 2, none⟩) ∧ (pf 1) = [] := hR 1 (by decide)
    have q2 : (vf 2) = n.av ∧ (pf 2) = [] := hR 2 (by decide)
    have q3 : (vf 3) = .int .i64 (node - n.fst) ∧ (pf 3) = [] := hR 3 (by decide)
    have q4 : (vf 4) = elP n.av ((node - n.fst).toNat * 2) ∧ (pf 4) = [] := hR 4 (by decide)
    have q5 : (vf 5) = elP n.av ((node - n.fst).toNat * 2 + 0) ∧ (pf 5) = [] := hR 5 (by decide)
    have q6 : (vf 6) = .int .i64 ((n.gs.getD ((node - n.fst).toNat) an0).a) ∧ (pf 6) = [] := hR 6 (by decide)
    have q7 : (vf 7) = .int .i64 (((n.gs.getD ((node - n.fst).toNat) an0).a) / 2) ∧ (pf 7) = [] := hR 7 (by decide)
    have q8 : (vf 8) = v ∧ (pf 8) = [] := hR 8 (by decide)
    refine hl_less (l' := (rowE 4 1 v b2.length (b2.flatMap blC) :: boxE b1 #[.int .i64 n.ins, n.sv, n.av, n.ov] 28 :: l)) (sx 0 rfl (sx 1 rfl (sx 2 rfl (sx 3 rfl (sx 6 rfl (sx 10 rfl (sx 19 rfl (sub_nil _)))))))) (by first | (simp only [p9, v9, q0.2, q1.2, q2.2, q3.2, q4.2, q5.2, q6.2, q7.2, q8.2, List.flatMap_cons, List.flatMap_nil, List.append_nil, List.nil_append, List.cons_append]; exact List.Sublist.refl _) | simp [p9, v9, q0.2, q1.2, q2.2, q3.2, q4.2, q5.2, q6.2, q7.2, q8.2]) ?_
    simp only [List.drop_succ_cons, List.drop_zero]
    refine hl_less (sx 0 rfl (sx 1 rfl (sx 2 rfl (sx 3 rfl (sx 6 rfl (sx 10 rfl (sx 19 rfl (sub_nil _)))))))) (.refl _) ?_
    refine hl_nil ?_
    refine hq_then ?_
    refine hc_draw2 (l := (boxE b1 #[.int .i64 n.ins, n.sv, n.av, n.ov] 28 :: l)) (by kernel_rfl) 10 [0, 1, 2, 3, 4, 5, 6, 7, 8, 9] (List.take 10 _) (List.drop 10 _) [[], [], [1], [], [2, 3], [4], [5], [6], [], [0, 7, 8]] [30, 31, 32, 33, 34, 35, 36, 37, 38, 39] (fun i_ vs_ v_ p_ => match i_ with | 0 => v_ = .agg #[.int .i64 n.ins, n.sv, n.av, n.ov] ∧ p_ = [] | 1 => v_ = .pointer (some ⟨b1, 0 + 2, none⟩) ∧ p_ = [] | 2 => v_ = n.av ∧ p_ = [] | 3 => v_ = .int .i64 (node - n.fst) ∧ p_ = [] | 4 => v_ = elP n.av ((node - n.fst).toNat * 2) ∧ p_ = [] | 5 => v_ = elP n.av ((node - n.fst).toNat * 2 + 1) ∧ p_ = [] | 6 => v_ = .int .i64 ((n.gs.getD ((node - n.fst).toNat) an0).b) ∧ p_ = [] | 7 => v_ = .int .i64 (((n.gs.getD ((node - n.fst).toNat) an0).b) / 2) ∧ p_ = [] | 8 => v_ = v ∧ p_ = [] | 9 => (∃ pm_, p_ = [pm_] ∧ (fun v_ p_ => ∃ bs' : List Bl, p_ = rowE 4 1 v (bs').length ((bs').flatMap blC) ∧ MkOk n (((n.gs.getD ((node - n.fst).toNat) an0).b) / 2) b2 bs') v_ pm_) | _ => True) [[], [], [1], [], [2, 3], [4], [5], [6], [], [0, 7, 8]] [none, none, none, none, none, none, none, none, none, some 10] [rowE 4 1 v b2.length (b2.flatMap blC)] [0, 1, 2, 3, 4, 5, 6, 7, 8, 9] 10 (List.take_append_drop 10 _).symm (by kernel_rfl) (by kernel_rfl) (by kernel_rfl) rfl rfl ?_ ?_
    ·
     refine ⟨?_, ?_, ?_, ?_, ?_, ?_, ?_, ?_, ?_, ?_, trivial⟩
     ·
      intro vf pf hmu hR
      refine Or.inl ⟨rfl, ?_⟩
      show RunQ _ _ _ (([] : List Nat).flatMap pf ++ _) (envOf _ vf [] ++ _) _ _
      refine rq_less (sx 3 rfl (sub_nil _)) (List.sublist_append_right _ _) ?_
      exact rq_v (rv_loadN (cs := [.int .i64 n.ins, n.sv, n.av, n.ov]) rfl (by kernel_rfl) (by kernel_rfl) rfl rfl (box_part 0 rfl 0 rfl))
     ·
      intro vf pf hmu hR
      refine Or.inl ⟨rfl, ?_⟩
      show RunQ _ _ _ (([] : List Nat).flatMap pf ++ _) (envOf _ vf [] ++ _) _ _
      refine rq_less (sx 3 rfl (sub_nil _)) (List.sublist_append_right _ _) ?_
      exact rq_v (rv_field (k0 := 2) rfl (by kernel_rfl) rfl)
     ·
      intro vf pf hmu hR
      have e1 : (vf 1) = .pointer (some ⟨b1, 0 + 2, none⟩) ∧ (pf 1) = [] := hR 1 (by decide)
      refine Or.inl ⟨rfl, ?_⟩
      show RunQ _ _ _ (([1] : List Nat).flatMap pf ++ _) (envOf _ vf [1] ++ _) _ _
      refine rq_less (sx 31 (congrArg some e1.1) (sub_nil _)) (List.sublist_append_right _ _) ?_
      exact rq_v (rv_load rfl (by kernel_rfl) rfl (box_cell 0 rfl rfl))
     ·
      intro vf pf hmu hR
      refine Or.inl ⟨rfl, ?_⟩
      show RunQ _ _ _ (([] : List Nat).flatMap pf ++ _) (envOf _ vf [] ++ _) _ _
      refine rq_less (sx 6 rfl (sub_nil _)) (List.sublist_append_right _ _) ?_
      exact rq_v (rv_ev rfl)
     ·
      intro vf pf hmu hR
      have e2 : (vf 2) = n.av ∧ (pf 2) = [] := hR 2 (by decide)
      have e3 : (vf 3) = .int .i64 (node - n.fst) ∧ (pf 3) = [] := hR 3 (by decide)
      refine Or.inl ⟨rfl, ?_⟩
      show RunQ _ _ _ (([2, 3] : List Nat).flatMap pf ++ _) (envOf _ vf [2, 3] ++ _) _ _
      refine rq_less (sx 32 (congrArg some e2.1) (sx 33 (congrArg some e3.1) (sub_nil _))) (List.sublist_append_right _ _) ?_
      exact rq_v (rv_index (s := 2) rfl Try.underlying25 (by kernel_rfl) rfl rfl (rd_old hr.an) (by omega) (by first | omega | (simp only [List.length_set]; omega)))
     ·
      intro vf pf hmu hR
      have e4 : (vf 4) = elP n.av ((node - n.fst).toNat * 2) ∧ (pf 4) = [] := hR 4 (by decide)
      refine Or.inl ⟨rfl, ?_⟩
      show RunQ _ _ _ (([4] : List Nat).flatMap pf ++ _) (envOf _ vf [4] ++ _) _ _
      refine rq_less (sx 34 (congrArg some e4.1) (sub_nil _)) (List.sublist_append_right _ _) ?_
      exact rq_v (rv_fieldEl (k0 := 1) rfl (by kernel_rfl) rfl (rd_old hr.an) (by first | omega | (simp only [List.length_set]; omega)))
     ·
      intro vf pf hmu hR
      have e5 : (vf 5) = elP n.av ((node - n.fst).toNat * 2 + 1) ∧ (pf 5) = [] := hR 5 (by decide)
      refine Or.inl ⟨rfl, ?_⟩
      show RunQ _ _ _ (([5] : List Nat).flatMap pf ++ _) (envOf _ vf [5] ++ _) _ _
      refine rq_less (sx 35 (congrArg some e5.1) (sub_nil _)) (List.sublist_append_right _ _) ?_
      exact rq_v (rv_loadEl (u := .int .i64 ((n.gs.getD ((node - n.fst).toNat) an0).b)) rfl (by kernel_rfl) rfl (rd_old hr.an) ((flat_at anC 2 (fun _ => rfl) n.gs an0 (show (node - n.fst).toNat < _ by first | omega | (simp only [List.length_set]; omega)) (by decide)).trans rfl))
     ·
      intro vf pf hmu hR
      have e6 : (vf 6) = .int .i64 ((n.gs.getD ((node - n.fst).toNat) an0).b) ∧ (pf 6) = [] := hR 6 (by decide)
      refine Or.inl ⟨rfl, ?_⟩
      show RunQ _ _ _ (([6] : List Nat).flatMap pf ++ _) (envOf _ vf [6] ++ _) _ _
      refine rq_less (sx 36 (congrArg some e6.1) (sub_nil _)) (List.sublist_append_right _ _) ?_
      exact rq_v (rv_quo rfl rfl rfl (by refine ⟨?_, ?_, ?_⟩ <;> omega))
     ·
      intro vf pf hmu hR
      refine Or.inl ⟨rfl, ?_⟩
      show RunQ _ _ _ (([] : List Nat).flatMap pf ++ _) (envOf _ vf [] ++ _) _ _
      refine rq_less (sx 2 rfl (sub_nil _)) (List.sublist_append_right _ _) ?_
      exact rq_v (rv_ev rfl)
     ·
      intro vf pf hmu hR
      have e0 : (vf 0) = .agg #[.int .i64 n.ins, n.sv, n.av, n.ov] ∧ (pf 0) = [] := hR 0 (by decide)
      have e7 : (vf 7) = .int .i64 (((n.gs.getD ((node - n.fst).toNat) an0).b) / 2) ∧ (pf 7) = [] := hR 7 (by decide)
      have e8 : (vf 8) = v ∧ (pf 8) = [] := hR 8 (by decide)
      refine Or.inl ⟨rfl, ?_⟩
      show RunM _ _ _ (pf 10) (([0, 7, 8] : List Nat).flatMap pf ++ _) (envOf _ vf [0, 7, 8] ++ _) _ _
      rw [hmu]
      refine rm_less (X' := (boxE b1 #[.int .i64 n.ins, n.sv, n.av, n.ov] 28 :: l)) (sx 30 (congrArg some e0.1) (sx 37 (congrArg some e7.1) (sx 38 (congrArg some e8.1) (sub_nil _)))) (by first | (simp only [e0.2, e7.2, e8.2, List.flatMap_cons, List.flatMap_nil, List.append_nil, List.nil_append, List.cons_append]; exact List.Sublist.refl _) | simp [e0.2, e7.2, e8.2]) ?_
      exact rq_callM (R := (fun v_ p_ => ∃ bs' : List Bl, p_ = rowE 4 1 v (bs').length ((bs').flatMap blC) ∧ MkOk n (((n.gs.getD ((node - n.fst).toNat) an0).b) / 2) b2 bs')) (by kernel_rfl) rfl (fun L w hX hm => IH (((n.gs.getD ((node - n.fst).toNat) an0).b) / 2) b2 _ _ (by omega) (by omega) (by first | (rw [List.length_set]; done) | (rw [lb2, List.length_set])) hm)
    ·
     intro vf pf hmu hR
     have e9 : (∃ pm_, (pf 9) = [pm_] ∧ (fun v_ p_ => ∃ bs' : List Bl, p_ = rowE 4 1 v (bs').length ((bs').flatMap blC) ∧ MkOk n (((n.gs.getD ((node - n.fst).toNat) an0).b) / 2) b2 bs') (vf 9) pm_) := hR 9 (by decide)
     obtain ⟨p8, p9, hR9⟩ := e9
     obtain ⟨v7, v9⟩ : ∃ x, vf 9 = x := ⟨_, rfl⟩
     try rw [v9] at hR9
     obtain ⟨b3, rfl, hb3⟩ := hR9
     have lb3 := hb3.len
     have q0 : (vf 0) = .agg #[.int .i64 n.ins, n.sv, n.av, n.ov] ∧ (pf 0) = [] := hR 0 (by decide)
     have q1 : (vf 1) = .pointer (some ⟨b1, 0 + 2, none⟩) ∧ (pf 1) = [] := hR 1 (by decide)
     have q2 : (vf 2) = n.av ∧ (pf 2) = [] := hR 2 (by decide)
     have q3 : (vf 3) = .int .i64 (node - n.fst) ∧ (pf 3) = [] := hR 3 (by decide)
     have q4 : (vf 4) = elP n.av ((node - n.fst).toNat * 2) ∧ (pf 4) = [] := hR 4 (by decide)
     have q5 : (vf 5) = elP n.av ((node - n.fst).toNat * 2 + 1) ∧ (pf 5) = [] := hR 5 (by decide)
     have q6 : (vf 6) = .int .i64 ((n.gs.getD ((node - n.fst).toNat) an0).b) ∧ (pf 6) = [] := hR 6 (by decide)
     have q7 : (vf 7) = .int .i64 (((n.gs.getD ((node - n.fst).toNat) an0).b) / 2) ∧ (pf 7) = [] := hR 7 (by decide)
     have q8 : (vf 8) = v ∧ (pf 8) = [] := hR 8 (by decide)
     refine hl_less (l' := (rowE 4 1 v b3.length (b3.flatMap blC) :: boxE b1 #[.int .i64 n.ins, n.sv, n.av, n.ov] 28 :: l)) (sx 0 rfl (sx 1 rfl (sx 2 rfl (sx 3 rfl (sx 6 rfl (sx 10 rfl (sx 19 rfl (sub_nil _)))))))) (by first | (simp only [p9, v9, q0.2, q1.2, q2.2, q3.2, q4.2, q5.2, q6.2, q7.2, q8.2, List.flatMap_cons, List.flatMap_nil, List.append_nil, List.nil_append, List.cons_append]; exact List.Sublist.refl _) | simp [p9, v9, q0.2, q1.2, q2.2, q3.2, q4.2, q5.2, q6.2, q7.2, q8.2]) ?_
     simp only [List.drop_succ_cons, List.drop_zero]
     refine hl_less (sx 0 rfl (sx 1 rfl (sx 2 rfl (sx 3 rfl (sx 6 rfl (sx 10 rfl (sx 19 rfl (sub_nil _)))))))) (.refl _) ?_
     refine hl_nil ?_
     refine hq_normal ?_
     exact hq_ret (rs := []) (vs := []) rfl trivial rfl (fun w hm => ⟨_, rowE 4 1 v b3.length (b3.flatMap blC), rfl, ⟨_, rfl, mk_and hn (by omega) (by omega) (by omega) rfl hb2 hb3⟩, hm.sub ((.cons_cons _ (.cons _ (.refl _))))⟩)
  ·
   refine hl_less (sx 0 rfl (sx 1 rfl (sx 2 rfl (sx 3 rfl (sx 6 rfl (sx 10 rfl (sx 19 rfl (sub_nil _)))))))) (.refl _) ?_
   refine hl_nil ?_
   refine hq_then ?_
   refine hc_false rfl ?_
   refine hc_skip ?_
   refine hq_normal ?_
   exact hq_ret (rs := []) (vs := []) rfl trivial rfl (fun w hm => ⟨_, rowE 4 1 v ((bs.set ((node).toNat) { bs.getD ((node).toNat) bl0 with b := true }).length) ((bs.set ((node).toNat) { bs.getD ((node).toNat) bl0 with b := true }).flatMap blC), rfl, ⟨_, rfl, mk_leaf (by omega) (by omega) (by omega) (by omega) rfl⟩, hm.sub ((.cons _ (.cons_cons _ (.refl _))))⟩)
theorem markCone_mut (n : Nt) (v : Value) (w0 : World) (hr : RdsNt w0 n) (hn : NtOk n) : ∀ (k : Nat) (node : Int) (bs : List Bl) (l : List HP) (w : World), node.toNat < k → 0 ≤ node → node < n.cnt → (bs.length : Int) = n.cnt → Mem w0 (rowE 4 1 v (bs).length ((bs).flatMap blC) :: l) w →
    Calls Try.prog 131 #[n.agg, .int .i64 node, v] w (fun e_ w_ => ∃ v_ p_, e_ = .returned v_ ∧ (∃ bs' : List Bl, p_ = rowE 4 1 v (bs').length ((bs').flatMap blC) ∧ MkOk n node bs bs') ∧ Mem w0 (p_ :: l) w_)
  | 0, node, bs, l, w, hk, h0, h1, hl, hm => absurd hk (by omega)
  | k + 1, node, bs, l, w, hk, h0, h1, hl, hm => markCone_step n node bs v w0 l w hm hr hn ⟨h0, h1⟩ hl (fun m bs2 l2 w2 m0 m1 hb hm2 => markCone_mut n v w0 hr hn k m bs2 l2 w2 (by omega) m0 (by omega) (by omega) hm2)
set_option maxHeartbeats 4000000 in
set_option maxRecDepth 100000 in
theorem marked_ret (bs : List Bl) (v : Value) (w : World) (hv : RdsW w v 1 bs.length (bs.flatMap blC)) (hl : bs.length ≤ 1000000) :
  Calls Try.prog 132 #[v] w (Ret w (fun v' post => post = [rowE 3 1 v' (mkL bs bs.length).length ((mkL bs bs.length).map (Value.int .i64))])) := by
 refine calls_hc (N := 20) (args := [v]) Try.func132 rfl rfl ?_
 refine hc_less _ (sx 0 rfl (sub_nil _)) (.refl _) ?_
 refine hc_seq ?_
 refine hc_region ?_
 refine hl_v rfl rfl rfl (rv_ev rfl) ?_
 refine hl_less (sx 0 rfl (sx 2 rfl (sub_nil _))) (.refl _) ?_
 refine hl_nil ?_
 refine hq_then ?_
 refine hc_seq ?_
 refine hc_region ?_
 refine hl_nilRow 3 1 ?_
 refine hl_v rfl rfl rfl (rv_ev rfl) ?_
 refine hl_less (sx 0 rfl (sx 2 rfl (sx 3 rfl (sub_nil _)))) (.refl _) ?_
 refine hl_nil ?_
 refine hq_then ?_
 refine hc_seq ?_
 refine hc_seq ?_
 refine hc_region ?_
 refine hl_v rfl rfl rfl (rv_ev rfl) ?_
 refine hl_v rfl rfl rfl (rv_len rfl Try.underlying45 rfl (rd_old hv)) ?_
 refine hl_v rfl rfl rfl (rv_ev rfl) ?_
 refine hl_less (sx 0 rfl (sx 2 rfl (sx 3 rfl (sx 6 rfl (sx 7 rfl (sx 8 rfl (sub_nil _))))))) (.refl _) ?_
 refine hl_nil ?_
 refine hq_then ?_
 refine hc_block ?_
 refine hc_loop3 (α := Nat) (β := Value) (γ := List Int) (fun k u zs => [rowE 3 1 u zs.length (zs.map (Value.int .i64))]) (fun k u zs => [(0, v), (2, .slice none 0 0), (3, u), (6, v), (7, .int .i64 (bs.length : Int)), (8, .int .i64 (k : Int))]) (fun k u zs => k ≤ bs.length ∧ zs = mkL bs k) (fun k u zs => bs.length - k) 0 _ [] ⟨by omega, rfl⟩ (sx 0 rfl (sx 2 rfl (sx 3 rfl (sx 6 rfl (sx 7 rfl (sx 8 rfl (sub_nil _))))))) ((.cons_cons _ .slnil)) ?_
 intro k u zs hi2
 obtain ⟨hk, hz⟩ := hi2
 have hzl : zs.length ≤ k := by rw [hz]; exact mkL_len _ _
 refine hc_seq ?_
 refine hc_region ?_
 refine hl_lss rfl rfl rfl rfl rfl rfl (fun h3 => ?_) (fun h3 => ?_)
 ·
  refine hl_less (sx 0 rfl (sx 2 rfl (sx 3 rfl (sx 6 rfl (sx 7 rfl (sx 8 rfl (sx 9 rfl (sub_nil _)))))))) (.refl _) ?_
  refine hl_nil ?_
  refine hq_then ?_
  refine hc_seq ?_
  refine hc_true rfl ?_
  refine hc_skip ?_
  refine hq_then ?_
  refine hc_seq ?_
  refine hc_block ?_
  refine hc_seq ?_
  refine hc_region ?_
  refine hl_v rfl rfl rfl (rv_ev rfl) ?_
  refine hl_v rfl rfl rfl (rv_index (s := 1) rfl Try.underlying45 (by kernel_rfl) rfl rfl (rd_old hv) (by omega) (by first | omega | (simp only [List.length_set]; omega))) ?_
  refine hl_v rfl rfl rfl (rv_loadEl (u := .bool ((bs.getD k bl0).b)) rfl (by kernel_rfl) rfl (rd_old hv) (flat_one blC (fun r => .bool r.b) (fun _ => rfl) bs bl0 (show k < _ by first | omega | (simp only [List.length_set]; omega)))) ?_
  refine hl_bool (fun h4 => ?_) (fun h4 => ?_)
  ·
   refine hl_v rfl rfl rfl (rv_ev rfl) ?_
   refine hl_v rfl rfl rfl (rv_ev rfl) ?_
   refine hl_less (sx 0 rfl (sx 2 rfl (sx 3 rfl (sx 4 rfl (sx 5 rfl (sx 6 rfl (sx 7 rfl (sx 8 rfl (sx 9 rfl (sub_nil _)))))))))) (.refl _) ?_
   refine hl_nil ?_
   refine hq_then ?_
   refine hc_seq ?_
   refine hc_region ?_
   refine hl_v rfl rfl rfl (rv_ev rfl) ?_
   refine hl_less (sx 0 rfl (sx 2 rfl (sx 3 rfl (sx 4 rfl (sx 5 rfl (sx 6 rfl (sx 7 rfl (sx 8 rfl (sx 9 rfl (sx 13 rfl (sub_nil _))))))))))) (.refl _) ?_
   refine hl_nil ?_
   refine hq_then ?_
   refine hc_true rfl ?_
   refine hc_region ?_
   refine hl_v rfl rfl rfl (rv_ev rfl) ?_
   refine hl_v rfl rfl rfl (rv_ev rfl) ?_
   refine hl_row rfl rfl rfl (rq_buildSlice (z := .int .i64 0) (s := 1) (cs := ([(k : Int)].map (Value.int .i64))) rfl Try.underlying26 (by kernel_rfl) (by decide) rfl (by kernel_rfl) rfl) ?_
   intro g5
   refine hl_append (i := 1) (z := .int .i64 0) (bytes := 8) (n' := (zs ++ ([(k : Int)])).length) (xs' := ((zs ++ ([(k : Int)])).map (Value.int .i64))) (L := fun v6 => [rowE 3 1 (.slice (some ⟨g5, 0, none⟩) 1 1) 1 ([(k : Int)].map (Value.int .i64)), rowE 3 1 v6 ((zs ++ ([(k : Int)])).length) ((zs ++ ([(k : Int)])).map (Value.int .i64))]) rfl rfl rfl rfl Try.underlying26 (by kernel_rfl) (by kernel_rfl) rfl rfl rfl (rd_row 0 rfl) (ints_one _) (by first | omega | (simp; omega)) (len_app zs ([(k : Int)])) (ints_app zs ([(k : Int)])) (fun _ => rfl) ?_
   intro v6
   refine hl_v rfl rfl rfl (rv_ev rfl) ?_
   refine hl_less (sx 0 rfl (sx 2 rfl (sx 3 rfl (sx 4 rfl (sx 5 rfl (sx 6 rfl (sx 7 rfl (sx 8 rfl (sx 9 rfl (sx 13 rfl (sub_nil _))))))))))) (.refl _) ?_
   refine hl_nil ?_
   refine hq_block_normal ?_
   refine hq_then ?_
   refine hc_region ?_
   refine hl_v rfl rfl rfl (rv_add rfl rfl rfl (by constructor <;> omega)) ?_
   refine hl_v rfl rfl rfl (rv_ev rfl) ?_
   refine hl_less (sx 0 rfl (sx 2 rfl (sx 3 rfl (sx 4 rfl (sx 5 rfl (sx 6 rfl (sx 7 rfl (sx 8 rfl (sx 9 rfl (sx 13 rfl (sub_nil _))))))))))) (.refl _) ?_
   refine hl_nil ?_
   exact hq_round3 (k + 1) v6 (zs ++ ([(k : Int)])) ⟨by omega, by rw [hz]; exact mkL_yes (by assumption)⟩ (by omega) (sx 0 rfl (sx 2 rfl (sx 3 rfl (sx 6 rfl (sx 7 rfl (sx 8 rfl (sub_nil _))))))) ((.cons _ (.cons_cons _ .slnil)))
  ·
   refine hl_v rfl rfl rfl (rv_ev rfl) ?_
   refine hl_v rfl rfl rfl (rv_ev rfl) ?_
   refine hl_less (sx 0 rfl (sx 2 rfl (sx 3 rfl (sx 4 rfl (sx 5 rfl (sx 6 rfl (sx 7 rfl (sx 8 rfl (sx 9 rfl (sub_nil _)))))))))) (.refl _) ?_
   refine hl_nil ?_
   refine hq_then ?_
   refine hc_seq ?_
   refine hc_region ?_
   refine hl_v rfl rfl rfl (rv_ev rfl) ?_
   refine hl_less (sx 0 rfl (sx 2 rfl (sx 3 rfl (sx 4 rfl (sx 5 rfl (sx 6 rfl (sx 7 rfl (sx 8 rfl (sx 9 rfl (sx 13 rfl (sub_nil _))))))))))) (.refl _) ?_
   refine hl_nil ?_
   refine hq_then ?_
   refine hc_false rfl ?_
   refine hc_skip ?_
   refine hq_block_normal ?_
   refine hq_then ?_
   refine hc_region ?_
   refine hl_v rfl rfl rfl (rv_add rfl rfl rfl (by constructor <;> omega)) ?_
   refine hl_v rfl rfl rfl (rv_ev rfl) ?_
   refine hl_less (sx 0 rfl (sx 2 rfl (sx 3 rfl (sx 4 rfl (sx 5 rfl (sx 6 rfl (sx 7 rfl (sx 8 rfl (sx 9 rfl (sx 13 rfl (sub_nil _))))))))))) (.refl _) ?_
   refine hl_nil ?_
   exact hq_round3 (k + 1) u zs ⟨by omega, by rw [hz]; exact mkL_no (by assumption)⟩ (by omega) (sx 0 rfl (sx 2 rfl (sx 3 rfl (sx 6 rfl (sx 7 rfl (sx 8 rfl (sub_nil _))))))) ((.cons_cons _ .slnil))
 ·
  refine hl_less (sx 0 rfl (sx 2 rfl (sx 3 rfl (sx 6 rfl (sx 7 rfl (sx 8 rfl (sx 9 rfl (sub_nil _)))))))) (.refl _) ?_
  refine hl_nil ?_
  refine hq_then ?_
  refine hc_seq ?_
  refine hc_false rfl ?_
  refine hc_exit ?_
  refine hq_then_exit ?_
  refine hq_then_exit ?_
  refine hq_block_exit ?_
  refine hq_then ?_
  refine hc_seq ?_
  refine hc_region ?_
  refine hl_v rfl rfl rfl (rv_ev rfl) ?_
  refine hl_v rfl rfl rfl (rv_ev rfl) ?_
  refine hl_less (sx 0 rfl (sx 2 rfl (sx 3 rfl (sx 6 rfl (sx 7 rfl (sx 8 rfl (sx 9 rfl (sub_nil _)))))))) (.refl _) ?_
  refine hl_nil ?_
  refine hq_then ?_
  refine hc_ret ?_
  exact hq_retR (post := [rowE 3 1 u zs.length (zs.map (Value.int .i64))]) rfl rfl ((.cons_cons _ .slnil)) (by rw [hz, show k = bs.length by omega])
set_option maxHeartbeats 4000000 in
set_option maxRecDepth 100000 in
theorem cone_ret (n : Nt) (node : Int) (w : World) (hr : RdsNt w n) (hn : NtOk n) (hnd : 0 ≤ node ∧ node < n.cnt) :
  Calls Try.prog 85 #[.agg #[.int .i64 n.ins, n.sv, n.av, n.ov], .int .i64 node] w (Ret w (fun v' post => ∃ xs : List Int, post = [rowE 3 1 v' xs.length (xs.map (Value.int .i64))] ∧ ConeOk n node xs)) := by
 have hi0 := hn.i0
 have hi1 := hn.i1
 have hs1 := hn.s1
 have ha1 := hn.a1
 have ho1 := hn.o1
 have hcnt : n.cnt = 1 + n.ins + n.ss.length + n.gs.length := rfl
 have hfst : n.fst = 1 + n.ins + n.ss.length := rfl
 refine calls_hc (N := 15) (args := [.agg #[.int .i64 n.ins, n.sv, n.av, n.ov], .int .i64 node]) Try.func85 rfl rfl ?_
 refine hc_less _ (sx 0 rfl (sx 1 rfl (sub_nil _))) (.refl _) ?_
 refine hc_seq ?_
 refine hc_region ?_
 refine hl_box rfl rfl rfl (rq_box rfl rfl) ?_
 intro b1
 refine hl_v rfl rfl rfl (rv_ev rfl) ?_
 refine hl_less (sx 0 rfl (sx 1 rfl (sx 2 rfl (sx 4 rfl (sub_nil _))))) (.refl _) ?_
 refine hl_nil ?_
 refine hq_then ?_
 refine hc_seq ?_
 refine hc_region ?_
 refine hl_v rfl rfl rfl (rv_loadN (cs := [.int .i64 n.ins, n.sv, n.av, n.ov]) rfl (by kernel_rfl) (by kernel_rfl) rfl rfl (box_part 0 rfl 0 rfl)) ?_
 refine hl_callV rfl rfl rfl (rq_call (by kernel_rfl) rfl (fun w hm => ret_ans (implnodeCount_yes n w (hr.below hm.bel) hn))) ?_
 refine hl_row rfl rfl rfl (rq_make (z := .bool false) (s := 1) (bytes := 1) (n := (List.replicate (n.cnt).toNat bl0).length) (cs := ((List.replicate (n.cnt).toNat bl0).flatMap blC)) rfl Try.underlying45 (by kernel_rfl) (by decide) rfl rfl (by first | (rw [List.length_replicate]; done) | (rw [List.length_replicate]; omega)) (by first | (rw [List.length_replicate]; done) | (rw [List.length_replicate]; omega)) (by rw [List.length_replicate]; omega) (made_flat blC 1 (fun _ => rfl) bl0 _ rfl (n.cnt).toNat)) ?_
 intro g2
 refine hl_v rfl rfl rfl (rv_ev rfl) ?_
 refine hl_less (sx 0 rfl (sx 1 rfl (sx 2 rfl (sx 4 rfl (sx 5 rfl (sub_nil _)))))) (.refl _) ?_
 refine hl_nil ?_
 refine hq_then ?_
 refine hc_seq ?_
 refine hc_region ?_
 refine hl_v rfl rfl rfl (rv_loadN (cs := [.int .i64 n.ins, n.sv, n.av, n.ov]) rfl (by kernel_rfl) (by kernel_rfl) rfl rfl (box_part 1 rfl 0 rfl)) ?_
 refine hl_v rfl rfl rfl (rv_ev rfl) ?_
 refine hl_v rfl rfl rfl (rv_ev rfl) ?_
 refine hl_callM (R := (fun v_ p_ => ∃ bs' : List Bl, p_ = rowE 4 1 (.slice (some ⟨g2, 0, none⟩) ((List.replicate (n.cnt).toNat bl0).length) ((List.replicate (n.cnt).toNat bl0).length)) (bs').length ((bs').flatMap blC) ∧ MkOk n node (List.replicate (n.cnt).toNat bl0) bs')) 0 rfl rfl (by kernel_rfl) rfl rfl (fun l' w hm => markCone_mut n _ _ hr hn (node.toNat + 1) node (List.replicate (n.cnt).toNat bl0) _ _ (by omega) hnd.1 hnd.2 (by rw [List.length_replicate]; omega) hm) ?_
 intro v3 p4 hR5
 obtain ⟨bs, rfl, hmk⟩ := hR5
 have hbl := hmk.len
 rw [List.length_replicate] at hbl
 refine hl_eqL (l' := [rowE 4 1 (.slice (some ⟨g2, 0, none⟩) ((List.replicate (n.cnt).toNat bl0).length) ((List.replicate (n.cnt).toNat bl0).length)) bs.length (bs.flatMap blC), boxE b1 #[.int .i64 n.ins, n.sv, n.av, n.ov] 28]) rfl ?_
 refine hl_less (sx 0 rfl (sx 1 rfl (sx 2 rfl (sx 4 rfl (sx 5 rfl (sub_nil _)))))) (.refl _) ?_
 refine hl_nil ?_
 refine hq_then ?_
 refine hc_seq ?_
 refine hc_region ?_
 refine hl_v rfl rfl rfl (rv_ev rfl) ?_
 refine hl_q rfl rfl rfl (rq_call (by kernel_rfl) rfl (fun w hm => marked_ret bs _ w (rd_row 0 rfl w hm) (by omega))) ?_
 intro v6 p7 hR8
 subst hR8
 refine hl_v rfl rfl rfl (rv_ev rfl) ?_
 refine hl_less (sx 0 rfl (sx 1 rfl (sx 2 rfl (sx 4 rfl (sx 5 rfl (sub_nil _)))))) (.refl _) ?_
 refine hl_nil ?_
 refine hq_then ?_
 refine hc_ret ?_
 exact hq_retR (post := [rowE 3 1 v6 ((mkL bs bs.length).length) ((mkL bs bs.length).map (Value.int .i64))]) rfl rfl ((.cons_cons _ (.cons _ (.cons _ .slnil)))) ⟨_, rfl, cone_of hn hnd.1 hnd.2 hbl hmk⟩
def lvI (l : Int) : Int := if l % 2 = 1 then -(l / 2 + 1) else l / 2 + 1
set_option maxHeartbeats 4000000 in
set_option maxRecDepth 100000 in
theorem LitVar_ans (l : Int) (w : World) (hl : 0 ≤ l ∧ l ≤ 800) :
  Calls Try.prog 32 #[.int .i64 l] w (Ans w (.int .i64 (lvI l))) := by
 refine calls_hc (N := 16) (args := [.int .i64 l]) Try.func32 rfl rfl ?_
 refine hc_less _ (sx 0 rfl (sub_nil _)) (.refl _) ?_
 refine hc_seq ?_
 refine hc_region ?_
 refine hl_v rfl rfl rfl (rv_ev rfl) ?_
 refine hl_less (sx 0 rfl (sx 2 rfl (sub_nil _))) (.refl _) ?_
 refine hl_nil ?_
 refine hq_then ?_
 refine hc_seq ?_
 refine hc_seq ?_
 refine hc_region ?_
 refine hl_v rfl rfl rfl (rv_ev rfl) ?_
 refine hl_callV rfl rfl rfl (rq_call (by kernel_rfl) rfl (fun w hm => ret_ans (ans_of (inRange_any _ _ _ w)))) ?_
 refine hl_bool (fun h1 => ?_) (fun h1 => absurd ((((inR_iff _ _ _).2 (by omega))).symm.trans h1) (by decide))
 refine hl_v rfl rfl rfl (rv_ev rfl) ?_
 refine hl_less (sx 0 rfl (sx 2 rfl (sx 5 rfl (sub_nil _)))) (.refl _) ?_
 refine hl_nil ?_
 refine hq_then ?_
 refine hc_false rfl ?_
 refine hc_skip ?_
 refine hq_then ?_
 refine hc_seq ?_
 refine hc_seq ?_
 refine hc_region ?_
 refine hl_v rfl rfl rfl (rv_ev rfl) ?_
 refine hl_v rfl rfl rfl (rv_rem rfl rfl rfl (by constructor <;> omega)) ?_
 refine hl_eql rfl rfl rfl rfl rfl rfl (fun h2 => ?_) (fun h2 => ?_)
 ·
  refine hl_less (sx 0 rfl (sx 2 rfl (sx 5 rfl (sx 8 rfl (sub_nil _))))) (.refl _) ?_
  refine hl_nil ?_
  refine hq_then ?_
  refine hc_true rfl ?_
  refine hc_seq ?_
  refine hc_region ?_
  refine hl_v rfl rfl rfl (rv_ev rfl) ?_
  refine hl_v rfl rfl rfl (rv_quo rfl rfl rfl (by refine ⟨?_, ?_, ?_⟩ <;> omega)) ?_
  refine hl_v rfl rfl rfl (rv_add rfl rfl rfl (by constructor <;> omega)) ?_
  refine hl_v rfl rfl rfl (rv_neg rfl rfl (by omega) (by omega)) ?_
  refine hl_v rfl rfl rfl (rv_ev rfl) ?_
  refine hl_less (sx 0 rfl (sx 2 rfl (sx 5 rfl (sx 8 rfl (sub_nil _))))) (.refl _) ?_
  refine hl_nil ?_
  refine hq_then ?_
  refine hc_ret ?_
  refine hq_then_ret ?_
  exact hq_ans rfl rfl (congrArg _ (by unfold lvI; first | (rw [if_pos (by omega)]; done) | (rw [if_neg (by omega)]; done)))
 ·
  refine hl_less (sx 0 rfl (sx 2 rfl (sx 5 rfl (sx 8 rfl (sub_nil _))))) (.refl _) ?_
  refine hl_nil ?_
  refine hq_then ?_
  refine hc_false rfl ?_
  refine hc_skip ?_
  refine hq_then ?_
  refine hc_seq ?_
  refine hc_region ?_
  refine hl_v rfl rfl rfl (rv_ev rfl) ?_
  refine hl_v rfl rfl rfl (rv_quo rfl rfl rfl (by refine ⟨?_, ?_, ?_⟩ <;> omega)) ?_
  refine hl_v rfl rfl rfl (rv_add rfl rfl rfl (by constructor <;> omega)) ?_
  refine hl_v rfl rfl rfl (rv_ev rfl) ?_
  refine hl_less (sx 0 rfl (sx 2 rfl (sx 5 rfl (sx 8 rfl (sub_nil _))))) (.refl _) ?_
  refine hl_nil ?_
  refine hq_then ?_
  refine hc_ret ?_
  exact hq_ans rfl rfl (congrArg _ (by unfold lvI; first | (rw [if_pos (by omega)]; done) | (rw [if_neg (by omega)]; done)))
def naL (xs : List Int) (k : Nat) : List Bl := (xs.take k).map fun x => Bl.mk (decide (x = 1))
theorem naL_len {xs : List Int} {k : Nat} (h : k ≤ xs.length) : (naL xs k).length = k := by simp [naL]; omega
theorem naL_at {xs : List Int} {k : Nat} (h : k < xs.length) : ((naL xs xs.length).getD k bl0).b = decide (xs.getD k 0 = 1) := by
  unfold naL; rw [List.take_length, List.getD_eq_getElem?_getD, List.getElem?_map, List.getD_eq_getElem?_getD, List.getElem?_eq_getElem h]; rfl
def insI : List Int → Int → List Int
  | [], x => [x]
  | y :: ys, x => if y < x then y :: insI ys x else if y = x then y :: ys else x :: y :: ys
theorem insI_mem (xs : List Int) (x y : Int) : y ∈ insI xs x ↔ y = x ∨ y ∈ xs := by
  induction xs with
  | nil => simp [insI]
  | cons z zs ih =>
    simp only [insI]
    split
    · rw [List.mem_cons, ih, List.mem_cons]
      constructor
      · rintro (h | h | h)
        · exact .inr (.inl h)
        · exact .inl h
        · exact .inr (.inr h)
      · rintro (h | h | h)
        · exact .inr (.inl h)
        · exact .inl h
        · exact .inr (.inr h)
    · split
      · rename_i h; subst h; simp
      · simp
theorem insI_sorted (xs : List Int) (x : Int) (h : xs.Pairwise (· < ·)) : (insI xs x).Pairwise (· < ·) := by
  induction xs with
  | nil => simp [insI]
  | cons z zs ih =>
    rw [List.pairwise_cons] at h
    simp only [insI]
    split
    · rw [List.pairwise_cons]
      refine ⟨fun y hy => ?_, ih h.2⟩
      rcases (insI_mem _ _ _).1 hy with rfl | hy
      · assumption
      · exact h.1 y hy
    · split
      · exact List.pairwise_cons.2 h
      · rw [List.pairwise_cons]
        refine ⟨fun y hy => ?_, List.pairwise_cons.2 h⟩
        rcases List.mem_cons.1 hy with rfl | hy
        · omega
        · have := h.1 y hy; omega
/-- v holds the values of the nodes of n -/
structure AndV (n : Nt) (v : List Int) : Prop where
  b01 : B01 v
  len : (v.length : Int) = n.cnt
  at_ : ∀ k, k < n.gs.length → v.getD (n.fst + k).toNat 0 = bitL v (n.gs.getD k an0).a * bitL v (n.gs.getD k an0).b
theorem vals_and {n : Nt} (h : NtOk n) {st : List Int} (hs : st.length = n.ss.length) (inp : Int) : AndV n (valsL n st inp) := by
  have hl := val_len n st inp n.gs.length (Nat.le_refl _)
  have hi := h.i0
  exact ⟨val01 h hs inp _ (Nat.le_refl _), by show ((valL n st inp n.gs.length).length : Int) = _; unfold Nt.cnt; omega, fun k hk => val_at h hs inp hk⟩
def wS : List Int → Nat
  | [] => 0
  | x :: xs => 3 ^ (x / 2).toNat + wS xs
theorem wS_app : ∀ (xs ys : List Int), wS (xs ++ ys) = wS xs + wS ys
  | [], ys => by simp [wS]
  | x :: xs, ys => by rw [List.cons_append, wS, wS, wS_app xs ys]; omega
theorem wS_ins : ∀ (xs : List Int) (x : Int), wS (insI xs x) ≤ wS xs + 3 ^ (x / 2).toNat
  | [], x => by simp [insI, wS]
  | y :: ys, x => by
    have := wS_ins ys x
    simp only [insI]
    split
    · simp only [wS]
      generalize 3 ^ (x / 2).toNat = p at *
      omega
    · split
      · simp only [wS]
        exact Nat.le_add_right _ _
      · simp only [wS]
        generalize 3 ^ (x / 2).toNat = p at *
        generalize 3 ^ (y / 2).toNat = q at *
        omega
theorem sorted_len : ∀ {xs : List Int} {lo hi : Int}, xs.Pairwise (· < ·) → (∀ x ∈ xs, lo ≤ x ∧ x < hi) → xs.length ≤ (hi - lo).toNat
  | [], lo, hi, _, _ => Nat.zero_le _
  | a :: t, lo, hi, h, hr => by
    rw [List.pairwise_cons] at h
    have ha := hr a List.mem_cons_self
    have := sorted_len (lo := a + 1) (hi := hi) h.2 (fun x hx => by have := h.1 x hx; have := hr x (List.mem_cons_of_mem _ hx); omega)
    rw [List.length_cons]; omega
theorem pow3_lt {a b k : Nat} (ha : a < k) (hb : b < k) : 3 ^ a + 3 ^ b < 3 ^ k := by
  obtain ⟨m, rfl⟩ : ∃ m, k = m + 1 := ⟨k - 1, by omega⟩
  have h1 : 3 ^ a ≤ 3 ^ m := Nat.pow_le_pow_right (by omega) (by omega)
  have h2 : 3 ^ b ≤ 3 ^ m := Nat.pow_le_pow_right (by omega) (by omega)
  have h3 : 0 < 3 ^ m := Nat.pow_pos (by omega)
  rw [Nat.pow_succ]; omega
structure CjInv (n : Nt) (node : Int) (xs : List Int) : Prop where
  srt : xs.Pairwise (· < ·)
  ne : 1 ≤ xs.length
  rng : ∀ x ∈ xs, 0 ≤ x ∧ x < 2 * n.cnt
  sem : ∀ v, AndV n v → ((∀ x ∈ xs, bitL v x = 1) ↔ v.getD node.toNat 0 = 1)
theorem CjInv.len {n : Nt} {node : Int} {xs : List Int} (h : CjInv n node xs) (hn : NtOk n) : xs.length ≤ 666 := by
  have := sorted_len h.srt (lo := 0) (hi := 2 * n.cnt) h.rng
  have h1 := hn.i1
  have h2 := hn.s1
  have h3 := hn.a1
  unfold Nt.cnt at this
  omega
theorem mul1 {a b : Int} (ha : a = 0 ∨ a = 1) (hb : b = 0 ∨ b = 1) : a * b = 1 ↔ a = 1 ∧ b = 1 := by
  rcases ha with e | e <;> rcases hb with e' | e' <;> rw [e, e'] <;> decide
theorem and_bits {n : Nt} (hn : NtOk n) {v : List Int} (hv : AndV n v) {k : Nat} (hk : k < n.gs.length) : (v.getD (n.fst + k).toNat 0 = 1 ↔ bitL v (n.gs.getD k an0).a = 1 ∧ bitL v (n.gs.getD k an0).b = 1) := by
  have ha := hn.an k hk
  unfold LtOk at ha
  have hl := hv.len
  have hc : n.cnt = n.fst + n.gs.length := by unfold Nt.cnt Nt.fst; omega
  rw [hv.at_ k hk]
  exact mul1 (bit01 hv.b01 ha.1.1 (by omega)) (bit01 hv.b01 ha.2.1 (by omega))
theorem split_at {xs : List Int} {j : Nat} (h : j < xs.length) : xs = xs.take j ++ [xs.getD j 0] ++ xs.drop (j + 1) := by
  rw [← take_snocG 0 h, List.take_append_drop]
theorem CjInv.step {n : Nt} (hn : NtOk n) {node : Int} {xs : List Int} (h : CjInv n node xs) {j : Nat} {l : Int} (hj : j < xs.length) (hl : xs.getD j 0 = l) (he : l % 2 = 0) (h0 : n.fst ≤ l / 2) (h1 : l / 2 < n.cnt) :
    CjInv n node (insI (insI (xs.take j ++ xs.drop (j + 1)) (n.gs.getD (l / 2 - n.fst).toNat an0).a) (n.gs.getD (l / 2 - n.fst).toNat an0).b) ∧ wS (insI (insI (xs.take j ++ xs.drop (j + 1)) (n.gs.getD (l / 2 - n.fst).toNat an0).a) (n.gs.getD (l / 2 - n.fst).toNat an0).b) < wS xs := by
  have hc : n.cnt = n.fst + n.gs.length := by unfold Nt.cnt Nt.fst; omega
  have hf : 0 ≤ n.fst := by have := hn.i0; unfold Nt.fst; omega
  have hk : (l / 2 - n.fst).toNat < n.gs.length := by omega
  have ha := hn.an _ hk
  unfold LtOk at ha
  have hsp := split_at hj
  rw [hl] at hsp
  have hmem : ∀ x, x ∈ xs ↔ x = l ∨ x ∈ xs.take j ++ xs.drop (j + 1) := fun x => by
    conv => lhs; rw [hsp]
    simp only [List.mem_append, List.mem_singleton]
    constructor
    · rintro ((h | h) | h)
      · exact .inr (.inl h)
      · exact .inl h
      · exact .inr (.inr h)
    · rintro (h | h | h)
      · exact .inl (.inr h)
      · exact .inl (.inl h)
      · exact .inr h
  have hsub : (xs.take j ++ xs.drop (j + 1)).Sublist xs := by
    conv => rhs; rw [hsp]
    exact (List.sublist_append_left _ _).append (List.Sublist.refl _)
  generalize hA : (n.gs.getD (l / 2 - n.fst).toNat an0).a = a at *
  generalize hB : (n.gs.getD (l / 2 - n.fst).toNat an0).b = b at *
  refine ⟨⟨insI_sorted _ _ (insI_sorted _ _ (h.srt.sublist hsub)), List.length_pos_of_mem ((insI_mem _ _ b).2 (.inl rfl)), fun x hx => ?_, fun v hv => ?_⟩, ?_⟩
  · rcases (insI_mem _ _ _).1 hx with rfl | hx
    · omega
    · rcases (insI_mem _ _ _).1 hx with rfl | hx
      · omega
      · exact h.rng x (hsub.subset hx)
  · rw [← h.sem v hv]
    have hb := and_bits hn hv hk
    rw [show (n.fst + ((l / 2 - n.fst).toNat : Nat)).toNat = (l / 2).toNat by omega, hA, hB] at hb
    have hbl : bitL v l = v.getD (l / 2).toNat 0 := by unfold bitL; rw [if_pos he]
    constructor
    · intro hx x hxm
      rcases (hmem x).1 hxm with rfl | hxm
      · rw [hbl, hb]; exact ⟨hx _ ((insI_mem _ _ _).2 (.inr ((insI_mem _ _ _).2 (.inl rfl)))), hx _ ((insI_mem _ _ _).2 (.inl rfl))⟩
      · exact hx x ((insI_mem _ _ _).2 (.inr ((insI_mem _ _ _).2 (.inr hxm))))
    · intro hx x hxm
      have hl1 := hx l ((hmem l).2 (.inl rfl))
      rw [hbl, hb] at hl1
      rcases (insI_mem _ _ _).1 hxm with rfl | hxm
      · exact hl1.2
      · rcases (insI_mem _ _ _).1 hxm with rfl | hxm
        · exact hl1.1
        · exact hx x ((hmem x).2 (.inr hxm))
  · have e : wS xs = wS (xs.take j ++ xs.drop (j + 1)) + 3 ^ (l / 2).toNat := by
      conv => lhs; rw [hsp]
      rw [wS_app, wS_app, wS_app]; simp only [wS]; omega
    have i1 := wS_ins (insI (xs.take j ++ xs.drop (j + 1)) a) b
    have i2 := wS_ins (xs.take j ++ xs.drop (j + 1)) a
    have i3 := pow3_lt (a := (a / 2).toNat) (b := (b / 2).toNat) (k := (l / 2).toNat) (by omega) (by omega)
    omega
def clK (n : Nt) (k : Int) : List (List Int) := [[-(k + 1), lvI (ndA n k)], [-(k + 1), lvI (ndB n k)], [k + 1, -lvI (ndA n k), -lvI (ndB n k)]]
def ncL (n : Nt) (xs : List Int) (i : Nat) : List (List Int) := [[-1]] ++ ((xs.take i).filter (isAndB n)).flatMap (clK n)
theorem ncL_yes {n : Nt} {xs : List Int} {i : Nat} (hi : i < xs.length) (h : isAndB n (xs.getD i 0) = true) : ncL n xs i ++ clK n (xs.getD i 0) = ncL n xs (i + 1) := by
  unfold ncL; rw [take_snocG 0 hi, List.filter_append, List.flatMap_append, List.append_assoc, List.filter_cons_of_pos h]; simp
theorem ncL_no {n : Nt} {xs : List Int} {i : Nat} (hi : i < xs.length) (h : isAndB n (xs.getD i 0) = false) : ncL n xs i = ncL n xs (i + 1) := by
  unfold ncL; rw [take_snocG 0 hi, List.filter_append, List.flatMap_append, List.filter_cons_of_neg (by rw [h]; decide)]; simp
theorem ncL_len (n : Nt) (xs : List Int) : ∀ i, i ≤ xs.length → (ncL n xs i).length ≤ 1 + 3 * i
  | 0, _ => by simp [ncL]
  | i + 1, h => by
    have ih := ncL_len n xs i (by omega)
    cases hb : isAndB n (xs.getD i 0) with
    | true => rw [← ncL_yes (by omega) hb, List.length_append]; simp [clK]; omega
    | false => rw [← ncL_no (by omega) hb]; omega
theorem lv_ok {l m : Int} (h0 : 0 ≤ l) (h1 : l < 2 * m) : lvI l ≠ 0 ∧ -m ≤ lvI l ∧ lvI l ≤ m ∧ -m ≤ -lvI l ∧ -lvI l ≤ m := by unfold lvI; split <;> omega
theorem litok_of {m : Int} {c : List Int} (hl : c.length ≤ 3) (h : ∀ x ∈ c, x ≠ 0 ∧ -m ≤ x ∧ x ≤ m) : LitOk m c := ⟨by omega, fun i hi => h _ (getD_memX hi)⟩
theorem clK_ok {n : Nt} (hn : NtOk n) {k : Int} (h : isAndB n k = true) : ∀ c ∈ clK n k, LitOk n.cnt c := by
  obtain ⟨k0, k1⟩ := isAnd_iff.1 h
  obtain ⟨o1, o2, o3, o4, o5, o6⟩ := nd_ok hn k0 k1
  have ha := lv_ok o3 (show ndA n k < 2 * n.cnt by omega)
  have hb := lv_ok o5 (show ndB n k < 2 * n.cnt by omega)
  intro c hc
  simp only [clK, List.mem_cons, List.not_mem_nil, or_false] at hc
  rcases hc with rfl | rfl | rfl
  · refine litok_of (by simp) (fun x hx => ?_)
    simp only [List.mem_cons, List.not_mem_nil, or_false] at hx
    rcases hx with rfl | rfl <;> omega
  · refine litok_of (by simp) (fun x hx => ?_)
    simp only [List.mem_cons, List.not_mem_nil, or_false] at hx
    rcases hx with rfl | rfl <;> omega
  · refine litok_of (by simp) (fun x hx => ?_)
    simp only [List.mem_cons, List.not_mem_nil, or_false] at hx
    rcases hx with rfl | rfl | rfl <;> omega
theorem ncL_ok {n : Nt} (hn : NtOk n) {xs : List Int} {i : Nat} {l : Int} (h0 : 0 ≤ l) (h1 : l < 2 * n.cnt) : ∀ c ∈ ncL n xs i ++ [[lvI l]], LitOk n.cnt c := fun c hc => by
  have hc1 : 1 ≤ n.cnt := by omega
  rcases List.mem_append.1 hc with hc | hc
  · unfold ncL at hc
    rcases List.mem_append.1 hc with hc | hc
    · rw [List.mem_singleton] at hc; subst hc
      exact litok_of (by simp) (fun x hx => by rw [List.mem_singleton] at hx; subst hx; omega)
    · obtain ⟨k, hk, hc⟩ := List.mem_flatMap.1 hc
      exact clK_ok hn (List.mem_filter.1 hk).2 c hc
  · rw [List.mem_singleton] at hc; subst hc
    have := lv_ok h0 h1
    exact litok_of (by simp) (fun x hx => by rw [List.mem_singleton] at hx; subst hx; omega)
structure NcOk (n : Nt) (l : Int) (rs : List CRow) (xs : List Int) : Prop where
  cone : ConeOk n (l / 2) xs
  rs : rs.map CRow.xs = ncL n xs xs.length ++ [[lvI l]]
theorem NcOk.cl {n : Nt} (hn : NtOk n) {l : Int} {rs : List CRow} {xs : List Int} (h : NcOk n l rs xs) (h0 : 0 ≤ l) (h1 : l < 2 * n.cnt) : ClOk n.cnt rs := by
  have hl := congrArg List.length h.rs
  have hx := ncL_len n xs xs.length (Nat.le_refl _)
  have hc := h.cone.len
  have hcn : n.cnt ≤ 333 := by have := hn.i1; have := hn.s1; have := hn.a1; unfold Nt.cnt; omega
  rw [List.length_map, List.length_append, List.length_singleton] at hl
  refine ⟨by omega, by omega, by omega, fun k hk => ?_⟩
  have hm : (rs.getD k crow0).xs ∈ rs.map CRow.xs := List.mem_map.2 ⟨_, getD_memX hk, rfl⟩
  rw [h.rs] at hm
  exact ncL_ok hn h0 h1 _ hm
theorem cnfB_map (bs : List Bl) (rs : List CRow) : cnfB bs rs = (rs.map CRow.xs).all (clB bs) := by unfold cnfB; rw [List.all_map]; rfl
theorem litB_lv {v : List Int} (h : B01 v) {l : Int} (h0 : 0 ≤ l) (h1 : l < 2 * v.length) : litB (naL v v.length) (lvI l) = decide (bitL v l = 1) ∧ litB (naL v v.length) (-lvI l) = !decide (bitL v l = 1) := by
  have hk : (l / 2).toNat < v.length := by omega
  have hb := h (l / 2).toNat hk
  have ha := naL_at hk
  unfold lvI bitL litB
  by_cases e : l % 2 = 1
  · rw [if_pos e, if_neg (show ¬ l % 2 = 0 by omega), if_neg (show ¬ 0 < -(l / 2 + 1) by omega), if_pos (show 0 < - -(l / 2 + 1) by omega), show (- -(l / 2 + 1) - 1) = l / 2 by omega, ha]
    rcases hb with e2 | e2 <;> rw [e2] <;> decide
  · rw [if_neg e, if_pos (show l % 2 = 0 by omega), if_pos (show 0 < l / 2 + 1 by omega), if_neg (show ¬ 0 < -(l / 2 + 1) by omega), show (- -(l / 2 + 1) - 1) = l / 2 by omega, show (l / 2 + 1 - 1) = l / 2 by omega, ha]
    rcases hb with e2 | e2 <;> rw [e2] <;> decide
theorem litB_nd {v : List Int} (h : B01 v) {k : Int} (h0 : 0 ≤ k) (h1 : k < v.length) : litB (naL v v.length) (k + 1) = decide (v.getD k.toNat 0 = 1) ∧ litB (naL v v.length) (-(k + 1)) = !decide (v.getD k.toNat 0 = 1) := by
  have h2 := litB_lv h (l := 2 * k) (by omega) (by omega)
  have e : lvI (2 * k) = k + 1 := by unfold lvI; rw [if_neg (by omega)]; omega
  have e2 : bitL v (2 * k) = v.getD k.toNat 0 := by unfold bitL; rw [if_pos (by omega), show 2 * k / 2 = k by omega]
  rw [e, e2] at h2
  exact h2
theorem clK_true {n : Nt} (hn : NtOk n) {v : List Int} (hv : AndV n v) {k : Int} (h : isAndB n k = true) : (clK n k).all (clB (naL v v.length)) = true := by
  obtain ⟨k0, k1⟩ := isAnd_iff.1 h
  obtain ⟨o1, o2, o3, o4, o5, o6⟩ := nd_ok hn k0 k1
  have hl := hv.len
  have ha := litB_lv hv.b01 o3 (by omega)
  have hb := litB_lv hv.b01 o5 (by omega)
  have hk := litB_nd hv.b01 (k := k) (by omega) (by omega)
  have hat := hv.at_ (k - n.fst).toNat o1
  rw [show (n.fst + ((k - n.fst).toNat : Nat)).toNat = k.toNat by omega] at hat
  have b1 := bit01 hv.b01 o3 (show ndA n k < 2 * v.length by omega)
  have b2 := bit01 hv.b01 o5 (show ndB n k < 2 * v.length by omega)
  have hat2 : v.getD k.toNat 0 = bitL v (ndA n k) * bitL v (ndB n k) := hat
  unfold clK
  simp only [List.all_cons, List.all_nil, Bool.and_true]
  unfold clB
  simp only [List.any_cons, List.any_nil, Bool.or_false]
  rw [ha.1, ha.2, hb.1, hb.2, hk.1, hk.2, hat2]
  rcases b1 with e | e <;> rcases b2 with e' | e' <;> rw [e, e'] <;> decide
theorem nc_true {n : Nt} (hn : NtOk n) {v : List Int} (hv : AndV n v) (hz : v.getD 0 0 = 0) {l : Int} {rs : List CRow} {xs : List Int} (h : NcOk n l rs xs) (h0 : 0 ≤ l) (h1 : l < 2 * n.cnt) : cnfB (naL v v.length) rs = decide (bitL v l = 1) := by
  have hl := hv.len
  have hb := litB_lv hv.b01 h0 (by omega)
  have hk := litB_nd hv.b01 (k := 0) (by omega) (by omega)
  rw [cnfB_map, h.rs, List.all_append]
  have e1 : (ncL n xs xs.length).all (clB (naL v v.length)) = true := by
    unfold ncL
    rw [List.all_append, Bool.and_eq_true]
    refine ⟨?_, ?_⟩
    · simp only [List.all_cons, List.all_nil, Bool.and_true]
      unfold clB
      simp only [List.any_cons, List.any_nil, Bool.or_false]
      have := hk.2
      rw [show (-(0 + 1) : Int) = -1 by decide] at this
      rw [this]
      show (!decide (v.getD 0 0 = 1)) = true
      rw [hz]; decide
    · rw [List.all_eq_true]
      intro c hc
      obtain ⟨k, hk2, hc⟩ := List.mem_flatMap.1 hc
      exact List.all_eq_true.1 (clK_true hn hv (List.mem_filter.1 hk2).2) c hc
  rw [e1, Bool.true_and]
  simp only [List.all_cons, List.all_nil, Bool.and_true]
  unfold clB
  simp only [List.any_cons, List.any_nil, Bool.or_false]
  exact hb.1
theorem conv_snoc3 {w0 : World} {ps l : List HP} {p q r : HP} : Conv w0 (bigE ps :: p :: q :: r :: l) (bigE (ps ++ [p, q, r]) :: l) := fun w hm => by
  have h1 : Mem w0 (ps ++ (p :: q :: r :: l)) w := hm.unbig
  have h2 : Mem w0 ((ps ++ [p, q, r]) ++ l) w := by simpa using h1
  exact h2.big
set_option maxHeartbeats 4000000 in
set_option maxRecDepth 100000 in
theorem NetCnf_ret (n : Nt) (lit : Int) (w : World) (hr : RdsNt w n) (hn : NtOk n) (hlt : 0 ≤ lit ∧ lit < 2 * n.cnt) :
  Calls Try.prog 28 #[.agg #[.int .i64 n.ins, n.sv, n.av, n.ov], .int .i64 lit] w (Ret w (fun v' post => ∃ (cv : Value) (rs : List CRow) (xs : List Int), v' = .tuple #[.agg #[.int .i64 n.cnt, cv], .bool true] ∧ post = [clE cv rs] ∧ cv.oneCell' = true ∧ NcOk n lit rs xs)) := by
 have hi0 := hn.i0
 have hi1 := hn.i1
 have hs1 := hn.s1
 have ha1 := hn.a1
 have ho1 := hn.o1
 have hcnt : n.cnt = 1 + n.ins + n.ss.length + n.gs.length := rfl
 have hfst : n.fst = 1 + n.ins + n.ss.length := rfl
 refine calls_hc (N := 89) (args := [.agg #[.int .i64 n.ins, n.sv, n.av, n.ov], .int .i64 lit]) Try.func28 rfl rfl ?_
 refine hc_less _ (sx 0 rfl (sx 1 rfl (sub_nil _))) (.refl _) ?_
 refine hc_seq ?_
 refine hc_region ?_
 refine hl_box rfl rfl rfl (rq_box rfl rfl) ?_
 intro b1
 refine hl_box rfl rfl rfl (rq_alloc (z := .agg #[.int .i64 0, .slice none 0 0]) rfl (by kernel_rfl)) ?_
 intro b2
 refine hl_v rfl rfl rfl (rv_ev rfl) ?_
 refine hl_less (sx 0 rfl (sx 1 rfl (sx 2 rfl (sx 4 rfl (sx 5 rfl (sub_nil _)))))) (.refl _) ?_
 refine hl_nil ?_
 refine hq_then ?_
 refine hc_seq ?_
 refine hc_seq ?_
 refine hc_region ?_
 refine hl_v rfl rfl rfl (rv_loadN (cs := [.int .i64 n.ins, n.sv, n.av, n.ov]) rfl (by kernel_rfl) (by kernel_rfl) rfl rfl (box_part 1 rfl 0 rfl)) ?_
 refine hl_callV rfl rfl rfl (rq_call (by kernel_rfl) rfl (fun w hm => ret_ans (implNetOk_yes n w (hr.below hm.bel) hn))) ?_
 refine hl_v rfl rfl rfl (rv_ev rfl) ?_
 refine hl_v rfl rfl rfl (rv_ev rfl) ?_
 refine hl_v rfl rfl rfl (rv_ev rfl) ?_
 refine hl_v rfl rfl rfl (rv_loadN (cs := [.int .i64 n.ins, n.sv, n.av, n.ov]) rfl (by kernel_rfl) (by kernel_rfl) rfl rfl (box_part 1 rfl 0 rfl)) ?_
 refine hl_callV rfl rfl rfl (rq_call (by kernel_rfl) rfl (fun w hm => ret_ans (implnodeCount_yes n w (hr.below hm.bel) hn))) ?_
 refine hl_v rfl rfl rfl (rv_mul rfl rfl rfl (by constructor <;> omega)) ?_
 refine hl_v rfl rfl rfl (rv_sub rfl rfl rfl (by constructor <;> omega)) ?_
 refine hl_callV rfl rfl rfl (rq_call (by kernel_rfl) rfl (fun w hm => ret_ans (ans_of (inRange_any _ _ _ w)))) ?_
 refine hl_bool (fun h3 => ?_) (fun h3 => absurd ((((inR_iff _ _ _).2 (by omega))).symm.trans h3) (by decide))
 refine hl_v rfl rfl rfl (rv_ev rfl) ?_
 refine hl_v rfl rfl rfl (rv_ev rfl) ?_
 refine hl_less (sx 0 rfl (sx 1 rfl (sx 2 rfl (sx 4 rfl (sx 5 rfl (sx 24 rfl (sub_nil _))))))) (.refl _) ?_
 refine hl_nil ?_
 refine hq_then ?_
 refine hc_false rfl ?_
 refine hc_skip ?_
 refine hq_then ?_
 refine hc_seq ?_
 refine hc_region ?_
 refine hl_v rfl rfl rfl (rv_loadN (cs := [.int .i64 n.ins, n.sv, n.av, n.ov]) rfl (by kernel_rfl) (by kernel_rfl) rfl rfl (box_part 1 rfl 0 rfl)) ?_
 refine hl_callV rfl rfl rfl (rq_call (by kernel_rfl) rfl (fun w hm => ret_ans (implnodeCount_yes n w (hr.below hm.bel) hn))) ?_
 refine hl_row rfl rfl rfl (rq_buildSlice (z := .int .i64 0) (s := 1) (cs := ([-1].map (Value.int .i64))) rfl Try.underlying26 (by kernel_rfl) (by decide) rfl (by kernel_rfl) rfl) ?_
 intro g4
 refine hl_row rfl rfl rfl (rq_buildSlice (z := .slice none 0 0) (s := 1) (cs := [.slice (some ⟨g4, 0, none⟩) 1 1]) rfl Try.underlying40 (by kernel_rfl) (by decide) rfl (by kernel_rfl) rfl) ?_
 intro g5
 refine hl_v rfl rfl rfl (rv_build (cs := #[.int .i64 n.cnt, .slice (some ⟨g5, 0, none⟩) 1 1]) rfl rfl (by kernel_rfl)) ?_
 refine hl_box rfl rfl rfl (rq_alloc (z := .agg #[.int .i64 0, .slice none 0 0]) rfl (by kernel_rfl)) ?_
 intro b6
 refine hl_storeBoxN (i := 0) (off := 0) (us := [.int .i64 n.cnt, .slice (some ⟨g5, 0, none⟩) 1 1])  (l' := [boxE b6 #[.int .i64 n.cnt, .slice (some ⟨g5, 0, none⟩) 1 1] 42, rowE 26 1 (.slice (some ⟨g5, 0, none⟩) 1 1) 1 ([.slice (some ⟨g4, 0, none⟩) 1 1]), rowE 3 1 (.slice (some ⟨g4, 0, none⟩) 1 1) 1 ([-1].map (Value.int .i64)), boxE b2 #[.int .i64 0, .slice none 0 0] 42, boxE b1 #[.int .i64 n.ins, n.sv, n.av, n.ov] 28]) rfl rfl rfl (by kernel_rfl) rfl rfl rfl (all_cons rfl (all_cons rfl all_nil)) rfl rfl rfl ?_
 refine hl_less (sx 0 rfl (sx 1 rfl (sx 2 rfl (sx 4 rfl (sx 5 rfl (sx 6 rfl (sx 24 rfl (sub_nil _)))))))) (.refl _) ?_
 refine hl_nil ?_
 refine hq_then ?_
 refine hc_seq ?_
 refine hc_seq ?_
 refine hc_region ?_
 refine hl_v rfl rfl rfl (rv_loadN (cs := [.int .i64 n.ins, n.sv, n.av, n.ov]) rfl (by kernel_rfl) (by kernel_rfl) rfl rfl (box_part 4 rfl 0 rfl)) ?_
 refine hl_v rfl rfl rfl (rv_ev rfl) ?_
 refine hl_v rfl rfl rfl (rv_quo rfl rfl rfl (by refine ⟨?_, ?_, ?_⟩ <;> omega)) ?_
 refine hl_q rfl rfl rfl (rq_call (by kernel_rfl) rfl (fun w hm => cone_ret n (lit / 2) w (hr.below hm.bel) hn (by omega))) ?_
 intro v7 p8 hR9
 obtain ⟨xs, rfl, hco⟩ := hR9
 have hxl := hco.len
 refine hl_v rfl rfl rfl (rv_len rfl Try.underlying26 rfl (rd_row 0 rfl)) ?_
 refine hl_v rfl rfl rfl (rv_ev rfl) ?_
 refine hl_less (sx 0 rfl (sx 1 rfl (sx 2 rfl (sx 4 rfl (sx 5 rfl (sx 6 rfl (sx 24 rfl (sx 34 rfl (sx 35 rfl (sx 36 rfl (sub_nil _))))))))))) (.refl _) ?_
 refine hl_nil ?_
 refine hq_then ?_
 refine hc_block ?_
 refine hc_conv [rowE 3 1 (.slice (some ⟨g4, 0, none⟩) 1 1) 1 ([-1].map (Value.int .i64)), rowE 26 1 (.slice (some ⟨g5, 0, none⟩) 1 1) 1 ([.slice (some ⟨g4, 0, none⟩) 1 1]), rowE 3 1 v7 xs.length (xs.map (Value.int .i64)), boxE b6 #[.int .i64 n.cnt, .slice (some ⟨g5, 0, none⟩) 1 1] 42, boxE b2 #[.int .i64 0, .slice none 0 0] 42, boxE b1 #[.int .i64 n.ins, n.sv, n.av, n.ov] 28] (conv_pick (src := [rowE 3 1 v7 xs.length (xs.map (Value.int .i64)), boxE b6 #[.int .i64 n.cnt, .slice (some ⟨g5, 0, none⟩) 1 1] 42, rowE 26 1 (.slice (some ⟨g5, 0, none⟩) 1 1) 1 ([.slice (some ⟨g4, 0, none⟩) 1 1]), rowE 3 1 (.slice (some ⟨g4, 0, none⟩) 1 1) 1 ([-1].map (Value.int .i64)), boxE b2 #[.int .i64 0, .slice none 0 0] 42, boxE b1 #[.int .i64 n.ins, n.sv, n.av, n.ov] 28]) (dst := [rowE 3 1 (.slice (some ⟨g4, 0, none⟩) 1 1) 1 ([-1].map (Value.int .i64)), rowE 26 1 (.slice (some ⟨g5, 0, none⟩) 1 1) 1 ([.slice (some ⟨g4, 0, none⟩) 1 1]), rowE 3 1 v7 xs.length (xs.map (Value.int .i64)), boxE b6 #[.int .i64 n.cnt, .slice (some ⟨g5, 0, none⟩) 1 1] 42, boxE b2 #[.int .i64 0, .slice none 0 0] 42, boxE b1 #[.int .i64 n.ins, n.sv, n.av, n.ov] 28]) (l := []) [3, 2, 0, 1, 4, 5] (by decide) rfl) ?_
 refine hc_conv [bigE (([CRow.mk (.slice (some ⟨g4, 0, none⟩) 1 1) [-1]]).map cPart), rowE 26 1 (.slice (some ⟨g5, 0, none⟩) 1 1) (([CRow.mk (.slice (some ⟨g4, 0, none⟩) 1 1) [-1]]).length) (([CRow.mk (.slice (some ⟨g4, 0, none⟩) 1 1) [-1]]).flatMap crowC), rowE 3 1 v7 xs.length (xs.map (Value.int .i64)), boxE b6 #[.int .i64 n.cnt, .slice (some ⟨g5, 0, none⟩) 1 1] 42, boxE b2 #[.int .i64 0, .slice none 0 0] 42, boxE b1 #[.int .i64 n.ins, n.sv, n.av, n.ov] 28] (fun w hm => Mem.big (ps := [rowE 3 1 (.slice (some ⟨g4, 0, none⟩) 1 1) 1 ([-1].map (Value.int .i64))]) hm) ?_
 refine hc_loop3 (α := Nat) (β := Value) (γ := List CRow) (fun i u rs => [bigE (rs.map cPart), rowE 26 1 u rs.length (rs.flatMap crowC), rowE 3 1 v7 xs.length (xs.map (Value.int .i64)), boxE b6 #[.int .i64 n.cnt, u] 42, boxE b2 #[.int .i64 0, .slice none 0 0] 42, boxE b1 #[.int .i64 n.ins, n.sv, n.av, n.ov] 28]) (fun i u rs => [(0, .agg #[.int .i64 n.ins, n.sv, n.av, n.ov]), (1, .int .i64 lit), (2, .pointer (some ⟨b1, 0, none⟩)), (4, .pointer (some ⟨b2, 0, none⟩)), (5, .bool false), (6, .pointer (some ⟨b6, 0, none⟩)), (24, .bool false), (34, v7), (35, .int .i64 (xs.length : Int)), (36, .int .i64 (i : Int))]) (fun i u rs => i ≤ xs.length ∧ rs.map CRow.xs = ncL n xs i) (fun i u rs => xs.length - i) 0 _ [CRow.mk _ [-1]] ⟨by omega, rfl⟩ (sx 0 rfl (sx 1 rfl (sx 2 rfl (sx 4 rfl (sx 5 rfl (sx 6 rfl (sx 24 rfl (sx 34 rfl (sx 35 rfl (sx 36 rfl (sub_nil _))))))))))) ((.cons_cons _ (.cons_cons _ (.cons_cons _ (.cons_cons _ (.cons_cons _ (.cons_cons _ .slnil))))))) ?_
 intro i u rs hi10
 obtain ⟨hi, hrs⟩ := hi10
 have hrl : rs.length ≤ 1 + 3 * i := by have := ncL_len n xs i hi; rw [← hrs, List.length_map] at this; exact this
 refine hc_seq ?_
 refine hc_region ?_
 refine hl_lss rfl rfl rfl rfl rfl rfl (fun h11 => ?_) (fun h11 => ?_)
 ·
  refine hl_less (sx 0 rfl (sx 1 rfl (sx 2 rfl (sx 4 rfl (sx 5 rfl (sx 6 rfl (sx 24 rfl (sx 34 rfl (sx 35 rfl (sx 36 rfl (sx 37 rfl (sub_nil _)))))))))))) (.refl _) ?_
  refine hl_nil ?_
  refine hq_then ?_
  refine hc_seq ?_
  refine hc_true rfl ?_
  refine hc_skip ?_
  refine hq_then ?_
  refine hc_seq ?_
  refine hc_block ?_
  refine hc_seq ?_
  refine hc_region ?_
  refine hl_v rfl rfl rfl (rv_index (s := 1) rfl Try.underlying26 (by kernel_rfl) rfl rfl (rd_row 2 rfl) (by omega) (by first | omega | (simp only [List.length_set]; omega))) ?_
  refine hl_v rfl rfl rfl (rv_loadEl (u := .int .i64 (xs.getD i 0)) rfl (by kernel_rfl) rfl (rd_row 2 rfl) (ints_at1 (show _ < xs.length by first | omega | (simp only [List.length_set]; omega)))) ?_
  refine hl_v rfl rfl rfl (rv_ev rfl) ?_
  refine hl_less (sx 0 rfl (sx 1 rfl (sx 2 rfl (sx 4 rfl (sx 5 rfl (sx 6 rfl (sx 8 rfl (sx 24 rfl (sx 34 rfl (sx 35 rfl (sx 36 rfl (sx 37 rfl (sub_nil _))))))))))))) (.refl _) ?_
  refine hl_nil ?_
  refine hq_then ?_
  refine hc_seq ?_
  refine hc_seq ?_
  refine hc_region ?_
  refine hl_v rfl rfl rfl (rv_loadN (cs := [.int .i64 n.ins, n.sv, n.av, n.ov]) rfl (by kernel_rfl) (by kernel_rfl) rfl rfl (box_part 5 rfl 0 rfl)) ?_
  refine hl_v rfl rfl rfl (rv_ev rfl) ?_
  refine hl_callV rfl rfl rfl (rq_call (by kernel_rfl) rfl (fun w hm => ret_ans (isAnd_yes n (xs.getD i 0) w (hr.below hm.bel) hn))) ?_
  refine hl_bool (fun h12 => ?_) (fun h12 => ?_)
  ·
   refine hl_v rfl rfl rfl (rv_ev rfl) ?_
   refine hl_less (sx 0 rfl (sx 1 rfl (sx 2 rfl (sx 4 rfl (sx 5 rfl (sx 6 rfl (sx 8 rfl (sx 24 rfl (sx 34 rfl (sx 35 rfl (sx 36 rfl (sx 37 rfl (sx 43 rfl (sub_nil _)))))))))))))) (.refl _) ?_
   refine hl_nil ?_
   refine hq_then ?_
   refine hc_false rfl ?_
   refine hc_skip ?_
   refine hq_then ?_
   refine hc_seq ?_
   obtain ⟨hk0, hk1⟩ := isAnd_iff.1 (show isAndB n (xs.getD i 0) = true by assumption)
   obtain ⟨o1, o2, o3, o4, o5, o6⟩ := nd_ok hn hk0 hk1
   unfold ndA at o3 o4
   unfold ndB at o5 o6
   have hla := lv_ok (m := n.cnt) o3 (by omega)
   have hlb := lv_ok (m := n.cnt) o5 (by omega)
   refine hc_draw (by kernel_rfl) 9 [0, 1, 2, 3, 4, 5, 6, 7, 8] (List.take 9 _) (List.drop 9 _) [[], [0], [], [], [3], [2, 4], [1, 5], [6], []] [44, 45, 46, 47, 48, 49, 50, 51, 9] (fun i_ vs_ v_ p_ => match i_ with | 0 => v_ = .pointer (some ⟨b1, 0 + 2, none⟩) ∧ p_ = [] | 1 => v_ = n.av ∧ p_ = [] | 2 => v_ = .int .i64 (xs.getD i 0) ∧ p_ = [] | 3 => v_ = .agg #[.int .i64 n.ins, n.sv, n.av, n.ov] ∧ p_ = [] | 4 => v_ = .int .i64 n.fst ∧ p_ = [] | 5 => v_ = .int .i64 ((xs.getD i 0) - n.fst) ∧ p_ = [] | 6 => v_ = elP n.av (((xs.getD i 0) - n.fst).toNat * 2) ∧ p_ = [] | 7 => v_ = .agg #[.int .i64 ((n.gs.getD (((xs.getD i 0) - n.fst).toNat) an0).a), .int .i64 ((n.gs.getD (((xs.getD i 0) - n.fst).toNat) an0).b)] ∧ p_ = [] | 8 => IsBox #[.int .i64 0, .int .i64 0] 80 v_ p_ | _ => True) (List.take_append_drop 9 _).symm (by kernel_rfl) (by kernel_rfl) rfl rfl ?_ ?_
   ·
    refine ⟨?_, ?_, ?_, ?_, ?_, ?_, ?_, ?_, ?_, trivial⟩
    ·
     intro vf pf hR
     refine Or.inl ⟨rfl, ?_⟩
     refine rq_less (sx 2 rfl (sub_nil _)) (List.sublist_append_right _ _) ?_
     exact rq_v (rv_field (k0 := 2) rfl (by kernel_rfl) rfl)
    ·
     intro vf pf hR
     have e0 : (vf 0) = .pointer (some ⟨b1, 0 + 2, none⟩) ∧ (pf 0) = [] := hR 0 (by decide)
     refine Or.inl ⟨rfl, ?_⟩
     refine rq_less (sx 44 (congrArg some e0.1) (sub_nil _)) (List.sublist_append_right _ _) ?_
     exact rq_v (rv_load rfl (by kernel_rfl) rfl (box_cell 5 rfl rfl))
    ·
     intro vf pf hR
     refine Or.inl ⟨rfl, ?_⟩
     refine rq_less (sx 8 rfl (sub_nil _)) (List.sublist_append_right _ _) ?_
     exact rq_v (rv_ev rfl)
    ·
     intro vf pf hR
     refine Or.inl ⟨rfl, ?_⟩
     refine rq_less (sx 2 rfl (sub_nil _)) (List.sublist_append_right _ _) ?_
     exact rq_v (rv_loadN (cs := [.int .i64 n.ins, n.sv, n.av, n.ov]) rfl (by kernel_rfl) (by kernel_rfl) rfl rfl (box_part 5 rfl 0 rfl))
    ·
     intro vf pf hR
     have e3 : (vf 3) = .agg #[.int .i64 n.ins, n.sv, n.av, n.ov] ∧ (pf 3) = [] := hR 3 (by decide)
     refine Or.inl ⟨rfl, ?_⟩
     refine rq_less (sx 47 (congrArg some e3.1) (sub_nil _)) (List.sublist_append_right _ _) ?_
     exact (rq_call (by kernel_rfl) rfl (fun w hm => ret_ans (firstAnd_yes n w (hr.below hm.bel) hn)))
    ·
     intro vf pf hR
     have e2 : (vf 2) = .int .i64 (xs.getD i 0) ∧ (pf 2) = [] := hR 2 (by decide)
     have e4 : (vf 4) = .int .i64 n.fst ∧ (pf 4) = [] := hR 4 (by decide)
     refine Or.inl ⟨rfl, ?_⟩
     refine rq_less (sx 46 (congrArg some e2.1) (sx 48 (congrArg some e4.1) (sub_nil _))) (List.sublist_append_right _ _) ?_
     exact rq_v (rv_sub rfl rfl rfl (by constructor <;> omega))
    ·
     intro vf pf hR
     have e1 : (vf 1) = n.av ∧ (pf 1) = [] := hR 1 (by decide)
     have e5 : (vf 5) = .int .i64 ((xs.getD i 0) - n.fst) ∧ (pf 5) = [] := hR 5 (by decide)
     refine Or.inl ⟨rfl, ?_⟩
     refine rq_less (sx 45 (congrArg some e1.1) (sx 49 (congrArg some e5.1) (sub_nil _))) (List.sublist_append_right _ _) ?_
     exact rq_v (rv_index (s := 2) rfl Try.underlying25 (by kernel_rfl) rfl rfl (rd_old hr.an) (by omega) (by first | omega | (simp only [List.length_set]; omega)))
    ·
     intro vf pf hR
     have e6 : (vf 6) = elP n.av (((xs.getD i 0) - n.fst).toNat * 2) ∧ (pf 6) = [] := hR 6 (by decide)
     refine Or.inl ⟨rfl, ?_⟩
     refine rq_less (sx 50 (congrArg some e6.1) (sub_nil _)) (List.sublist_append_right _ _) ?_
     exact rq_v (rv_loadElN (us := [.int .i64 ((n.gs.getD (((xs.getD i 0) - n.fst).toNat) an0).a), .int .i64 ((n.gs.getD (((xs.getD i 0) - n.fst).toNat) an0).b)]) rfl (by kernel_rfl) (by kernel_rfl) rfl (rd_old hr.an) (by omega) rfl (flat_atN anC 2 (fun _ => rfl) n.gs an0 (show ((xs.getD i 0) - n.fst).toNat < _ by first | omega | (simp only [List.length_set]; omega)) rfl))
    ·
     intro vf pf hR
     refine Or.inl ⟨rfl, ?_⟩
     refine rq_less (sub_nil _) (List.sublist_append_right _ _) ?_
     exact rq_alloc (z := .agg #[.int .i64 0, .int .i64 0]) rfl (by kernel_rfl)
   ·
    intro vf pf hR
    have e7 : (vf 7) = .agg #[.int .i64 ((n.gs.getD (((xs.getD i 0) - n.fst).toNat) an0).a), .int .i64 ((n.gs.getD (((xs.getD i 0) - n.fst).toNat) an0).b)] ∧ (pf 7) = [] := hR 7 (by decide)
    have e8 : IsBox #[.int .i64 0, .int .i64 0] 80 (vf 8) (pf 8) := hR 8 (by decide)
    obtain ⟨b13, v8, p8⟩ := e8
    have q0 : (vf 0) = .pointer (some ⟨b1, 0 + 2, none⟩) ∧ (pf 0) = [] := hR 0 (by decide)
    have q1 : (vf 1) = n.av ∧ (pf 1) = [] := hR 1 (by decide)
    have q2 : (vf 2) = .int .i64 (xs.getD i 0) ∧ (pf 2) = [] := hR 2 (by decide)
    have q3 : (vf 3) = .agg #[.int .i64 n.ins, n.sv, n.av, n.ov] ∧ (pf 3) = [] := hR 3 (by decide)
    have q4 : (vf 4) = .int .i64 n.fst ∧ (pf 4) = [] := hR 4 (by decide)
    have q5 : (vf 5) = .int .i64 ((xs.getD i 0) - n.fst) ∧ (pf 5) = [] := hR 5 (by decide)
    have q6 : (vf 6) = elP n.av (((xs.getD i 0) - n.fst).toNat * 2) ∧ (pf 6) = [] := hR 6 (by decide)
    have q7 : (vf 7) = .agg #[.int .i64 ((n.gs.getD (((xs.getD i 0) - n.fst).toNat) an0).a), .int .i64 ((n.gs.getD (((xs.getD i 0) - n.fst).toNat) an0).b)] ∧ (pf 7) = [] := hR 7 (by decide)
    refine hl_less (l' := [boxE b13 #[.int .i64 0, .int .i64 0] 80, bigE (rs.map cPart), rowE 26 1 u rs.length (rs.flatMap crowC), rowE 3 1 v7 xs.length (xs.map (Value.int .i64)), boxE b6 #[.int .i64 n.cnt, u] 42, boxE b2 #[.int .i64 0, .slice none 0 0] 42, boxE b1 #[.int .i64 n.ins, n.sv, n.av, n.ov] 28]) (sx 0 rfl (sx 1 rfl (sx 2 rfl (sx 4 rfl (sx 5 rfl (sx 6 rfl (sx 8 rfl (sx 9 (congrArg some v8) (sx 24 rfl (sx 34 rfl (sx 35 rfl (sx 36 rfl (sx 37 rfl (sx 43 rfl (sx 51 (congrArg some e7.1) (sub_nil _)))))))))))))))) (by first | (simp only [p8, v8, q0.2, q1.2, q2.2, q3.2, q4.2, q5.2, q6.2, q7.2, List.flatMap_cons, List.flatMap_nil, List.append_nil, List.nil_append, List.cons_append]; exact List.Sublist.refl _) | simp [p8, v8, q0.2, q1.2, q2.2, q3.2, q4.2, q5.2, q6.2, q7.2]) ?_
    simp only [List.drop_succ_cons, List.drop_zero]
    refine hl_storeBoxN (i := 0) (off := 0) (us := [.int .i64 ((n.gs.getD (((xs.getD i 0) - n.fst).toNat) an0).a), .int .i64 ((n.gs.getD (((xs.getD i 0) - n.fst).toNat) an0).b)])  (l' := [boxE b13 #[.int .i64 ((n.gs.getD (((xs.getD i 0) - n.fst).toNat) an0).a), .int .i64 ((n.gs.getD (((xs.getD i 0) - n.fst).toNat) an0).b)] 80, bigE (rs.map cPart), rowE 26 1 u rs.length (rs.flatMap crowC), rowE 3 1 v7 xs.length (xs.map (Value.int .i64)), boxE b6 #[.int .i64 n.cnt, u] 42, boxE b2 #[.int .i64 0, .slice none 0 0] 42, boxE b1 #[.int .i64 n.ins, n.sv, n.av, n.ov] 28]) rfl rfl rfl (by kernel_rfl) rfl rfl rfl (all_cons rfl (all_cons rfl all_nil)) rfl rfl rfl ?_
    refine hl_less (sx 0 rfl (sx 1 rfl (sx 2 rfl (sx 4 rfl (sx 5 rfl (sx 6 rfl (sx 8 rfl (sx 9 rfl (sx 24 rfl (sx 34 rfl (sx 35 rfl (sx 36 rfl (sx 37 rfl (sx 43 rfl (sub_nil _))))))))))))))) (.refl _) ?_
    refine hl_nil ?_
    refine hq_then ?_
    refine hc_seq ?_
    refine hc_draw (by kernel_rfl) 8 [0, 1, 2, 3, 4, 5, 6, 7] (List.take 8 _) (List.drop 8 _) [[], [0], [], [2], [3], [], [5], [6]] [52, 53, 54, 55, 56, 57, 58, 59] (fun i_ vs_ v_ p_ => match i_ with | 0 => v_ = .int .i64 (xs.getD i 0) ∧ p_ = [] | 1 => v_ = .int .i64 ((xs.getD i 0) + 1) ∧ p_ = [] | 2 => v_ = .pointer (some ⟨b13, 0 + 0, none⟩) ∧ p_ = [] | 3 => v_ = .int .i64 ((n.gs.getD (((xs.getD i 0) - n.fst).toNat) an0).a) ∧ p_ = [] | 4 => v_ = .int .i64 (lvI ((n.gs.getD (((xs.getD i 0) - n.fst).toNat) an0).a)) ∧ p_ = [] | 5 => v_ = .pointer (some ⟨b13, 0 + 1, none⟩) ∧ p_ = [] | 6 => v_ = .int .i64 ((n.gs.getD (((xs.getD i 0) - n.fst).toNat) an0).b) ∧ p_ = [] | 7 => v_ = .int .i64 (lvI ((n.gs.getD (((xs.getD i 0) - n.fst).toNat) an0).b)) ∧ p_ = [] | _ => True) (List.take_append_drop 8 _).symm (by kernel_rfl) (by kernel_rfl) rfl rfl ?_ ?_
    ·
     refine ⟨?_, ?_, ?_, ?_, ?_, ?_, ?_, ?_, trivial⟩
     ·
      intro vf pf hR
      refine Or.inl ⟨rfl, ?_⟩
      refine rq_less (sx 8 rfl (sub_nil _)) (List.sublist_append_right _ _) ?_
      exact rq_v (rv_ev rfl)
     ·
      intro vf pf hR
      have e0 : (vf 0) = .int .i64 (xs.getD i 0) ∧ (pf 0) = [] := hR 0 (by decide)
      refine Or.inl ⟨rfl, ?_⟩
      refine rq_less (sx 52 (congrArg some e0.1) (sub_nil _)) (List.sublist_append_right _ _) ?_
      exact rq_v (rv_add rfl rfl rfl (by constructor <;> omega))
     ·
      intro vf pf hR
      refine Or.inl ⟨rfl, ?_⟩
      refine rq_less (sx 9 rfl (sub_nil _)) (List.sublist_append_right _ _) ?_
      exact rq_v (rv_field (k0 := 0) rfl (by kernel_rfl) rfl)
     ·
      intro vf pf hR
      have e2 : (vf 2) = .pointer (some ⟨b13, 0 + 0, none⟩) ∧ (pf 2) = [] := hR 2 (by decide)
      refine Or.inl ⟨rfl, ?_⟩
      refine rq_less (sx 54 (congrArg some e2.1) (sub_nil _)) (List.sublist_append_right _ _) ?_
      exact rq_v (rv_load rfl (by kernel_rfl) rfl (box_cell 0 rfl rfl))
     ·
      intro vf pf hR
      have e3 : (vf 3) = .int .i64 ((n.gs.getD (((xs.getD i 0) - n.fst).toNat) an0).a) ∧ (pf 3) = [] := hR 3 (by decide)
      refine Or.inl ⟨rfl, ?_⟩
      refine rq_less (sx 55 (congrArg some e3.1) (sub_nil _)) (List.sublist_append_right _ _) ?_
      exact (rq_call (by kernel_rfl) rfl (fun w hm => ret_ans (LitVar_ans ((n.gs.getD (((xs.getD i 0) - n.fst).toNat) an0).a) w (by omega))))
     ·
      intro vf pf hR
      refine Or.inl ⟨rfl, ?_⟩
      refine rq_less (sx 9 rfl (sub_nil _)) (List.sublist_append_right _ _) ?_
      exact rq_v (rv_field (k0 := 1) rfl (by kernel_rfl) rfl)
     ·
      intro vf pf hR
      have e5 : (vf 5) = .pointer (some ⟨b13, 0 + 1, none⟩) ∧ (pf 5) = [] := hR 5 (by decide)
      refine Or.inl ⟨rfl, ?_⟩
      refine rq_less (sx 57 (congrArg some e5.1) (sub_nil _)) (List.sublist_append_right _ _) ?_
      exact rq_v (rv_load rfl (by kernel_rfl) rfl (box_cell 0 rfl rfl))
     ·
      intro vf pf hR
      have e6 : (vf 6) = .int .i64 ((n.gs.getD (((xs.getD i 0) - n.fst).toNat) an0).b) ∧ (pf 6) = [] := hR 6 (by decide)
      refine Or.inl ⟨rfl, ?_⟩
      refine rq_less (sx 58 (congrArg some e6.1) (sub_nil _)) (List.sublist_append_right _ _) ?_
      exact (rq_call (by kernel_rfl) rfl (fun w hm => ret_ans (LitVar_ans ((n.gs.getD (((xs.getD i 0) - n.fst).toNat) an0).b) w (by omega))))
    ·
     intro vf pf hR
     have e1 : (vf 1) = .int .i64 ((xs.getD i 0) + 1) ∧ (pf 1) = [] := hR 1 (by decide)
     have e4 : (vf 4) = .int .i64 (lvI ((n.gs.getD (((xs.getD i 0) - n.fst).toNat) an0).a)) ∧ (pf 4) = [] := hR 4 (by decide)
     have e7 : (vf 7) = .int .i64 (lvI ((n.gs.getD (((xs.getD i 0) - n.fst).toNat) an0).b)) ∧ (pf 7) = [] := hR 7 (by decide)
     refine hl_less (l' := [boxE b13 #[.int .i64 ((n.gs.getD (((xs.getD i 0) - n.fst).toNat) an0).a), .int .i64 ((n.gs.getD (((xs.getD i 0) - n.fst).toNat) an0).b)] 80, bigE (rs.map cPart), rowE 26 1 u rs.length (rs.flatMap crowC), rowE 3 1 v7 xs.length (xs.map (Value.int .i64)), boxE b6 #[.int .i64 n.cnt, u] 42, boxE b2 #[.int .i64 0, .slice none 0 0] 42, boxE b1 #[.int .i64 n.ins, n.sv, n.av, n.ov] 28]) (sx 0 rfl (sx 1 rfl (sx 2 rfl (sx 4 rfl (sx 5 rfl (sx 6 rfl (sx 8 rfl (sx 9 rfl (sx 24 rfl (sx 34 rfl (sx 35 rfl (sx 36 rfl (sx 37 rfl (sx 43 rfl (sx 53 (congrArg some e1.1) (sx 56 (congrArg some e4.1) (sx 59 (congrArg some e7.1) (sub_nil _)))))))))))))))))) (List.sublist_append_right _ _) ?_
     simp only [List.drop_succ_cons, List.drop_zero]
     refine hl_v rfl rfl rfl (rv_ev rfl) ?_
     refine hl_v rfl rfl rfl (rv_ev rfl) ?_
     refine hl_v rfl rfl rfl (rv_ev rfl) ?_
     refine hl_less (sx 0 rfl (sx 1 rfl (sx 2 rfl (sx 4 rfl (sx 5 rfl (sx 6 rfl (sx 8 rfl (sx 9 rfl (sx 10 rfl (sx 11 rfl (sx 12 rfl (sx 24 rfl (sx 34 rfl (sx 35 rfl (sx 36 rfl (sx 37 rfl (sx 43 rfl (sub_nil _)))))))))))))))))) (.refl _) ?_
     refine hl_nil ?_
     refine hq_then ?_
     refine hc_region ?_
     refine hl_v rfl rfl rfl (rv_field (k0 := 1) rfl (by kernel_rfl) rfl) ?_
     refine hl_v rfl rfl rfl (rv_load rfl (by kernel_rfl) rfl (box_cell 4 rfl rfl)) ?_
     refine hl_v rfl rfl rfl (rv_ev rfl) ?_
     refine hl_v rfl rfl rfl (rv_neg rfl rfl (by omega) (by omega)) ?_
     refine hl_v rfl rfl rfl (rv_ev rfl) ?_
     refine hl_row rfl rfl rfl (rq_buildSlice (z := .int .i64 0) (s := 1) (cs := ([-((xs.getD i 0) + 1), lvI ((n.gs.getD (((xs.getD i 0) - n.fst).toNat) an0).a)].map (Value.int .i64))) rfl Try.underlying26 (by kernel_rfl) (by decide) rfl (by kernel_rfl) rfl) ?_
     intro g14
     refine hl_v rfl rfl rfl (rv_ev rfl) ?_
     refine hl_v rfl rfl rfl (rv_neg rfl rfl (by omega) (by omega)) ?_
     refine hl_v rfl rfl rfl (rv_ev rfl) ?_
     refine hl_row rfl rfl rfl (rq_buildSlice (z := .int .i64 0) (s := 1) (cs := ([-((xs.getD i 0) + 1), lvI ((n.gs.getD (((xs.getD i 0) - n.fst).toNat) an0).b)].map (Value.int .i64))) rfl Try.underlying26 (by kernel_rfl) (by decide) rfl (by kernel_rfl) rfl) ?_
     intro g15
     refine hl_v rfl rfl rfl (rv_ev rfl) ?_
     refine hl_v rfl rfl rfl (rv_ev rfl) ?_
     refine hl_v rfl rfl rfl (rv_neg rfl rfl (by omega) (by omega)) ?_
     refine hl_v rfl rfl rfl (rv_ev rfl) ?_
     refine hl_v rfl rfl rfl (rv_neg rfl rfl (by omega) (by omega)) ?_
     refine hl_row rfl rfl rfl (rq_buildSlice (z := .int .i64 0) (s := 1) (cs := ([(xs.getD i 0) + 1, -(lvI ((n.gs.getD (((xs.getD i 0) - n.fst).toNat) an0).a)), -(lvI ((n.gs.getD (((xs.getD i 0) - n.fst).toNat) an0).b))].map (Value.int .i64))) rfl Try.underlying26 (by kernel_rfl) (by decide) rfl (by kernel_rfl) rfl) ?_
     intro g16
     refine hl_row rfl rfl rfl (rq_buildSlice (z := .slice none 0 0) (s := 1) (cs := [.slice (some ⟨g14, 0, none⟩) 2 2, .slice (some ⟨g15, 0, none⟩) 2 2, .slice (some ⟨g16, 0, none⟩) 3 3]) rfl Try.underlying40 (by kernel_rfl) (by decide) rfl (by kernel_rfl) rfl) ?_
     intro g17
     refine hl_append (i := 6) (z := .slice none 0 0) (bytes := 24) (n' := (rs ++ [(CRow.mk (.slice (some ⟨g14, 0, none⟩) 2 2) ([-((xs.getD i 0) + 1), lvI ((n.gs.getD (((xs.getD i 0) - n.fst).toNat) an0).a)])), (CRow.mk (.slice (some ⟨g15, 0, none⟩) 2 2) ([-((xs.getD i 0) + 1), lvI ((n.gs.getD (((xs.getD i 0) - n.fst).toNat) an0).b)])), (CRow.mk (.slice (some ⟨g16, 0, none⟩) 3 3) ([(xs.getD i 0) + 1, -(lvI ((n.gs.getD (((xs.getD i 0) - n.fst).toNat) an0).a)), -(lvI ((n.gs.getD (((xs.getD i 0) - n.fst).toNat) an0).b))]))]).length) (xs' := ((rs ++ [(CRow.mk (.slice (some ⟨g14, 0, none⟩) 2 2) ([-((xs.getD i 0) + 1), lvI ((n.gs.getD (((xs.getD i 0) - n.fst).toNat) an0).a)])), (CRow.mk (.slice (some ⟨g15, 0, none⟩) 2 2) ([-((xs.getD i 0) + 1), lvI ((n.gs.getD (((xs.getD i 0) - n.fst).toNat) an0).b)])), (CRow.mk (.slice (some ⟨g16, 0, none⟩) 3 3) ([(xs.getD i 0) + 1, -(lvI ((n.gs.getD (((xs.getD i 0) - n.fst).toNat) an0).a)), -(lvI ((n.gs.getD (((xs.getD i 0) - n.fst).toNat) an0).b))]))]).flatMap crowC)) (L := fun v18 => [rowE 26 1 (.slice (some ⟨g17, 0, none⟩) 3 3) 3 ([.slice (some ⟨g14, 0, none⟩) 2 2, .slice (some ⟨g15, 0, none⟩) 2 2, .slice (some ⟨g16, 0, none⟩) 3 3]), rowE 3 1 (.slice (some ⟨g16, 0, none⟩) 3 3) 3 ([(xs.getD i 0) + 1, -(lvI ((n.gs.getD (((xs.getD i 0) - n.fst).toNat) an0).a)), -(lvI ((n.gs.getD (((xs.getD i 0) - n.fst).toNat) an0).b))].map (Value.int .i64)), rowE 3 1 (.slice (some ⟨g15, 0, none⟩) 2 2) 2 ([-((xs.getD i 0) + 1), lvI ((n.gs.getD (((xs.getD i 0) - n.fst).toNat) an0).b)].map (Value.int .i64)), rowE 3 1 (.slice (some ⟨g14, 0, none⟩) 2 2) 2 ([-((xs.getD i 0) + 1), lvI ((n.gs.getD (((xs.getD i 0) - n.fst).toNat) an0).a)].map (Value.int .i64)), boxE b13 #[.int .i64 ((n.gs.getD (((xs.getD i 0) - n.fst).toNat) an0).a), .int .i64 ((n.gs.getD (((xs.getD i 0) - n.fst).toNat) an0).b)] 80, bigE (rs.map cPart), rowE 26 1 v18 ((rs ++ [(CRow.mk (.slice (some ⟨g14, 0, none⟩) 2 2) ([-((xs.getD i 0) + 1), lvI ((n.gs.getD (((xs.getD i 0) - n.fst).toNat) an0).a)])), (CRow.mk (.slice (some ⟨g15, 0, none⟩) 2 2) ([-((xs.getD i 0) + 1), lvI ((n.gs.getD (((xs.getD i 0) - n.fst).toNat) an0).b)])), (CRow.mk (.slice (some ⟨g16, 0, none⟩) 3 3) ([(xs.getD i 0) + 1, -(lvI ((n.gs.getD (((xs.getD i 0) - n.fst).toNat) an0).a)), -(lvI ((n.gs.getD (((xs.getD i 0) - n.fst).toNat) an0).b))]))]).length) ((rs ++ [(CRow.mk (.slice (some ⟨g14, 0, none⟩) 2 2) ([-((xs.getD i 0) + 1), lvI ((n.gs.getD (((xs.getD i 0) - n.fst).toNat) an0).a)])), (CRow.mk (.slice (some ⟨g15, 0, none⟩) 2 2) ([-((xs.getD i 0) + 1), lvI ((n.gs.getD (((xs.getD i 0) - n.fst).toNat) an0).b)])), (CRow.mk (.slice (some ⟨g16, 0, none⟩) 3 3) ([(xs.getD i 0) + 1, -(lvI ((n.gs.getD (((xs.getD i 0) - n.fst).toNat) an0).a)), -(lvI ((n.gs.getD (((xs.getD i 0) - n.fst).toNat) an0).b))]))]).flatMap crowC), rowE 3 1 v7 xs.length (xs.map (Value.int .i64)), boxE b6 #[.int .i64 n.cnt, u] 42, boxE b2 #[.int .i64 0, .slice none 0 0] 42, boxE b1 #[.int .i64 n.ins, n.sv, n.av, n.ov] 28]) rfl rfl rfl rfl Try.underlying40 (by kernel_rfl) (by kernel_rfl) rfl rfl rfl (rd_row 0 rfl) (by simp [Value.oneCell']) (by simp; omega) (len_app rs [(CRow.mk (.slice (some ⟨g14, 0, none⟩) 2 2) ([-((xs.getD i 0) + 1), lvI ((n.gs.getD (((xs.getD i 0) - n.fst).toNat) an0).a)])), (CRow.mk (.slice (some ⟨g15, 0, none⟩) 2 2) ([-((xs.getD i 0) + 1), lvI ((n.gs.getD (((xs.getD i 0) - n.fst).toNat) an0).b)])), (CRow.mk (.slice (some ⟨g16, 0, none⟩) 3 3) ([(xs.getD i 0) + 1, -(lvI ((n.gs.getD (((xs.getD i 0) - n.fst).toNat) an0).a)), -(lvI ((n.gs.getD (((xs.getD i 0) - n.fst).toNat) an0).b))]))]) (by rw [List.flatMap_append]; rfl) (fun _ => rfl) ?_
     intro v18
     refine hl_v rfl rfl rfl (rv_field (k0 := 1) rfl (by kernel_rfl) rfl) ?_
     refine hl_one (i := 6) rfl (fun ho19 => ?_)
     refine hl_storeBox (i := 8) (l' := [rowE 26 1 (.slice (some ⟨g17, 0, none⟩) 3 3) 3 ([.slice (some ⟨g14, 0, none⟩) 2 2, .slice (some ⟨g15, 0, none⟩) 2 2, .slice (some ⟨g16, 0, none⟩) 3 3]), rowE 3 1 (.slice (some ⟨g16, 0, none⟩) 3 3) 3 ([(xs.getD i 0) + 1, -(lvI ((n.gs.getD (((xs.getD i 0) - n.fst).toNat) an0).a)), -(lvI ((n.gs.getD (((xs.getD i 0) - n.fst).toNat) an0).b))].map (Value.int .i64)), rowE 3 1 (.slice (some ⟨g15, 0, none⟩) 2 2) 2 ([-((xs.getD i 0) + 1), lvI ((n.gs.getD (((xs.getD i 0) - n.fst).toNat) an0).b)].map (Value.int .i64)), rowE 3 1 (.slice (some ⟨g14, 0, none⟩) 2 2) 2 ([-((xs.getD i 0) + 1), lvI ((n.gs.getD (((xs.getD i 0) - n.fst).toNat) an0).a)].map (Value.int .i64)), boxE b13 #[.int .i64 ((n.gs.getD (((xs.getD i 0) - n.fst).toNat) an0).a), .int .i64 ((n.gs.getD (((xs.getD i 0) - n.fst).toNat) an0).b)] 80, bigE (rs.map cPart), rowE 26 1 v18 ((rs ++ [(CRow.mk (.slice (some ⟨g14, 0, none⟩) 2 2) ([-((xs.getD i 0) + 1), lvI ((n.gs.getD (((xs.getD i 0) - n.fst).toNat) an0).a)])), (CRow.mk (.slice (some ⟨g15, 0, none⟩) 2 2) ([-((xs.getD i 0) + 1), lvI ((n.gs.getD (((xs.getD i 0) - n.fst).toNat) an0).b)])), (CRow.mk (.slice (some ⟨g16, 0, none⟩) 3 3) ([(xs.getD i 0) + 1, -(lvI ((n.gs.getD (((xs.getD i 0) - n.fst).toNat) an0).a)), -(lvI ((n.gs.getD (((xs.getD i 0) - n.fst).toNat) an0).b))]))]).length) ((rs ++ [(CRow.mk (.slice (some ⟨g14, 0, none⟩) 2 2) ([-((xs.getD i 0) + 1), lvI ((n.gs.getD (((xs.getD i 0) - n.fst).toNat) an0).a)])), (CRow.mk (.slice (some ⟨g15, 0, none⟩) 2 2) ([-((xs.getD i 0) + 1), lvI ((n.gs.getD (((xs.getD i 0) - n.fst).toNat) an0).b)])), (CRow.mk (.slice (some ⟨g16, 0, none⟩) 3 3) ([(xs.getD i 0) + 1, -(lvI ((n.gs.getD (((xs.getD i 0) - n.fst).toNat) an0).a)), -(lvI ((n.gs.getD (((xs.getD i 0) - n.fst).toNat) an0).b))]))]).flatMap crowC), rowE 3 1 v7 xs.length (xs.map (Value.int .i64)), boxE b6 #[.int .i64 n.cnt, v18] 42, boxE b2 #[.int .i64 0, .slice none 0 0] 42, boxE b1 #[.int .i64 n.ins, n.sv, n.av, n.ov] 28]) rfl rfl rfl (by kernel_rfl) rfl rfl ho19 rfl rfl rfl ?_
     refine hl_less (sx 0 rfl (sx 1 rfl (sx 2 rfl (sx 4 rfl (sx 5 rfl (sx 6 rfl (sx 8 rfl (sx 9 rfl (sx 10 rfl (sx 11 rfl (sx 12 rfl (sx 24 rfl (sx 34 rfl (sx 35 rfl (sx 36 rfl (sx 37 rfl (sx 43 rfl (sub_nil _)))))))))))))))))) (.refl _) ?_
     refine hl_nil ?_
     refine hq_block_normal ?_
     refine hq_then ?_
     refine hc_region ?_
     refine hl_v rfl rfl rfl (rv_add rfl rfl rfl (by constructor <;> omega)) ?_
     refine hl_v rfl rfl rfl (rv_ev rfl) ?_
     refine hl_less (sx 0 rfl (sx 1 rfl (sx 2 rfl (sx 4 rfl (sx 5 rfl (sx 6 rfl (sx 8 rfl (sx 9 rfl (sx 10 rfl (sx 11 rfl (sx 12 rfl (sx 24 rfl (sx 34 rfl (sx 35 rfl (sx 36 rfl (sx 37 rfl (sx 43 rfl (sub_nil _)))))))))))))))))) (.refl _) ?_
     refine hl_nil ?_
     refine hq_conv [bigE (rs.map cPart), rowE 3 1 (.slice (some ⟨g14, 0, none⟩) 2 2) 2 ([-((xs.getD i 0) + 1), lvI ((n.gs.getD (((xs.getD i 0) - n.fst).toNat) an0).a)].map (Value.int .i64)), rowE 3 1 (.slice (some ⟨g15, 0, none⟩) 2 2) 2 ([-((xs.getD i 0) + 1), lvI ((n.gs.getD (((xs.getD i 0) - n.fst).toNat) an0).b)].map (Value.int .i64)), rowE 3 1 (.slice (some ⟨g16, 0, none⟩) 3 3) 3 ([(xs.getD i 0) + 1, -(lvI ((n.gs.getD (((xs.getD i 0) - n.fst).toNat) an0).a)), -(lvI ((n.gs.getD (((xs.getD i 0) - n.fst).toNat) an0).b))].map (Value.int .i64)), rowE 26 1 (.slice (some ⟨g17, 0, none⟩) 3 3) 3 ([.slice (some ⟨g14, 0, none⟩) 2 2, .slice (some ⟨g15, 0, none⟩) 2 2, .slice (some ⟨g16, 0, none⟩) 3 3]), boxE b13 #[.int .i64 ((n.gs.getD (((xs.getD i 0) - n.fst).toNat) an0).a), .int .i64 ((n.gs.getD (((xs.getD i 0) - n.fst).toNat) an0).b)] 80, rowE 26 1 v18 ((rs ++ [(CRow.mk (.slice (some ⟨g14, 0, none⟩) 2 2) ([-((xs.getD i 0) + 1), lvI ((n.gs.getD (((xs.getD i 0) - n.fst).toNat) an0).a)])), (CRow.mk (.slice (some ⟨g15, 0, none⟩) 2 2) ([-((xs.getD i 0) + 1), lvI ((n.gs.getD (((xs.getD i 0) - n.fst).toNat) an0).b)])), (CRow.mk (.slice (some ⟨g16, 0, none⟩) 3 3) ([(xs.getD i 0) + 1, -(lvI ((n.gs.getD (((xs.getD i 0) - n.fst).toNat) an0).a)), -(lvI ((n.gs.getD (((xs.getD i 0) - n.fst).toNat) an0).b))]))]).length) ((rs ++ [(CRow.mk (.slice (some ⟨g14, 0, none⟩) 2 2) ([-((xs.getD i 0) + 1), lvI ((n.gs.getD (((xs.getD i 0) - n.fst).toNat) an0).a)])), (CRow.mk (.slice (some ⟨g15, 0, none⟩) 2 2) ([-((xs.getD i 0) + 1), lvI ((n.gs.getD (((xs.getD i 0) - n.fst).toNat) an0).b)])), (CRow.mk (.slice (some ⟨g16, 0, none⟩) 3 3) ([(xs.getD i 0) + 1, -(lvI ((n.gs.getD (((xs.getD i 0) - n.fst).toNat) an0).a)), -(lvI ((n.gs.getD (((xs.getD i 0) - n.fst).toNat) an0).b))]))]).flatMap crowC), rowE 3 1 v7 xs.length (xs.map (Value.int .i64)), boxE b6 #[.int .i64 n.cnt, v18] 42, boxE b2 #[.int .i64 0, .slice none 0 0] 42, boxE b1 #[.int .i64 n.ins, n.sv, n.av, n.ov] 28] (conv_pick (src := [rowE 26 1 (.slice (some ⟨g17, 0, none⟩) 3 3) 3 ([.slice (some ⟨g14, 0, none⟩) 2 2, .slice (some ⟨g15, 0, none⟩) 2 2, .slice (some ⟨g16, 0, none⟩) 3 3]), rowE 3 1 (.slice (some ⟨g16, 0, none⟩) 3 3) 3 ([(xs.getD i 0) + 1, -(lvI ((n.gs.getD (((xs.getD i 0) - n.fst).toNat) an0).a)), -(lvI ((n.gs.getD (((xs.getD i 0) - n.fst).toNat) an0).b))].map (Value.int .i64)), rowE 3 1 (.slice (some ⟨g15, 0, none⟩) 2 2) 2 ([-((xs.getD i 0) + 1), lvI ((n.gs.getD (((xs.getD i 0) - n.fst).toNat) an0).b)].map (Value.int .i64)), rowE 3 1 (.slice (some ⟨g14, 0, none⟩) 2 2) 2 ([-((xs.getD i 0) + 1), lvI ((n.gs.getD (((xs.getD i 0) - n.fst).toNat) an0).a)].map (Value.int .i64)), boxE b13 #[.int .i64 ((n.gs.getD (((xs.getD i 0) - n.fst).toNat) an0).a), .int .i64 ((n.gs.getD (((xs.getD i 0) - n.fst).toNat) an0).b)] 80, bigE (rs.map cPart), rowE 26 1 v18 ((rs ++ [(CRow.mk (.slice (some ⟨g14, 0, none⟩) 2 2) ([-((xs.getD i 0) + 1), lvI ((n.gs.getD (((xs.getD i 0) - n.fst).toNat) an0).a)])), (CRow.mk (.slice (some ⟨g15, 0, none⟩) 2 2) ([-((xs.getD i 0) + 1), lvI ((n.gs.getD (((xs.getD i 0) - n.fst).toNat) an0).b)])), (CRow.mk (.slice (some ⟨g16, 0, none⟩) 3 3) ([(xs.getD i 0) + 1, -(lvI ((n.gs.getD (((xs.getD i 0) - n.fst).toNat) an0).a)), -(lvI ((n.gs.getD (((xs.getD i 0) - n.fst).toNat) an0).b))]))]).length) ((rs ++ [(CRow.mk (.slice (some ⟨g14, 0, none⟩) 2 2) ([-((xs.getD i 0) + 1), lvI ((n.gs.getD (((xs.getD i 0) - n.fst).toNat) an0).a)])), (CRow.mk (.slice (some ⟨g15, 0, none⟩) 2 2) ([-((xs.getD i 0) + 1), lvI ((n.gs.getD (((xs.getD i 0) - n.fst).toNat) an0).b)])), (CRow.mk (.slice (some ⟨g16, 0, none⟩) 3 3) ([(xs.getD i 0) + 1, -(lvI ((n.gs.getD (((xs.getD i 0) - n.fst).toNat) an0).a)), -(lvI ((n.gs.getD (((xs.getD i 0) - n.fst).toNat) an0).b))]))]).flatMap crowC), rowE 3 1 v7 xs.length (xs.map (Value.int .i64)), boxE b6 #[.int .i64 n.cnt, v18] 42, boxE b2 #[.int .i64 0, .slice none 0 0] 42, boxE b1 #[.int .i64 n.ins, n.sv, n.av, n.ov] 28]) (dst := [bigE (rs.map cPart), rowE 3 1 (.slice (some ⟨g14, 0, none⟩) 2 2) 2 ([-((xs.getD i 0) + 1), lvI ((n.gs.getD (((xs.getD i 0) - n.fst).toNat) an0).a)].map (Value.int .i64)), rowE 3 1 (.slice (some ⟨g15, 0, none⟩) 2 2) 2 ([-((xs.getD i 0) + 1), lvI ((n.gs.getD (((xs.getD i 0) - n.fst).toNat) an0).b)].map (Value.int .i64)), rowE 3 1 (.slice (some ⟨g16, 0, none⟩) 3 3) 3 ([(xs.getD i 0) + 1, -(lvI ((n.gs.getD (((xs.getD i 0) - n.fst).toNat) an0).a)), -(lvI ((n.gs.getD (((xs.getD i 0) - n.fst).toNat) an0).b))].map (Value.int .i64)), rowE 26 1 (.slice (some ⟨g17, 0, none⟩) 3 3) 3 ([.slice (some ⟨g14, 0, none⟩) 2 2, .slice (some ⟨g15, 0, none⟩) 2 2, .slice (some ⟨g16, 0, none⟩) 3 3]), boxE b13 #[.int .i64 ((n.gs.getD (((xs.getD i 0) - n.fst).toNat) an0).a), .int .i64 ((n.gs.getD (((xs.getD i 0) - n.fst).toNat) an0).b)] 80, rowE 26 1 v18 ((rs ++ [(CRow.mk (.slice (some ⟨g14, 0, none⟩) 2 2) ([-((xs.getD i 0) + 1), lvI ((n.gs.getD (((xs.getD i 0) - n.fst).toNat) an0).a)])), (CRow.mk (.slice (some ⟨g15, 0, none⟩) 2 2) ([-((xs.getD i 0) + 1), lvI ((n.gs.getD (((xs.getD i 0) - n.fst).toNat) an0).b)])), (CRow.mk (.slice (some ⟨g16, 0, none⟩) 3 3) ([(xs.getD i 0) + 1, -(lvI ((n.gs.getD (((xs.getD i 0) - n.fst).toNat) an0).a)), -(lvI ((n.gs.getD (((xs.getD i 0) - n.fst).toNat) an0).b))]))]).length) ((rs ++ [(CRow.mk (.slice (some ⟨g14, 0, none⟩) 2 2) ([-((xs.getD i 0) + 1), lvI ((n.gs.getD (((xs.getD i 0) - n.fst).toNat) an0).a)])), (CRow.mk (.slice (some ⟨g15, 0, none⟩) 2 2) ([-((xs.getD i 0) + 1), lvI ((n.gs.getD (((xs.getD i 0) - n.fst).toNat) an0).b)])), (CRow.mk (.slice (some ⟨g16, 0, none⟩) 3 3) ([(xs.getD i 0) + 1, -(lvI ((n.gs.getD (((xs.getD i 0) - n.fst).toNat) an0).a)), -(lvI ((n.gs.getD (((xs.getD i 0) - n.fst).toNat) an0).b))]))]).flatMap crowC), rowE 3 1 v7 xs.length (xs.map (Value.int .i64)), boxE b6 #[.int .i64 n.cnt, v18] 42, boxE b2 #[.int .i64 0, .slice none 0 0] 42, boxE b1 #[.int .i64 n.ins, n.sv, n.av, n.ov] 28]) (l := []) [5, 3, 2, 1, 0, 4, 6, 7, 8, 9, 10] (by decide) rfl) ?_
     refine hq_conv [bigE ((rs ++ [(CRow.mk (.slice (some ⟨g14, 0, none⟩) 2 2) ([-((xs.getD i 0) + 1), lvI ((n.gs.getD (((xs.getD i 0) - n.fst).toNat) an0).a)])), (CRow.mk (.slice (some ⟨g15, 0, none⟩) 2 2) ([-((xs.getD i 0) + 1), lvI ((n.gs.getD (((xs.getD i 0) - n.fst).toNat) an0).b)])), (CRow.mk (.slice (some ⟨g16, 0, none⟩) 3 3) ([(xs.getD i 0) + 1, -(lvI ((n.gs.getD (((xs.getD i 0) - n.fst).toNat) an0).a)), -(lvI ((n.gs.getD (((xs.getD i 0) - n.fst).toNat) an0).b))]))]).map cPart), rowE 26 1 (.slice (some ⟨g17, 0, none⟩) 3 3) 3 ([.slice (some ⟨g14, 0, none⟩) 2 2, .slice (some ⟨g15, 0, none⟩) 2 2, .slice (some ⟨g16, 0, none⟩) 3 3]), boxE b13 #[.int .i64 ((n.gs.getD (((xs.getD i 0) - n.fst).toNat) an0).a), .int .i64 ((n.gs.getD (((xs.getD i 0) - n.fst).toNat) an0).b)] 80, rowE 26 1 v18 ((rs ++ [(CRow.mk (.slice (some ⟨g14, 0, none⟩) 2 2) ([-((xs.getD i 0) + 1), lvI ((n.gs.getD (((xs.getD i 0) - n.fst).toNat) an0).a)])), (CRow.mk (.slice (some ⟨g15, 0, none⟩) 2 2) ([-((xs.getD i 0) + 1), lvI ((n.gs.getD (((xs.getD i 0) - n.fst).toNat) an0).b)])), (CRow.mk (.slice (some ⟨g16, 0, none⟩) 3 3) ([(xs.getD i 0) + 1, -(lvI ((n.gs.getD (((xs.getD i 0) - n.fst).toNat) an0).a)), -(lvI ((n.gs.getD (((xs.getD i 0) - n.fst).toNat) an0).b))]))]).length) ((rs ++ [(CRow.mk (.slice (some ⟨g14, 0, none⟩) 2 2) ([-((xs.getD i 0) + 1), lvI ((n.gs.getD (((xs.getD i 0) - n.fst).toNat) an0).a)])), (CRow.mk (.slice (some ⟨g15, 0, none⟩) 2 2) ([-((xs.getD i 0) + 1), lvI ((n.gs.getD (((xs.getD i 0) - n.fst).toNat) an0).b)])), (CRow.mk (.slice (some ⟨g16, 0, none⟩) 3 3) ([(xs.getD i 0) + 1, -(lvI ((n.gs.getD (((xs.getD i 0) - n.fst).toNat) an0).a)), -(lvI ((n.gs.getD (((xs.getD i 0) - n.fst).toNat) an0).b))]))]).flatMap crowC), rowE 3 1 v7 xs.length (xs.map (Value.int .i64)), boxE b6 #[.int .i64 n.cnt, v18] 42, boxE b2 #[.int .i64 0, .slice none 0 0] 42, boxE b1 #[.int .i64 n.ins, n.sv, n.av, n.ov] 28] (fun w hm => by rw [List.map_append]; exact conv_snoc3 w hm) ?_
     have hrm : (rs ++ [(CRow.mk (.slice (some ⟨g14, 0, none⟩) 2 2) ([-((xs.getD i 0) + 1), lvI ((n.gs.getD (((xs.getD i 0) - n.fst).toNat) an0).a)])), (CRow.mk (.slice (some ⟨g15, 0, none⟩) 2 2) ([-((xs.getD i 0) + 1), lvI ((n.gs.getD (((xs.getD i 0) - n.fst).toNat) an0).b)])), (CRow.mk (.slice (some ⟨g16, 0, none⟩) 3 3) ([(xs.getD i 0) + 1, -(lvI ((n.gs.getD (((xs.getD i 0) - n.fst).toNat) an0).a)), -(lvI ((n.gs.getD (((xs.getD i 0) - n.fst).toNat) an0).b))]))]).map CRow.xs = ncL n xs (i + 1) := by rw [List.map_append, hrs, ← ncL_yes (by omega) (by assumption)]; rfl
     exact hq_round3 (i + 1) v18 (rs ++ [(CRow.mk (.slice (some ⟨g14, 0, none⟩) 2 2) ([-((xs.getD i 0) + 1), lvI ((n.gs.getD (((xs.getD i 0) - n.fst).toNat) an0).a)])), (CRow.mk (.slice (some ⟨g15, 0, none⟩) 2 2) ([-((xs.getD i 0) + 1), lvI ((n.gs.getD (((xs.getD i 0) - n.fst).toNat) an0).b)])), (CRow.mk (.slice (some ⟨g16, 0, none⟩) 3 3) ([(xs.getD i 0) + 1, -(lvI ((n.gs.getD (((xs.getD i 0) - n.fst).toNat) an0).a)), -(lvI ((n.gs.getD (((xs.getD i 0) - n.fst).toNat) an0).b))]))]) ⟨by omega, hrm⟩ (by omega) (sx 0 rfl (sx 1 rfl (sx 2 rfl (sx 4 rfl (sx 5 rfl (sx 6 rfl (sx 24 rfl (sx 34 rfl (sx 35 rfl (sx 36 rfl (sub_nil _))))))))))) ((.cons_cons _ (.cons _ (.cons _ (.cons_cons _ (.cons_cons _ (.cons_cons _ (.cons_cons _ (.cons_cons _ .slnil)))))))))
  ·
   refine hl_v rfl rfl rfl (rv_ev rfl) ?_
   refine hl_less (sx 0 rfl (sx 1 rfl (sx 2 rfl (sx 4 rfl (sx 5 rfl (sx 6 rfl (sx 8 rfl (sx 24 rfl (sx 34 rfl (sx 35 rfl (sx 36 rfl (sx 37 rfl (sx 43 rfl (sub_nil _)))))))))))))) (.refl _) ?_
   refine hl_nil ?_
   refine hq_then ?_
   refine hc_true rfl ?_
   refine hc_exit ?_
   refine hq_then_exit ?_
   refine hq_block_exit ?_
   refine hq_then ?_
   refine hc_region ?_
   refine hl_v rfl rfl rfl (rv_add rfl rfl rfl (by constructor <;> omega)) ?_
   refine hl_v rfl rfl rfl (rv_ev rfl) ?_
   refine hl_less (sx 0 rfl (sx 1 rfl (sx 2 rfl (sx 4 rfl (sx 5 rfl (sx 6 rfl (sx 8 rfl (sx 24 rfl (sx 34 rfl (sx 35 rfl (sx 36 rfl (sx 37 rfl (sx 43 rfl (sub_nil _)))))))))))))) (.refl _) ?_
   refine hl_nil ?_
   exact hq_round3 (i + 1) u rs ⟨by omega, by rw [hrs]; exact ncL_no (by omega) (by assumption)⟩ (by omega) (sx 0 rfl (sx 1 rfl (sx 2 rfl (sx 4 rfl (sx 5 rfl (sx 6 rfl (sx 24 rfl (sx 34 rfl (sx 35 rfl (sx 36 rfl (sub_nil _))))))))))) ((.cons_cons _ (.cons_cons _ (.cons_cons _ (.cons_cons _ (.cons_cons _ (.cons_cons _ .slnil)))))))
 ·
  refine hl_less (sx 0 rfl (sx 1 rfl (sx 2 rfl (sx 4 rfl (sx 5 rfl (sx 6 rfl (sx 24 rfl (sx 34 rfl (sx 35 rfl (sx 36 rfl (sx 37 rfl (sub_nil _)))))))))))) (.refl _) ?_
  refine hl_nil ?_
  refine hq_then ?_
  refine hc_seq ?_
  refine hc_false rfl ?_
  refine hc_exit ?_
  refine hq_then_exit ?_
  refine hq_then_exit ?_
  refine hq_block_exit ?_
  refine hq_then ?_
  refine hc_seq ?_
  refine hc_draw (by kernel_rfl) 6 [0, 1, 2, 3, 4, 5] (List.take 6 _) (List.drop 6 _) [[], [0], [], [2], [3], [4]] [80, 81, 82, 83, 84, 85] (fun i_ vs_ v_ p_ => match i_ with | 0 => v_ = .pointer (some ⟨b6, 0 + 1, none⟩) ∧ p_ = [] | 1 => v_ = u ∧ p_ = [] | 2 => v_ = .int .i64 lit ∧ p_ = [] | 3 => v_ = .int .i64 (lvI lit) ∧ p_ = [] | 4 => IsRow_o 3 1 1 ([lvI lit].map (Value.int .i64)) v_ p_ | 5 => IsRow_o 26 1 1 ([(List.getD vs_ 0 undef)]) v_ p_ | _ => True) (List.take_append_drop 6 _).symm (by kernel_rfl) (by kernel_rfl) rfl rfl ?_ ?_
  ·
   refine ⟨?_, ?_, ?_, ?_, ?_, ?_, trivial⟩
   ·
    intro vf pf hR
    refine Or.inl ⟨rfl, ?_⟩
    refine rq_less (sx 6 rfl (sub_nil _)) (List.sublist_append_right _ _) ?_
    exact rq_v (rv_field (k0 := 1) rfl (by kernel_rfl) rfl)
   ·
    intro vf pf hR
    have e0 : (vf 0) = .pointer (some ⟨b6, 0 + 1, none⟩) ∧ (pf 0) = [] := hR 0 (by decide)
    refine Or.inl ⟨rfl, ?_⟩
    refine rq_less (sx 80 (congrArg some e0.1) (sub_nil _)) (List.sublist_append_right _ _) ?_
    exact rq_v (rv_load rfl (by kernel_rfl) rfl (box_cell 3 rfl rfl))
   ·
    intro vf pf hR
    refine Or.inl ⟨rfl, ?_⟩
    refine rq_less (sx 1 rfl (sub_nil _)) (List.sublist_append_right _ _) ?_
    exact rq_v (rv_ev rfl)
   ·
    intro vf pf hR
    have e2 : (vf 2) = .int .i64 lit ∧ (pf 2) = [] := hR 2 (by decide)
    refine Or.inl ⟨rfl, ?_⟩
    refine rq_less (sx 82 (congrArg some e2.1) (sub_nil _)) (List.sublist_append_right _ _) ?_
    exact (rq_call (by kernel_rfl) rfl (fun w hm => ret_ans (LitVar_ans lit w (by omega))))
   ·
    intro vf pf hR
    have e3 : (vf 3) = .int .i64 (lvI lit) ∧ (pf 3) = [] := hR 3 (by decide)
    refine Or.inl ⟨rfl, ?_⟩
    refine rq_less (sx 83 (congrArg some e3.1) (sub_nil _)) (List.sublist_append_right _ _) ?_
    exact rq_buildSlice (z := .int .i64 0) (s := 1) (cs := ([lvI lit].map (Value.int .i64))) rfl Try.underlying26 (by kernel_rfl) (by decide) rfl (by kernel_rfl) rfl
   ·
    intro vf pf hR
    have e4 : IsRow_o 3 1 1 ([lvI lit].map (Value.int .i64)) (vf 4) (pf 4) := hR 4 (by decide)
    obtain ⟨g20, v4, p4⟩ := e4
    refine Or.inl ⟨rfl, ?_⟩
    refine rq_less (l' := [rowE 3 1 (.slice (some ⟨g20, 0, none⟩) 1 1) 1 ([lvI lit].map (Value.int .i64)), bigE (rs.map cPart), rowE 26 1 u rs.length (rs.flatMap crowC), rowE 3 1 v7 xs.length (xs.map (Value.int .i64)), boxE b6 #[.int .i64 n.cnt, u] 42, boxE b2 #[.int .i64 0, .slice none 0 0] 42, boxE b1 #[.int .i64 n.ins, n.sv, n.av, n.ov] 28]) (sx 84 (congrArg some v4) (sub_nil _)) (by first | (simp only [p4, v4, List.flatMap_cons, List.flatMap_nil, List.append_nil, List.nil_append, List.cons_append]; exact List.Sublist.refl _) | simp [p4, v4]) ?_
    exact rq_mono (rq_buildSlice (z := .slice none 0 0) (s := 1) (cs := [.slice (some ⟨g20, 0, none⟩) 1 1]) rfl Try.underlying40 (by kernel_rfl) (by decide) rfl (by kernel_rfl) rfl) (fun v_ p_ h => by show IsRow_o 26 1 1 ([(vf 4)]) v_ p_; rw [v4]; exact h)
  ·
   intro vf pf hR
   have e1 : (vf 1) = u ∧ (pf 1) = [] := hR 1 (by decide)
   have e4 : IsRow_o 3 1 1 ([lvI lit].map (Value.int .i64)) (vf 4) (pf 4) := hR 4 (by decide)
   obtain ⟨g20, v4, p4⟩ := e4
   have e5 : IsRow_o 26 1 1 ([(vf 4)]) (vf 5) (pf 5) := hR 5 (by decide)
   rw [v4] at e5
   obtain ⟨g21, v5, p5⟩ := e5
   have q0 : (vf 0) = .pointer (some ⟨b6, 0 + 1, none⟩) ∧ (pf 0) = [] := hR 0 (by decide)
   have q1 : (vf 1) = u ∧ (pf 1) = [] := hR 1 (by decide)
   have q2 : (vf 2) = .int .i64 lit ∧ (pf 2) = [] := hR 2 (by decide)
   have q3 : (vf 3) = .int .i64 (lvI lit) ∧ (pf 3) = [] := hR 3 (by decide)
   refine hl_less (l' := [rowE 3 1 (.slice (some ⟨g20, 0, none⟩) 1 1) 1 ([lvI lit].map (Value.int .i64)), rowE 26 1 (.slice (some ⟨g21, 0, none⟩) 1 1) 1 ([.slice (some ⟨g20, 0, none⟩) 1 1]), bigE (rs.map cPart), rowE 26 1 u rs.length (rs.flatMap crowC), rowE 3 1 v7 xs.length (xs.map (Value.int .i64)), boxE b6 #[.int .i64 n.cnt, u] 42, boxE b2 #[.int .i64 0, .slice none 0 0] 42, boxE b1 #[.int .i64 n.ins, n.sv, n.av, n.ov] 28]) (sx 0 rfl (sx 1 rfl (sx 2 rfl (sx 4 rfl (sx 5 rfl (sx 6 rfl (sx 24 rfl (sx 34 rfl (sx 35 rfl (sx 36 rfl (sx 37 rfl (sx 81 (congrArg some e1.1) (sx 85 (congrArg some v5) (sub_nil _)))))))))))))) (by first | (simp only [p4, v4, p5, v5, q0.2, q1.2, q2.2, q3.2, List.flatMap_cons, List.flatMap_nil, List.append_nil, List.nil_append, List.cons_append]; exact List.Sublist.refl _) | simp [p4, v4, p5, v5, q0.2, q1.2, q2.2, q3.2]) ?_
   simp only [List.drop_succ_cons, List.drop_zero]
   refine hl_append (i := 3) (z := .slice none 0 0) (bytes := 24) (n' := (rs ++ [(CRow.mk (.slice (some ⟨g20, 0, none⟩) 1 1) ([lvI lit]))]).length) (xs' := ((rs ++ [(CRow.mk (.slice (some ⟨g20, 0, none⟩) 1 1) ([lvI lit]))]).flatMap crowC)) (L := fun v22 => [rowE 3 1 (.slice (some ⟨g20, 0, none⟩) 1 1) 1 ([lvI lit].map (Value.int .i64)), rowE 26 1 (.slice (some ⟨g21, 0, none⟩) 1 1) 1 ([.slice (some ⟨g20, 0, none⟩) 1 1]), bigE (rs.map cPart), rowE 26 1 v22 ((rs ++ [(CRow.mk (.slice (some ⟨g20, 0, none⟩) 1 1) ([lvI lit]))]).length) ((rs ++ [(CRow.mk (.slice (some ⟨g20, 0, none⟩) 1 1) ([lvI lit]))]).flatMap crowC), rowE 3 1 v7 xs.length (xs.map (Value.int .i64)), boxE b6 #[.int .i64 n.cnt, u] 42, boxE b2 #[.int .i64 0, .slice none 0 0] 42, boxE b1 #[.int .i64 n.ins, n.sv, n.av, n.ov] 28]) rfl rfl rfl rfl Try.underlying40 (by kernel_rfl) (by kernel_rfl) rfl rfl rfl (rd_row 1 rfl) (by simp [Value.oneCell']) (by simp; omega) (len_app rs [(CRow.mk (.slice (some ⟨g20, 0, none⟩) 1 1) ([lvI lit]))]) (by rw [List.flatMap_append]; rfl) (fun _ => rfl) ?_
   intro v22
   refine hl_v rfl rfl rfl (rv_field (k0 := 1) rfl (by kernel_rfl) rfl) ?_
   refine hl_one (i := 3) rfl (fun ho23 => ?_)
   refine hl_storeBox (i := 5) (l' := [rowE 3 1 (.slice (some ⟨g20, 0, none⟩) 1 1) 1 ([lvI lit].map (Value.int .i64)), rowE 26 1 (.slice (some ⟨g21, 0, none⟩) 1 1) 1 ([.slice (some ⟨g20, 0, none⟩) 1 1]), bigE (rs.map cPart), rowE 26 1 v22 ((rs ++ [(CRow.mk (.slice (some ⟨g20, 0, none⟩) 1 1) ([lvI lit]))]).length) ((rs ++ [(CRow.mk (.slice (some ⟨g20, 0, none⟩) 1 1) ([lvI lit]))]).flatMap crowC), rowE 3 1 v7 xs.length (xs.map (Value.int .i64)), boxE b6 #[.int .i64 n.cnt, v22] 42, boxE b2 #[.int .i64 0, .slice none 0 0] 42, boxE b1 #[.int .i64 n.ins, n.sv, n.av, n.ov] 28]) rfl rfl rfl (by kernel_rfl) rfl rfl ho23 rfl rfl rfl ?_
   refine hl_less (sx 0 rfl (sx 1 rfl (sx 2 rfl (sx 4 rfl (sx 5 rfl (sx 6 rfl (sx 24 rfl (sx 34 rfl (sx 35 rfl (sx 36 rfl (sx 37 rfl (sub_nil _)))))))))))) (.refl _) ?_
   refine hl_nil ?_
   refine hq_then ?_
   refine hc_seq ?_
   refine hc_region ?_
   refine hl_v rfl rfl rfl (rv_loadN (cs := [.int .i64 n.cnt, v22]) rfl (by kernel_rfl) (by kernel_rfl) rfl rfl (box_part 5 rfl 0 rfl)) ?_
   refine hl_storeBoxN (i := 6) (off := 0) (us := [.int .i64 n.cnt, v22])  (l' := [rowE 3 1 (.slice (some ⟨g20, 0, none⟩) 1 1) 1 ([lvI lit].map (Value.int .i64)), rowE 26 1 (.slice (some ⟨g21, 0, none⟩) 1 1) 1 ([.slice (some ⟨g20, 0, none⟩) 1 1]), bigE (rs.map cPart), rowE 26 1 v22 ((rs ++ [(CRow.mk (.slice (some ⟨g20, 0, none⟩) 1 1) ([lvI lit]))]).length) ((rs ++ [(CRow.mk (.slice (some ⟨g20, 0, none⟩) 1 1) ([lvI lit]))]).flatMap crowC), rowE 3 1 v7 xs.length (xs.map (Value.int .i64)), boxE b6 #[.int .i64 n.cnt, v22] 42, boxE b2 #[.int .i64 n.cnt, v22] 42, boxE b1 #[.int .i64 n.ins, n.sv, n.av, n.ov] 28]) rfl rfl rfl (by kernel_rfl) rfl rfl rfl (all_cons rfl (all_cons ho23 all_nil)) rfl rfl rfl ?_
   refine hl_v rfl rfl rfl (rv_ev rfl) ?_
   refine hl_less (sx 0 rfl (sx 1 rfl (sx 2 rfl (sx 4 rfl (sx 5 rfl (sx 6 rfl (sx 24 rfl (sx 34 rfl (sx 35 rfl (sx 36 rfl (sx 37 rfl (sub_nil _)))))))))))) (.refl _) ?_
   refine hl_nil ?_
   refine hq_then ?_
   refine hc_ret ?_
   have hix : i = xs.length := by omega
   subst hix
   refine hq_conv [bigE (rs.map cPart), rowE 3 1 (.slice (some ⟨g20, 0, none⟩) 1 1) 1 ([lvI lit].map (Value.int .i64)), rowE 26 1 (.slice (some ⟨g21, 0, none⟩) 1 1) 1 ([.slice (some ⟨g20, 0, none⟩) 1 1]), rowE 26 1 v22 ((rs ++ [(CRow.mk (.slice (some ⟨g20, 0, none⟩) 1 1) ([lvI lit]))]).length) ((rs ++ [(CRow.mk (.slice (some ⟨g20, 0, none⟩) 1 1) ([lvI lit]))]).flatMap crowC), rowE 3 1 v7 xs.length (xs.map (Value.int .i64)), boxE b6 #[.int .i64 n.cnt, v22] 42, boxE b2 #[.int .i64 n.cnt, v22] 42, boxE b1 #[.int .i64 n.ins, n.sv, n.av, n.ov] 28] (conv_pick (src := [rowE 3 1 (.slice (some ⟨g20, 0, none⟩) 1 1) 1 ([lvI lit].map (Value.int .i64)), rowE 26 1 (.slice (some ⟨g21, 0, none⟩) 1 1) 1 ([.slice (some ⟨g20, 0, none⟩) 1 1]), bigE (rs.map cPart), rowE 26 1 v22 ((rs ++ [(CRow.mk (.slice (some ⟨g20, 0, none⟩) 1 1) ([lvI lit]))]).length) ((rs ++ [(CRow.mk (.slice (some ⟨g20, 0, none⟩) 1 1) ([lvI lit]))]).flatMap crowC), rowE 3 1 v7 xs.length (xs.map (Value.int .i64)), boxE b6 #[.int .i64 n.cnt, v22] 42, boxE b2 #[.int .i64 n.cnt, v22] 42, boxE b1 #[.int .i64 n.ins, n.sv, n.av, n.ov] 28]) (dst := [bigE (rs.map cPart), rowE 3 1 (.slice (some ⟨g20, 0, none⟩) 1 1) 1 ([lvI lit].map (Value.int .i64)), rowE 26 1 (.slice (some ⟨g21, 0, none⟩) 1 1) 1 ([.slice (some ⟨g20, 0, none⟩) 1 1]), rowE 26 1 v22 ((rs ++ [(CRow.mk (.slice (some ⟨g20, 0, none⟩) 1 1) ([lvI lit]))]).length) ((rs ++ [(CRow.mk (.slice (some ⟨g20, 0, none⟩) 1 1) ([lvI lit]))]).flatMap crowC), rowE 3 1 v7 xs.length (xs.map (Value.int .i64)), boxE b6 #[.int .i64 n.cnt, v22] 42, boxE b2 #[.int .i64 n.cnt, v22] 42, boxE b1 #[.int .i64 n.ins, n.sv, n.av, n.ov] 28]) (l := []) [2, 0, 1, 3, 4, 5, 6, 7] (by decide) rfl) ?_
   refine hq_conv [bigE ((rs ++ [(CRow.mk (.slice (some ⟨g20, 0, none⟩) 1 1) ([lvI lit]))]).map cPart), rowE 26 1 (.slice (some ⟨g21, 0, none⟩) 1 1) 1 ([.slice (some ⟨g20, 0, none⟩) 1 1]), rowE 26 1 v22 ((rs ++ [(CRow.mk (.slice (some ⟨g20, 0, none⟩) 1 1) ([lvI lit]))]).length) ((rs ++ [(CRow.mk (.slice (some ⟨g20, 0, none⟩) 1 1) ([lvI lit]))]).flatMap crowC), rowE 3 1 v7 xs.length (xs.map (Value.int .i64)), boxE b6 #[.int .i64 n.cnt, v22] 42, boxE b2 #[.int .i64 n.cnt, v22] 42, boxE b1 #[.int .i64 n.ins, n.sv, n.av, n.ov] 28] (fun w hm => by rw [List.map_append]; exact conv_snoc w hm) ?_
   refine hq_oneX (i := 2) rfl (fun oK => ?_)
   refine hq_conv [bigE ((rs ++ [(CRow.mk (.slice (some ⟨g20, 0, none⟩) 1 1) ([lvI lit]))]).map cPart), rowE 26 1 v22 ((rs ++ [(CRow.mk (.slice (some ⟨g20, 0, none⟩) 1 1) ([lvI lit]))]).length) ((rs ++ [(CRow.mk (.slice (some ⟨g20, 0, none⟩) 1 1) ([lvI lit]))]).flatMap crowC), rowE 26 1 (.slice (some ⟨g21, 0, none⟩) 1 1) 1 ([.slice (some ⟨g20, 0, none⟩) 1 1]), rowE 3 1 v7 xs.length (xs.map (Value.int .i64)), boxE b6 #[.int .i64 n.cnt, v22] 42, boxE b2 #[.int .i64 n.cnt, v22] 42, boxE b1 #[.int .i64 n.ins, n.sv, n.av, n.ov] 28] (conv_pick (src := [bigE ((rs ++ [(CRow.mk (.slice (some ⟨g20, 0, none⟩) 1 1) ([lvI lit]))]).map cPart), rowE 26 1 (.slice (some ⟨g21, 0, none⟩) 1 1) 1 ([.slice (some ⟨g20, 0, none⟩) 1 1]), rowE 26 1 v22 ((rs ++ [(CRow.mk (.slice (some ⟨g20, 0, none⟩) 1 1) ([lvI lit]))]).length) ((rs ++ [(CRow.mk (.slice (some ⟨g20, 0, none⟩) 1 1) ([lvI lit]))]).flatMap crowC), rowE 3 1 v7 xs.length (xs.map (Value.int .i64)), boxE b6 #[.int .i64 n.cnt, v22] 42, boxE b2 #[.int .i64 n.cnt, v22] 42, boxE b1 #[.int .i64 n.ins, n.sv, n.av, n.ov] 28]) (dst := [bigE ((rs ++ [(CRow.mk (.slice (some ⟨g20, 0, none⟩) 1 1) ([lvI lit]))]).map cPart), rowE 26 1 v22 ((rs ++ [(CRow.mk (.slice (some ⟨g20, 0, none⟩) 1 1) ([lvI lit]))]).length) ((rs ++ [(CRow.mk (.slice (some ⟨g20, 0, none⟩) 1 1) ([lvI lit]))]).flatMap crowC), rowE 26 1 (.slice (some ⟨g21, 0, none⟩) 1 1) 1 ([.slice (some ⟨g20, 0, none⟩) 1 1]), rowE 3 1 v7 xs.length (xs.map (Value.int .i64)), boxE b6 #[.int .i64 n.cnt, v22] 42, boxE b2 #[.int .i64 n.cnt, v22] 42, boxE b1 #[.int .i64 n.ins, n.sv, n.av, n.ov] 28]) (l := []) [0, 2, 1, 3, 4, 5, 6] (by decide) rfl) ?_
   refine hq_conv [clE v22 (rs ++ [(CRow.mk (.slice (some ⟨g20, 0, none⟩) 1 1) ([lvI lit]))]), rowE 26 1 (.slice (some ⟨g21, 0, none⟩) 1 1) 1 ([.slice (some ⟨g20, 0, none⟩) 1 1]), rowE 3 1 v7 xs.length (xs.map (Value.int .i64)), boxE b6 #[.int .i64 n.cnt, v22] 42, boxE b2 #[.int .i64 n.cnt, v22] 42, boxE b1 #[.int .i64 n.ins, n.sv, n.av, n.ov] 28] (fun w hm => Mem.big (ps := [bigE ((rs ++ [(CRow.mk (.slice (some ⟨g20, 0, none⟩) 1 1) ([lvI lit]))]).map cPart), rowE 26 1 v22 ((rs ++ [(CRow.mk (.slice (some ⟨g20, 0, none⟩) 1 1) ([lvI lit]))]).length) ((rs ++ [(CRow.mk (.slice (some ⟨g20, 0, none⟩) 1 1) ([lvI lit]))]).flatMap crowC)]) hm) ?_
   exact hq_retM (rs := [.cell 4 42, .tmp 5]) (vs := [.agg #[.int .i64 n.cnt, v22], .bool true]) (post := [clE v22 (rs ++ [(CRow.mk (.slice (some ⟨g20, 0, none⟩) 1 1) ([lvI lit]))])]) rfl ⟨⟨b2, 0, [.int .i64 n.cnt, v22], rfl, rfl, by kernel_rfl, by kernel_rfl, box_part 4 rfl 0 rfl⟩, rfl, trivial⟩ rfl ((.cons_cons _ (.cons _ (.cons _ (.cons _ (.cons _ (.cons _ .slnil))))))) ⟨_, _, xs, rfl, rfl, oK, ⟨hco, by rw [List.map_append, hrs]; rfl⟩⟩
set_option maxHeartbeats 4000000 in
set_option maxRecDepth 100000 in
theorem DrawNode_ret (a : Option Addr) (len cap : Nat) (z : List Int) (w : World) (hb : BRow .u8 w a len cap z) (hlen : len ≤ 1048576) :
  Calls Try.prog 27 #[.slice a len cap] w (Ret w (fun v' post => ∃ (n : Nt) (node : Int), v' = .tuple #[n.agg, .int .i64 node] ∧ post = [ntE n] ∧ (n.sv.oneCell' = true ∧ n.av.oneCell' = true ∧ n.ov.oneCell' = true) ∧ NtOk n ∧ (n.ins ≤ 4 ∧ (n.ss.length : Int) ≤ 3 ∧ (n.gs.length : Int) ≤ 14) ∧ 0 ≤ node ∧ node < n.cnt)) := by
 refine calls_hc (N := 15) (args := [.slice a len cap]) Try.func27 rfl rfl ?_
 refine hc_less _ (sx 0 rfl (sub_nil _)) (.refl _) ?_
 refine hc_seq ?_
 refine hc_region ?_
 refine hl_box rfl rfl rfl (rq_alloc (z := .agg #[.int .i64 0, .slice none 0 0, .slice none 0 0, .slice none 0 0]) rfl (by kernel_rfl)) ?_
 intro b1
 refine hl_v rfl rfl rfl (rv_ev rfl) ?_
 refine hl_less (sx 0 rfl (sx 2 rfl (sx 3 rfl (sub_nil _)))) (.refl _) ?_
 refine hl_nil ?_
 refine hq_then ?_
 refine hc_seq ?_
 refine hc_region ?_
 refine hl_v rfl rfl rfl (rv_ev rfl) ?_
 refine hl_q rfl rfl rfl (rq_call (by kernel_rfl) rfl (fun w hm => new_ret (hb.below hm.bel) hlen)) ?_
 intro v2 p3 hR4
 obtain ⟨ghR4, rfl, rfl⟩ := hR4
 refine hl_v rfl rfl rfl (rv_ev rfl) ?_
 refine hl_less (sx 0 rfl (sx 2 rfl (sx 3 rfl (sx 4 rfl (sub_nil _))))) (.refl _) ?_
 refine hl_nil ?_
 refine hq_then ?_
 refine hc_seq ?_
 refine hc_region ?_
 refine hl_v rfl rfl rfl (rv_ev rfl) ?_
 refine hl_callM (R := (fun u_ p_ => ∃ n : Nt, u_ = n.agg ∧ p_ = bigE [curE ghR4 a len cap, ntE n] ∧ (n.sv.oneCell' = true ∧ n.av.oneCell' = true ∧ n.ov.oneCell' = true) ∧ NtOk n ∧ n.ins ≤ 4 ∧ (n.ss.length : Int) ≤ 3 ∧ (n.gs.length : Int) ≤ 14)) 0 rfl rfl (by kernel_rfl) rfl rfl (fun l' w hm => l08Net_mut ghR4 a len cap z _ _ _ hm hb) ?_
 intro v5 p6 hR7
 obtain ⟨n, rfl, rfl, ⟨o1n, o2n, o3n⟩, hn, hnq1, hnq2, hnq3⟩ := hR7
 refine hl_eqL (l' := [bigE [curE ghR4 a len cap, ntE n], boxE b1 #[.int .i64 0, .slice none 0 0, .slice none 0 0, .slice none 0 0] 28]) rfl ?_
 refine hl_box rfl rfl rfl (rq_alloc (z := .agg #[.int .i64 0, .slice none 0 0, .slice none 0 0, .slice none 0 0]) rfl (by kernel_rfl)) ?_
 intro b8
 refine hl_storeBoxN (i := 0) (off := 0) (us := [.int .i64 n.ins, n.sv, n.av, n.ov])  (l' := [boxE b8 #[.int .i64 n.ins, n.sv, n.av, n.ov] 28, bigE [curE ghR4 a len cap, ntE n], boxE b1 #[.int .i64 0, .slice none 0 0, .slice none 0 0, .slice none 0 0] 28]) rfl rfl rfl (by kernel_rfl) rfl rfl rfl (all_cons rfl (all_cons o1n (all_cons o2n (all_cons o3n all_nil)))) rfl rfl rfl ?_
 refine hl_less (sx 0 rfl (sx 2 rfl (sx 3 rfl (sx 4 rfl (sx 5 rfl (sub_nil _)))))) (.refl _) ?_
 refine hl_nil ?_
 refine hq_then ?_
 refine hc_seq ?_
 refine hc_conv [bigE [curE ghR4 a len cap, ntE n], boxE b8 #[.int .i64 n.ins, n.sv, n.av, n.ov] 28, boxE b1 #[.int .i64 0, .slice none 0 0, .slice none 0 0, .slice none 0 0] 28] (conv_pick (src := [boxE b8 #[.int .i64 n.ins, n.sv, n.av, n.ov] 28, bigE [curE ghR4 a len cap, ntE n], boxE b1 #[.int .i64 0, .slice none 0 0, .slice none 0 0, .slice none 0 0] 28]) (dst := [bigE [curE ghR4 a len cap, ntE n], boxE b8 #[.int .i64 n.ins, n.sv, n.av, n.ov] 28, boxE b1 #[.int .i64 0, .slice none 0 0, .slice none 0 0, .slice none 0 0] 28]) (l := []) [1, 0, 2] (by decide) rfl) ?_
 refine hc_conv [curE ghR4 a len cap, ntE n, boxE b8 #[.int .i64 n.ins, n.sv, n.av, n.ov] 28, boxE b1 #[.int .i64 0, .slice none 0 0, .slice none 0 0, .slice none 0 0] 28] conv_unbig ?_
 have hi0 := hn.i0
 have hi1 := hn.i1
 have hs1 := hn.s1
 have ha1 := hn.a1
 have ho1 := hn.o1
 have hcnt : n.cnt = 1 + n.ins + n.ss.length + n.gs.length := rfl
 have hfst : n.fst = 1 + n.ins + n.ss.length := rfl
 refine hc_draw2 (l := [ntE n, boxE b8 #[.int .i64 n.ins, n.sv, n.av, n.ov] 28, boxE b1 #[.int .i64 0, .slice none 0 0, .slice none 0 0, .slice none 0 0] 28]) (by kernel_rfl) 5 [0, 1, 2, 3, 4] (List.take 5 _) (List.drop 5 _) [[], [], [], [2], [1, 3]] [10, 11, 12, 13, 14] (fun i_ vs_ v_ p_ => match i_ with | 0 => v_ = .agg #[.int .i64 n.ins, n.sv, n.av, n.ov] ∧ p_ = [] | 1 => v_ = .pointer (some ⟨ghR4, 0, none⟩) ∧ p_ = [] | 2 => v_ = .agg #[.int .i64 n.ins, n.sv, n.av, n.ov] ∧ p_ = [] | 3 => v_ = .int .i64 n.cnt ∧ p_ = [] | 4 => (∃ pm_, p_ = [pm_] ∧ (fun u_ p_ => (∃ x_ : Int, u_ = .int .i64 x_ ∧ 0 ≤ x_ ∧ x_ < n.cnt) ∧ p_ = curE ghR4 a len cap) v_ pm_) | _ => True) [[], [], [], [2], [1, 3]] [none, none, none, none, some 7] [curE ghR4 a len cap] [0, 1, 2, 3, 4] 7 (List.take_append_drop 5 _).symm (by kernel_rfl) (by kernel_rfl) (by kernel_rfl) rfl rfl ?_ ?_
 ·
  refine ⟨?_, ?_, ?_, ?_, ?_, trivial⟩
  ·
   intro vf pf hmu hR
   refine Or.inl ⟨rfl, ?_⟩
   show RunQ _ _ _ (([] : List Nat).flatMap pf ++ _) (envOf _ vf [] ++ _) _ _
   refine rq_less (sx 5 rfl (sub_nil _)) (List.sublist_append_right _ _) ?_
   exact rq_v (rv_loadN (cs := [.int .i64 n.ins, n.sv, n.av, n.ov]) rfl (by kernel_rfl) (by kernel_rfl) rfl rfl (box_part 1 rfl 0 rfl))
  ·
   intro vf pf hmu hR
   refine Or.inl ⟨rfl, ?_⟩
   show RunQ _ _ _ (([] : List Nat).flatMap pf ++ _) (envOf _ vf [] ++ _) _ _
   refine rq_less (sx 4 rfl (sub_nil _)) (List.sublist_append_right _ _) ?_
   exact rq_v (rv_ev rfl)
  ·
   intro vf pf hmu hR
   refine Or.inl ⟨rfl, ?_⟩
   show RunQ _ _ _ (([] : List Nat).flatMap pf ++ _) (envOf _ vf [] ++ _) _ _
   refine rq_less (sx 5 rfl (sub_nil _)) (List.sublist_append_right _ _) ?_
   exact rq_v (rv_loadN (cs := [.int .i64 n.ins, n.sv, n.av, n.ov]) rfl (by kernel_rfl) (by kernel_rfl) rfl rfl (box_part 1 rfl 0 rfl))
  ·
   intro vf pf hmu hR
   have e2 : (vf 2) = .agg #[.int .i64 n.ins, n.sv, n.av, n.ov] ∧ (pf 2) = [] := hR 2 (by decide)
   refine Or.inl ⟨rfl, ?_⟩
   show RunQ _ _ _ (([2] : List Nat).flatMap pf ++ _) (envOf _ vf [2] ++ _) _ _
   refine rq_less (sx 12 (congrArg some e2.1) (sub_nil _)) (List.sublist_append_right _ _) ?_
   exact (rq_call (by kernel_rfl) rfl (fun w hm => ret_ans (specNodeCount_yes n w (nt_rds 0 rfl w hm) hn)))
  ·
   intro vf pf hmu hR
   have e1 : (vf 1) = .pointer (some ⟨ghR4, 0, none⟩) ∧ (pf 1) = [] := hR 1 (by decide)
   have e3 : (vf 3) = .int .i64 n.cnt ∧ (pf 3) = [] := hR 3 (by decide)
   refine Or.inl ⟨rfl, ?_⟩
   show RunM _ _ _ (pf 7) (([1, 3] : List Nat).flatMap pf ++ _) (envOf _ vf [1, 3] ++ _) _ _
   rw [hmu]
   refine rm_less (X' := [ntE n, boxE b8 #[.int .i64 n.ins, n.sv, n.av, n.ov] 28, boxE b1 #[.int .i64 0, .slice none 0 0, .slice none 0 0, .slice none 0 0] 28]) (sx 11 (congrArg some e1.1) (sx 13 (congrArg some e3.1) (sub_nil _))) (by first | (simp only [e1.2, e3.2, List.flatMap_cons, List.flatMap_nil, List.append_nil, List.nil_append, List.cons_append]; exact List.Sublist.refl _) | simp [e1.2, e3.2]) ?_
   exact rq_callM (R := (fun u_ p_ => (∃ x_ : Int, u_ = .int .i64 x_ ∧ 0 ≤ x_ ∧ x_ < n.cnt) ∧ p_ = curE ghR4 a len cap)) (by kernel_rfl) rfl (fun L w hX hm => belowN_mut ghR4 a len cap z n.cnt _ _ _ hm hb (by constructor <;> omega))
 ·
  intro vf pf hmu hR
  have e0 : (vf 0) = .agg #[.int .i64 n.ins, n.sv, n.av, n.ov] ∧ (pf 0) = [] := hR 0 (by decide)
  have e4 : (∃ pm_, (pf 4) = [pm_] ∧ (fun u_ p_ => (∃ x_ : Int, u_ = .int .i64 x_ ∧ 0 ≤ x_ ∧ x_ < n.cnt) ∧ p_ = curE ghR4 a len cap) (vf 4) pm_) := hR 4 (by decide)
  obtain ⟨p10, p4, hR11⟩ := e4
  obtain ⟨v9, v4⟩ : ∃ x, vf 4 = x := ⟨_, rfl⟩
  rw [v4] at hR11
  obtain ⟨⟨xhR11, rfl, xhR110, xhR111⟩, rfl⟩ := hR11
  have q0 : (vf 0) = .agg #[.int .i64 n.ins, n.sv, n.av, n.ov] ∧ (pf 0) = [] := hR 0 (by decide)
  have q1 : (vf 1) = .pointer (some ⟨ghR4, 0, none⟩) ∧ (pf 1) = [] := hR 1 (by decide)
  have q2 : (vf 2) = .agg #[.int .i64 n.ins, n.sv, n.av, n.ov] ∧ (pf 2) = [] := hR 2 (by decide)
  have q3 : (vf 3) = .int .i64 n.cnt ∧ (pf 3) = [] := hR 3 (by decide)
  refine hl_less (l' := [curE ghR4 a len cap, ntE n, boxE b8 #[.int .i64 n.ins, n.sv, n.av, n.ov] 28, boxE b1 #[.int .i64 0, .slice none 0 0, .slice none 0 0, .slice none 0 0] 28]) (sx 0 rfl (sx 2 rfl (sx 3 rfl (sx 4 rfl (sx 5 rfl (sx 10 (congrArg some e0.1) (sx 14 (congrArg some v4) (sub_nil _)))))))) (by first | (simp only [p4, v4, q0.2, q1.2, q2.2, q3.2, List.flatMap_cons, List.flatMap_nil, List.append_nil, List.nil_append, List.cons_append]; exact List.Sublist.refl _) | simp [p4, v4, q0.2, q1.2, q2.2, q3.2]) ?_
  simp only [List.drop_succ_cons, List.drop_zero]
  refine hl_storeBoxN (i := 3) (off := 0) (us := [.int .i64 n.ins, n.sv, n.av, n.ov])  (l' := [curE ghR4 a len cap, ntE n, boxE b8 #[.int .i64 n.ins, n.sv, n.av, n.ov] 28, boxE b1 #[.int .i64 n.ins, n.sv, n.av, n.ov] 28]) rfl rfl rfl (by kernel_rfl) rfl rfl rfl (all_cons rfl (all_cons o1n (all_cons o2n (all_cons o3n all_nil)))) rfl rfl rfl ?_
  refine hl_v rfl rfl rfl (rv_ev rfl) ?_
  refine hl_less (sx 0 rfl (sx 2 rfl (sx 3 rfl (sx 4 rfl (sx 5 rfl (sub_nil _)))))) (.refl _) ?_
  refine hl_nil ?_
  refine hq_then ?_
  refine hc_ret ?_
  exact hq_retM (rs := [.cell 2 28, .tmp 3]) (vs := [.agg #[.int .i64 n.ins, n.sv, n.av, n.ov], .int .i64 xhR11]) (post := [ntE n]) rfl ⟨⟨b1, 0, [.int .i64 n.ins, n.sv, n.av, n.ov], rfl, rfl, by kernel_rfl, by kernel_rfl, box_part 3 rfl 0 rfl⟩, rfl, trivial⟩ rfl ((.cons _ (.cons_cons _ (.cons _ (.cons _ .slnil))))) ⟨n, xhR11, rfl, rfl, ⟨o1n, o2n, o3n⟩, hn, ⟨hnq1, hnq2, hnq3⟩, by omega, by omega⟩
/-- a clause from which nothing follows -/
def Fx (xs ps : List Int) : Prop := (∃ i, i < xs.length ∧ valI ps (xs.getD i 0) = 1) ∨ (∃ i j, i < xs.length ∧ j < xs.length ∧ valI ps (xs.getD i 0) = 0 ∧ valI ps (xs.getD j 0) = 0 ∧ xs.getD i 0 ≠ xs.getD j 0)
structure PFx (n : Int) (rs : List CRow) (ps out : List Int) : Prop where
  ok : PsOk n out
  len : out.length = ps.length
  ext : ∀ k, k < ps.length → ps.getD k 0 ≠ 0 → out.getD k 0 = ps.getD k 0
  fx : ∀ q, q < rs.length → Fx (rs.getD q crow0).xs out
theorem fx_one {xs ps : List Int} {m : Nat} (hm : m < xs.length) (hv : valI ps (xs.getD m 0) = 1) : Fx xs ps := .inl ⟨m, hm, hv⟩
theorem fx_two {xs ps : List Int} {m : Nat} {u : Int} (h : USeen xs ps m u) (hm : m < xs.length) (hv : valI ps (xs.getD m 0) = 0) (hu : u ≠ 0) (hne : u ≠ xs.getD m 0) : Fx xs ps := by
  obtain ⟨h1, i, hi, e⟩ := h.one hu
  exact .inr ⟨i, m, by omega, hm, by rw [e]; exact h1, hv, by rw [e]; exact hne⟩
/-- zeros_o among the first F -/
def pz (F : Nat) (ps : List Int) : Nat := zeros_o (ps.take F)
theorem zeros_le : ∀ xs : List Int, zeros_o xs ≤ xs.length
  | [] => Nat.le_refl _
  | x :: xs => by have := zeros_le xs; simp only [zeros_o, List.length_cons]; split <;> omega
theorem zeros_app : ∀ xs ys : List Int, zeros_o (xs ++ ys) = zeros_o xs + zeros_o ys
  | [], ys => by simp [zeros_o]
  | x :: xs, ys => by simp only [List.cons_append, zeros_o, zeros_app xs ys]; omega
theorem zeros_none : ∀ xs : List Int, (∀ k, k < xs.length → xs.getD k 0 ≠ 0) → zeros_o xs = 0
  | [], _ => rfl
  | x :: xs, h => by
    have h0 : x ≠ 0 := h 0 (by simp)
    have := zeros_none xs (fun k hk => by have := h (k + 1) (by simpa using hk); simpa using this)
    simp [zeros_o, h0, this]
theorem zeros_mono : ∀ xs ys : List Int, ys.length = xs.length → (∀ k, k < xs.length → xs.getD k 0 ≠ 0 → ys.getD k 0 = xs.getD k 0) → zeros_o ys ≤ zeros_o xs
  | [], [], _, _ => Nat.le_refl _
  | [], y :: ys, h, _ => by simp at h
  | x :: xs, [], h, _ => by simp at h
  | x :: xs, y :: ys, h, he => by
    have ih := zeros_mono xs ys (by simpa using h) (fun k hk hx => by have := he (k + 1) (by simpa using hk) (by simpa using hx); simpa using this)
    have h0 := he 0 (by simp)
    simp only [List.getD_cons_zero] at h0
    simp only [zeros_o]
    by_cases hx : x = 0
    · rw [if_pos hx]; split <;> omega
    · rw [if_neg hx, if_neg (by rw [h0 hx]; exact hx)]; omega
theorem getD_take {xs : List Int} {F k : Nat} (h : k < F) : (xs.take F).getD k 0 = xs.getD k 0 := by
  rw [List.getD_eq_getElem?_getD, List.getElem?_take_of_lt h, ← List.getD_eq_getElem?_getD]
theorem pz_mono {F : Nat} {xs ys : List Int} (hl : ys.length = xs.length) (he : ∀ k, k < xs.length → xs.getD k 0 ≠ 0 → ys.getD k 0 = xs.getD k 0) : pz F ys ≤ pz F xs := by
  refine zeros_mono _ _ (by rw [List.length_take, List.length_take, hl]) (fun k hk hx => ?_)
  rw [List.length_take] at hk
  rw [getD_take (by omega)] at hx ⊢
  rw [getD_take (by omega)]
  exact he k (by omega) hx
theorem pz_set {F : Nat} {xs : List Int} {k : Nat} {x : Int} (hF : k < F) (hk : k < xs.length) (h0 : xs.getD k 0 = 0) (hx : x ≠ 0) : pz F (xs.set k x) + 1 = pz F xs := by
  unfold pz
  rw [List.take_set]
  exact zeros_set _ _ _ (by rw [List.length_take]; omega) (by rw [getD_take hF]; exact h0) hx
theorem zeros_late {F : Nat} {xs : List Int} (h : ∀ k, k < F → k < xs.length → xs.getD k 0 ≠ 0) : zeros_o xs ≤ xs.length - F := by
  have e : zeros_o xs = zeros_o (xs.take F) + zeros_o (xs.drop F) := by rw [← zeros_app, List.take_append_drop]
  have h1 : zeros_o (xs.take F) = 0 := zeros_none _ (fun k hk => by rw [List.length_take] at hk; rw [getD_take (by omega)]; exact h k (by omega) (by omega))
  have h2 := zeros_le (xs.drop F)
  rw [List.length_drop] at h2
  omega
theorem val_ext {n : Int} {ps zs : List Int} (hl : zs.length = ps.length) (hp : PsOk n ps) (he : ∀ k, k < ps.length → ps.getD k 0 ≠ 0 → zs.getD k 0 = ps.getD k 0) {l : Int} (h0 : l ≠ 0) (h1 : -n ≤ l) (h2 : l ≤ n) (hv : valI ps l = 1) : valI zs l = 1 := by
  have hln := hp.1
  unfold valI at *
  split at hv
  · rename_i hc
    rw [if_pos hc, he (-l - 1).toNat (by omega) (by omega)]; exact hv
  · rename_i hc
    rw [if_neg hc, he (l - 1).toNat (by omega) (by omega)]; exact hv
theorem sat_ext {n : Int} {rs : List CRow} {ps zs : List Int} (hr : ClOk n rs) (hl : zs.length = ps.length) (hp : PsOk n ps) (he : ∀ k, k < ps.length → ps.getD k 0 ≠ 0 → zs.getD k 0 = ps.getD k 0) (hs : SatF rs ps) : SatF rs zs := fun q hq => by
  obtain ⟨i, hi, hv⟩ := hs q hq
  have h3 := (hr.ok q hq).2 i hi
  exact ⟨i, hi, val_ext hl hp he h3.1 h3.2.1 h3.2.2 hv⟩
/-- zeros_o become -1 -/
def fillM (ps : List Int) : List Int := ps.map (fun x => if x = 0 then -1 else x)
theorem fill_at {ps : List Int} {k : Nat} (h : k < ps.length) : (fillM ps).getD k 0 = if ps.getD k 0 = 0 then -1 else ps.getD k 0 := by simp [fillM, h]
theorem fill_full {n : Int} {ps : List Int} (h : PsOk n ps) : Full n (fillM ps) := by
  have hl : (fillM ps).length = ps.length := by simp [fillM]
  refine ⟨⟨by rw [hl]; exact h.1, fun i hi => ?_⟩, fun i hi => ?_⟩
  · rw [fill_at (by omega)]; have := h.2 i (by omega); split <;> omega
  · rw [fill_at (by omega)]; split <;> omega
theorem fill_ext {ps : List Int} : ∀ k, k < ps.length → ps.getD k 0 ≠ 0 → (fillM ps).getD k 0 = ps.getD k 0 := fun k hk h => by rw [fill_at hk, if_neg h]
theorem sat_some {n : Int} {rs : List CRow} {ps : List Int} (hr : ClOk n rs) (hp : PsOk n ps) (hs : SatF rs ps) : ∃ fs, Full n fs ∧ SatF rs fs ∧ Agree ps fs :=
  ⟨fillM ps, fill_full hp, sat_ext hr (by simp [fillM]) hp fill_ext hs, fun k hk h => (fill_ext k hk h).symm⟩
theorem fx_sat {n : Int} {rs : List CRow} {ps : List Int} (hr : ClOk n rs) (hp : PsOk n ps) (hf : ∀ q, q < rs.length → Fx (rs.getD q crow0).xs ps) (hz : ∀ k, k < ps.length → ps.getD k 0 ≠ 0) : SatF rs ps := fun q hq => by
  rcases hf q hq with h | ⟨i, j, hi, hj, h1, h2, h3⟩
  · exact h
  · exfalso
    have h4 := (hr.ok q hq).2 i hi
    have hl := hp.1
    unfold valI at h1
    split at h1
    · exact hz (-(rs.getD q crow0).xs.getD i 0 - 1).toNat (by omega) (by omega)
    · exact hz ((rs.getD q crow0).xs.getD i 0 - 1).toNat (by omega) h1
/-- no complete list that satisfies all agrees -/
def NoFs (n : Int) (rs : List CRow) (ps : List Int) : Prop := ∀ fs, Full n fs → SatF rs fs → Agree ps fs → False
/-- what a visit may still use -/
def VPre (rs : List CRow) (F : Nat) (own : List Int) (v : Int) : Prop := (SatF rs own ∧ v + zeros_o own + 1 ≤ 600) ∨ v + 2 ^ (pz F own + 1) + 14 ≤ 600
structure VPost (n : Int) (rs : List CRow) (F : Nat) (own : List Int) (v v' code : Int) (found : List Int) : Prop where
  r : (code = 1 ∧ Full n found ∧ SatF rs found) ∨ (code = 2 ∧ NoFs n rs own ∧ v' ≤ v + 2 ^ (pz F own + 1) - 1)
  mono : v ≤ v' ∧ v' ≤ 600
theorem pow1 (k : Nat) : (1 : Int) ≤ 2 ^ k := by have : (0 : Int) < 2 ^ k := Int.pow_pos (by decide); omega
theorem pow_mono {a b : Nat} (h : a ≤ b) : (2 : Int) ^ a ≤ 2 ^ b := by
  have h1 : (2 : Nat) ^ a ≤ 2 ^ b := Nat.pow_le_pow_right (by decide) h
  have e : ∀ k : Nat, (2 : Int) ^ k = ((2 ^ k : Nat) : Int) := fun k => by simp
  rw [e a, e b]; omega
theorem vpre_lt {rs : List CRow} {F : Nat} {own : List Int} {v : Int} (h : VPre rs F own v) : v < 600 := by
  rcases h with ⟨-, h⟩ | h
  · omega
  · have := pow1 (pz F own + 1); omega
theorem no_conflict {n : Int} {rs : List CRow} {own out : List Int} {ok : Bool} (h : POk n rs own out ok) (hk : ok = false) : NoFs n rs own := fun fs hf hs ha => by
  have := (h.yes fs hf hs ha).1; rw [hk] at this; cases this
theorem no_next {n : Int} {rs : List CRow} {own out : List Int} {ok : Bool} (h : POk n rs own out ok) (hn : NoFs n rs out) : NoFs n rs own := fun fs hf hs ha => hn fs hf hs (h.yes fs hf hs ha).2.1
theorem no_split {n : Int} {rs : List CRow} {zs : List Int} {k : Nat} (hk : k < zs.length) (hl : (zs.length : Int) = n) (h0 : zs.getD k 0 = 0) (h1 : NoFs n rs (zs.set k (-1))) (h2 : NoFs n rs (zs.set k 1)) : NoFs n rs zs := fun fs hf hs ha => by
  have hfl := hf.1.1
  have hr := hf.1.2 k (by omega)
  have hz := hf.2 k (by omega)
  have key : ∀ x : Int, fs.getD k 0 = x → Agree (zs.set k x) fs := fun x hx i hi hne => by
    rw [List.length_set] at hi
    by_cases e : i = k
    · subst e; rw [getD_set_self' hi]; exact hx.symm
    · rw [getD_set_ne3 (fun h => e h.symm)] at hne ⊢; exact ha i hi hne
  rcases (show fs.getD k 0 = -1 ∨ fs.getD k 0 = 1 by omega) with e | e
  · exact h1 fs hf hs (key _ e)
  · exact h2 fs hf hs (key _ e)
section
variable {n : Int} {rs : List CRow} {F : Nat} {own zs : List Int} {v : Int} {k : Nat}
/-- the first free one is decided: what the visit of it may use -/
theorem vpre_first (hr : ClOk n rs) (hF : n ≤ F + 14) (hkey : ∀ zs, PsOk n zs → (∀ q, q < rs.length → Fx (rs.getD q crow0).xs zs) → (∀ k, k < F → k < zs.length → zs.getD k 0 ≠ 0) → SatF rs zs)
    (hp : PsOk n own) (hz : PFx n rs own zs) (hk : k < zs.length) (h0 : zs.getD k 0 = 0) (hb : ∀ i, i < k → zs.getD i 0 ≠ 0) (h : VPre rs F own v) {x : Int} (hx : x = 1 ∨ x = -1) : VPre rs F (zs.set k x) (v + 1) := by
  have hx0 : x ≠ 0 := by omega
  have hzs := zeros_set zs k x hk h0 hx0
  have hsx : ∀ i, i < zs.length → zs.getD i 0 ≠ 0 → (zs.set k x).getD i 0 = zs.getD i 0 := fun i hi hne => getD_set_ne3 (fun e => hne (by rw [← e]; exact h0))
  have hds : SatF rs zs → SatF rs (zs.set k x) := fun hs => sat_ext hr List.length_set hz.ok hsx hs
  rcases h with ⟨hs, hv⟩ | hv
  · have h1 := zeros_mono own zs hz.len hz.ext
    exact .inl ⟨hds (sat_ext hr hz.len hp hz.ext hs), by omega⟩
  · by_cases hkF : k < F
    · have h1 := pz_set hkF hk h0 hx0
      have h2 := pz_mono (F := F) hz.len hz.ext
      have h3 := pow_mono (show pz F (zs.set k x) + 1 + 1 ≤ pz F own + 1 by omega)
      rw [Int.pow_succ] at h3
      have h4 := pow1 (pz F (zs.set k x) + 1)
      exact .inr (by omega)
    · have hleaf : ∀ i, i < F → i < zs.length → zs.getD i 0 ≠ 0 := fun i hi _ => hb i (by omega)
      have h1 := zeros_late hleaf
      have h2 := pow1 (pz F own + 1)
      have hzl := hz.ok.1
      exact .inl ⟨hds (hkey zs hz.ok hz.fx hleaf), by omega⟩
/-- the second decision, after the first has failed -/
theorem vpre_second (hr : ClOk n rs) (hF : n ≤ F + 14) (hkey : ∀ zs, PsOk n zs → (∀ q, q < rs.length → Fx (rs.getD q crow0).xs zs) → (∀ k, k < F → k < zs.length → zs.getD k 0 ≠ 0) → SatF rs zs)
    (hp : PsOk n own) (hz : PFx n rs own zs) (hk : k < zs.length) (h0 : zs.getD k 0 = 0) (hb : ∀ i, i < k → zs.getD i 0 ≠ 0) (h : VPre rs F own v) (hno : NoFs n rs (zs.set k (-1))) {v1 : Int} (hv1 : v1 ≤ v + 1 + 2 ^ (pz F (zs.set k (-1)) + 1) - 1) :
    VPre rs F (zs.set k 1) v1 ∧ v1 + 2 ^ (pz F (zs.set k 1) + 1) - 1 ≤ v + 2 ^ (pz F own + 1) - 1 := by
  have hokx : PsOk n (zs.set k (-1)) := ⟨by rw [List.length_set]; exact hz.ok.1, fun i hi => by
    rw [List.length_set] at hi
    by_cases e : i = k
    · subst e; rw [getD_set_self' hi]; omega
    · rw [getD_set_ne3 (fun h => e h.symm)]; exact hz.ok.2 i hi⟩
  have hsx : ∀ i, i < zs.length → zs.getD i 0 ≠ 0 → (zs.set k (-1)).getD i 0 = zs.getD i 0 := fun i hi hne => getD_set_ne3 (fun e => hne (by rw [← e]; exact h0))
  have hnot : ¬ SatF rs zs := fun hs => by
    obtain ⟨fs, f1, f2, f3⟩ := sat_some hr hokx (sat_ext hr List.length_set hz.ok hsx hs)
    exact hno fs f1 f2 f3
  have hkF : k < F := by
    apply Decidable.byContradiction
    intro hc
    exact hnot (hkey zs hz.ok hz.fx (fun i hi _ => hb i (by omega)))
  have h1 := pz_set (x := -1) hkF hk h0 (by decide)
  have h1b := pz_set (x := 1) hkF hk h0 (by decide)
  have h2 := pz_mono (F := F) hz.len hz.ext
  have h3 := pow_mono (show pz F (zs.set k 1) + 1 + 1 ≤ pz F own + 1 by omega)
  rw [Int.pow_succ] at h3
  rw [show pz F (zs.set k (-1)) = pz F (zs.set k 1) by omega] at hv1
  rcases h with ⟨hs, -⟩ | hv
  · exact absurd (sat_ext hr hz.len hp hz.ext hs) hnot
  · exact ⟨.inr (by omega), by omega⟩
end
open Go.RowKit
def FxTo (rs : List CRow) (zs : List Int) (m : Nat) : Prop := ∀ q, q < m → Fx (rs.getD q crow0).xs zs
theorem fxto_next {rs : List CRow} {zs : List Int} {m : Nat} (h : FxTo rs zs m) (hf : Fx (rs.getD m crow0).xs zs) : FxTo rs zs (m + 1) := fun q hq => by
  by_cases e : q = m
  · subst e; exact hf
  · exact h q (by omega)
set_option maxHeartbeats 4000000 in
set_option maxRecDepth 100000 in
theorem unitOf_fx (n : Int) (xs ps : List Int) (v pv : Value) (w : World) (hv : RdsW w v 1 xs.length (xs.map (Value.int .i64))) (hpv : RdsW w pv 1 ps.length (ps.map (Value.int .i64))) (hx : LitOk n xs) (hp : PsOk n ps) (hn : n ≤ 400) :
  Calls Try.prog 179 #[v, pv] w (Ret w (fun v' post => ∃ u cf, v' = .tuple #[.int .i64 u, .bool cf] ∧ post = [] ∧ UOk xs ps u cf ∧ (cf = false → u = 0 → Fx xs ps))) := by
 have hxl := hx.1
 have hxz : ∀ i, i < xs.length → xs.getD i 0 ≠ 0 := fun i hi => (hx.2 i hi).1
 refine calls_hc (N := 34) (args := [v, pv]) Try.func179 rfl rfl ?_
 refine hc_less _ (sx 0 rfl (sx 1 rfl (sub_nil _))) (.refl _) ?_
 refine hc_seq ?_
 refine hc_region ?_
 refine hl_v rfl rfl rfl (rv_ev rfl) ?_
 refine hl_v rfl rfl rfl (rv_ev rfl) ?_
 refine hl_less (sx 0 rfl (sx 1 rfl (sx 4 rfl (sx 5 rfl (sub_nil _))))) (.refl _) ?_
 refine hl_nil ?_
 refine hq_then ?_
 refine hc_seq ?_
 refine hc_region ?_
 refine hl_v rfl rfl rfl (rv_ev rfl) ?_
 refine hl_less (sx 0 rfl (sx 1 rfl (sx 4 rfl (sx 5 rfl (sx 6 rfl (sub_nil _)))))) (.refl _) ?_
 refine hl_nil ?_
 refine hq_then ?_
 refine hc_seq ?_
 refine hc_seq ?_
 refine hc_region ?_
 refine hl_v rfl rfl rfl (rv_ev rfl) ?_
 refine hl_v rfl rfl rfl (rv_len rfl Try.underlying26 rfl (rd_old hv)) ?_
 refine hl_v rfl rfl rfl (rv_ev rfl) ?_
 refine hl_less (sx 0 rfl (sx 1 rfl (sx 4 rfl (sx 5 rfl (sx 6 rfl (sx 9 rfl (sx 10 rfl (sx 11 rfl (sub_nil _))))))))) (.refl _) ?_
 refine hl_nil ?_
 refine hq_then ?_
 refine hc_block ?_
 refine hc_loop2 (α := Nat) (β := Int) (fun m u => []) (fun m u => [(0, v), (1, pv), (4, .int .i64 0), (5, .bool false), (6, .int .i64 u), (9, v), (10, .int .i64 (xs.length : Int)), (11, .int .i64 (m : Int))]) (fun m u => m ≤ xs.length ∧ USeen xs ps m u) (fun m u => xs.length - m) 0 0 ⟨by omega, ⟨fun i hi => absurd hi (by omega), fun h => absurd rfl h⟩⟩ (sx 0 rfl (sx 1 rfl (sx 4 rfl (sx 5 rfl (sx 6 rfl (sx 9 rfl (sx 10 rfl (sx 11 rfl (sub_nil _))))))))) (.slnil) ?_
 intro m u hi1
 obtain ⟨hm, hse⟩ := hi1
 refine hc_seq ?_
 refine hc_region ?_
 refine hl_lss rfl rfl rfl rfl rfl rfl (fun h2 => ?_) (fun h2 => ?_)
 ·
  refine hl_less (sx 0 rfl (sx 1 rfl (sx 4 rfl (sx 5 rfl (sx 6 rfl (sx 9 rfl (sx 10 rfl (sx 11 rfl (sx 12 rfl (sub_nil _)))))))))) (.refl _) ?_
  refine hl_nil ?_
  refine hq_then ?_
  refine hc_seq ?_
  refine hc_true rfl ?_
  refine hc_skip ?_
  refine hq_then ?_
  refine hc_seq ?_
  refine hc_block ?_
  refine hc_seq ?_
  refine hc_region ?_
  refine hl_v rfl rfl rfl (rv_index (s := 1) rfl Try.underlying26 (by kernel_rfl) rfl rfl (rd_old hv) (by omega) (by first | omega | (simp only [List.length_set]; omega))) ?_
  refine hl_v rfl rfl rfl (rv_loadEl (u := .int .i64 (xs.getD m 0)) rfl (by kernel_rfl) rfl (rd_old hv) (ints_at1 (show _ < xs.length by first | omega | (simp only [List.length_set]; omega)))) ?_
  refine hl_v rfl rfl rfl (rv_ev rfl) ?_
  refine hl_less (sx 0 rfl (sx 1 rfl (sx 4 rfl (sx 5 rfl (sx 6 rfl (sx 8 rfl (sx 9 rfl (sx 10 rfl (sx 11 rfl (sx 12 rfl (sub_nil _))))))))))) (.refl _) ?_
  refine hl_nil ?_
  refine hq_then ?_
  refine hc_seq ?_
  refine hc_region ?_
  have hxm := hx.2 m (by omega)
  have hvr := val_rng hp hxm.1 hxm.2.1 hxm.2.2
  refine hl_v rfl rfl rfl (rv_ev rfl) ?_
  refine hl_v rfl rfl rfl (rv_ev rfl) ?_
  refine hl_callV rfl rfl rfl (rq_call (by kernel_rfl) rfl (fun w hm => ret_ans (valueIn_ans n ps pv (xs.getD m 0) w (hpv.below hm.bel) hp hxm hn))) ?_
  refine hl_less (sx 0 rfl (sx 1 rfl (sx 4 rfl (sx 5 rfl (sx 6 rfl (sx 8 rfl (sx 9 rfl (sx 10 rfl (sx 11 rfl (sx 12 rfl (sx 17 rfl (sub_nil _)))))))))))) (.refl _) ?_
  refine hl_nil ?_
  refine hq_then ?_
  refine hc_block ?_
  refine hc_seq ?_
  refine hc_region ?_
  refine hl_eql rfl rfl rfl rfl rfl rfl (fun h3 => ?_) (fun h3 => ?_)
  ·
   refine hl_v rfl rfl rfl (rv_ev rfl) ?_
   refine hl_less (sx 0 rfl (sx 1 rfl (sx 4 rfl (sx 5 rfl (sx 6 rfl (sx 8 rfl (sx 9 rfl (sx 10 rfl (sx 11 rfl (sx 12 rfl (sx 17 rfl (sx 18 rfl (sub_nil _))))))))))))) (.refl _) ?_
   refine hl_nil ?_
   refine hq_then ?_
   refine hc_true rfl ?_
   refine hc_seq ?_
   refine hc_region ?_
   refine hl_v rfl rfl rfl (rv_ev rfl) ?_
   refine hl_v rfl rfl rfl (rv_ev rfl) ?_
   refine hl_less (sx 0 rfl (sx 1 rfl (sx 4 rfl (sx 5 rfl (sx 6 rfl (sx 8 rfl (sx 9 rfl (sx 10 rfl (sx 11 rfl (sx 12 rfl (sx 17 rfl (sx 18 rfl (sub_nil _))))))))))))) (.refl _) ?_
   refine hl_nil ?_
   refine hq_then ?_
   refine hc_ret ?_
   refine hq_block_ret ?_
   refine hq_block_ret ?_
   refine hq_then_ret ?_
   refine hq_then_ret ?_
   refine hq_block_ret ?_
   refine hq_then_ret ?_
   exact hq_retM (rs := [.tmp 4, .tmp 5]) (vs := [.int .i64 0, .bool false]) (post := []) rfl ⟨rfl, rfl, trivial⟩ rfl (List.nil_sublist _) ⟨_, _, rfl, rfl, by first | exact uok_no (m := m) (by omega) (by omega) | exact uok_end (show USeen xs ps xs.length u from (show m = xs.length by omega) ▸ hse) hxz (by first | exact (decide_eq_true (by assumption)).symm | exact (decide_eq_false (by assumption)).symm), fun hc9 hu9 => by first | exact fx_one (m := m) (by omega) (by omega) | exact fx_two hse (by omega) (by omega) (by omega) (by omega) | exact absurd hu9 (by assumption) | cases hc9⟩
  ·
   refine hl_v rfl rfl rfl (rv_ev rfl) ?_
   refine hl_less (sx 0 rfl (sx 1 rfl (sx 4 rfl (sx 5 rfl (sx 6 rfl (sx 8 rfl (sx 9 rfl (sx 10 rfl (sx 11 rfl (sx 12 rfl (sx 17 rfl (sx 18 rfl (sub_nil _))))))))))))) (.refl _) ?_
   refine hl_nil ?_
   refine hq_then ?_
   refine hc_false rfl ?_
   refine hc_seq ?_
   refine hc_region ?_
   refine hl_eql rfl rfl rfl rfl rfl rfl (fun h4 => ?_) (fun h4 => ?_)
   ·
    refine hl_v rfl rfl rfl (rv_ev rfl) ?_
    refine hl_less (sx 0 rfl (sx 1 rfl (sx 4 rfl (sx 5 rfl (sx 6 rfl (sx 8 rfl (sx 9 rfl (sx 10 rfl (sx 11 rfl (sx 12 rfl (sx 17 rfl (sx 18 rfl (sx 20 rfl (sub_nil _)))))))))))))) (.refl _) ?_
    refine hl_nil ?_
    refine hq_then ?_
    refine hc_true rfl ?_
    refine hc_seq ?_
    refine hc_seq ?_
    refine hc_region ?_
    refine hl_v rfl rfl rfl (rv_ev rfl) ?_
    refine hl_neq rfl rfl rfl rfl rfl rfl (fun h5 => ?_) (fun h5 => ?_)
    ·
     refine hl_v rfl rfl rfl (rv_ev rfl) ?_
     refine hl_v rfl rfl rfl (rv_ev rfl) ?_
     refine hl_v rfl rfl rfl (rv_ev rfl) ?_
     refine hl_neq rfl rfl rfl rfl rfl rfl (fun h6 => ?_) (fun h6 => ?_)
     ·
      refine hl_v rfl rfl rfl (rv_ev rfl) ?_
      refine hl_less (sx 0 rfl (sx 1 rfl (sx 4 rfl (sx 5 rfl (sx 6 rfl (sx 8 rfl (sx 9 rfl (sx 10 rfl (sx 11 rfl (sx 12 rfl (sx 17 rfl (sx 18 rfl (sx 20 rfl (sx 28 rfl (sub_nil _))))))))))))))) (.refl _) ?_
      refine hl_nil ?_
      refine hq_then ?_
      refine hc_true rfl ?_
      refine hc_seq ?_
      refine hc_region ?_
      refine hl_v rfl rfl rfl (rv_ev rfl) ?_
      refine hl_v rfl rfl rfl (rv_ev rfl) ?_
      refine hl_less (sx 0 rfl (sx 1 rfl (sx 4 rfl (sx 5 rfl (sx 6 rfl (sx 8 rfl (sx 9 rfl (sx 10 rfl (sx 11 rfl (sx 12 rfl (sx 17 rfl (sx 18 rfl (sx 20 rfl (sx 28 rfl (sub_nil _))))))))))))))) (.refl _) ?_
      refine hl_nil ?_
      refine hq_then ?_
      refine hc_ret ?_
      refine hq_then_ret ?_
      refine hq_block_ret ?_
      refine hq_block_ret ?_
      refine hq_then_ret ?_
      refine hq_then_ret ?_
      refine hq_block_ret ?_
      refine hq_then_ret ?_
      exact hq_retM (rs := [.tmp 4, .tmp 5]) (vs := [.int .i64 0, .bool false]) (post := []) rfl ⟨rfl, rfl, trivial⟩ rfl (List.nil_sublist _) ⟨_, _, rfl, rfl, by first | exact uok_no (m := m) (by omega) (by omega) | exact uok_end (show USeen xs ps xs.length u from (show m = xs.length by omega) ▸ hse) hxz (by first | exact (decide_eq_true (by assumption)).symm | exact (decide_eq_false (by assumption)).symm), fun hc9 hu9 => by first | exact fx_one (m := m) (by omega) (by omega) | exact fx_two hse (by omega) (by omega) (by omega) (by omega) | exact absurd hu9 (by assumption) | cases hc9⟩
     ·
      refine hl_v rfl rfl rfl (rv_ev rfl) ?_
      refine hl_less (sx 0 rfl (sx 1 rfl (sx 4 rfl (sx 5 rfl (sx 6 rfl (sx 8 rfl (sx 9 rfl (sx 10 rfl (sx 11 rfl (sx 12 rfl (sx 17 rfl (sx 18 rfl (sx 20 rfl (sx 28 rfl (sub_nil _))))))))))))))) (.refl _) ?_
      refine hl_nil ?_
      refine hq_then ?_
      refine hc_false rfl ?_
      refine hc_skip ?_
      refine hq_then ?_
      refine hc_region ?_
      refine hl_v rfl rfl rfl (rv_ev rfl) ?_
      refine hl_v rfl rfl rfl (rv_ev rfl) ?_
      refine hl_less (sx 0 rfl (sx 1 rfl (sx 4 rfl (sx 5 rfl (sx 6 rfl (sx 8 rfl (sx 9 rfl (sx 10 rfl (sx 11 rfl (sx 12 rfl (sx 17 rfl (sx 18 rfl (sx 20 rfl (sx 28 rfl (sub_nil _))))))))))))))) (.refl _) ?_
      refine hl_nil ?_
      refine hq_block_normal ?_
      refine hq_block_normal ?_
      refine hq_then ?_
      refine hc_region ?_
      refine hl_v rfl rfl rfl (rv_add rfl rfl rfl (by constructor <;> omega)) ?_
      refine hl_v rfl rfl rfl (rv_ev rfl) ?_
      refine hl_less (sx 0 rfl (sx 1 rfl (sx 4 rfl (sx 5 rfl (sx 6 rfl (sx 8 rfl (sx 9 rfl (sx 10 rfl (sx 11 rfl (sx 12 rfl (sx 17 rfl (sx 18 rfl (sx 20 rfl (sx 28 rfl (sub_nil _))))))))))))))) (.refl _) ?_
      refine hl_nil ?_
      exact hq_round2 (m + 1) (xs.getD m 0) ⟨by omega, seen_new hse (by omega) (by omega) (fun i hi => hxz i (by omega))⟩ (by omega) (sx 0 rfl (sx 1 rfl (sx 4 rfl (sx 5 rfl (sx 6 rfl (sx 9 rfl (sx 10 rfl (sx 11 rfl (sub_nil _))))))))) (.slnil)
    ·
     refine hl_v rfl rfl rfl (rv_ev rfl) ?_
     refine hl_skip rfl rfl rfl ?_
     refine hl_skip rfl rfl rfl ?_
     refine hl_skip rfl rfl rfl ?_
     refine hl_v rfl rfl rfl (rv_ev rfl) ?_
     refine hl_less (sx 0 rfl (sx 1 rfl (sx 4 rfl (sx 5 rfl (sx 6 rfl (sx 8 rfl (sx 9 rfl (sx 10 rfl (sx 11 rfl (sx 12 rfl (sx 17 rfl (sx 18 rfl (sx 20 rfl (sx 28 rfl (sub_nil _))))))))))))))) (.refl _) ?_
     refine hl_nil ?_
     refine hq_then ?_
     refine hc_false rfl ?_
     refine hc_skip ?_
     refine hq_then ?_
     refine hc_region ?_
     refine hl_v rfl rfl rfl (rv_ev rfl) ?_
     refine hl_v rfl rfl rfl (rv_ev rfl) ?_
     refine hl_less (sx 0 rfl (sx 1 rfl (sx 4 rfl (sx 5 rfl (sx 6 rfl (sx 8 rfl (sx 9 rfl (sx 10 rfl (sx 11 rfl (sx 12 rfl (sx 17 rfl (sx 18 rfl (sx 20 rfl (sx 28 rfl (sub_nil _))))))))))))))) (.refl _) ?_
     refine hl_nil ?_
     refine hq_block_normal ?_
     refine hq_block_normal ?_
     refine hq_then ?_
     refine hc_region ?_
     refine hl_v rfl rfl rfl (rv_add rfl rfl rfl (by constructor <;> omega)) ?_
     refine hl_v rfl rfl rfl (rv_ev rfl) ?_
     refine hl_less (sx 0 rfl (sx 1 rfl (sx 4 rfl (sx 5 rfl (sx 6 rfl (sx 8 rfl (sx 9 rfl (sx 10 rfl (sx 11 rfl (sx 12 rfl (sx 17 rfl (sx 18 rfl (sx 20 rfl (sx 28 rfl (sub_nil _))))))))))))))) (.refl _) ?_
     refine hl_nil ?_
     exact hq_round2 (m + 1) (xs.getD m 0) ⟨by omega, seen_new hse (by omega) (by omega) (fun i hi => hxz i (by omega))⟩ (by omega) (sx 0 rfl (sx 1 rfl (sx 4 rfl (sx 5 rfl (sx 6 rfl (sx 9 rfl (sx 10 rfl (sx 11 rfl (sub_nil _))))))))) (.slnil)
   ·
    refine hl_v rfl rfl rfl (rv_ev rfl) ?_
    refine hl_less (sx 0 rfl (sx 1 rfl (sx 4 rfl (sx 5 rfl (sx 6 rfl (sx 8 rfl (sx 9 rfl (sx 10 rfl (sx 11 rfl (sx 12 rfl (sx 17 rfl (sx 18 rfl (sx 20 rfl (sub_nil _)))))))))))))) (.refl _) ?_
    refine hl_nil ?_
    refine hq_then ?_
    refine hc_false rfl ?_
    refine hc_skip ?_
    refine hq_block_normal ?_
    refine hq_block_normal ?_
    refine hq_then ?_
    refine hc_region ?_
    refine hl_v rfl rfl rfl (rv_add rfl rfl rfl (by constructor <;> omega)) ?_
    refine hl_v rfl rfl rfl (rv_ev rfl) ?_
    refine hl_less (sx 0 rfl (sx 1 rfl (sx 4 rfl (sx 5 rfl (sx 6 rfl (sx 8 rfl (sx 9 rfl (sx 10 rfl (sx 11 rfl (sx 12 rfl (sx 17 rfl (sx 18 rfl (sx 20 rfl (sub_nil _)))))))))))))) (.refl _) ?_
    refine hl_nil ?_
    exact hq_round2 (m + 1) u ⟨by omega, seen_skip hse (by omega)⟩ (by omega) (sx 0 rfl (sx 1 rfl (sx 4 rfl (sx 5 rfl (sx 6 rfl (sx 9 rfl (sx 10 rfl (sx 11 rfl (sub_nil _))))))))) (.slnil)
 ·
  refine hl_less (sx 0 rfl (sx 1 rfl (sx 4 rfl (sx 5 rfl (sx 6 rfl (sx 9 rfl (sx 10 rfl (sx 11 rfl (sx 12 rfl (sub_nil _)))))))))) (.refl _) ?_
  refine hl_nil ?_
  refine hq_then ?_
  refine hc_seq ?_
  refine hc_false rfl ?_
  refine hc_exit ?_
  refine hq_then_exit ?_
  refine hq_then_exit ?_
  refine hq_block_exit ?_
  refine hq_then ?_
  refine hc_seq ?_
  refine hc_region ?_
  refine hl_v rfl rfl rfl (rv_ev rfl) ?_
  refine hl_v rfl rfl rfl (rv_ev rfl) ?_
  refine hl_eql rfl rfl rfl rfl rfl rfl (fun h7 => ?_) (fun h7 => ?_)
  ·
   refine hl_v rfl rfl rfl (rv_ev rfl) ?_
   refine hl_v rfl rfl rfl (rv_ev rfl) ?_
   refine hl_less (sx 0 rfl (sx 1 rfl (sx 4 rfl (sx 5 rfl (sx 6 rfl (sx 9 rfl (sx 10 rfl (sx 11 rfl (sx 12 rfl (sub_nil _)))))))))) (.refl _) ?_
   refine hl_nil ?_
   refine hq_then ?_
   refine hc_ret ?_
   exact hq_retM (rs := [.tmp 4, .tmp 5]) (vs := [.int .i64 u, .bool true]) (post := []) rfl ⟨rfl, rfl, trivial⟩ rfl (List.nil_sublist _) ⟨_, _, rfl, rfl, by first | exact uok_no (m := m) (by omega) (by omega) | exact uok_end (show USeen xs ps xs.length u from (show m = xs.length by omega) ▸ hse) hxz (by first | exact (decide_eq_true (by assumption)).symm | exact (decide_eq_false (by assumption)).symm), fun hc9 hu9 => by first | exact fx_one (m := m) (by omega) (by omega) | exact fx_two hse (by omega) (by omega) (by omega) (by omega) | exact absurd hu9 (by assumption) | cases hc9⟩
  ·
   refine hl_v rfl rfl rfl (rv_ev rfl) ?_
   refine hl_v rfl rfl rfl (rv_ev rfl) ?_
   refine hl_less (sx 0 rfl (sx 1 rfl (sx 4 rfl (sx 5 rfl (sx 6 rfl (sx 9 rfl (sx 10 rfl (sx 11 rfl (sx 12 rfl (sub_nil _)))))))))) (.refl _) ?_
   refine hl_nil ?_
   refine hq_then ?_
   refine hc_ret ?_
   exact hq_retM (rs := [.tmp 4, .tmp 5]) (vs := [.int .i64 u, .bool false]) (post := []) rfl ⟨rfl, rfl, trivial⟩ rfl (List.nil_sublist _) ⟨_, _, rfl, rfl, by first | exact uok_no (m := m) (by omega) (by omega) | exact uok_end (show USeen xs ps xs.length u from (show m = xs.length by omega) ▸ hse) hxz (by first | exact (decide_eq_true (by assumption)).symm | exact (decide_eq_false (by assumption)).symm), fun hc9 hu9 => by first | exact fx_one (m := m) (by omega) (by omega) | exact fx_two hse (by omega) (by omega) (by omega) (by omega) | exact absurd hu9 (by assumption) | cases hc9⟩
set_option maxHeartbeats 4000000 in
set_option maxRecDepth 100000 in
theorem propagate_fx (n : Int) (rs : List CRow) (v : Value) (ps : List Int) (pv : Value) (w : World) (hr : ClOk n rs) (hv : RdsCl w v rs) (hp : PsOk n ps) (hpv : RdsW w pv 1 ps.length (ps.map (Value.int .i64))) :
  Calls Try.prog 167 #[v, pv] w (Ret w (fun v' post => ∃ (u : Value) (out : List Int) (ok : Bool), v' = .tuple #[u, .bool ok] ∧ post = [rowE 3 1 u out.length (out.map (Value.int .i64))] ∧ POk n rs ps out ok ∧ (ok = true → PFx n rs ps out))) := by
 have hn0 := hr.n0
 have hn1 := hr.n1
 have hrl := hr.len
 have hpl := hp.1
 refine calls_hc (N := 43) (args := [v, pv]) Try.func167 rfl rfl ?_
 refine hc_less _ (sx 0 rfl (sx 1 rfl (sub_nil _))) (.refl _) ?_
 refine hc_seq ?_
 refine hc_region ?_
 refine hl_v rfl rfl rfl (rv_ev rfl) ?_
 refine hl_v rfl rfl rfl (rv_ev rfl) ?_
 refine hl_less (sx 0 rfl (sx 1 rfl (sx 4 rfl (sx 5 rfl (sub_nil _))))) (.refl _) ?_
 refine hl_nil ?_
 refine hq_then ?_
 refine hc_seq ?_
 refine hc_region ?_
 refine hl_v rfl rfl rfl (rv_ev rfl) ?_
 refine hl_q rfl rfl rfl (rq_call (by kernel_rfl) rfl (fun w hm => copyInts_ret ps pv w (hpv.below hm.bel) (by omega))) ?_
 intro v1 p2 hR3
 subst hR3
 refine hl_v rfl rfl rfl (rv_ev rfl) ?_
 refine hl_less (sx 0 rfl (sx 1 rfl (sx 4 rfl (sx 5 rfl (sx 6 rfl (sub_nil _)))))) (.refl _) ?_
 refine hl_nil ?_
 refine hq_then ?_
 refine hc_seq ?_
 refine hc_seq ?_
 refine hc_region ?_
 refine hl_v rfl rfl rfl (rv_ev rfl) ?_
 refine hl_less (sx 0 rfl (sx 1 rfl (sx 4 rfl (sx 5 rfl (sx 6 rfl (sx 7 rfl (sub_nil _))))))) (.refl _) ?_
 refine hl_nil ?_
 refine hq_then ?_
 refine hc_block ?_
 refine hc_loop2 (α := List Int) (β := Bool) (fun zs ch => [rowE 3 1 v1 zs.length (zs.map (Value.int .i64))]) (fun zs ch => [(0, v), (1, pv), (4, .slice none 0 0), (5, .bool false), (6, v1), (7, .bool ch)]) (fun zs ch => PInv n rs ps zs ∧ (ch = false → Done rs ps rs.length ∧ FxTo rs zs rs.length)) (fun zs ch => 2 * zeros_o zs + (if ch = true then 1 else 0)) ps true ⟨pinv_start hp, fun h => by cases h⟩ (sx 0 rfl (sx 1 rfl (sx 4 rfl (sx 5 rfl (sx 6 rfl (sx 7 rfl (sub_nil _))))))) ((.cons_cons _ .slnil)) ?_
 intro zs ch hi4
 obtain ⟨hpz, hdz⟩ := hi4
 refine hc_seq ?_
 refine hc_seq ?_
 refine hc_region ?_
 refine hl_v rfl rfl rfl (rv_ev rfl) ?_
 refine hl_bool (fun h5 => ?_) (fun h5 => ?_)
 ·
  refine hl_less (sx 0 rfl (sx 1 rfl (sx 4 rfl (sx 5 rfl (sx 6 rfl (sx 7 rfl (sx 14 rfl (sub_nil _)))))))) (.refl _) ?_
  refine hl_nil ?_
  refine hq_then ?_
  refine hc_true rfl ?_
  refine hc_skip ?_
  refine hq_then ?_
  refine hc_block ?_
  refine hc_seq ?_
  refine hc_region ?_
  refine hl_v rfl rfl rfl (rv_ev rfl) ?_
  refine hl_less (sx 0 rfl (sx 1 rfl (sx 4 rfl (sx 5 rfl (sx 6 rfl (sx 7 rfl (sx 14 rfl (sub_nil _)))))))) (.refl _) ?_
  refine hl_nil ?_
  refine hq_then ?_
  refine hc_seq ?_
  refine hc_region ?_
  refine hl_v rfl rfl rfl (rv_ev rfl) ?_
  refine hl_v rfl rfl rfl (rv_len rfl Try.underlying40 rfl (rd_old hv.row)) ?_
  refine hl_v rfl rfl rfl (rv_ev rfl) ?_
  refine hl_less (sx 0 rfl (sx 1 rfl (sx 4 rfl (sx 5 rfl (sx 6 rfl (sx 7 rfl (sx 14 rfl (sx 15 rfl (sx 16 rfl (sx 17 rfl (sub_nil _))))))))))) (.refl _) ?_
  refine hl_nil ?_
  refine hq_then ?_
  refine hc_block ?_
  refine hc_loop3 (α := Nat) (β := List Int) (γ := Bool) (fun m ys c2 => [rowE 3 1 v1 ys.length (ys.map (Value.int .i64))]) (fun m ys c2 => [(0, v), (1, pv), (4, .slice none 0 0), (5, .bool false), (6, v1), (7, .bool c2), (14, .bool true), (15, v), (16, .int .i64 (rs.length : Int)), (17, .int .i64 (m : Int))]) (fun m ys c2 => m ≤ rs.length ∧ PInv n rs ps ys ∧ ((c2 = true ∧ zeros_o ys < zeros_o zs) ∨ (c2 = false ∧ zeros_o ys ≤ zeros_o zs)) ∧ Done rs ps m ∧ (c2 = false → FxTo rs ys m)) (fun m ys c2 => rs.length - m) 0 zs false ⟨by omega, hpz, .inr ⟨rfl, Nat.le_refl _⟩, done_zero rs ps, fun _ q hq => absurd hq (by omega)⟩ (sx 0 rfl (sx 1 rfl (sx 4 rfl (sx 5 rfl (sx 6 rfl (sx 7 rfl (sx 14 rfl (sx 15 rfl (sx 16 rfl (sx 17 rfl (sub_nil _))))))))))) ((.cons_cons _ .slnil)) ?_
  intro m ys c2 hi6
  obtain ⟨hm, hpi, hzc, hdn, hft⟩ := hi6
  have hyl := hpi.ok.1
  refine hc_seq ?_
  refine hc_region ?_
  refine hl_lss rfl rfl rfl rfl rfl rfl (fun h7 => ?_) (fun h7 => ?_)
  ·
   refine hl_less (sx 0 rfl (sx 1 rfl (sx 4 rfl (sx 5 rfl (sx 6 rfl (sx 7 rfl (sx 14 rfl (sx 15 rfl (sx 16 rfl (sx 17 rfl (sx 18 rfl (sub_nil _)))))))))))) (.refl _) ?_
   refine hl_nil ?_
   refine hq_then ?_
   refine hc_seq ?_
   refine hc_true rfl ?_
   refine hc_skip ?_
   refine hq_then ?_
   refine hc_seq ?_
   refine hc_block ?_
   refine hc_seq ?_
   refine hc_region ?_
   refine hl_v rfl rfl rfl (rv_index (s := 1) rfl Try.underlying40 (by kernel_rfl) rfl rfl (rd_old hv.row) (by omega) (by first | omega | (simp only [List.length_set]; omega))) ?_
   refine hl_v rfl rfl rfl (rv_loadEl (u := (rs.getD m crow0).v) rfl (by kernel_rfl) rfl (rd_old hv.row) (flat_one crowC (fun r => r.v) (fun _ => rfl) rs crow0 (show m < _ by first | omega | (simp only [List.length_set]; omega)))) ?_
   refine hl_v rfl rfl rfl (rv_ev rfl) ?_
   refine hl_less (sx 0 rfl (sx 1 rfl (sx 4 rfl (sx 5 rfl (sx 6 rfl (sx 7 rfl (sx 9 rfl (sx 14 rfl (sx 15 rfl (sx 16 rfl (sx 17 rfl (sx 18 rfl (sub_nil _))))))))))))) (.refl _) ?_
   refine hl_nil ?_
   refine hq_then ?_
   refine hc_seq ?_
   refine hc_region ?_
   refine hl_v rfl rfl rfl (rv_ev rfl) ?_
   refine hl_v rfl rfl rfl (rv_ev rfl) ?_
   refine hl_q rfl rfl rfl (rq_call (by kernel_rfl) rfl (fun w hm => unitOf_fx n (rs.getD m crow0).xs ys (rs.getD m crow0).v v1 w ((hv.at (by omega)).below hm.bel) (rd_row 0 rfl w hm) (hr.ok m (by omega)) hpi.ok hn1)) ?_
   intro v8 p9 hR10
   obtain ⟨u, cf, rfl, rfl, huk, hfx⟩ := hR10
   refine hl_v rfl rfl rfl (rv_ev rfl) ?_
   refine hl_v rfl rfl rfl (rv_ev rfl) ?_
   refine hl_v rfl rfl rfl (rv_ev rfl) ?_
   refine hl_bool (fun h11 => ?_) (fun h11 => ?_)
   ·
    refine hl_v rfl rfl rfl (rv_ev rfl) ?_
    refine hl_v rfl rfl rfl (rv_ev rfl) ?_
    refine hl_less (sx 0 rfl (sx 1 rfl (sx 4 rfl (sx 5 rfl (sx 6 rfl (sx 7 rfl (sx 9 rfl (sx 10 rfl (sx 11 rfl (sx 14 rfl (sx 15 rfl (sx 16 rfl (sx 17 rfl (sx 18 rfl (sub_nil _))))))))))))))) (.refl _) ?_
    refine hl_nil ?_
    refine hq_then ?_
    refine hc_seq ?_
    refine hc_seq ?_
    refine hc_region ?_
    refine hl_v rfl rfl rfl (rv_ev rfl) ?_
    refine hl_less (sx 0 rfl (sx 1 rfl (sx 4 rfl (sx 5 rfl (sx 6 rfl (sx 7 rfl (sx 9 rfl (sx 10 rfl (sx 11 rfl (sx 14 rfl (sx 15 rfl (sx 16 rfl (sx 17 rfl (sx 18 rfl (sx 27 rfl (sub_nil _)))))))))))))))) (.refl _) ?_
    refine hl_nil ?_
    refine hq_then ?_
    refine hc_true rfl ?_
    refine hc_seq ?_
    refine hc_region ?_
    refine hl_v rfl rfl rfl (rv_ev rfl) ?_
    refine hl_v rfl rfl rfl (rv_ev rfl) ?_
    refine hl_less (sx 0 rfl (sx 1 rfl (sx 4 rfl (sx 5 rfl (sx 6 rfl (sx 7 rfl (sx 9 rfl (sx 10 rfl (sx 11 rfl (sx 14 rfl (sx 15 rfl (sx 16 rfl (sx 17 rfl (sx 18 rfl (sx 27 rfl (sub_nil _)))))))))))))))) (.refl _) ?_
    refine hl_nil ?_
    refine hq_then ?_
    refine hc_ret ?_
    refine hq_then_ret ?_
    refine hq_block_ret ?_
    refine hq_then_ret ?_
    refine hq_then_ret ?_
    refine hq_block_ret ?_
    refine hq_block_ret ?_
    refine hq_then_ret ?_
    refine hq_block_ret ?_
    refine hq_then_ret ?_
    have hcf : cf = true := by assumption
    rw [hcf] at huk
    refine hq_conv (rowE 3 1 (.slice none 0 0) 0 [] :: [rowE 3 1 v1 ys.length (ys.map (Value.int .i64))]) (fun w hm => hm.nilRow 3 1) ?_
    exact hq_retM (rs := [.tmp 4, .tmp 5]) (vs := [.slice none 0 0, .bool false]) (post := [rowE 3 1 (.slice none 0 0) 0 []]) rfl ⟨rfl, rfl, trivial⟩ rfl (.cons_cons _ (List.nil_sublist _)) ⟨.slice none 0 0, [], false, rfl, rfl, pok_conf hr hpi (by omega) huk, fun h => by cases h⟩
   ·
    refine hl_v rfl rfl rfl (rv_ev rfl) ?_
    refine hl_v rfl rfl rfl (rv_ev rfl) ?_
    refine hl_less (sx 0 rfl (sx 1 rfl (sx 4 rfl (sx 5 rfl (sx 6 rfl (sx 7 rfl (sx 9 rfl (sx 10 rfl (sx 11 rfl (sx 14 rfl (sx 15 rfl (sx 16 rfl (sx 17 rfl (sx 18 rfl (sub_nil _))))))))))))))) (.refl _) ?_
    refine hl_nil ?_
    refine hq_then ?_
    refine hc_seq ?_
    refine hc_seq ?_
    refine hc_region ?_
    refine hl_v rfl rfl rfl (rv_ev rfl) ?_
    refine hl_less (sx 0 rfl (sx 1 rfl (sx 4 rfl (sx 5 rfl (sx 6 rfl (sx 7 rfl (sx 9 rfl (sx 10 rfl (sx 11 rfl (sx 14 rfl (sx 15 rfl (sx 16 rfl (sx 17 rfl (sx 18 rfl (sx 27 rfl (sub_nil _)))))))))))))))) (.refl _) ?_
    refine hl_nil ?_
    refine hq_then ?_
    refine hc_false rfl ?_
    refine hc_skip ?_
    refine hq_then ?_
    refine hc_seq ?_
    refine hc_seq ?_
    refine hc_region ?_
    refine hl_v rfl rfl rfl (rv_ev rfl) ?_
    refine hl_gtr rfl rfl rfl rfl rfl rfl (fun h12 => ?_) (fun h12 => ?_)
    ·
     refine hl_less (sx 0 rfl (sx 1 rfl (sx 4 rfl (sx 5 rfl (sx 6 rfl (sx 7 rfl (sx 9 rfl (sx 10 rfl (sx 11 rfl (sx 14 rfl (sx 15 rfl (sx 16 rfl (sx 17 rfl (sx 18 rfl (sx 27 rfl (sx 29 rfl (sub_nil _))))))))))))))))) (.refl _) ?_
     refine hl_nil ?_
     refine hq_then ?_
     refine hc_true rfl ?_
     refine hc_seq ?_
     refine hc_region ?_
     have hur := huk.rng (hr.ok m (by omega)) (by omega)
     refine hl_v rfl rfl rfl (rv_ev rfl) ?_
     refine hl_v rfl rfl rfl (rv_ev rfl) ?_
     refine hl_v rfl rfl rfl (rv_sub rfl rfl rfl (by constructor <;> omega)) ?_
     refine hl_v rfl rfl rfl (rv_index (s := 1) rfl Try.underlying26 (by kernel_rfl) rfl rfl (rd_row 0 rfl) (by omega) (by first | omega | (simp only [List.length_set]; omega))) ?_
     refine hl_storeEl (i := 0) (n' := (ys.set ((u - 1).toNat) 1).length) (xs' := ((ys.set ((u - 1).toNat) 1).map (Value.int .i64))) (l' := [rowE 3 1 v1 ((ys.set ((u - 1).toNat) 1).length) ((ys.set ((u - 1).toNat) 1).map (Value.int .i64))]) rfl rfl rfl (by kernel_rfl) rfl rfl rfl rfl (by first | omega | (simp only [List.length_set]; omega)) List.length_set.symm (ints_set _ _ _) rfl ?_
     refine hl_less (sx 0 rfl (sx 1 rfl (sx 4 rfl (sx 5 rfl (sx 6 rfl (sx 7 rfl (sx 9 rfl (sx 10 rfl (sx 11 rfl (sx 14 rfl (sx 15 rfl (sx 16 rfl (sx 17 rfl (sx 18 rfl (sx 27 rfl (sx 29 rfl (sub_nil _))))))))))))))))) (.refl _) ?_
     refine hl_nil ?_
     refine hq_then ?_
     refine hc_region ?_
     refine hl_v rfl rfl rfl (rv_ev rfl) ?_
     refine hl_less (sx 0 rfl (sx 1 rfl (sx 4 rfl (sx 5 rfl (sx 6 rfl (sx 7 rfl (sx 9 rfl (sx 10 rfl (sx 11 rfl (sx 14 rfl (sx 15 rfl (sx 16 rfl (sx 17 rfl (sx 18 rfl (sx 27 rfl (sx 29 rfl (sub_nil _))))))))))))))))) (.refl _) ?_
     refine hl_nil ?_
     refine hq_then ?_
     refine hc_seq ?_
     refine hc_region ?_
     refine hl_v rfl rfl rfl (rv_ev rfl) ?_
     refine hl_lss rfl rfl rfl rfl rfl rfl (fun h13 => absurd h13 (by omega)) (fun h13 => ?_)
     refine hl_less (sx 0 rfl (sx 1 rfl (sx 4 rfl (sx 5 rfl (sx 6 rfl (sx 7 rfl (sx 9 rfl (sx 10 rfl (sx 11 rfl (sx 14 rfl (sx 15 rfl (sx 16 rfl (sx 17 rfl (sx 18 rfl (sx 27 rfl (sx 29 rfl (sx 35 rfl (sub_nil _)))))))))))))))))) (.refl _) ?_
     refine hl_nil ?_
     refine hq_then ?_
     refine hc_false rfl ?_
     refine hc_skip ?_
     refine hq_block_normal ?_
     refine hq_then ?_
     refine hc_region ?_
     refine hl_v rfl rfl rfl (rv_add rfl rfl rfl (by constructor <;> omega)) ?_
     refine hl_v rfl rfl rfl (rv_ev rfl) ?_
     refine hl_less (sx 0 rfl (sx 1 rfl (sx 4 rfl (sx 5 rfl (sx 6 rfl (sx 7 rfl (sx 9 rfl (sx 10 rfl (sx 11 rfl (sx 14 rfl (sx 15 rfl (sx 16 rfl (sx 17 rfl (sx 18 rfl (sx 27 rfl (sx 29 rfl (sx 35 rfl (sub_nil _)))))))))))))))))) (.refl _) ?_
     refine hl_nil ?_
     obtain ⟨g1, g2, g3⟩ := pinv_pos hr hpi (by omega) huk (by omega)
     exact hq_round3 (m + 1) (ys.set ((u - 1).toNat) 1) true ⟨by omega, g1, .inl ⟨rfl, by rcases hzc with ⟨_, h9⟩ | ⟨_, h9⟩ <;> omega⟩, done_unit hr hpi (by omega) huk (by omega), fun h9 => by cases h9⟩ (by omega) (sx 0 rfl (sx 1 rfl (sx 4 rfl (sx 5 rfl (sx 6 rfl (sx 7 rfl (sx 14 rfl (sx 15 rfl (sx 16 rfl (sx 17 rfl (sub_nil _))))))))))) ((.cons_cons _ .slnil))
    ·
     refine hl_less (sx 0 rfl (sx 1 rfl (sx 4 rfl (sx 5 rfl (sx 6 rfl (sx 7 rfl (sx 9 rfl (sx 10 rfl (sx 11 rfl (sx 14 rfl (sx 15 rfl (sx 16 rfl (sx 17 rfl (sx 18 rfl (sx 27 rfl (sx 29 rfl (sub_nil _))))))))))))))))) (.refl _) ?_
     refine hl_nil ?_
     refine hq_then ?_
     refine hc_false rfl ?_
     refine hc_skip ?_
     refine hq_then ?_
     refine hc_seq ?_
     refine hc_region ?_
     refine hl_v rfl rfl rfl (rv_ev rfl) ?_
     refine hl_lss rfl rfl rfl rfl rfl rfl (fun h14 => ?_) (fun h14 => ?_)
     ·
      refine hl_less (sx 0 rfl (sx 1 rfl (sx 4 rfl (sx 5 rfl (sx 6 rfl (sx 7 rfl (sx 9 rfl (sx 10 rfl (sx 11 rfl (sx 14 rfl (sx 15 rfl (sx 16 rfl (sx 17 rfl (sx 18 rfl (sx 27 rfl (sx 29 rfl (sx 35 rfl (sub_nil _)))))))))))))))))) (.refl _) ?_
      refine hl_nil ?_
      refine hq_then ?_
      refine hc_true rfl ?_
      refine hc_seq ?_
      refine hc_region ?_
      have hur := huk.rng (hr.ok m (by omega)) (by omega)
      refine hl_v rfl rfl rfl (rv_ev rfl) ?_
      refine hl_v rfl rfl rfl (rv_ev rfl) ?_
      refine hl_v rfl rfl rfl (rv_neg rfl rfl (by omega) (by omega)) ?_
      refine hl_v rfl rfl rfl (rv_sub rfl rfl rfl (by constructor <;> omega)) ?_
      refine hl_v rfl rfl rfl (rv_index (s := 1) rfl Try.underlying26 (by kernel_rfl) rfl rfl (rd_row 0 rfl) (by omega) (by first | omega | (simp only [List.length_set]; omega))) ?_
      refine hl_storeEl (i := 0) (n' := (ys.set (((-u) - 1).toNat) (-1)).length) (xs' := ((ys.set (((-u) - 1).toNat) (-1)).map (Value.int .i64))) (l' := [rowE 3 1 v1 ((ys.set (((-u) - 1).toNat) (-1)).length) ((ys.set (((-u) - 1).toNat) (-1)).map (Value.int .i64))]) rfl rfl rfl (by kernel_rfl) rfl rfl rfl rfl (by first | omega | (simp only [List.length_set]; omega)) List.length_set.symm (ints_set _ _ _) rfl ?_
      refine hl_less (sx 0 rfl (sx 1 rfl (sx 4 rfl (sx 5 rfl (sx 6 rfl (sx 7 rfl (sx 9 rfl (sx 10 rfl (sx 11 rfl (sx 14 rfl (sx 15 rfl (sx 16 rfl (sx 17 rfl (sx 18 rfl (sx 27 rfl (sx 29 rfl (sx 35 rfl (sub_nil _)))))))))))))))))) (.refl _) ?_
      refine hl_nil ?_
      refine hq_then ?_
      refine hc_region ?_
      refine hl_v rfl rfl rfl (rv_ev rfl) ?_
      refine hl_less (sx 0 rfl (sx 1 rfl (sx 4 rfl (sx 5 rfl (sx 6 rfl (sx 7 rfl (sx 9 rfl (sx 10 rfl (sx 11 rfl (sx 14 rfl (sx 15 rfl (sx 16 rfl (sx 17 rfl (sx 18 rfl (sx 27 rfl (sx 29 rfl (sx 35 rfl (sub_nil _)))))))))))))))))) (.refl _) ?_
      refine hl_nil ?_
      refine hq_block_normal ?_
      refine hq_then ?_
      refine hc_region ?_
      refine hl_v rfl rfl rfl (rv_add rfl rfl rfl (by constructor <;> omega)) ?_
      refine hl_v rfl rfl rfl (rv_ev rfl) ?_
      refine hl_less (sx 0 rfl (sx 1 rfl (sx 4 rfl (sx 5 rfl (sx 6 rfl (sx 7 rfl (sx 9 rfl (sx 10 rfl (sx 11 rfl (sx 14 rfl (sx 15 rfl (sx 16 rfl (sx 17 rfl (sx 18 rfl (sx 27 rfl (sx 29 rfl (sx 35 rfl (sub_nil _)))))))))))))))))) (.refl _) ?_
      refine hl_nil ?_
      obtain ⟨g1, g2, g3⟩ := pinv_neg hr hpi (by omega) huk (by omega)
      exact hq_round3 (m + 1) (ys.set (((-u) - 1).toNat) (-1)) true ⟨by omega, g1, .inl ⟨rfl, by rcases hzc with ⟨_, h9⟩ | ⟨_, h9⟩ <;> omega⟩, done_unit hr hpi (by omega) huk (by omega), fun h9 => by cases h9⟩ (by omega) (sx 0 rfl (sx 1 rfl (sx 4 rfl (sx 5 rfl (sx 6 rfl (sx 7 rfl (sx 14 rfl (sx 15 rfl (sx 16 rfl (sx 17 rfl (sub_nil _))))))))))) ((.cons_cons _ .slnil))
     ·
      refine hl_less (sx 0 rfl (sx 1 rfl (sx 4 rfl (sx 5 rfl (sx 6 rfl (sx 7 rfl (sx 9 rfl (sx 10 rfl (sx 11 rfl (sx 14 rfl (sx 15 rfl (sx 16 rfl (sx 17 rfl (sx 18 rfl (sx 27 rfl (sx 29 rfl (sx 35 rfl (sub_nil _)))))))))))))))))) (.refl _) ?_
      refine hl_nil ?_
      refine hq_then ?_
      refine hc_false rfl ?_
      refine hc_skip ?_
      refine hq_block_normal ?_
      refine hq_then ?_
      refine hc_region ?_
      refine hl_v rfl rfl rfl (rv_add rfl rfl rfl (by constructor <;> omega)) ?_
      refine hl_v rfl rfl rfl (rv_ev rfl) ?_
      refine hl_less (sx 0 rfl (sx 1 rfl (sx 4 rfl (sx 5 rfl (sx 6 rfl (sx 7 rfl (sx 9 rfl (sx 10 rfl (sx 11 rfl (sx 14 rfl (sx 15 rfl (sx 16 rfl (sx 17 rfl (sx 18 rfl (sx 27 rfl (sx 29 rfl (sx 35 rfl (sub_nil _)))))))))))))))))) (.refl _) ?_
      refine hl_nil ?_
      have hu0 : u = 0 := by omega
      have hcf : cf = false := by assumption
      have hfx2 := hfx hcf hu0
      rw [hu0, hcf] at huk
      exact hq_round3 (m + 1) ys c2 ⟨by omega, hpi, hzc, done_none hr hpi (by omega) huk hdn, fun h9 => fxto_next (hft h9) hfx2⟩ (by omega) (sx 0 rfl (sx 1 rfl (sx 4 rfl (sx 5 rfl (sx 6 rfl (sx 7 rfl (sx 14 rfl (sx 15 rfl (sx 16 rfl (sx 17 rfl (sub_nil _))))))))))) ((.cons_cons _ .slnil))
  ·
   refine hl_less (sx 0 rfl (sx 1 rfl (sx 4 rfl (sx 5 rfl (sx 6 rfl (sx 7 rfl (sx 14 rfl (sx 15 rfl (sx 16 rfl (sx 17 rfl (sx 18 rfl (sub_nil _)))))))))))) (.refl _) ?_
   refine hl_nil ?_
   refine hq_then ?_
   refine hc_seq ?_
   refine hc_false rfl ?_
   refine hc_exit ?_
   refine hq_then_exit ?_
   refine hq_then_exit ?_
   refine hq_block_exit ?_
   refine hq_block_normal ?_
   have hmr : m = rs.length := by omega
   exact hq_round2 ys c2 ⟨hpi, fun hc9 => ⟨hmr ▸ hdn, hmr ▸ hft hc9⟩⟩ (by have hch : ch = true := (by assumption); rcases hzc with ⟨h8, h9⟩ | ⟨h8, h9⟩ <;> simp only [h8, hch, if_true, if_false, Bool.false_eq_true] <;> omega) (sx 0 rfl (sx 1 rfl (sx 4 rfl (sx 5 rfl (sx 6 rfl (sx 7 rfl (sub_nil _))))))) ((.cons_cons _ .slnil))
 ·
  refine hl_less (sx 0 rfl (sx 1 rfl (sx 4 rfl (sx 5 rfl (sx 6 rfl (sx 7 rfl (sx 14 rfl (sub_nil _)))))))) (.refl _) ?_
  refine hl_nil ?_
  refine hq_then ?_
  refine hc_false rfl ?_
  refine hc_exit ?_
  refine hq_then_exit ?_
  refine hq_then_exit ?_
  refine hq_block_exit ?_
  refine hq_then ?_
  refine hc_seq ?_
  refine hc_region ?_
  refine hl_v rfl rfl rfl (rv_ev rfl) ?_
  refine hl_v rfl rfl rfl (rv_ev rfl) ?_
  refine hl_v rfl rfl rfl (rv_ev rfl) ?_
  refine hl_less (sx 0 rfl (sx 1 rfl (sx 4 rfl (sx 5 rfl (sx 6 rfl (sx 7 rfl (sx 14 rfl (sub_nil _)))))))) (.refl _) ?_
  refine hl_nil ?_
  refine hq_then ?_
  refine hc_ret ?_
  exact hq_retM (rs := [.tmp 4, .tmp 5]) (vs := [v1, .bool true]) (post := [rowE 3 1 v1 zs.length (zs.map (Value.int .i64))]) rfl ⟨rfl, rfl, trivial⟩ rfl ((.cons_cons _ .slnil)) ⟨_, zs, true, rfl, rfl, pok_end hpz (hdz (by assumption)).1, fun _ => ⟨hpz.ok, hpz.len, hpz.ext, (hdz (by assumption)).2⟩⟩
structure Sv where
  v : Int
  pv : Value
  pr : List CRow
  fv : Value
  fo : List Int
abbrev svP (b : Nat) (n : Int) (cv : Value) (s : Sv) : List HP := [boxE b #[.int .i64 n, cv, .int .i64 600, .int .i64 s.v, s.pv, s.fv] 125, bigE (s.pr.map cPart), rowE 26 1 s.pv s.pr.length (s.pr.flatMap crowC), rowE 3 1 s.fv s.fo.length (s.fo.map (Value.int .i64))]
abbrev svE (b : Nat) (n : Int) (cv : Value) (s : Sv) : HP := bigE (svP b n cv s)
/-- a decision laid down -/
def decL (zs : List Int) (d : Int) : List Int := if 0 < d then zs.set (d - 1).toNat 1 else zs.set (-d - 1).toNat (-1)
def ownL (ds ps : List Int) : List Int := if ds.length = 0 then ps else decL ps (ds.getD (ds.length - 1) 0)
theorem own_app (ds zs : List Int) (d : Int) : ownL (ds ++ [d]) zs = decL zs d := by
  unfold ownL
  rw [if_neg (by simp), List.length_append, List.length_singleton, Nat.add_sub_cancel, getD_right (Nat.le_refl _), Nat.sub_self]; rfl
theorem dec_len (zs : List Int) (d : Int) : (decL zs d).length = zs.length := by unfold decL; split <;> simp
theorem dec_ok {n : Int} {zs : List Int} (h : PsOk n zs) (d : Int) : PsOk n (decL zs d) := by
  refine ⟨by rw [dec_len]; exact h.1, fun i hi => ?_⟩
  rw [dec_len] at hi
  unfold decL
  split
  · by_cases e : i = (d - 1).toNat
    · subst e; rw [getD_set_self' hi]; omega
    · rw [getD_set_ne3 (fun h => e h.symm)]; exact h.2 i hi
  · by_cases e : i = (-d - 1).toNat
    · subst e; rw [getD_set_self' hi]; omega
    · rw [getD_set_ne3 (fun h => e h.symm)]; exact h.2 i hi
theorem own_ok {n : Int} {ds ps : List Int} (h : PsOk n ps) : PsOk n (ownL ds ps) := by
  unfold ownL; split
  · exact h
  · exact dec_ok h _
structure VIn (n : Int) (rs : List CRow) (F : Nat) (ds ps : List Int) (s : Sv) : Prop where
  hps : PsOk n ps
  hds : ∀ i, i < ds.length → ds.getD i 0 ≠ 0 ∧ -n ≤ ds.getD i 0 ∧ ds.getD i 0 ≤ n
  len : ds.length + zeros_o (ownL ds ps) ≤ 1000
  pre : VPre rs F (ownL ds ps) s.v
  pr : (s.pr.length : Int) ≤ s.v
  v0 : 0 ≤ s.v
structure SCtx (n : Int) (rs : List CRow) (F : Nat) : Prop where
  hr : ClOk n rs
  hF : n ≤ F + 14
  hkey : ∀ zs, PsOk n zs → (∀ q, q < rs.length → Fx (rs.getD q crow0).xs zs) → (∀ k, k < F → k < zs.length → zs.getD k 0 ≠ 0) → SatF rs zs
structure SFree (n : Int) (rs : List CRow) (own zs : List Int) (k : Nat) : Prop where
  hp : PsOk n own
  hz : PFx n rs own zs
  hk : k < zs.length
  h0 : zs.getD k 0 = 0
  hb : ∀ i, i < k → zs.getD i 0 ≠ 0
def LoopI (n : Int) (rs : List CRow) (F : Nat) (own zs : List Int) (k : Nat) (v0 : Int) (i : Nat) (v1 : Int) : Prop :=
  (i = 0 ∧ v1 = v0 + 1) ∨ (i = 1 ∧ NoFs n rs (zs.set k (-1)) ∧ v0 + 1 ≤ v1 ∧ v1 ≤ v0 + 1 + 2 ^ (pz F (zs.set k (-1)) + 1) - 1) ∨ (i = 2 ∧ NoFs n rs zs ∧ v0 + 1 ≤ v1 ∧ v1 ≤ v0 + 2 ^ (pz F own + 1) - 1)
section
variable {n : Int} {rs : List CRow} {F : Nat} {own zs ds : List Int} {k i : Nat} {v0 v1 d : Int}
theorem dec_neg (k : Nat) (zs : List Int) : decL zs (-((k : Int) + 1)) = zs.set k (-1) := by
  unfold decL; rw [if_neg (by omega), show (-(-((k : Int) + 1)) - 1).toNat = k by omega]
theorem dec_pos (k : Nat) (zs : List Int) : decL zs ((k : Int) + 1) = zs.set k 1 := by
  unfold decL; rw [if_pos (by omega), show ((k : Int) + 1 - 1).toNat = k by omega]
theorem child_in (c : SCtx n rs F) (f : SFree n rs own zs k) (hv : VPre rs F own v0) (hI : LoopI n rs F own zs k v0 i v1) (hi : i < 2) (hd : d = [-((k : Int) + 1), (k : Int) + 1].getD i 0) :
    VPre rs F (decL zs d) v1 ∧ zeros_o (decL zs d) + 1 = zeros_o zs ∧ (d ≠ 0 ∧ -n ≤ d ∧ d ≤ n) ∧ v0 + 1 ≤ v1 := by
  have hl := f.hz.ok.1
  have hk := f.hk
  rcases hI with ⟨e, h1⟩ | ⟨e, h1, h2, h3⟩ | ⟨e, -⟩
  · subst e
    have hd0 : d = -((k : Int) + 1) := hd
    subst hd0
    rw [dec_neg, h1]
    exact ⟨vpre_first c.hr c.hF c.hkey f.hp f.hz f.hk f.h0 f.hb hv (.inr rfl), zeros_set _ _ _ f.hk f.h0 (by decide), by omega, by omega⟩
  · subst e
    have hd0 : d = (k : Int) + 1 := hd
    subst hd0
    rw [dec_pos]
    exact ⟨(vpre_second c.hr c.hF c.hkey f.hp f.hz f.hk f.h0 f.hb hv h1 h3).1, zeros_set _ _ _ f.hk f.h0 (by decide), by omega, h2⟩
  · omega
theorem child_out (c : SCtx n rs F) (f : SFree n rs own zs k) (hv : VPre rs F own v0) (hI : LoopI n rs F own zs k v0 i v1) (hi : i < 2) (hd : d = [-((k : Int) + 1), (k : Int) + 1].getD i 0) {v2 : Int} {fo : List Int} (hp : VPost n rs F (decL zs d) v1 v2 2 fo) :
    LoopI n rs F own zs k v0 (i + 1) v2 := by
  have hm := hp.mono.1
  rcases hp.r with ⟨e, -⟩ | ⟨-, hno, hv2⟩
  · exact absurd e (by decide)
  rcases hI with ⟨e, h1⟩ | ⟨e, h1, h2, h3⟩ | ⟨e, -⟩
  · subst e
    have hd0 : d = -((k : Int) + 1) := hd
    subst hd0
    rw [dec_neg] at hno hv2
    exact .inr (.inl ⟨rfl, hno, by omega, by omega⟩)
  · subst e
    have hd0 : d = (k : Int) + 1 := hd
    subst hd0
    rw [dec_pos] at hno hv2
    have h4 := (vpre_second c.hr c.hF c.hkey f.hp f.hz f.hk f.h0 f.hb hv h1 h3).2
    exact .inr (.inr ⟨rfl, no_split f.hk f.hz.ok.1 f.h0 h1 hno, by omega, by omega⟩)
  · omega
/-- a child that ends the search -/
theorem child_end (c : SCtx n rs F) (hI : LoopI n rs F own zs k v0 i v1) {v2 cd : Int} {fo : List Int} (hm : v0 ≤ v1) (hp : VPost n rs F (decL zs d) v1 v2 cd fo) (hc : cd ≠ 2) : VPost n rs F own v0 v2 cd fo := by
  have h := hp.mono
  rcases hp.r with ⟨e, h1, h2⟩ | ⟨e, -⟩
  · exact ⟨.inl ⟨e, h1, h2⟩, by omega, by omega⟩
  · exact absurd e hc
theorem both_out (c : SCtx n rs F) {out : List Int} {ok : Bool} (hok : POk n rs own out ok) (hI : LoopI n rs F own out k v0 2 v1) (h6 : v1 ≤ 600) {fo : List Int} : VPost n rs F own v0 v1 2 fo := by
  rcases hI with ⟨e, -⟩ | ⟨e, -⟩ | ⟨-, h1, h2, h3⟩
  · exact absurd e (by decide)
  · exact absurd e (by decide)
  · exact ⟨.inr ⟨rfl, no_next hok h1, h3⟩, by omega, h6⟩
theorem conf_out {out : List Int} {ok : Bool} (hok : POk n rs own out ok) (hk : ok = false) (hv : v0 < 600) {fo : List Int} : VPost n rs F own v0 (v0 + 1) 2 fo :=
  ⟨.inr ⟨rfl, no_conflict hok hk, by have h1 := pow1 (pz F own); have e : (2 : Int) ^ (pz F own + 1) = 2 ^ pz F own * 2 := Int.pow_succ _ _; omega⟩, by omega, by omega⟩
theorem full_out (c : SCtx n rs F) {out : List Int} (hz : PFx n rs own out) (hf : ∀ i, i < out.length → out.getD i 0 ≠ 0) (hv : v0 < 600) : VPost n rs F own v0 (v0 + 1) 1 out :=
  ⟨.inl ⟨rfl, ⟨hz.ok, hf⟩, fx_sat c.hr hz.ok hz.fx hf⟩, by omega, by omega⟩
end
theorem zeros_next {n : Int} {rs : List CRow} {own zs : List Int} (hz : PFx n rs own zs) : zeros_o zs ≤ zeros_o own := zeros_mono own zs hz.len hz.ext
theorem hq_oneS {N : Nat} {w0 : World} {l : List HP} {env : List (Nat × Value)} {Q : Post} {ex : Exit} {i e s n : Nat} {v : Value} {xs : List Value} (hi : l[i]? = some (rowE e s v n xs)) (k : v.oneCell' = true → HQ N w0 l env ex Q) : HQ N w0 l env ex Q := fun a w st => k (rdsW_own (st.mem.holds _ (mem_at hi))).one a w st
theorem rq_buildSlice1M {P : Program} {N : Nat} {w0 : World} {l : List HP} {env : List (Nat × Value)} {o : Oper} {t e : TypeId} {x : Operand} {v : Value} (ho : o.op = .buildSlice t 1 #[(0, x)]) (hu : P.underlying t = some (.slice e)) (hi : (P.info? e).map (fun i => (i.zero, i.size)) = some (some (.slice none 0 0), 1)) (hx : ev env x = some v) (h1 : ∀ w, Mem w0 l w → v.oneCell' = true) :
    RunQ P N w0 l env o (IsRow_o e 1 1 [v]) := fun a w st => rq_buildSlice1 ho hu hi hx (h1 w st.mem) a w st
set_option maxHeartbeats 4000000 in
set_option maxRecDepth 100000 in
theorem negations_ret (xs : List Int) (v : Value) (w : World) (hv : RdsW w v 1 xs.length (xs.map (Value.int .i64))) (hl : xs.length ≤ 1000) (hx : ∀ i, i < xs.length → -1000 ≤ xs.getD i 0 ∧ xs.getD i 0 ≤ 1000) :
  Calls Try.prog 168 #[v] w (Ret w (fun v' post => post = [rowE 3 1 v' (xs.map (fun x => -x)).length ((xs.map (fun x => -x)).map (Value.int .i64))] ∧ v'.oneCell' = true)) := by
 refine calls_hc (N := 19) (args := [v]) Try.func168 rfl rfl ?_
 refine hc_less _ (sx 0 rfl (sub_nil _)) (.refl _) ?_
 refine hc_seq ?_
 refine hc_region ?_
 refine hl_v rfl rfl rfl (rv_ev rfl) ?_
 refine hl_less (sx 0 rfl (sx 2 rfl (sub_nil _))) (.refl _) ?_
 refine hl_nil ?_
 refine hq_then ?_
 refine hc_seq ?_
 refine hc_region ?_
 refine hl_nilRow 3 1 ?_
 refine hl_v rfl rfl rfl (rv_ev rfl) ?_
 refine hl_less (sx 0 rfl (sx 2 rfl (sx 3 rfl (sub_nil _)))) (.refl _) ?_
 refine hl_nil ?_
 refine hq_then ?_
 refine hc_seq ?_
 refine hc_seq ?_
 refine hc_region ?_
 refine hl_v rfl rfl rfl (rv_ev rfl) ?_
 refine hl_v rfl rfl rfl (rv_len rfl Try.underlying26 rfl (rd_old hv)) ?_
 refine hl_v rfl rfl rfl (rv_ev rfl) ?_
 refine hl_less (sx 0 rfl (sx 2 rfl (sx 3 rfl (sx 6 rfl (sx 7 rfl (sx 8 rfl (sub_nil _))))))) (.refl _) ?_
 refine hl_nil ?_
 refine hq_then ?_
 refine hc_block ?_
 refine hc_loop3 (α := Nat) (β := Value) (γ := List Int) (fun j u zs => [rowE 3 1 u zs.length (zs.map (Value.int .i64))]) (fun j u zs => [(0, v), (2, .slice none 0 0), (3, u), (6, v), (7, .int .i64 (xs.length : Int)), (8, .int .i64 (j : Int))]) (fun j u zs => j ≤ xs.length ∧ zs = (xs.take j).map (fun x => -x)) (fun j u zs => xs.length - j) 0 _ [] ⟨by omega, rfl⟩ (sx 0 rfl (sx 2 rfl (sx 3 rfl (sx 6 rfl (sx 7 rfl (sx 8 rfl (sub_nil _))))))) ((.cons_cons _ .slnil)) ?_
 intro j u zs hi2
 obtain ⟨hj, hz⟩ := hi2
 have hzl : zs.length = j := by rw [hz, List.length_map, List.length_take]; omega
 refine hc_seq ?_
 refine hc_region ?_
 refine hl_lss rfl rfl rfl rfl rfl rfl (fun h3 => ?_) (fun h3 => ?_)
 ·
  refine hl_less (sx 0 rfl (sx 2 rfl (sx 3 rfl (sx 6 rfl (sx 7 rfl (sx 8 rfl (sx 9 rfl (sub_nil _)))))))) (.refl _) ?_
  refine hl_nil ?_
  refine hq_then ?_
  refine hc_seq ?_
  refine hc_true rfl ?_
  refine hc_skip ?_
  refine hq_then ?_
  refine hc_seq ?_
  refine hc_block ?_
  refine hc_seq ?_
  refine hc_region ?_
  refine hl_v rfl rfl rfl (rv_index (s := 1) rfl Try.underlying26 (by kernel_rfl) rfl rfl (rd_old hv) (by omega) (by first | omega | (simp only [List.length_set]; omega))) ?_
  refine hl_v rfl rfl rfl (rv_loadEl (u := .int .i64 (xs.getD j 0)) rfl (by kernel_rfl) rfl (rd_old hv) (ints_at1 (show _ < xs.length by first | omega | (simp only [List.length_set]; omega)))) ?_
  refine hl_v rfl rfl rfl (rv_ev rfl) ?_
  refine hl_less (sx 0 rfl (sx 2 rfl (sx 3 rfl (sx 5 rfl (sx 6 rfl (sx 7 rfl (sx 8 rfl (sx 9 rfl (sub_nil _))))))))) (.refl _) ?_
  refine hl_nil ?_
  refine hq_then ?_
  refine hc_region ?_
  refine hl_v rfl rfl rfl (rv_ev rfl) ?_
  refine hl_v rfl rfl rfl (rv_ev rfl) ?_
  have hxj := hx j (by omega)
  refine hl_v rfl rfl rfl (rv_neg rfl rfl (by omega) (by omega)) ?_
  refine hl_row rfl rfl rfl (rq_buildSlice (z := .int .i64 0) (s := 1) (cs := ([-(xs.getD j 0)].map (Value.int .i64))) rfl Try.underlying26 (by kernel_rfl) (by decide) rfl (by kernel_rfl) rfl) ?_
  intro g4
  refine hl_append (i := 1) (z := .int .i64 0) (bytes := 8) (n' := (zs ++ ([-(xs.getD j 0)])).length) (xs' := ((zs ++ ([-(xs.getD j 0)])).map (Value.int .i64))) (L := fun v5 => [rowE 3 1 (.slice (some ⟨g4, 0, none⟩) 1 1) 1 ([-(xs.getD j 0)].map (Value.int .i64)), rowE 3 1 v5 ((zs ++ ([-(xs.getD j 0)])).length) ((zs ++ ([-(xs.getD j 0)])).map (Value.int .i64))]) rfl rfl rfl rfl Try.underlying26 (by kernel_rfl) (by kernel_rfl) rfl rfl rfl (rd_row 0 rfl) (ints_one _) (by first | omega | (simp; omega)) (len_app zs ([-(xs.getD j 0)])) (ints_app zs ([-(xs.getD j 0)])) (fun _ => rfl) ?_
  intro v5
  refine hl_v rfl rfl rfl (rv_ev rfl) ?_
  refine hl_less (sx 0 rfl (sx 2 rfl (sx 3 rfl (sx 5 rfl (sx 6 rfl (sx 7 rfl (sx 8 rfl (sx 9 rfl (sub_nil _))))))))) (.refl _) ?_
  refine hl_nil ?_
  refine hq_block_normal ?_
  refine hq_then ?_
  refine hc_region ?_
  refine hl_v rfl rfl rfl (rv_add rfl rfl rfl (by constructor <;> omega)) ?_
  refine hl_v rfl rfl rfl (rv_ev rfl) ?_
  refine hl_less (sx 0 rfl (sx 2 rfl (sx 3 rfl (sx 5 rfl (sx 6 rfl (sx 7 rfl (sx 8 rfl (sx 9 rfl (sub_nil _))))))))) (.refl _) ?_
  refine hl_nil ?_
  exact hq_round3 (j + 1) v5 (zs ++ ([-(xs.getD j 0)])) ⟨by omega, by rw [hz, take_snocG 0 (show j < xs.length by omega), List.map_append]; rfl⟩ (by omega) (sx 0 rfl (sx 2 rfl (sx 3 rfl (sx 6 rfl (sx 7 rfl (sx 8 rfl (sub_nil _))))))) ((.cons _ (.cons_cons _ .slnil)))
 ·
  refine hl_less (sx 0 rfl (sx 2 rfl (sx 3 rfl (sx 6 rfl (sx 7 rfl (sx 8 rfl (sx 9 rfl (sub_nil _)))))))) (.refl _) ?_
  refine hl_nil ?_
  refine hq_then ?_
  refine hc_seq ?_
  refine hc_false rfl ?_
  refine hc_exit ?_
  refine hq_then_exit ?_
  refine hq_then_exit ?_
  refine hq_block_exit ?_
  refine hq_then ?_
  refine hc_seq ?_
  refine hc_region ?_
  refine hl_v rfl rfl rfl (rv_ev rfl) ?_
  refine hl_v rfl rfl rfl (rv_ev rfl) ?_
  refine hl_less (sx 0 rfl (sx 2 rfl (sx 3 rfl (sx 6 rfl (sx 7 rfl (sx 8 rfl (sx 9 rfl (sub_nil _)))))))) (.refl _) ?_
  refine hl_nil ?_
  refine hq_then ?_
  refine hc_ret ?_
  refine hq_oneS (i := 0) rfl (fun hoR => ?_)
  exact hq_retR (post := [rowE 3 1 u zs.length (zs.map (Value.int .i64))]) rfl rfl ((.cons_cons _ .slnil)) ⟨by rw [hz, show j = xs.length by omega, List.take_length], hoR⟩
end Go.Proofs.Ytakbbebpimlnpaa
