/- Texts of the law FnConjuncts, part 3: what it uses. -/
import Derived.Test.YtakbbebpimlnpaaCj2
set_option linter.unusedVariables false
set_option linter.unusedSimpArgs false
namespace Go.Proofs.Ytakbbebpimlnpaa
open Go.RowKit Go.ChangeShapes
open Go.RowKit
set_option maxHeartbeats 4000000 in
set_option maxRecDepth 100000 in
theorem isAnd_yes (n : Nt) (k : Int) (w : World) (hr : RdsNt w n) (hn : NtOk n) :
  Calls Try.prog 68 #[.agg #[.int .i64 n.ins, n.sv, n.av, n.ov], .int .i64 k] w (Ans w (.bool (isAndB n k))) := by
 have hi0 := hn.i0
 have hi1 := hn.i1
 have hs1 := hn.s1
 have ha1 := hn.a1
 have ho1 := hn.o1
 have hcnt : n.cnt = 1 + n.ins + n.ss.length + n.gs.length := rfl
 have hfst : n.fst = 1 + n.ins + n.ss.length := rfl
 refine calls_hc (N := 15) (args := [.agg #[.int .i64 n.ins, n.sv, n.av, n.ov], .int .i64 k]) Try.func68 rfl rfl ?_
 refine hc_less _ (sx 0 rfl (sx 1 rfl (sub_nil _))) (.refl _) ?_
 refine hc_seq ?_
 refine hc_region ?_
 refine hl_box rfl rfl rfl (rq_box rfl rfl) ?_
 intro b1
 refine hl_v rfl rfl rfl (rv_ev rfl) ?_
 refine hl_less (sx 0 rfl (sx 1 rfl (sx 2 rfl (sx 4 rfl (sub_nil _))))) (.refl _) ?_
 refine hl_nil ?_
 refine hq_then ?_
 refine hc_seq ?_
 refine hc_region ?_
 refine hl_v rfl rfl rfl (rv_ev rfl) ?_
 refine hl_v rfl rfl rfl (rv_loadN (cs := [.int .i64 n.ins, n.sv, n.av, n.ov]) rfl (by kernel_rfl) (by kernel_rfl) rfl rfl (box_part 0 rfl 0 rfl)) ?_
 refine hl_callV rfl rfl rfl (rq_call (by kernel_rfl) rfl (fun w hm => ret_ans (firstAnd_yes n w (hr.below hm.bel) hn))) ?_
 refine hl_geq rfl rfl rfl rfl rfl rfl (fun h2 => ?_) (fun h2 => ?_)
 ·
  refine hl_v rfl rfl rfl (rv_ev rfl) ?_
  refine hl_v rfl rfl rfl (rv_ev rfl) ?_
  refine hl_v rfl rfl rfl (rv_loadN (cs := [.int .i64 n.ins, n.sv, n.av, n.ov]) rfl (by kernel_rfl) (by kernel_rfl) rfl rfl (box_part 0 rfl 0 rfl)) ?_
  refine hl_callV rfl rfl rfl (rq_call (by kernel_rfl) rfl (fun w hm => ret_ans (implnodeCount_yes n w (hr.below hm.bel) hn))) ?_
  refine hl_lss rfl rfl rfl rfl rfl rfl (fun h3 => ?_) (fun h3 => ?_)
  ·
   refine hl_v rfl rfl rfl (rv_ev rfl) ?_
   refine hl_v rfl rfl rfl (rv_ev rfl) ?_
   refine hl_less (sx 0 rfl (sx 1 rfl (sx 2 rfl (sx 4 rfl (sub_nil _))))) (.refl _) ?_
   refine hl_nil ?_
   refine hq_then ?_
   refine hc_ret ?_
   exact hq_ans rfl rfl (congrArg _ (isAnd_iff.2 (by omega)).symm)
  ·
   refine hl_v rfl rfl rfl (rv_ev rfl) ?_
   refine hl_v rfl rfl rfl (rv_ev rfl) ?_
   refine hl_less (sx 0 rfl (sx 1 rfl (sx 2 rfl (sx 4 rfl (sub_nil _))))) (.refl _) ?_
   refine hl_nil ?_
   refine hq_then ?_
   refine hc_ret ?_
   exact hq_ans rfl rfl (congrArg _ (Bool.eq_false_iff.2 (fun h => by have := isAnd_iff.1 h; omega)).symm)
 ·
  refine hl_v rfl rfl rfl (rv_ev rfl) ?_
  refine hl_skip rfl rfl rfl ?_
  refine hl_skip rfl rfl rfl ?_
  refine hl_skip rfl rfl rfl ?_
  refine hl_skip rfl rfl rfl ?_
  refine hl_v rfl rfl rfl (rv_ev rfl) ?_
  refine hl_v rfl rfl rfl (rv_ev rfl) ?_
  refine hl_less (sx 0 rfl (sx 1 rfl (sx 2 rfl (sx 4 rfl (sub_nil _))))) (.refl _) ?_
  refine hl_nil ?_
  refine hq_then ?_
  refine hc_ret ?_
  exact hq_ans rfl rfl (congrArg _ (Bool.eq_false_iff.2 (fun h => by have := isAnd_iff.1 h; omega)).symm)
set_option maxHeartbeats 4000000 in
set_option maxRecDepth 100000 in
theorem seqOk_yes (s : Sq) (w : World) (hs : SqOk s) (hx : RdsW w s.iv 1 s.xs.length (s.xs.map (Value.int .i64))) :
  Calls Try.prog 125 #[.agg #[.int .i64 s.kd, .int .i64 s.it, s.iv]] w (Ans w (.bool true)) := by
 have hk := hs.kind
 refine calls_hc (N := 27) (args := [.agg #[.int .i64 s.kd, .int .i64 s.it, s.iv]]) Try.func125 rfl rfl ?_
 refine hc_less _ (sx 0 rfl (sub_nil _)) (.refl _) ?_
 refine hc_seq ?_
 refine hc_region ?_
 refine hl_box rfl rfl rfl (rq_box rfl rfl) ?_
 intro b1
 refine hl_v rfl rfl rfl (rv_ev rfl) ?_
 refine hl_less (sx 0 rfl (sx 1 rfl (sx 2 rfl (sub_nil _)))) (.refl _) ?_
 refine hl_nil ?_
 refine hq_then ?_
 refine hc_seq ?_
 refine hc_seq ?_
 refine hc_region ?_
 refine hl_v rfl rfl rfl (rv_field (k0 := 0) rfl (by kernel_rfl) rfl) ?_
 refine hl_v rfl rfl rfl (rv_load rfl (by kernel_rfl) rfl (box_cell 0 rfl rfl)) ?_
 refine hl_less (sx 0 rfl (sx 1 rfl (sx 2 rfl (sx 4 rfl (sub_nil _))))) (.refl _) ?_
 refine hl_nil ?_
 refine hq_then ?_
 refine hc_block ?_
 refine hc_seq ?_
 refine hc_region ?_
 refine hl_eql rfl rfl rfl rfl rfl rfl (fun h2 => ?_) (fun h2 => ?_)
 ·
  refine hl_v rfl rfl rfl (rv_ev rfl) ?_
  refine hl_less (sx 0 rfl (sx 1 rfl (sx 2 rfl (sx 4 rfl (sx 5 rfl (sub_nil _)))))) (.refl _) ?_
  refine hl_nil ?_
  refine hq_then ?_
  refine hc_true rfl ?_
  refine hc_seq ?_
  refine hc_region ?_
  refine hl_v rfl rfl rfl (rv_field (k0 := 1) rfl (by kernel_rfl) rfl) ?_
  refine hl_v rfl rfl rfl (rv_load rfl (by kernel_rfl) rfl (box_cell 0 rfl rfl)) ?_
  refine hl_callV rfl rfl rfl (rq_call (by kernel_rfl) rfl (fun w hm => ret_ans (ans_of (inRange_any _ _ _ w)))) ?_
  refine hl_bool (fun h3 => ?_) (fun h3 => absurd ((((inR_iff _ _ _).2 (by omega))).symm.trans h3) (by decide))
  refine hl_v rfl rfl rfl (rv_ev rfl) ?_
  refine hl_v rfl rfl rfl (rv_field (k0 := 2) rfl (by kernel_rfl) rfl) ?_
  refine hl_v rfl rfl rfl (rv_load rfl (by kernel_rfl) rfl (box_cell 0 rfl rfl)) ?_
  refine hl_v rfl rfl rfl (rv_len rfl Try.underlying26 rfl (rd_old hx)) ?_
  refine hl_eql rfl rfl rfl rfl rfl rfl (fun h4 => ?_) (fun h4 => ?_)
  ·
   refine hl_v rfl rfl rfl (rv_ev rfl) ?_
   refine hl_v rfl rfl rfl (rv_ev rfl) ?_
   refine hl_less (sx 0 rfl (sx 1 rfl (sx 2 rfl (sx 4 rfl (sx 5 rfl (sub_nil _)))))) (.refl _) ?_
   refine hl_nil ?_
   refine hq_then ?_
   refine hc_ret ?_
   refine hq_block_ret ?_
   refine hq_then_ret ?_
   exact hq_ans rfl rfl rfl
  ·
   refine hl_v rfl rfl rfl (rv_ev rfl) ?_
   refine hl_v rfl rfl rfl (rv_ev rfl) ?_
   refine hl_less (sx 0 rfl (sx 1 rfl (sx 2 rfl (sx 4 rfl (sx 5 rfl (sub_nil _)))))) (.refl _) ?_
   refine hl_nil ?_
   refine hq_then ?_
   refine hc_ret ?_
   refine hq_block_ret ?_
   refine hq_then_ret ?_
   exfalso
   omega
 ·
  refine hl_v rfl rfl rfl (rv_ev rfl) ?_
  refine hl_less (sx 0 rfl (sx 1 rfl (sx 2 rfl (sx 4 rfl (sx 5 rfl (sub_nil _)))))) (.refl _) ?_
  refine hl_nil ?_
  refine hq_then ?_
  refine hc_false rfl ?_
  refine hc_seq ?_
  refine hc_region ?_
  refine hl_eql rfl rfl rfl rfl rfl rfl (fun h5 => ?_) (fun h5 => ?_)
  ·
   refine hl_v rfl rfl rfl (rv_ev rfl) ?_
   refine hl_less (sx 0 rfl (sx 1 rfl (sx 2 rfl (sx 4 rfl (sx 5 rfl (sx 16 rfl (sub_nil _))))))) (.refl _) ?_
   refine hl_nil ?_
   refine hq_then ?_
   refine hc_true rfl ?_
   refine hc_seq ?_
   refine hc_region ?_
   refine hl_v rfl rfl rfl (rv_field (k0 := 1) rfl (by kernel_rfl) rfl) ?_
   refine hl_v rfl rfl rfl (rv_load rfl (by kernel_rfl) rfl (box_cell 0 rfl rfl)) ?_
   refine hl_callV rfl rfl rfl (rq_call (by kernel_rfl) rfl (fun w hm => ret_ans (ans_of (inRange_any _ _ _ w)))) ?_
   refine hl_bool (fun h6 => ?_) (fun h6 => absurd ((((inR_iff _ _ _).2 (by omega))).symm.trans h6) (by decide))
   refine hl_v rfl rfl rfl (rv_ev rfl) ?_
   refine hl_v rfl rfl rfl (rv_field (k0 := 2) rfl (by kernel_rfl) rfl) ?_
   refine hl_v rfl rfl rfl (rv_load rfl (by kernel_rfl) rfl (box_cell 0 rfl rfl)) ?_
   refine hl_v rfl rfl rfl (rv_len rfl Try.underlying26 rfl (rd_old hx)) ?_
   refine hl_eql rfl rfl rfl rfl rfl rfl (fun h7 => ?_) (fun h7 => ?_)
   ·
    refine hl_v rfl rfl rfl (rv_ev rfl) ?_
    refine hl_v rfl rfl rfl (rv_ev rfl) ?_
    refine hl_less (sx 0 rfl (sx 1 rfl (sx 2 rfl (sx 4 rfl (sx 5 rfl (sx 16 rfl (sub_nil _))))))) (.refl _) ?_
    refine hl_nil ?_
    refine hq_then ?_
    refine hc_ret ?_
    refine hq_block_ret ?_
    refine hq_then_ret ?_
    exact hq_ans rfl rfl rfl
   ·
    refine hl_v rfl rfl rfl (rv_ev rfl) ?_
    refine hl_v rfl rfl rfl (rv_ev rfl) ?_
    refine hl_less (sx 0 rfl (sx 1 rfl (sx 2 rfl (sx 4 rfl (sx 5 rfl (sx 16 rfl (sub_nil _))))))) (.refl _) ?_
    refine hl_nil ?_
    refine hq_then ?_
    refine hc_ret ?_
    refine hq_block_ret ?_
    refine hq_then_ret ?_
    exfalso
    omega
  ·
   refine hl_v rfl rfl rfl (rv_ev rfl) ?_
   refine hl_less (sx 0 rfl (sx 1 rfl (sx 2 rfl (sx 4 rfl (sx 5 rfl (sx 16 rfl (sub_nil _))))))) (.refl _) ?_
   refine hl_nil ?_
   refine hq_then ?_
   refine hc_false rfl ?_
   refine hc_skip ?_
   refine hq_block_normal ?_
   refine hq_then ?_
   refine hc_seq ?_
   refine hc_region ?_
   refine hl_v rfl rfl rfl (rv_ev rfl) ?_
   refine hl_less (sx 0 rfl (sx 1 rfl (sx 2 rfl (sx 4 rfl (sx 5 rfl (sx 16 rfl (sub_nil _))))))) (.refl _) ?_
   refine hl_nil ?_
   refine hq_then ?_
   refine hc_ret ?_
   exfalso
   omega
set_option maxHeartbeats 4000000 in
set_option maxRecDepth 100000 in
theorem copyInts_ret (xs : List Int) (v : Value) (w : World) (hv : RdsW w v 1 xs.length (xs.map (Value.int .i64))) (hlen : xs.length ≤ 1000000000) :
  Calls Try.prog 134 #[v] w (Ret w (fun v' post => post = [rowE 3 1 v' (xs).length ((xs).map (Value.int .i64))])) := by
 refine calls_hc (N := 6) (args := [v]) Try.func134 rfl rfl ?_
 refine hc_less _ (sx 0 rfl (sub_nil _)) (.refl _) ?_
 refine hc_seq ?_
 refine hc_region ?_
 refine hl_v rfl rfl rfl (rv_ev rfl) ?_
 refine hl_less (sx 0 rfl (sx 2 rfl (sub_nil _))) (.refl _) ?_
 refine hl_nil ?_
 refine hq_then ?_
 refine hc_seq ?_
 refine hc_region ?_
 refine hl_row rfl rfl rfl (rq_slice0 (s := 1) rfl Try.underlying26 (by kernel_rfl)) ?_
 intro g1
 refine hl_v rfl rfl rfl (rv_ev rfl) ?_
 refine hl_append (i := 0) (z := .int .i64 0) (bytes := 8) (n' := xs.length) (xs' := (xs.map (Value.int .i64))) (L := fun v2 => [rowE 3 1 v2 xs.length (xs.map (Value.int .i64))]) rfl rfl rfl rfl Try.underlying26 (by kernel_rfl) (by kernel_rfl) rfl rfl rfl (rd_old hv) (ints_one _) (by first | omega | (simp; omega)) ((Nat.zero_add _)) ((List.nil_append _)) (fun _ => rfl) ?_
 intro v2
 refine hl_v rfl rfl rfl (rv_ev rfl) ?_
 refine hl_less (sx 0 rfl (sx 2 rfl (sub_nil _))) (.refl _) ?_
 refine hl_nil ?_
 refine hq_then ?_
 refine hc_ret ?_
 exact hq_retR (post := [rowE 3 1 v2 xs.length (xs.map (Value.int .i64))]) rfl rfl ((.cons_cons _ .slnil)) rfl
set_option maxHeartbeats 4000000 in
set_option maxRecDepth 100000 in
theorem roots_ret (n : Nt) (w : World) (hr : RdsNt w n) (hn : NtOk n) :
  Calls Try.prog 126 #[.agg #[.int .i64 n.ins, n.sv, n.av, n.ov]] w (Ret w (fun v' post => post = [rowE 3 1 v' (rtsL n n.ss.length).length ((rtsL n n.ss.length).map (Value.int .i64))])) := by
 have hi0 := hn.i0
 have hi1 := hn.i1
 have hs1 := hn.s1
 have ha1 := hn.a1
 have ho1 := hn.o1
 have hcnt : n.cnt = 1 + n.ins + n.ss.length + n.gs.length := rfl
 have hfst : n.fst = 1 + n.ins + n.ss.length := rfl
 refine calls_hc (N := 22) (args := [.agg #[.int .i64 n.ins, n.sv, n.av, n.ov]]) Try.func126 rfl rfl ?_
 refine hc_less _ (sx 0 rfl (sub_nil _)) (.refl _) ?_
 refine hc_seq ?_
 refine hc_region ?_
 refine hl_box rfl rfl rfl (rq_box rfl rfl) ?_
 intro b1
 refine hl_v rfl rfl rfl (rv_ev rfl) ?_
 refine hl_less (sx 0 rfl (sx 1 rfl (sx 2 rfl (sub_nil _)))) (.refl _) ?_
 refine hl_nil ?_
 refine hq_then ?_
 refine hc_seq ?_
 refine hc_region ?_
 refine hl_v rfl rfl rfl (rv_field (k0 := 3) rfl (by kernel_rfl) rfl) ?_
 refine hl_v rfl rfl rfl (rv_load rfl (by kernel_rfl) rfl (box_cell 0 rfl rfl)) ?_
 refine hl_q rfl rfl rfl (rq_call (by kernel_rfl) rfl (fun w hm => copyInts_ret n.os _ w ((rd_old hr.ou) w hm) (by omega))) ?_
 intro v2 p3 hR4
 subst hR4
 refine hl_v rfl rfl rfl (rv_ev rfl) ?_
 refine hl_less (sx 0 rfl (sx 1 rfl (sx 2 rfl (sx 3 rfl (sub_nil _))))) (.refl _) ?_
 refine hl_nil ?_
 refine hq_then ?_
 refine hc_seq ?_
 refine hc_seq ?_
 refine hc_region ?_
 refine hl_v rfl rfl rfl (rv_field (k0 := 1) rfl (by kernel_rfl) rfl) ?_
 refine hl_v rfl rfl rfl (rv_load rfl (by kernel_rfl) rfl (box_cell 1 rfl rfl)) ?_
 refine hl_v rfl rfl rfl (rv_len rfl Try.underlying24 rfl (rd_old hr.sq)) ?_
 refine hl_v rfl rfl rfl (rv_ev rfl) ?_
 refine hl_less (sx 0 rfl (sx 1 rfl (sx 2 rfl (sx 3 rfl (sx 10 rfl (sx 11 rfl (sx 12 rfl (sub_nil _)))))))) (.refl _) ?_
 refine hl_nil ?_
 refine hq_then ?_
 refine hc_block ?_
 refine hc_loop3 (α := Nat) (β := Value) (γ := List Int) (fun k u zs => [rowE 3 1 u zs.length (zs.map (Value.int .i64)), boxE b1 #[.int .i64 n.ins, n.sv, n.av, n.ov] 28]) (fun k u zs => [(0, .agg #[.int .i64 n.ins, n.sv, n.av, n.ov]), (1, .pointer (some ⟨b1, 0, none⟩)), (2, .slice none 0 0), (3, u), (10, n.sv), (11, .int .i64 (n.ss.length : Int)), (12, .int .i64 (k : Int))]) (fun k u zs => k ≤ n.ss.length ∧ zs = rtsL n k) (fun k u zs => n.ss.length - k) 0 _ n.os ⟨by omega, by simp [rtsL]⟩ (sx 0 rfl (sx 1 rfl (sx 2 rfl (sx 3 rfl (sx 10 rfl (sx 11 rfl (sx 12 rfl (sub_nil _)))))))) ((.cons_cons _ (.cons_cons _ .slnil))) ?_
 intro k u zs hi5
 obtain ⟨hk, hz⟩ := hi5
 have hzl : zs.length ≤ 16 + 4 * k := by rw [hz]; exact rts_len hn k hk
 refine hc_seq ?_
 refine hc_region ?_
 refine hl_lss rfl rfl rfl rfl rfl rfl (fun h6 => ?_) (fun h6 => ?_)
 ·
  refine hl_less (sx 0 rfl (sx 1 rfl (sx 2 rfl (sx 3 rfl (sx 10 rfl (sx 11 rfl (sx 12 rfl (sx 13 rfl (sub_nil _))))))))) (.refl _) ?_
  refine hl_nil ?_
  refine hq_then ?_
  refine hc_seq ?_
  refine hc_true rfl ?_
  refine hc_skip ?_
  refine hq_then ?_
  refine hc_seq ?_
  refine hc_block ?_
  refine hc_seq ?_
  refine hc_region ?_
  refine hl_v rfl rfl rfl (rv_index (s := 3) rfl Try.underlying24 (by kernel_rfl) rfl rfl (rd_old hr.sq) (by omega) (by first | omega | (simp only [List.length_set]; omega))) ?_
  refine hl_v rfl rfl rfl (rv_loadElN (us := [.int .i64 ((n.ss.getD k sq0).kd), .int .i64 ((n.ss.getD k sq0).it), (n.ss.getD k sq0).iv]) rfl (by kernel_rfl) (by kernel_rfl) rfl (rd_old hr.sq) (by omega) rfl (flat_atN sqC 3 (fun _ => rfl) n.ss sq0 (show k < _ by first | omega | (simp only [List.length_set]; omega)) rfl)) ?_
  refine hl_box rfl rfl rfl (rq_alloc (z := .agg #[.int .i64 0, .int .i64 0, .slice none 0 0]) rfl (by kernel_rfl)) ?_
  intro b7
  refine hl_storeBoxN (i := 0) (off := 0) (us := [.int .i64 ((n.ss.getD k sq0).kd), .int .i64 ((n.ss.getD k sq0).it), (n.ss.getD k sq0).iv]) (l' := [boxE b7 #[.int .i64 ((n.ss.getD k sq0).kd), .int .i64 ((n.ss.getD k sq0).it), (n.ss.getD k sq0).iv] 83, rowE 3 1 u zs.length (zs.map (Value.int .i64)), boxE b1 #[.int .i64 n.ins, n.sv, n.av, n.ov] 28]) rfl rfl rfl (by kernel_rfl) rfl rfl rfl (all_cons rfl (all_cons rfl (all_cons (hr.at (k := k) (by omega)).one all_nil))) rfl rfl rfl ?_
  refine hl_less (sx 0 rfl (sx 1 rfl (sx 2 rfl (sx 3 rfl (sx 5 rfl (sx 10 rfl (sx 11 rfl (sx 12 rfl (sx 13 rfl (sub_nil _)))))))))) (.refl _) ?_
  refine hl_nil ?_
  refine hq_then ?_
  refine hc_region ?_
  have hx4 := (hn.sq _ (getD_memX (d := sq0) (show k < n.ss.length by omega))).len
  refine hl_v rfl rfl rfl (rv_ev rfl) ?_
  refine hl_v rfl rfl rfl (rv_field (k0 := 2) rfl (by kernel_rfl) rfl) ?_
  refine hl_v rfl rfl rfl (rv_load rfl (by kernel_rfl) rfl (box_cell 0 rfl rfl)) ?_
  refine hl_append (i := 1) (z := .int .i64 0) (bytes := 8) (n' := (zs ++ ((n.ss.getD k sq0).xs)).length) (xs' := ((zs ++ ((n.ss.getD k sq0).xs)).map (Value.int .i64))) (L := fun v8 => [boxE b7 #[.int .i64 ((n.ss.getD k sq0).kd), .int .i64 ((n.ss.getD k sq0).it), (n.ss.getD k sq0).iv] 83, rowE 3 1 v8 ((zs ++ ((n.ss.getD k sq0).xs)).length) ((zs ++ ((n.ss.getD k sq0).xs)).map (Value.int .i64)), boxE b1 #[.int .i64 n.ins, n.sv, n.av, n.ov] 28]) rfl rfl rfl rfl Try.underlying26 (by kernel_rfl) (by kernel_rfl) rfl rfl rfl (fun w hm => (hr.at (k := k) (by omega)).below hm.bel) (ints_one _) (by first | omega | (simp; omega)) (len_app zs ((n.ss.getD k sq0).xs)) (ints_app zs ((n.ss.getD k sq0).xs)) (fun _ => rfl) ?_
  intro v8
  refine hl_v rfl rfl rfl (rv_ev rfl) ?_
  refine hl_less (sx 0 rfl (sx 1 rfl (sx 2 rfl (sx 3 rfl (sx 5 rfl (sx 10 rfl (sx 11 rfl (sx 12 rfl (sx 13 rfl (sub_nil _)))))))))) (.refl _) ?_
  refine hl_nil ?_
  refine hq_block_normal ?_
  refine hq_then ?_
  refine hc_region ?_
  refine hl_v rfl rfl rfl (rv_add rfl rfl rfl (by constructor <;> omega)) ?_
  refine hl_v rfl rfl rfl (rv_ev rfl) ?_
  refine hl_less (sx 0 rfl (sx 1 rfl (sx 2 rfl (sx 3 rfl (sx 5 rfl (sx 10 rfl (sx 11 rfl (sx 12 rfl (sx 13 rfl (sub_nil _)))))))))) (.refl _) ?_
  refine hl_nil ?_
  exact hq_round3 (k + 1) v8 (zs ++ ((n.ss.getD k sq0).xs)) ⟨by omega, by rw [hz, rts_step n (by omega)]⟩ (by omega) (sx 0 rfl (sx 1 rfl (sx 2 rfl (sx 3 rfl (sx 10 rfl (sx 11 rfl (sx 12 rfl (sub_nil _)))))))) ((.cons _ (.cons_cons _ (.cons_cons _ .slnil))))
 ·
  refine hl_less (sx 0 rfl (sx 1 rfl (sx 2 rfl (sx 3 rfl (sx 10 rfl (sx 11 rfl (sx 12 rfl (sx 13 rfl (sub_nil _))))))))) (.refl _) ?_
  refine hl_nil ?_
  refine hq_then ?_
  refine hc_seq ?_
  refine hc_false rfl ?_
  refine hc_exit ?_
  refine hq_then_exit ?_
  refine hq_then_exit ?_
  refine hq_block_exit ?_
  refine hq_then ?_
  refine hc_seq ?_
  refine hc_region ?_
  refine hl_v rfl rfl rfl (rv_ev rfl) ?_
  refine hl_v rfl rfl rfl (rv_ev rfl) ?_
  refine hl_less (sx 0 rfl (sx 1 rfl (sx 2 rfl (sx 3 rfl (sx 10 rfl (sx 11 rfl (sx 12 rfl (sx 13 rfl (sub_nil _))))))))) (.refl _) ?_
  refine hl_nil ?_
  refine hq_then ?_
  refine hc_ret ?_
  exact hq_retR (post := [rowE 3 1 u zs.length (zs.map (Value.int .i64))]) rfl rfl ((.cons_cons _ (.cons _ .slnil))) (by rw [hz, show k = n.ss.length by omega])
set_option maxHeartbeats 4000000 in
set_option maxRecDepth 100000 in
theorem implNetOk_yes (n : Nt) (w : World) (hr : RdsNt w n) (hn : NtOk n) :
  Calls Try.prog 67 #[.agg #[.int .i64 n.ins, n.sv, n.av, n.ov]] w (Ans w (.bool true)) := by
 have hi0 := hn.i0
 have hi1 := hn.i1
 have hs1 := hn.s1
 have ha1 := hn.a1
 have ho1 := hn.o1
 have hcnt : n.cnt = 1 + n.ins + n.ss.length + n.gs.length := rfl
 have hfst : n.fst = 1 + n.ins + n.ss.length := rfl
 refine calls_hc (N := 67) (args := [.agg #[.int .i64 n.ins, n.sv, n.av, n.ov]]) Try.func67 rfl rfl ?_
 refine hc_less _ (sx 0 rfl (sub_nil _)) (.refl _) ?_
 refine hc_seq ?_
 refine hc_region ?_
 refine hl_box rfl rfl rfl (rq_box rfl rfl) ?_
 intro b1
 refine hl_v rfl rfl rfl (rv_ev rfl) ?_
 refine hl_less (sx 0 rfl (sx 1 rfl (sx 2 rfl (sub_nil _)))) (.refl _) ?_
 refine hl_nil ?_
 refine hq_then ?_
 refine hc_seq ?_
 refine hc_region ?_
 refine hl_v rfl rfl rfl (rv_loadN (cs := [.int .i64 n.ins, n.sv, n.av, n.ov]) rfl (by kernel_rfl) (by kernel_rfl) rfl rfl (box_part 0 rfl 0 rfl)) ?_
 refine hl_callV rfl rfl rfl (rq_call (by kernel_rfl) rfl (fun w hm => ret_ans (implNodeCount_yes n w (hr.below hm.bel) hn))) ?_
 refine hl_v rfl rfl rfl (rv_ev rfl) ?_
 refine hl_less (sx 0 rfl (sx 1 rfl (sx 2 rfl (sx 3 rfl (sub_nil _))))) (.refl _) ?_
 refine hl_nil ?_
 refine hq_then ?_
 refine hc_seq ?_
 refine hc_seq ?_
 refine hc_region ?_
 refine hl_v rfl rfl rfl (rv_ev rfl) ?_
 refine hl_eql rfl rfl rfl rfl rfl rfl (fun h2 => absurd h2 (by omega)) (fun h2 => ?_)
 refine hl_less (sx 0 rfl (sx 1 rfl (sx 2 rfl (sx 3 rfl (sx 14 rfl (sub_nil _)))))) (.refl _) ?_
 refine hl_nil ?_
 refine hq_then ?_
 refine hc_false rfl ?_
 refine hc_skip ?_
 refine hq_then ?_
 refine hc_seq ?_
 refine hc_seq ?_
 refine hc_region ?_
 refine hl_v rfl rfl rfl (rv_field (k0 := 1) rfl (by kernel_rfl) rfl) ?_
 refine hl_v rfl rfl rfl (rv_load rfl (by kernel_rfl) rfl (box_cell 0 rfl rfl)) ?_
 refine hl_v rfl rfl rfl (rv_len rfl Try.underlying24 rfl (rd_old hr.sq)) ?_
 refine hl_v rfl rfl rfl (rv_ev rfl) ?_
 refine hl_less (sx 0 rfl (sx 1 rfl (sx 2 rfl (sx 3 rfl (sx 14 rfl (sx 16 rfl (sx 17 rfl (sx 18 rfl (sub_nil _))))))))) (.refl _) ?_
 refine hl_nil ?_
 refine hq_then ?_
 refine hc_block ?_
 refine hc_loop1 (α := Nat) (fun k => [boxE b1 #[.int .i64 n.ins, n.sv, n.av, n.ov] 28]) (fun k => [(0, .agg #[.int .i64 n.ins, n.sv, n.av, n.ov]), (1, .pointer (some ⟨b1, 0, none⟩)), (2, .bool false), (3, .int .i64 n.cnt), (14, .bool false), (16, n.sv), (17, .int .i64 (n.ss.length : Int)), (18, .int .i64 (k : Int))]) (fun k => k ≤ n.ss.length) (fun k => n.ss.length - k) 0 (Nat.zero_le _) (sx 0 rfl (sx 1 rfl (sx 2 rfl (sx 3 rfl (sx 14 rfl (sx 16 rfl (sx 17 rfl (sx 18 rfl (sub_nil _))))))))) ((.cons_cons _ .slnil)) ?_
 intro k hi3
 have hk := hi3
 refine hc_seq ?_
 refine hc_region ?_
 refine hl_lss rfl rfl rfl rfl rfl rfl (fun h4 => ?_) (fun h4 => ?_)
 ·
  refine hl_less (sx 0 rfl (sx 1 rfl (sx 2 rfl (sx 3 rfl (sx 14 rfl (sx 16 rfl (sx 17 rfl (sx 18 rfl (sx 19 rfl (sub_nil _)))))))))) (.refl _) ?_
  refine hl_nil ?_
  refine hq_then ?_
  refine hc_seq ?_
  refine hc_true rfl ?_
  refine hc_skip ?_
  refine hq_then ?_
  refine hc_seq ?_
  refine hc_block ?_
  refine hc_seq ?_
  refine hc_region ?_
  refine hl_v rfl rfl rfl (rv_index (s := 3) rfl Try.underlying24 (by kernel_rfl) rfl rfl (rd_old hr.sq) (by omega) (by first | omega | (simp only [List.length_set]; omega))) ?_
  refine hl_v rfl rfl rfl (rv_loadElN (us := [.int .i64 ((n.ss.getD k sq0).kd), .int .i64 ((n.ss.getD k sq0).it), (n.ss.getD k sq0).iv]) rfl (by kernel_rfl) (by kernel_rfl) rfl (rd_old hr.sq) (by omega) rfl (flat_atN sqC 3 (fun _ => rfl) n.ss sq0 (show k < _ by first | omega | (simp only [List.length_set]; omega)) rfl)) ?_
  refine hl_box rfl rfl rfl (rq_alloc (z := .agg #[.int .i64 0, .int .i64 0, .slice none 0 0]) rfl (by kernel_rfl)) ?_
  intro b5
  refine hl_storeBoxN (i := 0) (off := 0) (us := [.int .i64 ((n.ss.getD k sq0).kd), .int .i64 ((n.ss.getD k sq0).it), (n.ss.getD k sq0).iv]) (l' := [boxE b5 #[.int .i64 ((n.ss.getD k sq0).kd), .int .i64 ((n.ss.getD k sq0).it), (n.ss.getD k sq0).iv] 83, boxE b1 #[.int .i64 n.ins, n.sv, n.av, n.ov] 28]) rfl rfl rfl (by kernel_rfl) rfl rfl rfl (all_cons rfl (all_cons rfl (all_cons (hr.at (k := k) (by omega)).one all_nil))) rfl rfl rfl ?_
  refine hl_less (sx 0 rfl (sx 1 rfl (sx 2 rfl (sx 3 rfl (sx 5 rfl (sx 14 rfl (sx 16 rfl (sx 17 rfl (sx 18 rfl (sx 19 rfl (sub_nil _))))))))))) (.refl _) ?_
  refine hl_nil ?_
  refine hq_then ?_
  refine hc_seq ?_
  refine hc_region ?_
  refine hl_v rfl rfl rfl (rv_loadN (cs := [.int .i64 ((n.ss.getD k sq0).kd), .int .i64 ((n.ss.getD k sq0).it), (n.ss.getD k sq0).iv]) rfl (by kernel_rfl) (by kernel_rfl) rfl rfl (box_part 0 rfl 0 rfl)) ?_
  refine hl_callV rfl rfl rfl (rq_call (by kernel_rfl) rfl (fun w hm => ret_ans (seqOk_yes (n.ss.getD k sq0) w (hn.sq _ (getD_memX (d := sq0) (by omega))) ((hr.at (k := k) (by omega)).below hm.bel)))) ?_
  refine hl_v rfl rfl rfl (rv_ev rfl) ?_
  refine hl_less (sx 0 rfl (sx 1 rfl (sx 2 rfl (sx 3 rfl (sx 5 rfl (sx 14 rfl (sx 16 rfl (sx 17 rfl (sx 18 rfl (sx 19 rfl (sx 24 rfl (sub_nil _)))))))))))) (.refl _) ?_
  refine hl_nil ?_
  refine hq_then ?_
  refine hc_false rfl ?_
  refine hc_skip ?_
  refine hq_block_normal ?_
  refine hq_then ?_
  refine hc_region ?_
  refine hl_v rfl rfl rfl (rv_add rfl rfl rfl (by constructor <;> omega)) ?_
  refine hl_v rfl rfl rfl (rv_ev rfl) ?_
  refine hl_less (sx 0 rfl (sx 1 rfl (sx 2 rfl (sx 3 rfl (sx 5 rfl (sx 14 rfl (sx 16 rfl (sx 17 rfl (sx 18 rfl (sx 19 rfl (sx 24 rfl (sub_nil _)))))))))))) (.refl _) ?_
  refine hl_nil ?_
  exact hq_round1 (k + 1) (by omega) (by omega) (sx 0 rfl (sx 1 rfl (sx 2 rfl (sx 3 rfl (sx 14 rfl (sx 16 rfl (sx 17 rfl (sx 18 rfl (sub_nil _))))))))) ((.cons _ (.cons_cons _ .slnil)))
 ·
  refine hl_less (sx 0 rfl (sx 1 rfl (sx 2 rfl (sx 3 rfl (sx 14 rfl (sx 16 rfl (sx 17 rfl (sx 18 rfl (sx 19 rfl (sub_nil _)))))))))) (.refl _) ?_
  refine hl_nil ?_
  refine hq_then ?_
  refine hc_seq ?_
  refine hc_false rfl ?_
  refine hc_exit ?_
  refine hq_then_exit ?_
  refine hq_then_exit ?_
  refine hq_block_exit ?_
  refine hq_then ?_
  refine hc_seq ?_
  refine hc_seq ?_
  refine hc_region ?_
  refine hl_v rfl rfl rfl (rv_loadN (cs := [.int .i64 n.ins, n.sv, n.av, n.ov]) rfl (by kernel_rfl) (by kernel_rfl) rfl rfl (box_part 0 rfl 0 rfl)) ?_
  refine hl_q rfl rfl rfl (rq_call (by kernel_rfl) rfl (fun w hm => roots_ret n w (hr.below hm.bel) hn)) ?_
  intro v6 p7 hR8
  subst hR8
  refine hl_v rfl rfl rfl (rv_len rfl Try.underlying26 rfl (rd_row 0 rfl)) ?_
  have hzl := rts_len hn n.ss.length (Nat.le_refl _)
  refine hl_v rfl rfl rfl (rv_ev rfl) ?_
  refine hl_less (sx 0 rfl (sx 1 rfl (sx 2 rfl (sx 3 rfl (sx 14 rfl (sx 16 rfl (sx 17 rfl (sx 18 rfl (sx 19 rfl (sx 27 rfl (sx 28 rfl (sx 29 rfl (sub_nil _))))))))))))) (.refl _) ?_
  refine hl_nil ?_
  refine hq_then ?_
  refine hc_block ?_
  refine hc_loop1 (α := Nat) (fun q => [rowE 3 1 v6 ((rtsL n n.ss.length).length) ((rtsL n n.ss.length).map (Value.int .i64)), boxE b1 #[.int .i64 n.ins, n.sv, n.av, n.ov] 28]) (fun q => [(0, .agg #[.int .i64 n.ins, n.sv, n.av, n.ov]), (1, .pointer (some ⟨b1, 0, none⟩)), (2, .bool false), (3, .int .i64 n.cnt), (14, .bool false), (16, n.sv), (17, .int .i64 (n.ss.length : Int)), (18, .int .i64 (k : Int)), (19, .bool false), (27, v6), (28, .int .i64 ((rtsL n n.ss.length).length : Int)), (29, .int .i64 (q : Int))]) (fun q => q ≤ (rtsL n n.ss.length).length) (fun q => (rtsL n n.ss.length).length - q) 0 (Nat.zero_le _) (sx 0 rfl (sx 1 rfl (sx 2 rfl (sx 3 rfl (sx 14 rfl (sx 16 rfl (sx 17 rfl (sx 18 rfl (sx 19 rfl (sx 27 rfl (sx 28 rfl (sx 29 rfl (sub_nil _))))))))))))) ((.cons_cons _ (.cons_cons _ .slnil))) ?_
  intro q hi9
  have hq := hi9
  refine hc_seq ?_
  refine hc_region ?_
  refine hl_lss rfl rfl rfl rfl rfl rfl (fun h10 => ?_) (fun h10 => ?_)
  ·
   refine hl_less (sx 0 rfl (sx 1 rfl (sx 2 rfl (sx 3 rfl (sx 14 rfl (sx 16 rfl (sx 17 rfl (sx 18 rfl (sx 19 rfl (sx 27 rfl (sx 28 rfl (sx 29 rfl (sx 30 rfl (sub_nil _)))))))))))))) (.refl _) ?_
   refine hl_nil ?_
   refine hq_then ?_
   refine hc_seq ?_
   refine hc_true rfl ?_
   refine hc_skip ?_
   refine hq_then ?_
   refine hc_seq ?_
   refine hc_block ?_
   refine hc_seq ?_
   refine hc_region ?_
   refine hl_v rfl rfl rfl (rv_index (s := 1) rfl Try.underlying26 (by kernel_rfl) rfl rfl (rd_row 0 rfl) (by omega) (by first | omega | (simp only [List.length_set]; omega))) ?_
   refine hl_v rfl rfl rfl (rv_loadEl (u := .int .i64 ((rtsL n n.ss.length).getD q 0)) rfl (by kernel_rfl) rfl (rd_row 0 rfl) (ints_at1 (show _ < (rtsL n n.ss.length).length by first | omega | (simp only [List.length_set]; omega)))) ?_
   refine hl_v rfl rfl rfl (rv_ev rfl) ?_
   refine hl_less (sx 0 rfl (sx 1 rfl (sx 2 rfl (sx 3 rfl (sx 7 rfl (sx 14 rfl (sx 16 rfl (sx 17 rfl (sx 18 rfl (sx 19 rfl (sx 27 rfl (sx 28 rfl (sx 29 rfl (sx 30 rfl (sub_nil _))))))))))))))) (.refl _) ?_
   refine hl_nil ?_
   refine hq_then ?_
   refine hc_seq ?_
   refine hc_region ?_
   have hlk := rts_ok hn (i := q) (by omega)
   obtain ⟨hlk1, hlk2⟩ := hlk
   refine hl_v rfl rfl rfl (rv_ev rfl) ?_
   refine hl_v rfl rfl rfl (rv_ev rfl) ?_
   refine hl_v rfl rfl rfl (rv_mul rfl rfl rfl (by constructor <;> omega)) ?_
   refine hl_v rfl rfl rfl (rv_sub rfl rfl rfl (by constructor <;> omega)) ?_
   refine hl_callV rfl rfl rfl (rq_call (by kernel_rfl) rfl (fun w hm => ret_ans (ans_of (inRange_any _ _ _ w)))) ?_
   refine hl_bool (fun h11 => ?_) (fun h11 => absurd ((((inR_iff _ _ _).2 (by omega))).symm.trans h11) (by decide))
   refine hl_v rfl rfl rfl (rv_ev rfl) ?_
   refine hl_less (sx 0 rfl (sx 1 rfl (sx 2 rfl (sx 3 rfl (sx 7 rfl (sx 14 rfl (sx 16 rfl (sx 17 rfl (sx 18 rfl (sx 19 rfl (sx 27 rfl (sx 28 rfl (sx 29 rfl (sx 30 rfl (sx 38 rfl (sub_nil _)))))))))))))))) (.refl _) ?_
   refine hl_nil ?_
   refine hq_then ?_
   refine hc_false rfl ?_
   refine hc_skip ?_
   refine hq_block_normal ?_
   refine hq_then ?_
   refine hc_region ?_
   refine hl_v rfl rfl rfl (rv_add rfl rfl rfl (by constructor <;> omega)) ?_
   have hzl := rts_len hn n.ss.length (Nat.le_refl _)
   refine hl_v rfl rfl rfl (rv_ev rfl) ?_
   refine hl_less (sx 0 rfl (sx 1 rfl (sx 2 rfl (sx 3 rfl (sx 7 rfl (sx 14 rfl (sx 16 rfl (sx 17 rfl (sx 18 rfl (sx 19 rfl (sx 27 rfl (sx 28 rfl (sx 29 rfl (sx 30 rfl (sx 38 rfl (sub_nil _)))))))))))))))) (.refl _) ?_
   refine hl_nil ?_
   exact hq_round1 (q + 1) (by omega) (by omega) (sx 0 rfl (sx 1 rfl (sx 2 rfl (sx 3 rfl (sx 14 rfl (sx 16 rfl (sx 17 rfl (sx 18 rfl (sx 19 rfl (sx 27 rfl (sx 28 rfl (sx 29 rfl (sub_nil _))))))))))))) ((.cons_cons _ (.cons_cons _ .slnil)))
  ·
   refine hl_less (sx 0 rfl (sx 1 rfl (sx 2 rfl (sx 3 rfl (sx 14 rfl (sx 16 rfl (sx 17 rfl (sx 18 rfl (sx 19 rfl (sx 27 rfl (sx 28 rfl (sx 29 rfl (sx 30 rfl (sub_nil _)))))))))))))) (.refl _) ?_
   refine hl_nil ?_
   refine hq_then ?_
   refine hc_seq ?_
   refine hc_false rfl ?_
   refine hc_exit ?_
   refine hq_then_exit ?_
   refine hq_then_exit ?_
   refine hq_block_exit ?_
   refine hq_then ?_
   refine hc_seq ?_
   refine hc_seq ?_
   refine hc_region ?_
   refine hl_v rfl rfl rfl (rv_field (k0 := 2) rfl (by kernel_rfl) rfl) ?_
   refine hl_v rfl rfl rfl (rv_load rfl (by kernel_rfl) rfl (box_cell 1 rfl rfl)) ?_
   refine hl_v rfl rfl rfl (rv_len rfl Try.underlying25 rfl (rd_old hr.an)) ?_
   refine hl_v rfl rfl rfl (rv_ev rfl) ?_
   refine hl_less (sx 0 rfl (sx 1 rfl (sx 2 rfl (sx 3 rfl (sx 14 rfl (sx 16 rfl (sx 17 rfl (sx 18 rfl (sx 19 rfl (sx 27 rfl (sx 28 rfl (sx 29 rfl (sx 30 rfl (sx 41 rfl (sx 42 rfl (sx 43 rfl (sub_nil _))))))))))))))))) (.refl _) ?_
   refine hl_nil ?_
   refine hq_then ?_
   refine hc_block ?_
   refine hc_loop1 (α := Nat) (fun j => [rowE 3 1 v6 ((rtsL n n.ss.length).length) ((rtsL n n.ss.length).map (Value.int .i64)), boxE b1 #[.int .i64 n.ins, n.sv, n.av, n.ov] 28]) (fun j => [(0, .agg #[.int .i64 n.ins, n.sv, n.av, n.ov]), (1, .pointer (some ⟨b1, 0, none⟩)), (2, .bool false), (3, .int .i64 n.cnt), (14, .bool false), (16, n.sv), (17, .int .i64 (n.ss.length : Int)), (18, .int .i64 (k : Int)), (19, .bool false), (27, v6), (28, .int .i64 ((rtsL n n.ss.length).length : Int)), (29, .int .i64 (q : Int)), (30, .bool false), (41, n.av), (42, .int .i64 (n.gs.length : Int)), (43, .int .i64 (j : Int))]) (fun j => j ≤ n.gs.length) (fun j => n.gs.length - j) 0 (Nat.zero_le _) (sx 0 rfl (sx 1 rfl (sx 2 rfl (sx 3 rfl (sx 14 rfl (sx 16 rfl (sx 17 rfl (sx 18 rfl (sx 19 rfl (sx 27 rfl (sx 28 rfl (sx 29 rfl (sx 30 rfl (sx 41 rfl (sx 42 rfl (sx 43 rfl (sub_nil _))))))))))))))))) ((.cons_cons _ (.cons_cons _ .slnil))) ?_
   intro j hi12
   have hj := hi12
   refine hc_seq ?_
   refine hc_region ?_
   refine hl_lss rfl rfl rfl rfl rfl rfl (fun h13 => ?_) (fun h13 => ?_)
   ·
    refine hl_less (sx 0 rfl (sx 1 rfl (sx 2 rfl (sx 3 rfl (sx 14 rfl (sx 16 rfl (sx 17 rfl (sx 18 rfl (sx 19 rfl (sx 27 rfl (sx 28 rfl (sx 29 rfl (sx 30 rfl (sx 41 rfl (sx 42 rfl (sx 43 rfl (sx 44 rfl (sub_nil _)))))))))))))))))) (.refl _) ?_
    refine hl_nil ?_
    refine hq_then ?_
    refine hc_seq ?_
    refine hc_true rfl ?_
    refine hc_skip ?_
    refine hq_then ?_
    refine hc_seq ?_
    refine hc_block ?_
    refine hc_seq ?_
    refine hc_region ?_
    refine hl_v rfl rfl rfl (rv_ev rfl) ?_
    refine hl_v rfl rfl rfl (rv_index (s := 2) rfl Try.underlying25 (by kernel_rfl) rfl rfl (rd_old hr.an) (by omega) (by first | omega | (simp only [List.length_set]; omega))) ?_
    refine hl_v rfl rfl rfl (rv_loadElN (us := [.int .i64 ((n.gs.getD j an0).a), .int .i64 ((n.gs.getD j an0).b)]) rfl (by kernel_rfl) (by kernel_rfl) rfl (rd_old hr.an) (by omega) rfl (flat_atN anC 2 (fun _ => rfl) n.gs an0 (show j < _ by first | omega | (simp only [List.length_set]; omega)) rfl)) ?_
    refine hl_box rfl rfl rfl (rq_alloc (z := .agg #[.int .i64 0, .int .i64 0]) rfl (by kernel_rfl)) ?_
    intro b14
    refine hl_v rfl rfl rfl (rv_ev rfl) ?_
    refine hl_storeBoxN (i := 0) (off := 0) (us := [.int .i64 ((n.gs.getD j an0).a), .int .i64 ((n.gs.getD j an0).b)]) (l' := [boxE b14 #[.int .i64 ((n.gs.getD j an0).a), .int .i64 ((n.gs.getD j an0).b)] 80, rowE 3 1 v6 ((rtsL n n.ss.length).length) ((rtsL n n.ss.length).map (Value.int .i64)), boxE b1 #[.int .i64 n.ins, n.sv, n.av, n.ov] 28]) rfl rfl rfl (by kernel_rfl) rfl rfl rfl (all_cons rfl (all_cons rfl all_nil)) rfl rfl rfl ?_
    refine hl_less (sx 0 rfl (sx 1 rfl (sx 2 rfl (sx 3 rfl (sx 8 rfl (sx 9 rfl (sx 14 rfl (sx 16 rfl (sx 17 rfl (sx 18 rfl (sx 19 rfl (sx 27 rfl (sx 28 rfl (sx 29 rfl (sx 30 rfl (sx 41 rfl (sx 42 rfl (sx 43 rfl (sx 44 rfl (sub_nil _)))))))))))))))))))) (.refl _) ?_
    refine hl_nil ?_
    refine hq_then ?_
    refine hc_seq ?_
    refine hc_region ?_
    refine hl_v rfl rfl rfl (rv_loadN (cs := [.int .i64 n.ins, n.sv, n.av, n.ov]) rfl (by kernel_rfl) (by kernel_rfl) rfl rfl (box_part 2 rfl 0 rfl)) ?_
    refine hl_callV rfl rfl rfl (rq_call (by kernel_rfl) rfl (fun w hm => ret_ans (firstAnd_yes n w (hr.below hm.bel) hn))) ?_
    refine hl_v rfl rfl rfl (rv_ev rfl) ?_
    refine hl_v rfl rfl rfl (rv_add rfl rfl rfl (by constructor <;> omega)) ?_
    refine hl_v rfl rfl rfl (rv_mul rfl rfl rfl (by constructor <;> omega)) ?_
    refine hl_v rfl rfl rfl (rv_sub rfl rfl rfl (by constructor <;> omega)) ?_
    refine hl_v rfl rfl rfl (rv_ev rfl) ?_
    refine hl_less (sx 0 rfl (sx 1 rfl (sx 2 rfl (sx 3 rfl (sx 8 rfl (sx 9 rfl (sx 10 rfl (sx 14 rfl (sx 16 rfl (sx 17 rfl (sx 18 rfl (sx 19 rfl (sx 27 rfl (sx 28 rfl (sx 29 rfl (sx 30 rfl (sx 41 rfl (sx 42 rfl (sx 43 rfl (sx 44 rfl (sub_nil _))))))))))))))))))))) (.refl _) ?_
    refine hl_nil ?_
    refine hq_then ?_
    refine hc_seq ?_
    refine hc_region ?_
    have hlj := hn.an j (by omega)
    obtain ⟨⟨hlj1, hlj2⟩, hlj3, hlj4⟩ := hlj
    refine hl_v rfl rfl rfl (rv_field (k0 := 0) rfl (by kernel_rfl) rfl) ?_
    refine hl_v rfl rfl rfl (rv_load rfl (by kernel_rfl) rfl (box_cell 0 rfl rfl)) ?_
    refine hl_v rfl rfl rfl (rv_ev rfl) ?_
    refine hl_callV rfl rfl rfl (rq_call (by kernel_rfl) rfl (fun w hm => ret_ans (ans_of (inRange_any _ _ _ w)))) ?_
    refine hl_bool (fun h15 => ?_) (fun h15 => absurd ((((inR_iff _ _ _).2 (by omega))).symm.trans h15) (by decide))
    refine hl_v rfl rfl rfl (rv_ev rfl) ?_
    refine hl_v rfl rfl rfl (rv_ev rfl) ?_
    refine hl_v rfl rfl rfl (rv_field (k0 := 1) rfl (by kernel_rfl) rfl) ?_
    refine hl_v rfl rfl rfl (rv_load rfl (by kernel_rfl) rfl (box_cell 0 rfl rfl)) ?_
    refine hl_v rfl rfl rfl (rv_ev rfl) ?_
    refine hl_callV rfl rfl rfl (rq_call (by kernel_rfl) rfl (fun w hm => ret_ans (ans_of (inRange_any _ _ _ w)))) ?_
    refine hl_bool (fun h16 => ?_) (fun h16 => absurd ((((inR_iff _ _ _).2 (by omega))).symm.trans h16) (by decide))
    refine hl_v rfl rfl rfl (rv_ev rfl) ?_
    refine hl_v rfl rfl rfl (rv_ev rfl) ?_
    refine hl_less (sx 0 rfl (sx 1 rfl (sx 2 rfl (sx 3 rfl (sx 8 rfl (sx 9 rfl (sx 10 rfl (sx 14 rfl (sx 16 rfl (sx 17 rfl (sx 18 rfl (sx 19 rfl (sx 27 rfl (sx 28 rfl (sx 29 rfl (sx 30 rfl (sx 41 rfl (sx 42 rfl (sx 43 rfl (sx 44 rfl (sx 65 rfl (sub_nil _)))))))))))))))))))))) (.refl _) ?_
    refine hl_nil ?_
    refine hq_then ?_
    refine hc_false rfl ?_
    refine hc_skip ?_
    refine hq_block_normal ?_
    refine hq_then ?_
    refine hc_region ?_
    refine hl_v rfl rfl rfl (rv_add rfl rfl rfl (by constructor <;> omega)) ?_
    refine hl_v rfl rfl rfl (rv_ev rfl) ?_
    refine hl_less (sx 0 rfl (sx 1 rfl (sx 2 rfl (sx 3 rfl (sx 8 rfl (sx 9 rfl (sx 10 rfl (sx 14 rfl (sx 16 rfl (sx 17 rfl (sx 18 rfl (sx 19 rfl (sx 27 rfl (sx 28 rfl (sx 29 rfl (sx 30 rfl (sx 41 rfl (sx 42 rfl (sx 43 rfl (sx 44 rfl (sx 65 rfl (sub_nil _)))))))))))))))))))))) (.refl _) ?_
    refine hl_nil ?_
    exact hq_round1 (j + 1) (by omega) (by omega) (sx 0 rfl (sx 1 rfl (sx 2 rfl (sx 3 rfl (sx 14 rfl (sx 16 rfl (sx 17 rfl (sx 18 rfl (sx 19 rfl (sx 27 rfl (sx 28 rfl (sx 29 rfl (sx 30 rfl (sx 41 rfl (sx 42 rfl (sx 43 rfl (sub_nil _))))))))))))))))) ((.cons _ (.cons_cons _ (.cons_cons _ .slnil))))
   ·
    refine hl_less (sx 0 rfl (sx 1 rfl (sx 2 rfl (sx 3 rfl (sx 14 rfl (sx 16 rfl (sx 17 rfl (sx 18 rfl (sx 19 rfl (sx 27 rfl (sx 28 rfl (sx 29 rfl (sx 30 rfl (sx 41 rfl (sx 42 rfl (sx 43 rfl (sx 44 rfl (sub_nil _)))))))))))))))))) (.refl _) ?_
    refine hl_nil ?_
    refine hq_then ?_
    refine hc_seq ?_
    refine hc_false rfl ?_
    refine hc_exit ?_
    refine hq_then_exit ?_
    refine hq_then_exit ?_
    refine hq_block_exit ?_
    refine hq_then ?_
    refine hc_seq ?_
    refine hc_region ?_
    refine hl_v rfl rfl rfl (rv_ev rfl) ?_
    refine hl_less (sx 0 rfl (sx 1 rfl (sx 2 rfl (sx 3 rfl (sx 14 rfl (sx 16 rfl (sx 17 rfl (sx 18 rfl (sx 19 rfl (sx 27 rfl (sx 28 rfl (sx 29 rfl (sx 30 rfl (sx 41 rfl (sx 42 rfl (sx 43 rfl (sx 44 rfl (sub_nil _)))))))))))))))))) (.refl _) ?_
    refine hl_nil ?_
    refine hq_then ?_
    refine hc_ret ?_
    exact hq_ans rfl rfl rfl
theorem bitL_xor {xs : List Int} {l : Int} (h : xs.getD (l / 2).toNat 0 = 0 ∨ xs.getD (l / 2).toNat 0 = 1) : bits .xor .i64 (xs.getD (l / 2).toNat 0) (l % 2) = bitL xs l := by unfold bitL; exact xor01 h
set_option maxHeartbeats 4000000 in
set_option maxRecDepth 100000 in
theorem implitValue_ans (xs : List Int) (l : Int) (v : Value) (w : World) (hv : RdsW w v 1 xs.length (xs.map (Value.int .i64))) (hl : 0 ≤ l ∧ l < 2 * xs.length) (h01 : xs.getD (l / 2).toNat 0 = 0 ∨ xs.getD (l / 2).toNat 0 = 1) (hlen : xs.length ≤ 100000) :
  Calls Try.prog 71 #[v, .int .i64 l] w (Ans w (.int .i64 (bitL xs l))) := by
 refine calls_hc (N := 13) (args := [v, .int .i64 l]) Try.func71 rfl rfl ?_
 refine hc_less _ (sx 0 rfl (sx 1 rfl (sub_nil _))) (.refl _) ?_
 refine hc_seq ?_
 refine hc_region ?_
 refine hl_v rfl rfl rfl (rv_ev rfl) ?_
 refine hl_less (sx 0 rfl (sx 1 rfl (sx 4 rfl (sub_nil _)))) (.refl _) ?_
 refine hl_nil ?_
 refine hq_then ?_
 refine hc_seq ?_
 refine hc_region ?_
 refine hl_v rfl rfl rfl (rv_ev rfl) ?_
 refine hl_v rfl rfl rfl (rv_ev rfl) ?_
 refine hl_v rfl rfl rfl (rv_quo rfl rfl rfl (by refine ⟨?_, ?_, ?_⟩ <;> omega)) ?_
 refine hl_v rfl rfl rfl (rv_index (s := 1) rfl Try.underlying26 (by kernel_rfl) rfl rfl (rd_old hv) (by omega) (by first | omega | (simp only [List.length_set]; omega))) ?_
 refine hl_v rfl rfl rfl (rv_loadEl (u := .int .i64 (xs.getD ((l / 2).toNat) 0)) rfl (by kernel_rfl) rfl (rd_old hv) (ints_at1 (show _ < xs.length by first | omega | (simp only [List.length_set]; omega)))) ?_
 refine hl_v rfl rfl rfl (rv_ev rfl) ?_
 refine hl_v rfl rfl rfl (rv_bits rfl (by decide) rfl rfl (r := l % 2) (Bit.and_one _ (by omega) (by omega))) ?_
 refine hl_v rfl rfl rfl (rv_bits rfl (by decide) rfl rfl (r := bitL xs l) (bitL_xor h01)) ?_
 refine hl_v rfl rfl rfl (rv_ev rfl) ?_
 refine hl_less (sx 0 rfl (sx 1 rfl (sx 4 rfl (sub_nil _)))) (.refl _) ?_
 refine hl_nil ?_
 refine hq_then ?_
 refine hc_ret ?_
 exact hq_ans rfl rfl rfl
set_option maxHeartbeats 4000000 in
set_option maxRecDepth 100000 in
theorem impLitValue_ans (xs : List Int) (l : Int) (v : Value) (w : World) (hv : RdsW w v 1 xs.length (xs.map (Value.int .i64))) (hl : 0 ≤ l ∧ l < 2 * xs.length) (h01 : xs.getD (l / 2).toNat 0 = 0 ∨ xs.getD (l / 2).toNat 0 = 1) (hlen : xs.length ≤ 100000) :
  Calls Try.prog 18 #[v, .int .i64 l] w (Ans w (.int .i64 (bitL xs l))) := by
 refine calls_hc (N := 26) (args := [v, .int .i64 l]) Try.func18 rfl rfl ?_
 refine hc_less _ (sx 0 rfl (sx 1 rfl (sub_nil _))) (.refl _) ?_
 refine hc_seq ?_
 refine hc_region ?_
 refine hl_v rfl rfl rfl (rv_ev rfl) ?_
 refine hl_less (sx 0 rfl (sx 1 rfl (sx 4 rfl (sub_nil _)))) (.refl _) ?_
 refine hl_nil ?_
 refine hq_then ?_
 refine hc_seq ?_
 refine hc_seq ?_
 refine hc_region ?_
 refine hl_v rfl rfl rfl (rv_ev rfl) ?_
 refine hl_lss rfl rfl rfl rfl rfl rfl (fun h1 => absurd h1 (by omega)) (fun h1 => ?_)
 refine hl_v rfl rfl rfl (rv_ev rfl) ?_
 refine hl_v rfl rfl rfl (rv_ev rfl) ?_
 refine hl_v rfl rfl rfl (rv_quo rfl rfl rfl (by refine ⟨?_, ?_, ?_⟩ <;> omega)) ?_
 refine hl_v rfl rfl rfl (rv_ev rfl) ?_
 refine hl_v rfl rfl rfl (rv_len rfl Try.underlying26 rfl (rd_old hv)) ?_
 refine hl_geq rfl rfl rfl rfl rfl rfl (fun h2 => absurd h2 (by omega)) (fun h2 => ?_)
 refine hl_v rfl rfl rfl (rv_ev rfl) ?_
 refine hl_v rfl rfl rfl (rv_ev rfl) ?_
 refine hl_v rfl rfl rfl (rv_ev rfl) ?_
 refine hl_v rfl rfl rfl (rv_ev rfl) ?_
 refine hl_v rfl rfl rfl (rv_quo rfl rfl rfl (by refine ⟨?_, ?_, ?_⟩ <;> omega)) ?_
 refine hl_v rfl rfl rfl (rv_index (s := 1) rfl Try.underlying26 (by kernel_rfl) rfl rfl (rd_old hv) (by omega) (by first | omega | (simp only [List.length_set]; omega))) ?_
 refine hl_v rfl rfl rfl (rv_loadEl (u := .int .i64 (xs.getD ((l / 2).toNat) 0)) rfl (by kernel_rfl) rfl (rd_old hv) (ints_at1 (show _ < xs.length by first | omega | (simp only [List.length_set]; omega)))) ?_
 refine hl_callV rfl rfl rfl (rq_call (by kernel_rfl) rfl (fun w hm => ret_ans (ans_of (inRange_any _ _ _ w)))) ?_
 refine hl_bool (fun h3 => ?_) (fun h3 => absurd ((((inR_iff _ _ _).2 (by omega))).symm.trans h3) (by decide))
 refine hl_v rfl rfl rfl (rv_ev rfl) ?_
 refine hl_v rfl rfl rfl (rv_ev rfl) ?_
 refine hl_less (sx 0 rfl (sx 1 rfl (sx 4 rfl (sx 22 rfl (sub_nil _))))) (.refl _) ?_
 refine hl_nil ?_
 refine hq_then ?_
 refine hc_false rfl ?_
 refine hc_skip ?_
 refine hq_then ?_
 refine hc_seq ?_
 refine hc_region ?_
 refine hl_v rfl rfl rfl (rv_ev rfl) ?_
 refine hl_v rfl rfl rfl (rv_ev rfl) ?_
 refine hl_callV rfl rfl rfl (rq_call (by kernel_rfl) rfl (fun w hm => ret_ans (implitValue_ans xs l _ w (hv.below hm.bel) hl h01 hlen))) ?_
 refine hl_v rfl rfl rfl (rv_ev rfl) ?_
 refine hl_less (sx 0 rfl (sx 1 rfl (sx 4 rfl (sx 22 rfl (sub_nil _))))) (.refl _) ?_
 refine hl_nil ?_
 refine hq_then ?_
 refine hc_ret ?_
 exact hq_ans rfl rfl rfl
set_option maxHeartbeats 4000000 in
set_option maxRecDepth 100000 in
theorem l08Net_mut (g : Nat) (a : Option Addr) (len cap : Nat) (z : List Int) (w0 : World) (l : List HP) (w : World) (hm0 : Mem w0 (curE g a len cap :: l) w) (hb : BRow .u8 w0 a len cap z) :
  Calls Try.prog 61 #[.pointer (some ⟨g, 0, none⟩)] w (fun e_ w_ => ∃ v_ p_, e_ = .returned v_ ∧ (fun u_ p_ => ∃ n : Nt, u_ = n.agg ∧ p_ = bigE [curE g a len cap, ntE n] ∧ (n.sv.oneCell' = true ∧ n.av.oneCell' = true ∧ n.ov.oneCell' = true) ∧ NtOk n ∧ n.ins ≤ 4 ∧ (n.ss.length : Int) ≤ 3 ∧ (n.gs.length : Int) ≤ 14) v_ p_ ∧ Mem w0 (p_ :: l) w_) := by
 refine calls_hcM (N := 5) (args := [.pointer (some ⟨g, 0, none⟩)]) Try.func61 rfl rfl hm0 ?_
 refine hc_less _ (sx 0 rfl (sub_nil _)) (.refl _) ?_
 refine hc_seq ?_
 refine hc_region ?_
 refine hl_box rfl rfl rfl (rq_alloc (z := .agg #[.int .i64 0, .slice none 0 0, .slice none 0 0, .slice none 0 0]) rfl (by kernel_rfl)) ?_
 intro b1
 refine hl_less (sx 0 rfl (sx 2 rfl (sub_nil _))) (.refl _) ?_
 refine hl_nil ?_
 refine hq_then ?_
 refine hc_seq ?_
 refine hc_region ?_
 refine hl_v rfl rfl rfl (rv_ev rfl) ?_
 refine hl_callM (R := (fun u_ p_ => ∃ n : Nt, u_ = n.agg ∧ p_ = bigE [curE g a len cap, ntE n] ∧ (n.sv.oneCell' = true ∧ n.av.oneCell' = true ∧ n.ov.oneCell' = true) ∧ NtOk n ∧ n.ins ≤ 4 ∧ (n.ss.length : Int) ≤ 3 ∧ (n.gs.length : Int) ≤ 14)) 1 rfl rfl (by kernel_rfl) rfl rfl (fun l' w hm => l08Sized_mut g a len cap z 4 3 14 _ _ _ hm hb (by decide) (by decide) (by decide)) ?_
 intro v2 p3 hR4
 obtain ⟨n, rfl, rfl, ⟨o1n, o2n, o3n⟩, hn, hnq1, hnq2, hnq3⟩ := hR4
 refine hl_eqL (l' := (boxE b1 #[.int .i64 0, .slice none 0 0, .slice none 0 0, .slice none 0 0] 28 :: bigE [curE g a len cap, ntE n] :: l)) rfl ?_
 refine hl_storeBoxN (i := 0) (off := 0) (us := [.int .i64 n.ins, n.sv, n.av, n.ov]) (l' := (boxE b1 #[.int .i64 n.ins, n.sv, n.av, n.ov] 28 :: bigE [curE g a len cap, ntE n] :: l)) rfl rfl rfl (by kernel_rfl) rfl rfl rfl (all_cons rfl (all_cons o1n (all_cons o2n (all_cons o3n all_nil)))) rfl rfl rfl ?_
 refine hl_less (sx 0 rfl (sx 2 rfl (sub_nil _))) (.refl _) ?_
 refine hl_nil ?_
 refine hq_then ?_
 refine hc_ret ?_
 exact hq_ret (rs := [.cell 2 28]) (vs := [.agg #[.int .i64 n.ins, n.sv, n.av, n.ov]]) rfl ⟨⟨b1, 0, [.int .i64 n.ins, n.sv, n.av, n.ov], rfl, rfl, by kernel_rfl, by kernel_rfl, box_part 0 rfl 0 rfl⟩, trivial⟩ rfl (fun w hm => ⟨_, bigE [curE g a len cap, ntE n], rfl, ⟨n, rfl, rfl, ⟨o1n, o2n, o3n⟩, hn, hnq1, hnq2, hnq3⟩, hm.sub ((.cons _ (.cons_cons _ (.refl _))))⟩)
def insI : List Int → Int → List Int
  | [], x => [x]
  | y :: ys, x => if y < x then y :: insI ys x else if y = x then y :: ys else x :: y :: ys
theorem insI_at (xs : List Int) (x : Int) (k : Nat) (hk : k ≤ xs.length) (h1 : ∀ j, j < k → xs.getD j 0 < x) (h2 : k < xs.length → x < xs.getD k 0) : insI xs x = xs.take k ++ [x] ++ xs.drop k := by
  induction xs generalizing k with
  | nil => simp at hk; subst hk; rfl
  | cons y ys ih =>
    cases k with
    | zero =>
      have := h2 (by simp)
      simp at this
      simp only [insI, List.take_zero, List.nil_append, List.drop_zero, List.singleton_append]
      rw [if_neg (by omega), if_neg (by omega)]
    | succ k =>
      have := h1 0 (by omega)
      simp at this
      simp only [insI]
      rw [if_pos this, ih k (by simpa using hk) (fun j hj => by have := h1 (j + 1) (by omega); simpa using this) (fun hlt => by have := h2 (by simpa using hlt); simpa using this)]
      simp
theorem insI_has (xs : List Int) (x : Int) (k : Nat) (hk : k < xs.length) (h1 : ∀ j, j < k → xs.getD j 0 < x) (h2 : xs.getD k 0 = x) : insI xs x = xs := by
  induction xs generalizing k with
  | nil => simp at hk
  | cons y ys ih =>
    cases k with
    | zero =>
      simp at h2
      simp only [insI]
      rw [if_neg (by omega), if_pos h2]
    | succ k =>
      have := h1 0 (by omega)
      simp at this
      simp only [insI]
      rw [if_pos this, ih k (by simpa using hk) (fun j hj => by have := h1 (j + 1) (by omega); simpa using this) (by simpa using h2)]
set_option maxHeartbeats 4000000 in
set_option maxRecDepth 100000 in
theorem insertInt_ret (v : Value) (xs : List Int) (x : Int) (w : World) (hv : RdsW w v 1 xs.length (xs.map (Value.int .i64))) (hn : xs.length ≤ 1000000) :
  Calls Try.prog 127 #[v, .int .i64 x] w (Ret w fun v' post => (v' = v ∧ post = [] ∧ insI xs x = xs) ∨ (post = [rowE 3 1 v' (insI xs x).length ((insI xs x).map (Value.int .i64))])) := by
 refine calls_hc (N := 48) (args := [v, .int .i64 x]) Try.func127 rfl rfl ?_
 refine hc_less _ (sx 0 rfl (sx 1 rfl (sub_nil _))) (.refl _) ?_
 refine hc_seq ?_
 refine hc_region ?_
 refine hl_v rfl rfl rfl (rv_ev rfl) ?_
 refine hl_less (sx 0 rfl (sx 1 rfl (sx 4 rfl (sub_nil _)))) (.refl _) ?_
 refine hl_nil ?_
 refine hq_then ?_
 refine hc_seq ?_
 refine hc_region ?_
 refine hl_v rfl rfl rfl (rv_ev rfl) ?_
 refine hl_less (sx 0 rfl (sx 1 rfl (sx 4 rfl (sx 5 rfl (sub_nil _))))) (.refl _) ?_
 refine hl_nil ?_
 refine hq_then ?_
 refine hc_seq ?_
 refine hc_block ?_
 refine hc_loop1 (α := Int) (fun k => []) (fun k => [(0, v), (1, .int .i64 x), (4, .slice none 0 0), (5, .int .i64 k)]) (fun k => 0 ≤ k ∧ k ≤ xs.length ∧ ∀ j, j < k.toNat → xs.getD j 0 < x) (fun k => ((xs.length : Int) - k).toNat) 0 ⟨by omega, by omega, fun j hj => absurd hj (by omega)⟩ (sx 0 rfl (sx 1 rfl (sx 4 rfl (sx 5 rfl (sub_nil _))))) (.slnil) ?_
 intro k hi1
 obtain ⟨hk0, hk1, hk2⟩ := hi1
 refine hc_seq ?_
 refine hc_seq ?_
 refine hc_region ?_
 refine hl_v rfl rfl rfl (rv_ev rfl) ?_
 refine hl_v rfl rfl rfl (rv_ev rfl) ?_
 refine hl_v rfl rfl rfl (rv_len rfl Try.underlying26 rfl (rd_old hv)) ?_
 refine hl_lss rfl rfl rfl rfl rfl rfl (fun h2 => ?_) (fun h2 => ?_)
 ·
  refine hl_v rfl rfl rfl (rv_ev rfl) ?_
  refine hl_v rfl rfl rfl (rv_ev rfl) ?_
  refine hl_v rfl rfl rfl (rv_ev rfl) ?_
  refine hl_v rfl rfl rfl (rv_index (s := 1) rfl Try.underlying26 (by kernel_rfl) rfl rfl (rd_old hv) (by omega) (by first | omega | (simp only [List.length_set]; omega))) ?_
  refine hl_v rfl rfl rfl (rv_loadEl (u := .int .i64 (xs.getD ((k).toNat) 0)) rfl (by kernel_rfl) rfl (rd_old hv) (ints_at1 (show _ < xs.length by first | omega | (simp only [List.length_set]; omega)))) ?_
  refine hl_v rfl rfl rfl (rv_ev rfl) ?_
  refine hl_lss rfl rfl rfl rfl rfl rfl (fun h3 => ?_) (fun h3 => ?_)
  ·
   refine hl_v rfl rfl rfl (rv_ev rfl) ?_
   refine hl_less (sx 0 rfl (sx 1 rfl (sx 4 rfl (sx 5 rfl (sx 18 rfl (sub_nil _)))))) (.refl _) ?_
   refine hl_nil ?_
   refine hq_then ?_
   refine hc_true rfl ?_
   refine hc_skip ?_
   refine hq_then ?_
   refine hc_block ?_
   refine hc_region ?_
   refine hl_v rfl rfl rfl (rv_ev rfl) ?_
   refine hl_v rfl rfl rfl (rv_add rfl rfl rfl (by constructor <;> omega)) ?_
   refine hl_v rfl rfl rfl (rv_ev rfl) ?_
   refine hl_less (sx 0 rfl (sx 1 rfl (sx 4 rfl (sx 5 rfl (sx 18 rfl (sub_nil _)))))) (.refl _) ?_
   refine hl_nil ?_
   refine hq_block_normal ?_
   exact hq_round1 (k + 1) ⟨by omega, by omega, fun j hj => by by_cases hjk : j = k.toNat; (subst hjk; assumption); exact hk2 j (by omega)⟩ (by omega) (sx 0 rfl (sx 1 rfl (sx 4 rfl (sx 5 rfl (sub_nil _))))) (.slnil)
  ·
   refine hl_v rfl rfl rfl (rv_ev rfl) ?_
   refine hl_less (sx 0 rfl (sx 1 rfl (sx 4 rfl (sx 5 rfl (sx 18 rfl (sub_nil _)))))) (.refl _) ?_
   refine hl_nil ?_
   refine hq_then ?_
   refine hc_false rfl ?_
   refine hc_exit ?_
   refine hq_then_exit ?_
   refine hq_then_exit ?_
   refine hq_block_exit ?_
   refine hq_then ?_
   refine hc_seq ?_
   refine hc_seq ?_
   refine hc_region ?_
   refine hl_v rfl rfl rfl (rv_ev rfl) ?_
   refine hl_v rfl rfl rfl (rv_ev rfl) ?_
   refine hl_v rfl rfl rfl (rv_len rfl Try.underlying26 rfl (rd_old hv)) ?_
   refine hl_lss rfl rfl rfl rfl rfl rfl (fun h4 => ?_) (fun h4 => ?_)
   ·
    refine hl_v rfl rfl rfl (rv_ev rfl) ?_
    refine hl_v rfl rfl rfl (rv_ev rfl) ?_
    refine hl_v rfl rfl rfl (rv_ev rfl) ?_
    refine hl_v rfl rfl rfl (rv_index (s := 1) rfl Try.underlying26 (by kernel_rfl) rfl rfl (rd_old hv) (by omega) (by first | omega | (simp only [List.length_set]; omega))) ?_
    refine hl_v rfl rfl rfl (rv_loadEl (u := .int .i64 (xs.getD ((k).toNat) 0)) rfl (by kernel_rfl) rfl (rd_old hv) (ints_at1 (show _ < xs.length by first | omega | (simp only [List.length_set]; omega)))) ?_
    refine hl_v rfl rfl rfl (rv_ev rfl) ?_
    refine hl_eql rfl rfl rfl rfl rfl rfl (fun h5 => ?_) (fun h5 => ?_)
    ·
     refine hl_v rfl rfl rfl (rv_ev rfl) ?_
     refine hl_less (sx 0 rfl (sx 1 rfl (sx 4 rfl (sx 5 rfl (sx 18 rfl (sx 32 rfl (sub_nil _))))))) (.refl _) ?_
     refine hl_nil ?_
     refine hq_then ?_
     refine hc_true rfl ?_
     refine hc_seq ?_
     refine hc_region ?_
     refine hl_v rfl rfl rfl (rv_ev rfl) ?_
     refine hl_v rfl rfl rfl (rv_ev rfl) ?_
     refine hl_less (sx 0 rfl (sx 1 rfl (sx 4 rfl (sx 5 rfl (sx 18 rfl (sx 32 rfl (sub_nil _))))))) (.refl _) ?_
     refine hl_nil ?_
     refine hq_then ?_
     refine hc_ret ?_
     refine hq_then_ret ?_
     exact hq_retR rfl rfl (List.nil_sublist _) (Or.inl ⟨rfl, rfl, insI_has xs x k.toNat (by omega) hk2 (by omega)⟩)
    ·
     refine hl_v rfl rfl rfl (rv_ev rfl) ?_
     refine hl_less (sx 0 rfl (sx 1 rfl (sx 4 rfl (sx 5 rfl (sx 18 rfl (sx 32 rfl (sub_nil _))))))) (.refl _) ?_
     refine hl_nil ?_
     refine hq_then ?_
     refine hc_false rfl ?_
     refine hc_skip ?_
     refine hq_then ?_
     refine hc_seq ?_
     refine hc_region ?_
     refine hl_row rfl rfl rfl (rq_slice0 (s := 1) rfl Try.underlying26 (by kernel_rfl)) ?_
     intro g6
     refine hl_v rfl rfl rfl (rv_ev rfl) ?_
     refine hl_v rfl rfl rfl (rv_ev rfl) ?_
     refine hl_v rfl rfl rfl (rv_slH rfl Try.underlying26 (by kernel_rfl) rfl rfl (rd_old hv) (by omega) (by omega)) ?_
     refine hl_append (i := 0) (z := .int .i64 0) (bytes := 8) (n' := (xs.take (k).toNat).length) (xs' := ((xs.take (k).toNat).map (Value.int .i64))) (L := fun v7 => [rowE 3 1 v7 ((xs.take (k).toNat).length) ((xs.take (k).toNat).map (Value.int .i64))]) rfl rfl rfl rfl Try.underlying26 (by kernel_rfl) (by kernel_rfl) rfl rfl rfl (rd_slH (rd_old hv) (by omega)) (ints_one _) (by first | omega | (simp; omega)) ((Nat.zero_add _)) ((List.nil_append _)) (fun _ => rfl) ?_
     intro v7
     refine hl_v rfl rfl rfl (rv_ev rfl) ?_
     refine hl_less (sx 0 rfl (sx 1 rfl (sx 4 rfl (sx 5 rfl (sx 6 rfl (sx 18 rfl (sx 32 rfl (sub_nil _)))))))) (.refl _) ?_
     refine hl_nil ?_
     refine hq_then ?_
     refine hc_seq ?_
     refine hc_region ?_
     refine hl_v rfl rfl rfl (rv_ev rfl) ?_
     refine hl_v rfl rfl rfl (rv_ev rfl) ?_
     refine hl_row rfl rfl rfl (rq_buildSlice (z := .int .i64 0) (s := 1) (cs := ([x].map (Value.int .i64))) rfl Try.underlying26 (by kernel_rfl) (by decide) rfl (by kernel_rfl) rfl) ?_
     intro g8
     refine hl_append (i := 1) (z := .int .i64 0) (bytes := 8) (n' := ((xs.take (k).toNat) ++ ([x])).length) (xs' := (((xs.take (k).toNat) ++ ([x])).map (Value.int .i64))) (L := fun v9 => [rowE 3 1 (.slice (some ⟨g8, 0, none⟩) 1 1) 1 ([x].map (Value.int .i64)), rowE 3 1 v9 (((xs.take (k).toNat) ++ ([x])).length) (((xs.take (k).toNat) ++ ([x])).map (Value.int .i64))]) rfl rfl rfl rfl Try.underlying26 (by kernel_rfl) (by kernel_rfl) rfl rfl rfl (rd_row 0 rfl) (ints_one _) (by first | omega | (simp; omega)) (len_app (xs.take (k).toNat) ([x])) (ints_app (xs.take (k).toNat) ([x])) (fun _ => rfl) ?_
     intro v9
     refine hl_v rfl rfl rfl (rv_ev rfl) ?_
     refine hl_less (sx 0 rfl (sx 1 rfl (sx 4 rfl (sx 5 rfl (sx 6 rfl (sx 18 rfl (sx 32 rfl (sub_nil _)))))))) (.refl _) ?_
     refine hl_nil ?_
     refine hq_then ?_
     refine hc_seq ?_
     refine hc_region ?_
     refine hl_v rfl rfl rfl (rv_ev rfl) ?_
     refine hl_v rfl rfl rfl (rv_ev rfl) ?_
     refine hl_v rfl rfl rfl (rv_ev rfl) ?_
     refine hl_v rfl rfl rfl (rv_slL rfl Try.underlying26 (by kernel_rfl) rfl rfl (rd_old hv) (by omega) (by omega)) ?_
     refine hl_append (i := 1) (z := .int .i64 0) (bytes := 8) (n' := (((xs.take (k).toNat) ++ ([x])) ++ (xs.drop (k).toNat)).length) (xs' := ((((xs.take (k).toNat) ++ ([x])) ++ (xs.drop (k).toNat)).map (Value.int .i64))) (L := fun v10 => [rowE 3 1 (.slice (some ⟨g8, 0, none⟩) 1 1) 1 ([x].map (Value.int .i64)), rowE 3 1 v10 ((((xs.take (k).toNat) ++ ([x])) ++ (xs.drop (k).toNat)).length) ((((xs.take (k).toNat) ++ ([x])) ++ (xs.drop (k).toNat)).map (Value.int .i64))]) rfl rfl rfl rfl Try.underlying26 (by kernel_rfl) (by kernel_rfl) rfl rfl rfl (rd_slL (rd_old hv) (by omega)) (ints_one _) (by first | omega | (simp; omega)) (len_app ((xs.take (k).toNat) ++ ([x])) (xs.drop (k).toNat)) (ints_app ((xs.take (k).toNat) ++ ([x])) (xs.drop (k).toNat)) (fun _ => rfl) ?_
     intro v10
     refine hl_v rfl rfl rfl (rv_ev rfl) ?_
     refine hl_less (sx 0 rfl (sx 1 rfl (sx 4 rfl (sx 5 rfl (sx 6 rfl (sx 18 rfl (sx 32 rfl (sub_nil _)))))))) (.refl _) ?_
     refine hl_nil ?_
     refine hq_then ?_
     refine hc_ret ?_
     have e := insI_at xs x k.toNat (by omega) hk2 (by omega)
     exact hq_retR (post := [rowE 3 1 v10 ((((xs.take (k).toNat) ++ ([x])) ++ (xs.drop (k).toNat)).length) ((((xs.take (k).toNat) ++ ([x])) ++ (xs.drop (k).toNat)).map (Value.int .i64))]) rfl rfl ((.cons _ (.cons_cons _ .slnil))) (Or.inr (by rw [e]))
   ·
    refine hl_v rfl rfl rfl (rv_ev rfl) ?_
    refine hl_skip rfl rfl rfl ?_
    refine hl_skip rfl rfl rfl ?_
    refine hl_skip rfl rfl rfl ?_
    refine hl_skip rfl rfl rfl ?_
    refine hl_skip rfl rfl rfl ?_
    refine hl_skip rfl rfl rfl ?_
    refine hl_v rfl rfl rfl (rv_ev rfl) ?_
    refine hl_less (sx 0 rfl (sx 1 rfl (sx 4 rfl (sx 5 rfl (sx 18 rfl (sx 32 rfl (sub_nil _))))))) (.refl _) ?_
    refine hl_nil ?_
    refine hq_then ?_
    refine hc_false rfl ?_
    refine hc_skip ?_
    refine hq_then ?_
    refine hc_seq ?_
    refine hc_region ?_
    refine hl_row rfl rfl rfl (rq_slice0 (s := 1) rfl Try.underlying26 (by kernel_rfl)) ?_
    intro g11
    refine hl_v rfl rfl rfl (rv_ev rfl) ?_
    refine hl_v rfl rfl rfl (rv_ev rfl) ?_
    refine hl_v rfl rfl rfl (rv_slH rfl Try.underlying26 (by kernel_rfl) rfl rfl (rd_old hv) (by omega) (by omega)) ?_
    refine hl_append (i := 0) (z := .int .i64 0) (bytes := 8) (n' := (xs.take (k).toNat).length) (xs' := ((xs.take (k).toNat).map (Value.int .i64))) (L := fun v12 => [rowE 3 1 v12 ((xs.take (k).toNat).length) ((xs.take (k).toNat).map (Value.int .i64))]) rfl rfl rfl rfl Try.underlying26 (by kernel_rfl) (by kernel_rfl) rfl rfl rfl (rd_slH (rd_old hv) (by omega)) (ints_one _) (by first | omega | (simp; omega)) ((Nat.zero_add _)) ((List.nil_append _)) (fun _ => rfl) ?_
    intro v12
    refine hl_v rfl rfl rfl (rv_ev rfl) ?_
    refine hl_less (sx 0 rfl (sx 1 rfl (sx 4 rfl (sx 5 rfl (sx 6 rfl (sx 18 rfl (sx 32 rfl (sub_nil _)))))))) (.refl _) ?_
    refine hl_nil ?_
    refine hq_then ?_
    refine hc_seq ?_
    refine hc_region ?_
    refine hl_v rfl rfl rfl (rv_ev rfl) ?_
    refine hl_v rfl rfl rfl (rv_ev rfl) ?_
    refine hl_row rfl rfl rfl (rq_buildSlice (z := .int .i64 0) (s := 1) (cs := ([x].map (Value.int .i64))) rfl Try.underlying26 (by kernel_rfl) (by decide) rfl (by kernel_rfl) rfl) ?_
    intro g13
    refine hl_append (i := 1) (z := .int .i64 0) (bytes := 8) (n' := ((xs.take (k).toNat) ++ ([x])).length) (xs' := (((xs.take (k).toNat) ++ ([x])).map (Value.int .i64))) (L := fun v14 => [rowE 3 1 (.slice (some ⟨g13, 0, none⟩) 1 1) 1 ([x].map (Value.int .i64)), rowE 3 1 v14 (((xs.take (k).toNat) ++ ([x])).length) (((xs.take (k).toNat) ++ ([x])).map (Value.int .i64))]) rfl rfl rfl rfl Try.underlying26 (by kernel_rfl) (by kernel_rfl) rfl rfl rfl (rd_row 0 rfl) (ints_one _) (by first | omega | (simp; omega)) (len_app (xs.take (k).toNat) ([x])) (ints_app (xs.take (k).toNat) ([x])) (fun _ => rfl) ?_
    intro v14
    refine hl_v rfl rfl rfl (rv_ev rfl) ?_
    refine hl_less (sx 0 rfl (sx 1 rfl (sx 4 rfl (sx 5 rfl (sx 6 rfl (sx 18 rfl (sx 32 rfl (sub_nil _)))))))) (.refl _) ?_
    refine hl_nil ?_
    refine hq_then ?_
    refine hc_seq ?_
    refine hc_region ?_
    refine hl_v rfl rfl rfl (rv_ev rfl) ?_
    refine hl_v rfl rfl rfl (rv_ev rfl) ?_
    refine hl_v rfl rfl rfl (rv_ev rfl) ?_
    refine hl_v rfl rfl rfl (rv_slL rfl Try.underlying26 (by kernel_rfl) rfl rfl (rd_old hv) (by omega) (by omega)) ?_
    refine hl_append (i := 1) (z := .int .i64 0) (bytes := 8) (n' := (((xs.take (k).toNat) ++ ([x])) ++ (xs.drop (k).toNat)).length) (xs' := ((((xs.take (k).toNat) ++ ([x])) ++ (xs.drop (k).toNat)).map (Value.int .i64))) (L := fun v15 => [rowE 3 1 (.slice (some ⟨g13, 0, none⟩) 1 1) 1 ([x].map (Value.int .i64)), rowE 3 1 v15 ((((xs.take (k).toNat) ++ ([x])) ++ (xs.drop (k).toNat)).length) ((((xs.take (k).toNat) ++ ([x])) ++ (xs.drop (k).toNat)).map (Value.int .i64))]) rfl rfl rfl rfl Try.underlying26 (by kernel_rfl) (by kernel_rfl) rfl rfl rfl (rd_slL (rd_old hv) (by omega)) (ints_one _) (by first | omega | (simp; omega)) (len_app ((xs.take (k).toNat) ++ ([x])) (xs.drop (k).toNat)) (ints_app ((xs.take (k).toNat) ++ ([x])) (xs.drop (k).toNat)) (fun _ => rfl) ?_
    intro v15
    refine hl_v rfl rfl rfl (rv_ev rfl) ?_
    refine hl_less (sx 0 rfl (sx 1 rfl (sx 4 rfl (sx 5 rfl (sx 6 rfl (sx 18 rfl (sx 32 rfl (sub_nil _)))))))) (.refl _) ?_
    refine hl_nil ?_
    refine hq_then ?_
    refine hc_ret ?_
    have e := insI_at xs x k.toNat (by omega) hk2 (by omega)
    exact hq_retR (post := [rowE 3 1 v15 ((((xs.take (k).toNat) ++ ([x])) ++ (xs.drop (k).toNat)).length) ((((xs.take (k).toNat) ++ ([x])) ++ (xs.drop (k).toNat)).map (Value.int .i64))]) rfl rfl ((.cons _ (.cons_cons _ .slnil))) (Or.inr (by rw [e]))
 ·
  refine hl_v rfl rfl rfl (rv_ev rfl) ?_
  refine hl_skip rfl rfl rfl ?_
  refine hl_skip rfl rfl rfl ?_
  refine hl_skip rfl rfl rfl ?_
  refine hl_skip rfl rfl rfl ?_
  refine hl_skip rfl rfl rfl ?_
  refine hl_skip rfl rfl rfl ?_
  refine hl_v rfl rfl rfl (rv_ev rfl) ?_
  refine hl_less (sx 0 rfl (sx 1 rfl (sx 4 rfl (sx 5 rfl (sx 18 rfl (sub_nil _)))))) (.refl _) ?_
  refine hl_nil ?_
  refine hq_then ?_
  refine hc_false rfl ?_
  refine hc_exit ?_
  refine hq_then_exit ?_
  refine hq_then_exit ?_
  refine hq_block_exit ?_
  refine hq_then ?_
  refine hc_seq ?_
  refine hc_seq ?_
  refine hc_region ?_
  refine hl_v rfl rfl rfl (rv_ev rfl) ?_
  refine hl_v rfl rfl rfl (rv_ev rfl) ?_
  refine hl_v rfl rfl rfl (rv_len rfl Try.underlying26 rfl (rd_old hv)) ?_
  refine hl_lss rfl rfl rfl rfl rfl rfl (fun h16 => ?_) (fun h16 => ?_)
  ·
   refine hl_v rfl rfl rfl (rv_ev rfl) ?_
   refine hl_v rfl rfl rfl (rv_ev rfl) ?_
   refine hl_v rfl rfl rfl (rv_ev rfl) ?_
   refine hl_v rfl rfl rfl (rv_index (s := 1) rfl Try.underlying26 (by kernel_rfl) rfl rfl (rd_old hv) (by omega) (by first | omega | (simp only [List.length_set]; omega))) ?_
   refine hl_v rfl rfl rfl (rv_loadEl (u := .int .i64 (xs.getD ((k).toNat) 0)) rfl (by kernel_rfl) rfl (rd_old hv) (ints_at1 (show _ < xs.length by first | omega | (simp only [List.length_set]; omega)))) ?_
   refine hl_v rfl rfl rfl (rv_ev rfl) ?_
   refine hl_eql rfl rfl rfl rfl rfl rfl (fun h17 => ?_) (fun h17 => ?_)
   ·
    refine hl_v rfl rfl rfl (rv_ev rfl) ?_
    refine hl_less (sx 0 rfl (sx 1 rfl (sx 4 rfl (sx 5 rfl (sx 18 rfl (sx 32 rfl (sub_nil _))))))) (.refl _) ?_
    refine hl_nil ?_
    refine hq_then ?_
    refine hc_true rfl ?_
    refine hc_seq ?_
    refine hc_region ?_
    refine hl_v rfl rfl rfl (rv_ev rfl) ?_
    refine hl_v rfl rfl rfl (rv_ev rfl) ?_
    refine hl_less (sx 0 rfl (sx 1 rfl (sx 4 rfl (sx 5 rfl (sx 18 rfl (sx 32 rfl (sub_nil _))))))) (.refl _) ?_
    refine hl_nil ?_
    refine hq_then ?_
    refine hc_ret ?_
    refine hq_then_ret ?_
    exact hq_retR rfl rfl (List.nil_sublist _) (Or.inl ⟨rfl, rfl, insI_has xs x k.toNat (by omega) hk2 (by omega)⟩)
   ·
    refine hl_v rfl rfl rfl (rv_ev rfl) ?_
    refine hl_less (sx 0 rfl (sx 1 rfl (sx 4 rfl (sx 5 rfl (sx 18 rfl (sx 32 rfl (sub_nil _))))))) (.refl _) ?_
    refine hl_nil ?_
    refine hq_then ?_
    refine hc_false rfl ?_
    refine hc_skip ?_
    refine hq_then ?_
    refine hc_seq ?_
    refine hc_region ?_
    refine hl_row rfl rfl rfl (rq_slice0 (s := 1) rfl Try.underlying26 (by kernel_rfl)) ?_
    intro g18
    refine hl_v rfl rfl rfl (rv_ev rfl) ?_
    refine hl_v rfl rfl rfl (rv_ev rfl) ?_
    refine hl_v rfl rfl rfl (rv_slH rfl Try.underlying26 (by kernel_rfl) rfl rfl (rd_old hv) (by omega) (by omega)) ?_
    refine hl_append (i := 0) (z := .int .i64 0) (bytes := 8) (n' := (xs.take (k).toNat).length) (xs' := ((xs.take (k).toNat).map (Value.int .i64))) (L := fun v19 => [rowE 3 1 v19 ((xs.take (k).toNat).length) ((xs.take (k).toNat).map (Value.int .i64))]) rfl rfl rfl rfl Try.underlying26 (by kernel_rfl) (by kernel_rfl) rfl rfl rfl (rd_slH (rd_old hv) (by omega)) (ints_one _) (by first | omega | (simp; omega)) ((Nat.zero_add _)) ((List.nil_append _)) (fun _ => rfl) ?_
    intro v19
    refine hl_v rfl rfl rfl (rv_ev rfl) ?_
    refine hl_less (sx 0 rfl (sx 1 rfl (sx 4 rfl (sx 5 rfl (sx 6 rfl (sx 18 rfl (sx 32 rfl (sub_nil _)))))))) (.refl _) ?_
    refine hl_nil ?_
    refine hq_then ?_
    refine hc_seq ?_
    refine hc_region ?_
    refine hl_v rfl rfl rfl (rv_ev rfl) ?_
    refine hl_v rfl rfl rfl (rv_ev rfl) ?_
    refine hl_row rfl rfl rfl (rq_buildSlice (z := .int .i64 0) (s := 1) (cs := ([x].map (Value.int .i64))) rfl Try.underlying26 (by kernel_rfl) (by decide) rfl (by kernel_rfl) rfl) ?_
    intro g20
    refine hl_append (i := 1) (z := .int .i64 0) (bytes := 8) (n' := ((xs.take (k).toNat) ++ ([x])).length) (xs' := (((xs.take (k).toNat) ++ ([x])).map (Value.int .i64))) (L := fun v21 => [rowE 3 1 (.slice (some ⟨g20, 0, none⟩) 1 1) 1 ([x].map (Value.int .i64)), rowE 3 1 v21 (((xs.take (k).toNat) ++ ([x])).length) (((xs.take (k).toNat) ++ ([x])).map (Value.int .i64))]) rfl rfl rfl rfl Try.underlying26 (by kernel_rfl) (by kernel_rfl) rfl rfl rfl (rd_row 0 rfl) (ints_one _) (by first | omega | (simp; omega)) (len_app (xs.take (k).toNat) ([x])) (ints_app (xs.take (k).toNat) ([x])) (fun _ => rfl) ?_
    intro v21
    refine hl_v rfl rfl rfl (rv_ev rfl) ?_
    refine hl_less (sx 0 rfl (sx 1 rfl (sx 4 rfl (sx 5 rfl (sx 6 rfl (sx 18 rfl (sx 32 rfl (sub_nil _)))))))) (.refl _) ?_
    refine hl_nil ?_
    refine hq_then ?_
    refine hc_seq ?_
    refine hc_region ?_
    refine hl_v rfl rfl rfl (rv_ev rfl) ?_
    refine hl_v rfl rfl rfl (rv_ev rfl) ?_
    refine hl_v rfl rfl rfl (rv_ev rfl) ?_
    refine hl_v rfl rfl rfl (rv_slL rfl Try.underlying26 (by kernel_rfl) rfl rfl (rd_old hv) (by omega) (by omega)) ?_
    refine hl_append (i := 1) (z := .int .i64 0) (bytes := 8) (n' := (((xs.take (k).toNat) ++ ([x])) ++ (xs.drop (k).toNat)).length) (xs' := ((((xs.take (k).toNat) ++ ([x])) ++ (xs.drop (k).toNat)).map (Value.int .i64))) (L := fun v22 => [rowE 3 1 (.slice (some ⟨g20, 0, none⟩) 1 1) 1 ([x].map (Value.int .i64)), rowE 3 1 v22 ((((xs.take (k).toNat) ++ ([x])) ++ (xs.drop (k).toNat)).length) ((((xs.take (k).toNat) ++ ([x])) ++ (xs.drop (k).toNat)).map (Value.int .i64))]) rfl rfl rfl rfl Try.underlying26 (by kernel_rfl) (by kernel_rfl) rfl rfl rfl (rd_slL (rd_old hv) (by omega)) (ints_one _) (by first | omega | (simp; omega)) (len_app ((xs.take (k).toNat) ++ ([x])) (xs.drop (k).toNat)) (ints_app ((xs.take (k).toNat) ++ ([x])) (xs.drop (k).toNat)) (fun _ => rfl) ?_
    intro v22
    refine hl_v rfl rfl rfl (rv_ev rfl) ?_
    refine hl_less (sx 0 rfl (sx 1 rfl (sx 4 rfl (sx 5 rfl (sx 6 rfl (sx 18 rfl (sx 32 rfl (sub_nil _)))))))) (.refl _) ?_
    refine hl_nil ?_
    refine hq_then ?_
    refine hc_ret ?_
    have e := insI_at xs x k.toNat (by omega) hk2 (by omega)
    exact hq_retR (post := [rowE 3 1 v22 ((((xs.take (k).toNat) ++ ([x])) ++ (xs.drop (k).toNat)).length) ((((xs.take (k).toNat) ++ ([x])) ++ (xs.drop (k).toNat)).map (Value.int .i64))]) rfl rfl ((.cons _ (.cons_cons _ .slnil))) (Or.inr (by rw [e]))
  ·
   refine hl_v rfl rfl rfl (rv_ev rfl) ?_
   refine hl_skip rfl rfl rfl ?_
   refine hl_skip rfl rfl rfl ?_
   refine hl_skip rfl rfl rfl ?_
   refine hl_skip rfl rfl rfl ?_
   refine hl_skip rfl rfl rfl ?_
   refine hl_skip rfl rfl rfl ?_
   refine hl_v rfl rfl rfl (rv_ev rfl) ?_
   refine hl_less (sx 0 rfl (sx 1 rfl (sx 4 rfl (sx 5 rfl (sx 18 rfl (sx 32 rfl (sub_nil _))))))) (.refl _) ?_
   refine hl_nil ?_
   refine hq_then ?_
   refine hc_false rfl ?_
   refine hc_skip ?_
   refine hq_then ?_
   refine hc_seq ?_
   refine hc_region ?_
   refine hl_row rfl rfl rfl (rq_slice0 (s := 1) rfl Try.underlying26 (by kernel_rfl)) ?_
   intro g23
   refine hl_v rfl rfl rfl (rv_ev rfl) ?_
   refine hl_v rfl rfl rfl (rv_ev rfl) ?_
   refine hl_v rfl rfl rfl (rv_slH rfl Try.underlying26 (by kernel_rfl) rfl rfl (rd_old hv) (by omega) (by omega)) ?_
   refine hl_append (i := 0) (z := .int .i64 0) (bytes := 8) (n' := (xs.take (k).toNat).length) (xs' := ((xs.take (k).toNat).map (Value.int .i64))) (L := fun v24 => [rowE 3 1 v24 ((xs.take (k).toNat).length) ((xs.take (k).toNat).map (Value.int .i64))]) rfl rfl rfl rfl Try.underlying26 (by kernel_rfl) (by kernel_rfl) rfl rfl rfl (rd_slH (rd_old hv) (by omega)) (ints_one _) (by first | omega | (simp; omega)) ((Nat.zero_add _)) ((List.nil_append _)) (fun _ => rfl) ?_
   intro v24
   refine hl_v rfl rfl rfl (rv_ev rfl) ?_
   refine hl_less (sx 0 rfl (sx 1 rfl (sx 4 rfl (sx 5 rfl (sx 6 rfl (sx 18 rfl (sx 32 rfl (sub_nil _)))))))) (.refl _) ?_
   refine hl_nil ?_
   refine hq_then ?_
   refine hc_seq ?_
   refine hc_region ?_
   refine hl_v rfl rfl rfl (rv_ev rfl) ?_
   refine hl_v rfl rfl rfl (rv_ev rfl) ?_
   refine hl_row rfl rfl rfl (rq_buildSlice (z := .int .i64 0) (s := 1) (cs := ([x].map (Value.int .i64))) rfl Try.underlying26 (by kernel_rfl) (by decide) rfl (by kernel_rfl) rfl) ?_
   intro g25
   refine hl_append (i := 1) (z := .int .i64 0) (bytes := 8) (n' := ((xs.take (k).toNat) ++ ([x])).length) (xs' := (((xs.take (k).toNat) ++ ([x])).map (Value.int .i64))) (L := fun v26 => [rowE 3 1 (.slice (some ⟨g25, 0, none⟩) 1 1) 1 ([x].map (Value.int .i64)), rowE 3 1 v26 (((xs.take (k).toNat) ++ ([x])).length) (((xs.take (k).toNat) ++ ([x])).map (Value.int .i64))]) rfl rfl rfl rfl Try.underlying26 (by kernel_rfl) (by kernel_rfl) rfl rfl rfl (rd_row 0 rfl) (ints_one _) (by first | omega | (simp; omega)) (len_app (xs.take (k).toNat) ([x])) (ints_app (xs.take (k).toNat) ([x])) (fun _ => rfl) ?_
   intro v26
   refine hl_v rfl rfl rfl (rv_ev rfl) ?_
   refine hl_less (sx 0 rfl (sx 1 rfl (sx 4 rfl (sx 5 rfl (sx 6 rfl (sx 18 rfl (sx 32 rfl (sub_nil _)))))))) (.refl _) ?_
   refine hl_nil ?_
   refine hq_then ?_
   refine hc_seq ?_
   refine hc_region ?_
   refine hl_v rfl rfl rfl (rv_ev rfl) ?_
   refine hl_v rfl rfl rfl (rv_ev rfl) ?_
   refine hl_v rfl rfl rfl (rv_ev rfl) ?_
   refine hl_v rfl rfl rfl (rv_slL rfl Try.underlying26 (by kernel_rfl) rfl rfl (rd_old hv) (by omega) (by omega)) ?_
   refine hl_append (i := 1) (z := .int .i64 0) (bytes := 8) (n' := (((xs.take (k).toNat) ++ ([x])) ++ (xs.drop (k).toNat)).length) (xs' := ((((xs.take (k).toNat) ++ ([x])) ++ (xs.drop (k).toNat)).map (Value.int .i64))) (L := fun v27 => [rowE 3 1 (.slice (some ⟨g25, 0, none⟩) 1 1) 1 ([x].map (Value.int .i64)), rowE 3 1 v27 ((((xs.take (k).toNat) ++ ([x])) ++ (xs.drop (k).toNat)).length) ((((xs.take (k).toNat) ++ ([x])) ++ (xs.drop (k).toNat)).map (Value.int .i64))]) rfl rfl rfl rfl Try.underlying26 (by kernel_rfl) (by kernel_rfl) rfl rfl rfl (rd_slL (rd_old hv) (by omega)) (ints_one _) (by first | omega | (simp; omega)) (len_app ((xs.take (k).toNat) ++ ([x])) (xs.drop (k).toNat)) (ints_app ((xs.take (k).toNat) ++ ([x])) (xs.drop (k).toNat)) (fun _ => rfl) ?_
   intro v27
   refine hl_v rfl rfl rfl (rv_ev rfl) ?_
   refine hl_less (sx 0 rfl (sx 1 rfl (sx 4 rfl (sx 5 rfl (sx 6 rfl (sx 18 rfl (sx 32 rfl (sub_nil _)))))))) (.refl _) ?_
   refine hl_nil ?_
   refine hq_then ?_
   refine hc_ret ?_
   have e := insI_at xs x k.toNat (by omega) hk2 (by omega)
   exact hq_retR (post := [rowE 3 1 v27 ((((xs.take (k).toNat) ++ ([x])) ++ (xs.drop (k).toNat)).length) ((((xs.take (k).toNat) ++ ([x])) ++ (xs.drop (k).toNat)).map (Value.int .i64))]) rfl rfl ((.cons _ (.cons_cons _ .slnil))) (Or.inr (by rw [e]))
theorem insI_len (xs : List Int) (x : Int) : (insI xs x).length ≤ xs.length + 1 := by
  induction xs with
  | nil => simp [insI]
  | cons y ys ih => simp only [insI]; split <;> (try split) <;> simp <;> omega
theorem insertInt_mut (v : Value) (xs : List Int) (x : Int) (hn : xs.length ≤ 1000000) {w0 : World} {l : List HP} (w : World) (hm : Mem w0 (rowE 3 1 v xs.length (xs.map (Value.int .i64)) :: l) w) :
    Calls Try.prog 127 #[v, .int .i64 x] w fun e w' => ∃ v' p', e = .returned v' ∧ p' = rowE 3 1 v' (insI xs x).length ((insI xs x).map (Value.int .i64)) ∧ Mem w0 (p' :: l) w' :=
  (insertInt_ret v xs x w (rdsW_own (hm.holds (rowE 3 1 v xs.length (xs.map (Value.int .i64))) List.mem_cons_self)) hn).mono fun e w' h => by
    obtain ⟨v', post, rfl, hR, hp⟩ := h
    rcases hR with ⟨rfl, rfl, he⟩ | rfl
    · exact ⟨v', _, rfl, rfl, by rw [he]; exact hm.step hp.bel⟩
    · exact ⟨v', _, rfl, rfl, (hm.app hp).sub (.cons_cons _ (.cons _ (.refl _)))⟩
theorem insI_mem (xs : List Int) (x y : Int) : y ∈ insI xs x ↔ y = x ∨ y ∈ xs := by
  induction xs with
  | nil => simp [insI]
  | cons z zs ih =>
    simp only [insI]
    split
    · rw [List.mem_cons, ih, List.mem_cons]
      constructor
      · rintro (h | h | h)
        · exact .inr (.inl h)
        · exact .inl h
        · exact .inr (.inr h)
      · rintro (h | h | h)
        · exact .inr (.inl h)
        · exact .inl h
        · exact .inr (.inr h)
    · split
      · rename_i h; subst h; simp
      · simp
theorem insI_sorted (xs : List Int) (x : Int) (h : xs.Pairwise (· < ·)) : (insI xs x).Pairwise (· < ·) := by
  induction xs with
  | nil => simp [insI]
  | cons z zs ih =>
    rw [List.pairwise_cons] at h
    simp only [insI]
    split
    · rw [List.pairwise_cons]
      refine ⟨fun y hy => ?_, ih h.2⟩
      rcases (insI_mem _ _ _).1 hy with rfl | hy
      · assumption
      · exact h.1 y hy
    · split
      · exact List.pairwise_cons.2 h
      · rw [List.pairwise_cons]
        refine ⟨fun y hy => ?_, List.pairwise_cons.2 h⟩
        rcases List.mem_cons.1 hy with rfl | hy
        · omega
        · have := h.1 y hy; omega
/-- v holds the values of the nodes of n -/
structure AndV (n : Nt) (v : List Int) : Prop where
  b01 : B01 v
  len : (v.length : Int) = n.cnt
  at_ : ∀ k, k < n.gs.length → v.getD (n.fst + k).toNat 0 = bitL v (n.gs.getD k an0).a * bitL v (n.gs.getD k an0).b
theorem vals_and {n : Nt} (h : NtOk n) {st : List Int} (hs : st.length = n.ss.length) (inp : Int) : AndV n (valsL n st inp) := by
  have hl := val_len n st inp n.gs.length (Nat.le_refl _)
  have hi := h.i0
  exact ⟨val01 h hs inp _ (Nat.le_refl _), by show ((valL n st inp n.gs.length).length : Int) = _; unfold Nt.cnt; omega, fun k hk => val_at h hs inp hk⟩
def wS : List Int → Nat
  | [] => 0
  | x :: xs => 3 ^ (x / 2).toNat + wS xs
theorem wS_app : ∀ (xs ys : List Int), wS (xs ++ ys) = wS xs + wS ys
  | [], ys => by simp [wS]
  | x :: xs, ys => by rw [List.cons_append, wS, wS, wS_app xs ys]; omega
theorem wS_ins : ∀ (xs : List Int) (x : Int), wS (insI xs x) ≤ wS xs + 3 ^ (x / 2).toNat
  | [], x => by simp [insI, wS]
  | y :: ys, x => by
    have := wS_ins ys x
    simp only [insI]
    split
    · simp only [wS]
      generalize 3 ^ (x / 2).toNat = p at *
      omega
    · split
      · simp only [wS]
        exact Nat.le_add_right _ _
      · simp only [wS]
        generalize 3 ^ (x / 2).toNat = p at *
        generalize 3 ^ (y / 2).toNat = q at *
        omega
theorem sorted_len : ∀ {xs : List Int} {lo hi : Int}, xs.Pairwise (· < ·) → (∀ x ∈ xs, lo ≤ x ∧ x < hi) → xs.length ≤ (hi - lo).toNat
  | [], lo, hi, _, _ => Nat.zero_le _
  | a :: t, lo, hi, h, hr => by
    rw [List.pairwise_cons] at h
    have ha := hr a List.mem_cons_self
    have := sorted_len (lo := a + 1) (hi := hi) h.2 (fun x hx => by have := h.1 x hx; have := hr x (List.mem_cons_of_mem _ hx); omega)
    rw [List.length_cons]; omega
theorem pow3_lt {a b k : Nat} (ha : a < k) (hb : b < k) : 3 ^ a + 3 ^ b < 3 ^ k := by
  obtain ⟨m, rfl⟩ : ∃ m, k = m + 1 := ⟨k - 1, by omega⟩
  have h1 : 3 ^ a ≤ 3 ^ m := Nat.pow_le_pow_right (by omega) (by omega)
  have h2 : 3 ^ b ≤ 3 ^ m := Nat.pow_le_pow_right (by omega) (by omega)
  have h3 : 0 < 3 ^ m := Nat.pow_pos (by omega)
  rw [Nat.pow_succ]; omega
structure CjInv (n : Nt) (node : Int) (xs : List Int) : Prop where
  srt : xs.Pairwise (· < ·)
  ne : 1 ≤ xs.length
  rng : ∀ x ∈ xs, 0 ≤ x ∧ x < 2 * n.cnt
  sem : ∀ v, AndV n v → ((∀ x ∈ xs, bitL v x = 1) ↔ v.getD node.toNat 0 = 1)
theorem CjInv.len {n : Nt} {node : Int} {xs : List Int} (h : CjInv n node xs) (hn : NtOk n) : xs.length ≤ 666 := by
  have := sorted_len h.srt (lo := 0) (hi := 2 * n.cnt) h.rng
  have h1 := hn.i1
  have h2 := hn.s1
  have h3 := hn.a1
  unfold Nt.cnt at this
  omega
theorem mul1 {a b : Int} (ha : a = 0 ∨ a = 1) (hb : b = 0 ∨ b = 1) : a * b = 1 ↔ a = 1 ∧ b = 1 := by
  rcases ha with e | e <;> rcases hb with e' | e' <;> rw [e, e'] <;> decide
theorem and_bits {n : Nt} (hn : NtOk n) {v : List Int} (hv : AndV n v) {k : Nat} (hk : k < n.gs.length) : (v.getD (n.fst + k).toNat 0 = 1 ↔ bitL v (n.gs.getD k an0).a = 1 ∧ bitL v (n.gs.getD k an0).b = 1) := by
  have ha := hn.an k hk
  unfold LtOk at ha
  have hl := hv.len
  have hc : n.cnt = n.fst + n.gs.length := by unfold Nt.cnt Nt.fst; omega
  rw [hv.at_ k hk]
  exact mul1 (bit01 hv.b01 ha.1.1 (by omega)) (bit01 hv.b01 ha.2.1 (by omega))
theorem cj_start {n : Nt} (hn : NtOk n) {node : Int} (h0 : n.fst ≤ node) (h1 : node < n.cnt) : CjInv n node (insI [(n.gs.getD (node - n.fst).toNat an0).a] (n.gs.getD (node - n.fst).toNat an0).b) := by
  have hc : n.cnt = n.fst + n.gs.length := by unfold Nt.cnt Nt.fst; omega
  have hk : (node - n.fst).toNat < n.gs.length := by omega
  have ha := hn.an _ hk
  unfold LtOk at ha
  refine ⟨insI_sorted _ _ (by simp), ?_, fun x hx => ?_, fun v hv => ?_⟩
  · have : (n.gs.getD (node - n.fst).toNat an0).b ∈ insI [(n.gs.getD (node - n.fst).toNat an0).a] (n.gs.getD (node - n.fst).toNat an0).b := (insI_mem _ _ _).2 (.inl rfl)
    exact List.length_pos_of_mem this
  · rcases (insI_mem _ _ _).1 hx with rfl | hx
    · omega
    · rw [List.mem_singleton] at hx; subst hx; omega
  · have := and_bits hn hv hk
    rw [show (n.fst + ((node - n.fst).toNat : Nat)).toNat = node.toNat by omega] at this
    rw [this]
    constructor
    · intro h; exact ⟨h _ ((insI_mem _ _ _).2 (.inr (List.mem_singleton.2 rfl))), h _ ((insI_mem _ _ _).2 (.inl rfl))⟩
    · rintro ⟨e1, e2⟩ x hx
      rcases (insI_mem _ _ _).1 hx with rfl | hx
      · exact e2
      · rw [List.mem_singleton] at hx; subst hx; exact e1
theorem split_at {xs : List Int} {j : Nat} (h : j < xs.length) : xs = xs.take j ++ [xs.getD j 0] ++ xs.drop (j + 1) := by
  rw [← take_snocG 0 h, List.take_append_drop]
theorem CjInv.step {n : Nt} (hn : NtOk n) {node : Int} {xs : List Int} (h : CjInv n node xs) {j : Nat} {l : Int} (hj : j < xs.length) (hl : xs.getD j 0 = l) (he : l % 2 = 0) (h0 : n.fst ≤ l / 2) (h1 : l / 2 < n.cnt) :
    CjInv n node (insI (insI (xs.take j ++ xs.drop (j + 1)) (n.gs.getD (l / 2 - n.fst).toNat an0).a) (n.gs.getD (l / 2 - n.fst).toNat an0).b) ∧ wS (insI (insI (xs.take j ++ xs.drop (j + 1)) (n.gs.getD (l / 2 - n.fst).toNat an0).a) (n.gs.getD (l / 2 - n.fst).toNat an0).b) < wS xs := by
  have hc : n.cnt = n.fst + n.gs.length := by unfold Nt.cnt Nt.fst; omega
  have hf : 0 ≤ n.fst := by have := hn.i0; unfold Nt.fst; omega
  have hk : (l / 2 - n.fst).toNat < n.gs.length := by omega
  have ha := hn.an _ hk
  unfold LtOk at ha
  have hsp := split_at hj
  rw [hl] at hsp
  have hmem : ∀ x, x ∈ xs ↔ x = l ∨ x ∈ xs.take j ++ xs.drop (j + 1) := fun x => by
    conv => lhs; rw [hsp]
    simp only [List.mem_append, List.mem_singleton]
    constructor
    · rintro ((h | h) | h)
      · exact .inr (.inl h)
      · exact .inl h
      · exact .inr (.inr h)
    · rintro (h | h | h)
      · exact .inl (.inr h)
      · exact .inl (.inl h)
      · exact .inr h
  have hsub : (xs.take j ++ xs.drop (j + 1)).Sublist xs := by
    conv => rhs; rw [hsp]
    exact (List.sublist_append_left _ _).append (List.Sublist.refl _)
  generalize hA : (n.gs.getD (l / 2 - n.fst).toNat an0).a = a at *
  generalize hB : (n.gs.getD (l / 2 - n.fst).toNat an0).b = b at *
  refine ⟨⟨insI_sorted _ _ (insI_sorted _ _ (h.srt.sublist hsub)), List.length_pos_of_mem ((insI_mem _ _ b).2 (.inl rfl)), fun x hx => ?_, fun v hv => ?_⟩, ?_⟩
  · rcases (insI_mem _ _ _).1 hx with rfl | hx
    · omega
    · rcases (insI_mem _ _ _).1 hx with rfl | hx
      · omega
      · exact h.rng x (hsub.subset hx)
  · rw [← h.sem v hv]
    have hb := and_bits hn hv hk
    rw [show (n.fst + ((l / 2 - n.fst).toNat : Nat)).toNat = (l / 2).toNat by omega, hA, hB] at hb
    have hbl : bitL v l = v.getD (l / 2).toNat 0 := by unfold bitL; rw [if_pos he]
    constructor
    · intro hx x hxm
      rcases (hmem x).1 hxm with rfl | hxm
      · rw [hbl, hb]; exact ⟨hx _ ((insI_mem _ _ _).2 (.inr ((insI_mem _ _ _).2 (.inl rfl)))), hx _ ((insI_mem _ _ _).2 (.inl rfl))⟩
      · exact hx x ((insI_mem _ _ _).2 (.inr ((insI_mem _ _ _).2 (.inr hxm))))
    · intro hx x hxm
      have hl1 := hx l ((hmem l).2 (.inl rfl))
      rw [hbl, hb] at hl1
      rcases (insI_mem _ _ _).1 hxm with rfl | hxm
      · exact hl1.2
      · rcases (insI_mem _ _ _).1 hxm with rfl | hxm
        · exact hl1.1
        · exact hx x ((hmem x).2 (.inr hxm))
  · have e : wS xs = wS (xs.take j ++ xs.drop (j + 1)) + 3 ^ (l / 2).toNat := by
      conv => lhs; rw [hsp]
      rw [wS_app, wS_app, wS_app]; simp only [wS]; omega
    have i1 := wS_ins (insI (xs.take j ++ xs.drop (j + 1)) a) b
    have i2 := wS_ins (xs.take j ++ xs.drop (j + 1)) a
    have i3 := pow3_lt (a := (a / 2).toNat) (b := (b / 2).toNat) (k := (l / 2).toNat) (by omega) (by omega)
    omega
/-- the product of the first bits -/
def prL (v xs : List Int) : Nat → Int
  | 0 => 1
  | k + 1 => prL v xs k * bitL v (xs.getD k 0)
theorem pr01 {n : Nt} {node : Int} {v xs : List Int} (hv : AndV n v) (h : CjInv n node xs) : ∀ k, k ≤ xs.length → (prL v xs k = 0 ∨ prL v xs k = 1) ∧ (prL v xs k = 1 ↔ ∀ i, i < k → bitL v (xs.getD i 0) = 1)
  | 0, _ => ⟨.inr rfl, ⟨fun _ i hi => absurd hi (by omega), fun _ => rfl⟩⟩
  | k + 1, hk => by
    obtain ⟨i1, i2⟩ := pr01 hv h k (by omega)
    have hr := h.rng _ (getD_memX (d := (0 : Int)) (show k < xs.length by omega))
    have hl := hv.len
    have hb := bit01 hv.b01 hr.1 (by omega)
    refine ⟨mul_01 i1 hb, ?_⟩
    show prL v xs k * _ = 1 ↔ _
    rw [mul1 i1 hb, i2]
    constructor
    · rintro ⟨h1, h2⟩ i hi
      by_cases e : i = k
      · subst e; exact h2
      · exact h1 i (by omega)
    · intro h1; exact ⟨fun i hi => h1 i (by omega), h1 k (by omega)⟩
theorem pr_node {n : Nt} {node : Int} {v xs : List Int} (hv : AndV n v) (h : CjInv n node xs) (h0 : 0 ≤ node) (h1 : node < n.cnt) : prL v xs xs.length = v.getD node.toNat 0 := by
  obtain ⟨a, b⟩ := pr01 hv h xs.length (Nat.le_refl _)
  have c := h.sem v hv
  have hl := hv.len
  have d := hv.b01 node.toNat (by omega)
  have e : prL v xs xs.length = 1 ↔ v.getD node.toNat 0 = 1 := by
    rw [b, ← c]
    constructor
    · intro hx x hxm
      obtain ⟨k, hk, rfl⟩ := List.mem_iff_getElem.1 hxm
      have := hx k hk
      rwa [List.getD_eq_getElem?_getD, List.getElem?_eq_getElem hk] at this
    · intro hx i hi; exact hx _ (getD_memX hi)
  omega
set_option maxHeartbeats 4000000 in
set_option maxRecDepth 100000 in
theorem conjuncts_ret (n : Nt) (node : Int) (w : World) (hr : RdsNt w n) (hn : NtOk n) (hnd : n.fst ≤ node ∧ node < n.cnt) :
  Calls Try.prog 69 #[.agg #[.int .i64 n.ins, n.sv, n.av, n.ov], .int .i64 node] w (Ret w (fun v' post => ∃ xs : List Int, post = [rowE 3 1 v' xs.length (xs.map (Value.int .i64))] ∧ CjInv n node xs ∧ ∀ k, k < xs.length → ¬ (xs.getD k 0 % 2 = 0 ∧ n.fst ≤ xs.getD k 0 / 2 ∧ xs.getD k 0 / 2 < n.cnt))) := by
 have hi0 := hn.i0
 have hi1 := hn.i1
 have hs1 := hn.s1
 have ha1 := hn.a1
 have ho1 := hn.o1
 have hcnt : n.cnt = 1 + n.ins + n.ss.length + n.gs.length := rfl
 have hfst : n.fst = 1 + n.ins + n.ss.length := rfl
 have hcf : n.cnt = n.fst + n.gs.length := by omega
 refine calls_hc (N := 76) (args := [.agg #[.int .i64 n.ins, n.sv, n.av, n.ov], .int .i64 node]) Try.func69 rfl rfl ?_
 refine hc_less _ (sx 0 rfl (sx 1 rfl (sub_nil _))) (.refl _) ?_
 refine hc_seq ?_
 refine hc_region ?_
 refine hl_box rfl rfl rfl (rq_box rfl rfl) ?_
 intro b1
 refine hl_v rfl rfl rfl (rv_ev rfl) ?_
 refine hl_less (sx 0 rfl (sx 1 rfl (sx 2 rfl (sx 4 rfl (sub_nil _))))) (.refl _) ?_
 refine hl_nil ?_
 refine hq_then ?_
 refine hc_seq ?_
 refine hc_draw (by kernel_rfl) 9 [0, 1, 2, 3, 4, 5, 6, 7, 8] (List.take 9 _) (List.drop 9 _) [[], [0], [], [], [3], [2, 4], [1, 5], [6], []] [12, 13, 14, 15, 16, 17, 18, 19, 5] (fun i_ vs_ v_ p_ => match i_ with | 0 => v_ = .pointer (some ⟨b1, 0 + 2, none⟩) ∧ p_ = [] | 1 => v_ = n.av ∧ p_ = [] | 2 => v_ = .int .i64 node ∧ p_ = [] | 3 => v_ = .agg #[.int .i64 n.ins, n.sv, n.av, n.ov] ∧ p_ = [] | 4 => v_ = .int .i64 n.fst ∧ p_ = [] | 5 => v_ = .int .i64 (node - n.fst) ∧ p_ = [] | 6 => v_ = elP n.av ((node - n.fst).toNat * 2) ∧ p_ = [] | 7 => v_ = .agg #[.int .i64 ((n.gs.getD ((node - n.fst).toNat) an0).a), .int .i64 ((n.gs.getD ((node - n.fst).toNat) an0).b)] ∧ p_ = [] | 8 => IsBox #[.int .i64 0, .int .i64 0] 80 v_ p_ | _ => True) (List.take_append_drop 9 _).symm (by kernel_rfl) (by kernel_rfl) rfl rfl ?_ ?_
 ·
  refine ⟨?_, ?_, ?_, ?_, ?_, ?_, ?_, ?_, ?_, trivial⟩
  ·
   intro vf pf hR
   refine Or.inl ⟨rfl, ?_⟩
   refine rq_less (sx 2 rfl (sub_nil _)) (List.sublist_append_right _ _) ?_
   exact rq_v (rv_field (k0 := 2) rfl (by kernel_rfl) rfl)
  ·
   intro vf pf hR
   have e0 : (vf 0) = .pointer (some ⟨b1, 0 + 2, none⟩) ∧ (pf 0) = [] := hR 0 (by decide)
   refine Or.inl ⟨rfl, ?_⟩
   refine rq_less (sx 12 (congrArg some e0.1) (sub_nil _)) (List.sublist_append_right _ _) ?_
   exact rq_v (rv_load rfl (by kernel_rfl) rfl (box_cell 0 rfl rfl))
  ·
   intro vf pf hR
   refine Or.inl ⟨rfl, ?_⟩
   refine rq_less (sx 1 rfl (sub_nil _)) (List.sublist_append_right _ _) ?_
   exact rq_v (rv_ev rfl)
  ·
   intro vf pf hR
   refine Or.inl ⟨rfl, ?_⟩
   refine rq_less (sx 2 rfl (sub_nil _)) (List.sublist_append_right _ _) ?_
   exact rq_v (rv_loadN (cs := [.int .i64 n.ins, n.sv, n.av, n.ov]) rfl (by kernel_rfl) (by kernel_rfl) rfl rfl (box_part 0 rfl 0 rfl))
  ·
   intro vf pf hR
   have e3 : (vf 3) = .agg #[.int .i64 n.ins, n.sv, n.av, n.ov] ∧ (pf 3) = [] := hR 3 (by decide)
   refine Or.inl ⟨rfl, ?_⟩
   refine rq_less (sx 15 (congrArg some e3.1) (sub_nil _)) (List.sublist_append_right _ _) ?_
   exact (rq_call (by kernel_rfl) rfl (fun w hm => ret_ans (firstAnd_yes n w (hr.below hm.bel) hn)))
  ·
   intro vf pf hR
   have e2 : (vf 2) = .int .i64 node ∧ (pf 2) = [] := hR 2 (by decide)
   have e4 : (vf 4) = .int .i64 n.fst ∧ (pf 4) = [] := hR 4 (by decide)
   refine Or.inl ⟨rfl, ?_⟩
   refine rq_less (sx 14 (congrArg some e2.1) (sx 16 (congrArg some e4.1) (sub_nil _))) (List.sublist_append_right _ _) ?_
   exact rq_v (rv_sub rfl rfl rfl (by constructor <;> omega))
  ·
   intro vf pf hR
   have e1 : (vf 1) = n.av ∧ (pf 1) = [] := hR 1 (by decide)
   have e5 : (vf 5) = .int .i64 (node - n.fst) ∧ (pf 5) = [] := hR 5 (by decide)
   refine Or.inl ⟨rfl, ?_⟩
   refine rq_less (sx 13 (congrArg some e1.1) (sx 17 (congrArg some e5.1) (sub_nil _))) (List.sublist_append_right _ _) ?_
   exact rq_v (rv_index (s := 2) rfl Try.underlying25 (by kernel_rfl) rfl rfl (rd_old hr.an) (by omega) (by first | omega | (simp only [List.length_set]; omega)))
  ·
   intro vf pf hR
   have e6 : (vf 6) = elP n.av ((node - n.fst).toNat * 2) ∧ (pf 6) = [] := hR 6 (by decide)
   refine Or.inl ⟨rfl, ?_⟩
   refine rq_less (sx 18 (congrArg some e6.1) (sub_nil _)) (List.sublist_append_right _ _) ?_
   exact rq_v (rv_loadElN (us := [.int .i64 ((n.gs.getD ((node - n.fst).toNat) an0).a), .int .i64 ((n.gs.getD ((node - n.fst).toNat) an0).b)]) rfl (by kernel_rfl) (by kernel_rfl) rfl (rd_old hr.an) (by omega) rfl (flat_atN anC 2 (fun _ => rfl) n.gs an0 (show (node - n.fst).toNat < _ by first | omega | (simp only [List.length_set]; omega)) rfl))
  ·
   intro vf pf hR
   refine Or.inl ⟨rfl, ?_⟩
   refine rq_less (sub_nil _) (List.sublist_append_right _ _) ?_
   exact rq_alloc (z := .agg #[.int .i64 0, .int .i64 0]) rfl (by kernel_rfl)
 ·
  intro vf pf hR
  have e7 : (vf 7) = .agg #[.int .i64 ((n.gs.getD ((node - n.fst).toNat) an0).a), .int .i64 ((n.gs.getD ((node - n.fst).toNat) an0).b)] ∧ (pf 7) = [] := hR 7 (by decide)
  have e8 : IsBox #[.int .i64 0, .int .i64 0] 80 (vf 8) (pf 8) := hR 8 (by decide)
  obtain ⟨b2, v8, p8⟩ := e8
  have q0 : (vf 0) = .pointer (some ⟨b1, 0 + 2, none⟩) ∧ (pf 0) = [] := hR 0 (by decide)
  have q1 : (vf 1) = n.av ∧ (pf 1) = [] := hR 1 (by decide)
  have q2 : (vf 2) = .int .i64 node ∧ (pf 2) = [] := hR 2 (by decide)
  have q3 : (vf 3) = .agg #[.int .i64 n.ins, n.sv, n.av, n.ov] ∧ (pf 3) = [] := hR 3 (by decide)
  have q4 : (vf 4) = .int .i64 n.fst ∧ (pf 4) = [] := hR 4 (by decide)
  have q5 : (vf 5) = .int .i64 (node - n.fst) ∧ (pf 5) = [] := hR 5 (by decide)
  have q6 : (vf 6) = elP n.av ((node - n.fst).toNat * 2) ∧ (pf 6) = [] := hR 6 (by decide)
  have q7 : (vf 7) = .agg #[.int .i64 ((n.gs.getD ((node - n.fst).toNat) an0).a), .int .i64 ((n.gs.getD ((node - n.fst).toNat) an0).b)] ∧ (pf 7) = [] := hR 7 (by decide)
  refine hl_less (l' := [boxE b2 #[.int .i64 0, .int .i64 0] 80, boxE b1 #[.int .i64 n.ins, n.sv, n.av, n.ov] 28]) (sx 0 rfl (sx 1 rfl (sx 2 rfl (sx 4 rfl (sx 5 (congrArg some v8) (sx 19 (congrArg some e7.1) (sub_nil _))))))) (by first | (simp only [p8, v8, q0.2, q1.2, q2.2, q3.2, q4.2, q5.2, q6.2, q7.2, List.flatMap_cons, List.flatMap_nil, List.append_nil, List.nil_append, List.cons_append]; exact List.Sublist.refl _) | simp [p8, v8, q0.2, q1.2, q2.2, q3.2, q4.2, q5.2, q6.2, q7.2]) ?_
  simp only [List.drop_succ_cons, List.drop_zero]
  refine hl_storeBoxN (i := 0) (off := 0) (us := [.int .i64 ((n.gs.getD ((node - n.fst).toNat) an0).a), .int .i64 ((n.gs.getD ((node - n.fst).toNat) an0).b)]) (l' := [boxE b2 #[.int .i64 ((n.gs.getD ((node - n.fst).toNat) an0).a), .int .i64 ((n.gs.getD ((node - n.fst).toNat) an0).b)] 80, boxE b1 #[.int .i64 n.ins, n.sv, n.av, n.ov] 28]) rfl rfl rfl (by kernel_rfl) rfl rfl rfl (all_cons rfl (all_cons rfl all_nil)) rfl rfl rfl ?_
  refine hl_less (sx 0 rfl (sx 1 rfl (sx 2 rfl (sx 4 rfl (sx 5 rfl (sub_nil _)))))) (.refl _) ?_
  refine hl_nil ?_
  refine hq_then ?_
  refine hc_seq ?_
  refine hc_region ?_
  refine hl_v rfl rfl rfl (rv_field (k0 := 0) rfl (by kernel_rfl) rfl) ?_
  refine hl_v rfl rfl rfl (rv_load rfl (by kernel_rfl) rfl (box_cell 0 rfl rfl)) ?_
  refine hl_row rfl rfl rfl (rq_buildSlice (z := .int .i64 0) (s := 1) (cs := ([(n.gs.getD ((node - n.fst).toNat) an0).a].map (Value.int .i64))) rfl Try.underlying26 (by kernel_rfl) (by decide) rfl (by kernel_rfl) rfl) ?_
  intro g3
  refine hl_v rfl rfl rfl (rv_field (k0 := 1) rfl (by kernel_rfl) rfl) ?_
  refine hl_v rfl rfl rfl (rv_load rfl (by kernel_rfl) rfl (box_cell 1 rfl rfl)) ?_
  refine hl_callM (R := (fun v' p' => p' = rowE 3 1 v' (insI ([(n.gs.getD ((node - n.fst).toNat) an0).a]) ((n.gs.getD ((node - n.fst).toNat) an0).b)).length ((insI ([(n.gs.getD ((node - n.fst).toNat) an0).a]) ((n.gs.getD ((node - n.fst).toNat) an0).b)).map (Value.int .i64)))) 0 rfl rfl (by kernel_rfl) rfl rfl (fun l' w hm => insertInt_mut _ ([(n.gs.getD ((node - n.fst).toNat) an0).a]) _ (by simp) w hm) ?_
  intro v4 p5 hR6
  subst hR6
  refine hl_eqL (l' := [rowE 3 1 v4 ((insI ([(n.gs.getD ((node - n.fst).toNat) an0).a]) ((n.gs.getD ((node - n.fst).toNat) an0).b)).length) ((insI ([(n.gs.getD ((node - n.fst).toNat) an0).a]) ((n.gs.getD ((node - n.fst).toNat) an0).b)).map (Value.int .i64)), boxE b2 #[.int .i64 ((n.gs.getD ((node - n.fst).toNat) an0).a), .int .i64 ((n.gs.getD ((node - n.fst).toNat) an0).b)] 80, boxE b1 #[.int .i64 n.ins, n.sv, n.av, n.ov] 28]) rfl ?_
  refine hl_v rfl rfl rfl (rv_ev rfl) ?_
  refine hl_less (sx 0 rfl (sx 1 rfl (sx 2 rfl (sx 4 rfl (sx 5 rfl (sx 6 rfl (sub_nil _))))))) (.refl _) ?_
  refine hl_nil ?_
  refine hq_then ?_
  refine hc_block ?_
  refine hc_loop2 (α := Value) (β := List Int) (fun u xs => [rowE 3 1 u xs.length (xs.map (Value.int .i64)), boxE b1 #[.int .i64 n.ins, n.sv, n.av, n.ov] 28]) (fun u xs => [(0, .agg #[.int .i64 n.ins, n.sv, n.av, n.ov]), (1, .int .i64 node), (2, .pointer (some ⟨b1, 0, none⟩)), (4, .slice none 0 0), (5, .pointer (some ⟨b2, 0, none⟩)), (6, u)]) (fun u xs => CjInv n node xs) (fun u xs => wS xs) _ (insI ([(n.gs.getD ((node - n.fst).toNat) an0).a]) ((n.gs.getD ((node - n.fst).toNat) an0).b)) (cj_start hn hnd.1 hnd.2) (sx 0 rfl (sx 1 rfl (sx 2 rfl (sx 4 rfl (sx 5 rfl (sx 6 rfl (sub_nil _))))))) ((.cons_cons _ (.cons _ (.cons_cons _ .slnil)))) ?_
  intro u xs hi7
  have hcj := hi7
  have hxl := hcj.len hn
  have hxn := hcj.ne
  refine hc_block ?_
  refine hc_seq ?_
  refine hc_region ?_
  refine hl_v rfl rfl rfl (rv_ev rfl) ?_
  refine hl_less (sx 0 rfl (sx 1 rfl (sx 2 rfl (sx 4 rfl (sx 5 rfl (sx 6 rfl (sx 7 rfl (sub_nil _)))))))) (.refl _) ?_
  refine hl_nil ?_
  refine hq_then ?_
  refine hc_seq ?_
  refine hc_seq ?_
  refine hc_region ?_
  refine hl_v rfl rfl rfl (rv_ev rfl) ?_
  refine hl_v rfl rfl rfl (rv_len rfl Try.underlying26 rfl (rd_row 0 rfl)) ?_
  refine hl_v rfl rfl rfl (rv_ev rfl) ?_
  refine hl_less (sx 0 rfl (sx 1 rfl (sx 2 rfl (sx 4 rfl (sx 5 rfl (sx 6 rfl (sx 7 rfl (sx 26 rfl (sx 27 rfl (sx 28 rfl (sub_nil _))))))))))) (.refl _) ?_
  refine hl_nil ?_
  refine hq_then ?_
  refine hc_block ?_
  refine hc_loop2 (α := Nat) (β := Int) (fun i a => [rowE 3 1 u xs.length (xs.map (Value.int .i64)), boxE b1 #[.int .i64 n.ins, n.sv, n.av, n.ov] 28]) (fun i a => [(0, .agg #[.int .i64 n.ins, n.sv, n.av, n.ov]), (1, .int .i64 node), (2, .pointer (some ⟨b1, 0, none⟩)), (4, .slice none 0 0), (5, .pointer (some ⟨b2, 0, none⟩)), (6, u), (7, .int .i64 a), (26, u), (27, .int .i64 (xs.length : Int)), (28, .int .i64 (i : Int))]) (fun i a => i ≤ xs.length ∧ ((a = -1 ∧ ∀ k, k < i → ¬ (xs.getD k 0 % 2 = 0 ∧ n.fst ≤ xs.getD k 0 / 2 ∧ xs.getD k 0 / 2 < n.cnt)) ∨ ((0 ≤ a ∧ a < i) ∧ xs.getD a.toNat 0 % 2 = 0 ∧ n.fst ≤ xs.getD a.toNat 0 / 2 ∧ xs.getD a.toNat 0 / 2 < n.cnt))) (fun i a => xs.length - i) 0 (-1) ⟨by omega, .inl ⟨rfl, fun k hk => absurd hk (by omega)⟩⟩ (sx 0 rfl (sx 1 rfl (sx 2 rfl (sx 4 rfl (sx 5 rfl (sx 6 rfl (sx 7 rfl (sx 26 rfl (sx 27 rfl (sx 28 rfl (sub_nil _))))))))))) ((.cons_cons _ (.cons_cons _ .slnil))) ?_
  intro i a hi8
  obtain ⟨hi, ha⟩ := hi8
  refine hc_seq ?_
  refine hc_region ?_
  refine hl_lss rfl rfl rfl rfl rfl rfl (fun h9 => ?_) (fun h9 => ?_)
  ·
   refine hl_less (sx 0 rfl (sx 1 rfl (sx 2 rfl (sx 4 rfl (sx 5 rfl (sx 6 rfl (sx 7 rfl (sx 26 rfl (sx 27 rfl (sx 28 rfl (sx 29 rfl (sub_nil _)))))))))))) (.refl _) ?_
   refine hl_nil ?_
   refine hq_then ?_
   refine hc_seq ?_
   refine hc_true rfl ?_
   refine hc_skip ?_
   refine hq_then ?_
   refine hc_seq ?_
   refine hc_block ?_
   refine hc_seq ?_
   refine hc_region ?_
   refine hl_v rfl rfl rfl (rv_ev rfl) ?_
   refine hl_v rfl rfl rfl (rv_index (s := 1) rfl Try.underlying26 (by kernel_rfl) rfl rfl (rd_row 0 rfl) (by omega) (by first | omega | (simp only [List.length_set]; omega))) ?_
   refine hl_v rfl rfl rfl (rv_loadEl (u := .int .i64 (xs.getD i 0)) rfl (by kernel_rfl) rfl (rd_row 0 rfl) (ints_at1 (show _ < xs.length by first | omega | (simp only [List.length_set]; omega)))) ?_
   refine hl_v rfl rfl rfl (rv_ev rfl) ?_
   refine hl_v rfl rfl rfl (rv_ev rfl) ?_
   refine hl_less (sx 0 rfl (sx 1 rfl (sx 2 rfl (sx 4 rfl (sx 5 rfl (sx 6 rfl (sx 7 rfl (sx 8 rfl (sx 9 rfl (sx 26 rfl (sx 27 rfl (sx 28 rfl (sx 29 rfl (sub_nil _)))))))))))))) (.refl _) ?_
   refine hl_nil ?_
   refine hq_then ?_
   refine hc_seq ?_
   refine hc_region ?_
   have hxr := hcj.rng _ (getD_memX (d := (0 : Int)) (show i < xs.length by omega))
   refine hl_v rfl rfl rfl (rv_ev rfl) ?_
   refine hl_v rfl rfl rfl (rv_rem rfl rfl rfl (by constructor <;> omega)) ?_
   refine hl_eql rfl rfl rfl rfl rfl rfl (fun h10 => ?_) (fun h10 => ?_)
   ·
    refine hl_v rfl rfl rfl (rv_ev rfl) ?_
    refine hl_v rfl rfl rfl (rv_loadN (cs := [.int .i64 n.ins, n.sv, n.av, n.ov]) rfl (by kernel_rfl) (by kernel_rfl) rfl rfl (box_part 1 rfl 0 rfl)) ?_
    refine hl_v rfl rfl rfl (rv_ev rfl) ?_
    refine hl_v rfl rfl rfl (rv_quo rfl rfl rfl (by refine ⟨?_, ?_, ?_⟩ <;> omega)) ?_
    refine hl_callV rfl rfl rfl (rq_call (by kernel_rfl) rfl (fun w hm => ret_ans (isAnd_yes n ((xs.getD i 0) / 2) w (hr.below hm.bel) hn))) ?_
    refine hl_bool (fun h11 => ?_) (fun h11 => ?_)
    ·
     have h11p := isAnd_iff.1 h11
     refine hl_v rfl rfl rfl (rv_ev rfl) ?_
     refine hl_less (sx 0 rfl (sx 1 rfl (sx 2 rfl (sx 4 rfl (sx 5 rfl (sx 6 rfl (sx 7 rfl (sx 8 rfl (sx 9 rfl (sx 26 rfl (sx 27 rfl (sx 28 rfl (sx 29 rfl (sx 41 rfl (sub_nil _))))))))))))))) (.refl _) ?_
     refine hl_nil ?_
     refine hq_then ?_
     refine hc_true rfl ?_
     refine hc_region ?_
     refine hl_v rfl rfl rfl (rv_ev rfl) ?_
     refine hl_v rfl rfl rfl (rv_ev rfl) ?_
     refine hl_less (sx 0 rfl (sx 1 rfl (sx 2 rfl (sx 4 rfl (sx 5 rfl (sx 6 rfl (sx 7 rfl (sx 8 rfl (sx 9 rfl (sx 26 rfl (sx 27 rfl (sx 28 rfl (sx 29 rfl (sx 41 rfl (sub_nil _))))))))))))))) (.refl _) ?_
     refine hl_nil ?_
     refine hq_block_normal ?_
     refine hq_then ?_
     refine hc_region ?_
     refine hl_v rfl rfl rfl (rv_add rfl rfl rfl (by constructor <;> omega)) ?_
     refine hl_v rfl rfl rfl (rv_ev rfl) ?_
     refine hl_less (sx 0 rfl (sx 1 rfl (sx 2 rfl (sx 4 rfl (sx 5 rfl (sx 6 rfl (sx 7 rfl (sx 8 rfl (sx 9 rfl (sx 26 rfl (sx 27 rfl (sx 28 rfl (sx 29 rfl (sx 41 rfl (sub_nil _))))))))))))))) (.refl _) ?_
     refine hl_nil ?_
     exact hq_round2 (i + 1) (i : Int) ⟨by omega, .inr (by simp only [Int.toNat_natCast]; omega)⟩ (by omega) (sx 0 rfl (sx 1 rfl (sx 2 rfl (sx 4 rfl (sx 5 rfl (sx 6 rfl (sx 7 rfl (sx 26 rfl (sx 27 rfl (sx 28 rfl (sub_nil _))))))))))) ((.cons_cons _ (.cons_cons _ .slnil)))
    ·
     have h11p := isAnd_not h11
     refine hl_v rfl rfl rfl (rv_ev rfl) ?_
     refine hl_less (sx 0 rfl (sx 1 rfl (sx 2 rfl (sx 4 rfl (sx 5 rfl (sx 6 rfl (sx 7 rfl (sx 8 rfl (sx 9 rfl (sx 26 rfl (sx 27 rfl (sx 28 rfl (sx 29 rfl (sx 41 rfl (sub_nil _))))))))))))))) (.refl _) ?_
     refine hl_nil ?_
     refine hq_then ?_
     refine hc_false rfl ?_
     refine hc_skip ?_
     refine hq_block_normal ?_
     refine hq_then ?_
     refine hc_region ?_
     refine hl_v rfl rfl rfl (rv_add rfl rfl rfl (by constructor <;> omega)) ?_
     refine hl_v rfl rfl rfl (rv_ev rfl) ?_
     refine hl_less (sx 0 rfl (sx 1 rfl (sx 2 rfl (sx 4 rfl (sx 5 rfl (sx 6 rfl (sx 7 rfl (sx 8 rfl (sx 9 rfl (sx 26 rfl (sx 27 rfl (sx 28 rfl (sx 29 rfl (sx 41 rfl (sub_nil _))))))))))))))) (.refl _) ?_
     refine hl_nil ?_
     exact hq_round2 (i + 1) a ⟨by omega, ha.imp (fun h => ⟨h.1, fun k hk => by by_cases e : k = i; (subst e; omega); exact h.2 k (by omega)⟩) (fun h => ⟨by omega, h.2⟩)⟩ (by omega) (sx 0 rfl (sx 1 rfl (sx 2 rfl (sx 4 rfl (sx 5 rfl (sx 6 rfl (sx 7 rfl (sx 26 rfl (sx 27 rfl (sx 28 rfl (sub_nil _))))))))))) ((.cons_cons _ (.cons_cons _ .slnil)))
   ·
    refine hl_v rfl rfl rfl (rv_ev rfl) ?_
    refine hl_skip rfl rfl rfl ?_
    refine hl_skip rfl rfl rfl ?_
    refine hl_skip rfl rfl rfl ?_
    refine hl_skip rfl rfl rfl ?_
    refine hl_v rfl rfl rfl (rv_ev rfl) ?_
    refine hl_less (sx 0 rfl (sx 1 rfl (sx 2 rfl (sx 4 rfl (sx 5 rfl (sx 6 rfl (sx 7 rfl (sx 8 rfl (sx 9 rfl (sx 26 rfl (sx 27 rfl (sx 28 rfl (sx 29 rfl (sx 41 rfl (sub_nil _))))))))))))))) (.refl _) ?_
    refine hl_nil ?_
    refine hq_then ?_
    refine hc_false rfl ?_
    refine hc_skip ?_
    refine hq_block_normal ?_
    refine hq_then ?_
    refine hc_region ?_
    refine hl_v rfl rfl rfl (rv_add rfl rfl rfl (by constructor <;> omega)) ?_
    refine hl_v rfl rfl rfl (rv_ev rfl) ?_
    refine hl_less (sx 0 rfl (sx 1 rfl (sx 2 rfl (sx 4 rfl (sx 5 rfl (sx 6 rfl (sx 7 rfl (sx 8 rfl (sx 9 rfl (sx 26 rfl (sx 27 rfl (sx 28 rfl (sx 29 rfl (sx 41 rfl (sub_nil _))))))))))))))) (.refl _) ?_
    refine hl_nil ?_
    exact hq_round2 (i + 1) a ⟨by omega, ha.imp (fun h => ⟨h.1, fun k hk => by by_cases e : k = i; (subst e; omega); exact h.2 k (by omega)⟩) (fun h => ⟨by omega, h.2⟩)⟩ (by omega) (sx 0 rfl (sx 1 rfl (sx 2 rfl (sx 4 rfl (sx 5 rfl (sx 6 rfl (sx 7 rfl (sx 26 rfl (sx 27 rfl (sx 28 rfl (sub_nil _))))))))))) ((.cons_cons _ (.cons_cons _ .slnil)))
  ·
   refine hl_less (sx 0 rfl (sx 1 rfl (sx 2 rfl (sx 4 rfl (sx 5 rfl (sx 6 rfl (sx 7 rfl (sx 26 rfl (sx 27 rfl (sx 28 rfl (sx 29 rfl (sub_nil _)))))))))))) (.refl _) ?_
   refine hl_nil ?_
   refine hq_then ?_
   refine hc_seq ?_
   refine hc_false rfl ?_
   refine hc_exit ?_
   refine hq_then_exit ?_
   refine hq_then_exit ?_
   refine hq_block_exit ?_
   refine hq_then ?_
   refine hc_seq ?_
   refine hc_seq ?_
   refine hc_region ?_
   refine hl_v rfl rfl rfl (rv_ev rfl) ?_
   refine hl_lss rfl rfl rfl rfl rfl rfl (fun h12 => ?_) (fun h12 => ?_)
   ·
    refine hl_less (sx 0 rfl (sx 1 rfl (sx 2 rfl (sx 4 rfl (sx 5 rfl (sx 6 rfl (sx 7 rfl (sx 26 rfl (sx 27 rfl (sx 28 rfl (sx 29 rfl (sx 45 rfl (sub_nil _))))))))))))) (.refl _) ?_
    refine hl_nil ?_
    refine hq_then ?_
    refine hc_true rfl ?_
    refine hc_seq ?_
    refine hc_region ?_
    refine hl_v rfl rfl rfl (rv_ev rfl) ?_
    refine hl_v rfl rfl rfl (rv_ev rfl) ?_
    refine hl_less (sx 0 rfl (sx 1 rfl (sx 2 rfl (sx 4 rfl (sx 5 rfl (sx 6 rfl (sx 7 rfl (sx 26 rfl (sx 27 rfl (sx 28 rfl (sx 29 rfl (sx 45 rfl (sub_nil _))))))))))))) (.refl _) ?_
    refine hl_nil ?_
    refine hq_then ?_
    refine hc_ret ?_
    refine hq_then_ret ?_
    refine hq_block_ret ?_
    refine hq_then_ret ?_
    refine hq_block_ret ?_
    have hno := (ha.resolve_right (by omega)).2
    exact hq_retR (post := [rowE 3 1 u xs.length (xs.map (Value.int .i64))]) rfl rfl ((.cons_cons _ (.cons _ .slnil))) ⟨xs, rfl, hcj, fun k hk => hno k (by omega)⟩
   ·
    refine hl_less (sx 0 rfl (sx 1 rfl (sx 2 rfl (sx 4 rfl (sx 5 rfl (sx 6 rfl (sx 7 rfl (sx 26 rfl (sx 27 rfl (sx 28 rfl (sx 29 rfl (sx 45 rfl (sub_nil _))))))))))))) (.refl _) ?_
    refine hl_nil ?_
    refine hq_then ?_
    refine hc_false rfl ?_
    refine hc_skip ?_
    refine hq_then ?_
    refine hc_seq ?_
    obtain ⟨ha1, ha2, ha3, ha4⟩ := ha.resolve_left (by omega)
    have hxr := hcj.rng _ (getD_memX (d := (0 : Int)) (show a.toNat < xs.length by omega))
    refine hc_draw (by kernel_rfl) 13 [0, 1, 2, 3, 4, 5, 6, 7, 8, 9, 10, 11, 12] (List.take 13 _) (List.drop 13 _) [[], [0], [], [], [2, 3], [4], [5], [], [7], [6, 8], [1, 9], [10], []] [47, 48, 49, 50, 51, 52, 53, 54, 55, 56, 57, 58, 10] (fun i_ vs_ v_ p_ => match i_ with | 0 => v_ = .pointer (some ⟨b1, 0 + 2, none⟩) ∧ p_ = [] | 1 => v_ = n.av ∧ p_ = [] | 2 => v_ = u ∧ p_ = [] | 3 => v_ = .int .i64 a ∧ p_ = [] | 4 => v_ = elP u ((a).toNat * 1) ∧ p_ = [] | 5 => v_ = .int .i64 (xs.getD ((a).toNat) 0) ∧ p_ = [] | 6 => v_ = .int .i64 ((xs.getD ((a).toNat) 0) / 2) ∧ p_ = [] | 7 => v_ = .agg #[.int .i64 n.ins, n.sv, n.av, n.ov] ∧ p_ = [] | 8 => v_ = .int .i64 n.fst ∧ p_ = [] | 9 => v_ = .int .i64 (((xs.getD ((a).toNat) 0) / 2) - n.fst) ∧ p_ = [] | 10 => v_ = elP n.av ((((xs.getD ((a).toNat) 0) / 2) - n.fst).toNat * 2) ∧ p_ = [] | 11 => v_ = .agg #[.int .i64 ((n.gs.getD ((((xs.getD ((a).toNat) 0) / 2) - n.fst).toNat) an0).a), .int .i64 ((n.gs.getD ((((xs.getD ((a).toNat) 0) / 2) - n.fst).toNat) an0).b)] ∧ p_ = [] | 12 => IsBox #[.int .i64 0, .int .i64 0] 80 v_ p_ | _ => True) (List.take_append_drop 13 _).symm (by kernel_rfl) (by kernel_rfl) rfl rfl ?_ ?_
    ·
     refine ⟨?_, ?_, ?_, ?_, ?_, ?_, ?_, ?_, ?_, ?_, ?_, ?_, ?_, trivial⟩
     ·
      intro vf pf hR
      refine Or.inl ⟨rfl, ?_⟩
      refine rq_less (sx 2 rfl (sub_nil _)) (List.sublist_append_right _ _) ?_
      exact rq_v (rv_field (k0 := 2) rfl (by kernel_rfl) rfl)
     ·
      intro vf pf hR
      have e0 : (vf 0) = .pointer (some ⟨b1, 0 + 2, none⟩) ∧ (pf 0) = [] := hR 0 (by decide)
      refine Or.inl ⟨rfl, ?_⟩
      refine rq_less (sx 47 (congrArg some e0.1) (sub_nil _)) (List.sublist_append_right _ _) ?_
      exact rq_v (rv_load rfl (by kernel_rfl) rfl (box_cell 1 rfl rfl))
     ·
      intro vf pf hR
      refine Or.inl ⟨rfl, ?_⟩
      refine rq_less (sx 6 rfl (sub_nil _)) (List.sublist_append_right _ _) ?_
      exact rq_v (rv_ev rfl)
     ·
      intro vf pf hR
      refine Or.inl ⟨rfl, ?_⟩
      refine rq_less (sx 7 rfl (sub_nil _)) (List.sublist_append_right _ _) ?_
      exact rq_v (rv_ev rfl)
     ·
      intro vf pf hR
      have e2 : (vf 2) = u ∧ (pf 2) = [] := hR 2 (by decide)
      have e3 : (vf 3) = .int .i64 a ∧ (pf 3) = [] := hR 3 (by decide)
      refine Or.inl ⟨rfl, ?_⟩
      refine rq_less (sx 49 (congrArg some e2.1) (sx 50 (congrArg some e3.1) (sub_nil _))) (List.sublist_append_right _ _) ?_
      exact rq_v (rv_index (s := 1) rfl Try.underlying26 (by kernel_rfl) rfl rfl (rd_row 0 rfl) (by omega) (by first | omega | (simp only [List.length_set]; omega)))
     ·
      intro vf pf hR
      have e4 : (vf 4) = elP u ((a).toNat * 1) ∧ (pf 4) = [] := hR 4 (by decide)
      refine Or.inl ⟨rfl, ?_⟩
      refine rq_less (sx 51 (congrArg some e4.1) (sub_nil _)) (List.sublist_append_right _ _) ?_
      exact rq_v (rv_loadEl (u := .int .i64 (xs.getD ((a).toNat) 0)) rfl (by kernel_rfl) rfl (rd_row 0 rfl) (ints_at1 (show _ < xs.length by first | omega | (simp only [List.length_set]; omega))))
     ·
      intro vf pf hR
      have e5 : (vf 5) = .int .i64 (xs.getD ((a).toNat) 0) ∧ (pf 5) = [] := hR 5 (by decide)
      refine Or.inl ⟨rfl, ?_⟩
      refine rq_less (sx 52 (congrArg some e5.1) (sub_nil _)) (List.sublist_append_right _ _) ?_
      exact rq_v (rv_quo rfl rfl rfl (by refine ⟨?_, ?_, ?_⟩ <;> omega))
     ·
      intro vf pf hR
      refine Or.inl ⟨rfl, ?_⟩
      refine rq_less (sx 2 rfl (sub_nil _)) (List.sublist_append_right _ _) ?_
      exact rq_v (rv_loadN (cs := [.int .i64 n.ins, n.sv, n.av, n.ov]) rfl (by kernel_rfl) (by kernel_rfl) rfl rfl (box_part 1 rfl 0 rfl))
     ·
      intro vf pf hR
      have e7 : (vf 7) = .agg #[.int .i64 n.ins, n.sv, n.av, n.ov] ∧ (pf 7) = [] := hR 7 (by decide)
      refine Or.inl ⟨rfl, ?_⟩
      refine rq_less (sx 54 (congrArg some e7.1) (sub_nil _)) (List.sublist_append_right _ _) ?_
      exact (rq_call (by kernel_rfl) rfl (fun w hm => ret_ans (firstAnd_yes n w (hr.below hm.bel) hn)))
     ·
      intro vf pf hR
      have e6 : (vf 6) = .int .i64 ((xs.getD ((a).toNat) 0) / 2) ∧ (pf 6) = [] := hR 6 (by decide)
      have e8 : (vf 8) = .int .i64 n.fst ∧ (pf 8) = [] := hR 8 (by decide)
      refine Or.inl ⟨rfl, ?_⟩
      refine rq_less (sx 53 (congrArg some e6.1) (sx 55 (congrArg some e8.1) (sub_nil _))) (List.sublist_append_right _ _) ?_
      exact rq_v (rv_sub rfl rfl rfl (by constructor <;> omega))
     ·
      intro vf pf hR
      have e1 : (vf 1) = n.av ∧ (pf 1) = [] := hR 1 (by decide)
      have e9 : (vf 9) = .int .i64 (((xs.getD ((a).toNat) 0) / 2) - n.fst) ∧ (pf 9) = [] := hR 9 (by decide)
      refine Or.inl ⟨rfl, ?_⟩
      refine rq_less (sx 48 (congrArg some e1.1) (sx 56 (congrArg some e9.1) (sub_nil _))) (List.sublist_append_right _ _) ?_
      exact rq_v (rv_index (s := 2) rfl Try.underlying25 (by kernel_rfl) rfl rfl (rd_old hr.an) (by omega) (by first | omega | (simp only [List.length_set]; omega)))
     ·
      intro vf pf hR
      have e10 : (vf 10) = elP n.av ((((xs.getD ((a).toNat) 0) / 2) - n.fst).toNat * 2) ∧ (pf 10) = [] := hR 10 (by decide)
      refine Or.inl ⟨rfl, ?_⟩
      refine rq_less (sx 57 (congrArg some e10.1) (sub_nil _)) (List.sublist_append_right _ _) ?_
      exact rq_v (rv_loadElN (us := [.int .i64 ((n.gs.getD ((((xs.getD ((a).toNat) 0) / 2) - n.fst).toNat) an0).a), .int .i64 ((n.gs.getD ((((xs.getD ((a).toNat) 0) / 2) - n.fst).toNat) an0).b)]) rfl (by kernel_rfl) (by kernel_rfl) rfl (rd_old hr.an) (by omega) rfl (flat_atN anC 2 (fun _ => rfl) n.gs an0 (show (((xs.getD ((a).toNat) 0) / 2) - n.fst).toNat < _ by first | omega | (simp only [List.length_set]; omega)) rfl))
     ·
      intro vf pf hR
      refine Or.inl ⟨rfl, ?_⟩
      refine rq_less (sub_nil _) (List.sublist_append_right _ _) ?_
      exact rq_alloc (z := .agg #[.int .i64 0, .int .i64 0]) rfl (by kernel_rfl)
    ·
     intro vf pf hR
     have e11 : (vf 11) = .agg #[.int .i64 ((n.gs.getD ((((xs.getD ((a).toNat) 0) / 2) - n.fst).toNat) an0).a), .int .i64 ((n.gs.getD ((((xs.getD ((a).toNat) 0) / 2) - n.fst).toNat) an0).b)] ∧ (pf 11) = [] := hR 11 (by decide)
     have e12 : IsBox #[.int .i64 0, .int .i64 0] 80 (vf 12) (pf 12) := hR 12 (by decide)
     obtain ⟨b13, v12, p12⟩ := e12
     have q0 : (vf 0) = .pointer (some ⟨b1, 0 + 2, none⟩) ∧ (pf 0) = [] := hR 0 (by decide)
     have q1 : (vf 1) = n.av ∧ (pf 1) = [] := hR 1 (by decide)
     have q2 : (vf 2) = u ∧ (pf 2) = [] := hR 2 (by decide)
     have q3 : (vf 3) = .int .i64 a ∧ (pf 3) = [] := hR 3 (by decide)
     have q4 : (vf 4) = elP u ((a).toNat * 1) ∧ (pf 4) = [] := hR 4 (by decide)
     have q5 : (vf 5) = .int .i64 (xs.getD ((a).toNat) 0) ∧ (pf 5) = [] := hR 5 (by decide)
     have q6 : (vf 6) = .int .i64 ((xs.getD ((a).toNat) 0) / 2) ∧ (pf 6) = [] := hR 6 (by decide)
     have q7 : (vf 7) = .agg #[.int .i64 n.ins, n.sv, n.av, n.ov] ∧ (pf 7) = [] := hR 7 (by decide)
     have q8 : (vf 8) = .int .i64 n.fst ∧ (pf 8) = [] := hR 8 (by decide)
     have q9 : (vf 9) = .int .i64 (((xs.getD ((a).toNat) 0) / 2) - n.fst) ∧ (pf 9) = [] := hR 9 (by decide)
     have q10 : (vf 10) = elP n.av ((((xs.getD ((a).toNat) 0) / 2) - n.fst).toNat * 2) ∧ (pf 10) = [] := hR 10 (by decide)
     have q11 : (vf 11) = .agg #[.int .i64 ((n.gs.getD ((((xs.getD ((a).toNat) 0) / 2) - n.fst).toNat) an0).a), .int .i64 ((n.gs.getD ((((xs.getD ((a).toNat) 0) / 2) - n.fst).toNat) an0).b)] ∧ (pf 11) = [] := hR 11 (by decide)
     refine hl_less (l' := [boxE b13 #[.int .i64 0, .int .i64 0] 80, rowE 3 1 u xs.length (xs.map (Value.int .i64)), boxE b1 #[.int .i64 n.ins, n.sv, n.av, n.ov] 28]) (sx 0 rfl (sx 1 rfl (sx 2 rfl (sx 4 rfl (sx 5 rfl (sx 6 rfl (sx 7 rfl (sx 10 (congrArg some v12) (sx 26 rfl (sx 27 rfl (sx 28 rfl (sx 29 rfl (sx 45 rfl (sx 58 (congrArg some e11.1) (sub_nil _))))))))))))))) (by first | (simp only [p12, v12, q0.2, q1.2, q2.2, q3.2, q4.2, q5.2, q6.2, q7.2, q8.2, q9.2, q10.2, q11.2, List.flatMap_cons, List.flatMap_nil, List.append_nil, List.nil_append, List.cons_append]; exact List.Sublist.refl _) | simp [p12, v12, q0.2, q1.2, q2.2, q3.2, q4.2, q5.2, q6.2, q7.2, q8.2, q9.2, q10.2, q11.2]) ?_
     simp only [List.drop_succ_cons, List.drop_zero]
     refine hl_storeBoxN (i := 0) (off := 0) (us := [.int .i64 ((n.gs.getD ((((xs.getD ((a).toNat) 0) / 2) - n.fst).toNat) an0).a), .int .i64 ((n.gs.getD ((((xs.getD ((a).toNat) 0) / 2) - n.fst).toNat) an0).b)]) (l' := [boxE b13 #[.int .i64 ((n.gs.getD ((((xs.getD ((a).toNat) 0) / 2) - n.fst).toNat) an0).a), .int .i64 ((n.gs.getD ((((xs.getD ((a).toNat) 0) / 2) - n.fst).toNat) an0).b)] 80, rowE 3 1 u xs.length (xs.map (Value.int .i64)), boxE b1 #[.int .i64 n.ins, n.sv, n.av, n.ov] 28]) rfl rfl rfl (by kernel_rfl) rfl rfl rfl (all_cons rfl (all_cons rfl all_nil)) rfl rfl rfl ?_
     refine hl_less (sx 0 rfl (sx 1 rfl (sx 2 rfl (sx 4 rfl (sx 5 rfl (sx 6 rfl (sx 7 rfl (sx 10 rfl (sx 26 rfl (sx 27 rfl (sx 28 rfl (sx 29 rfl (sx 45 rfl (sub_nil _)))))))))))))) (.refl _) ?_
     refine hl_nil ?_
     refine hq_then ?_
     refine hc_seq ?_
     refine hc_draw4 (l := [boxE b13 #[.int .i64 ((n.gs.getD ((((xs.getD ((a).toNat) 0) / 2) - n.fst).toNat) an0).a), .int .i64 ((n.gs.getD ((((xs.getD ((a).toNat) 0) / 2) - n.fst).toNat) an0).b)] 80, rowE 3 1 u xs.length (xs.map (Value.int .i64)), boxE b1 #[.int .i64 n.ins, n.sv, n.av, n.ov] 28]) (by kernel_rfl) 9 [0, 1, 2, 3, 4, 5, 6, 7, 8] (List.take 9 _) (List.drop 9 _) [[], [], [], [1, 2], [0, 3], [], [], [6], [5, 7]] [some 59, some 60, some 61, some 62, some 63, some 64, some 65, some 66, some 67] (fun i_ vs_ v_ p_ => match i_ with | 0 => IsRow_o 3 1 0 ([]) v_ p_ | 1 => v_ = u ∧ p_ = [] | 2 => v_ = .int .i64 a ∧ p_ = [] | 3 => v_ = slV u 0 (a).toNat 1 ∧ p_ = [] | 4 => (∃ pm_, p_ = [pm_] ∧ (fun u_ p_ => p_ = rowE 3 1 u_ ((xs.take (a).toNat).length) ((xs.take (a).toNat).map (Value.int .i64))) v_ pm_) | 5 => v_ = u ∧ p_ = [] | 6 => v_ = .int .i64 a ∧ p_ = [] | 7 => v_ = .int .i64 (a + 1) ∧ p_ = [] | 8 => v_ = slV u (a + 1).toNat xs.length 1 ∧ p_ = [] | _ => True) [[], [], [], [1, 2], [3], [], [], [6], [5, 7]] [none, none, none, none, some 0, none, none, none, none] [] [1, 2, 3, 4, 5, 6, 7, 8] 11 (List.take_append_drop 9 _).symm (by kernel_rfl) (by kernel_rfl) (by kernel_rfl) rfl rfl ?_ ?_
     ·
      refine ⟨?_, ?_, ?_, ?_, ?_, ?_, ?_, ?_, ?_, trivial⟩
      ·
       intro vf pf hmu hR
       refine Or.inl ⟨rfl, ?_⟩
       show RunQ _ _ _ (([] : List Nat).flatMap pf ++ _) (envOf3 _ vf [] ++ _) _ _
       refine rq_less (sub_nil _) (List.sublist_append_right _ _) ?_
       exact rq_slice0 (s := 1) rfl Try.underlying26 (by kernel_rfl)
      ·
       intro vf pf hmu hR
       refine Or.inl ⟨rfl, ?_⟩
       show RunQ _ _ _ (([] : List Nat).flatMap pf ++ _) (envOf3 _ vf [] ++ _) _ _
       refine rq_less (sx 6 rfl (sub_nil _)) (List.sublist_append_right _ _) ?_
       exact rq_v (rv_ev rfl)
      ·
       intro vf pf hmu hR
       refine Or.inl ⟨rfl, ?_⟩
       show RunQ _ _ _ (([] : List Nat).flatMap pf ++ _) (envOf3 _ vf [] ++ _) _ _
       refine rq_less (sx 7 rfl (sub_nil _)) (List.sublist_append_right _ _) ?_
       exact rq_v (rv_ev rfl)
      ·
       intro vf pf hmu hR
       have e1 : (vf 1) = u ∧ (pf 1) = [] := hR 1 (by decide)
       have e2 : (vf 2) = .int .i64 a ∧ (pf 2) = [] := hR 2 (by decide)
       refine Or.inl ⟨rfl, ?_⟩
       show RunQ _ _ _ (([1, 2] : List Nat).flatMap pf ++ _) (envOf3 _ vf [1, 2] ++ _) _ _
       refine rq_less (sx 60 (congrArg some e1.1) (sx 61 (congrArg some e2.1) (sub_nil _))) (List.sublist_append_right _ _) ?_
       exact rq_v (rv_slH rfl Try.underlying26 (by kernel_rfl) rfl rfl (rd_row 1 rfl) (by omega) (by omega))
      ·
       intro vf pf hmu hR
       have e0 : IsRow_o 3 1 0 ([]) (vf 0) (pf 0) := hR 0 (by decide)
       obtain ⟨g14, v0, p0⟩ := e0
       have e3 : (vf 3) = slV u 0 (a).toNat 1 ∧ (pf 3) = [] := hR 3 (by decide)
       refine Or.inl ⟨rfl, ?_⟩
       show RunM _ _ _ (pf 0) (([3] : List Nat).flatMap pf ++ _) (envOf3 _ vf [0, 3] ++ _) _ _
       rw [p0]; rw [v0]
       refine rm_less (X' := [boxE b13 #[.int .i64 ((n.gs.getD ((((xs.getD ((a).toNat) 0) / 2) - n.fst).toNat) an0).a), .int .i64 ((n.gs.getD ((((xs.getD ((a).toNat) 0) / 2) - n.fst).toNat) an0).b)] 80, rowE 3 1 u xs.length (xs.map (Value.int .i64)), boxE b1 #[.int .i64 n.ins, n.sv, n.av, n.ov] 28]) (sx 59 (congrArg some v0) (sx 62 (congrArg some e3.1) (sub_nil _))) (by first | (simp only [e3.2, List.flatMap_cons, List.flatMap_nil, List.append_nil, List.nil_append, List.cons_append]; exact List.Sublist.refl _) | simp [e3.2]) ?_
       exact rm_append (d := 0) (z := .int .i64 0) (bytes := 8) (n' := (xs.take (a).toNat).length) (xs' := ((xs.take (a).toNat).map (Value.int .i64))) rfl Try.underlying26 (by kernel_rfl) (by kernel_rfl) rfl rfl (rd_slH (rd_row 1 rfl) (by omega)) (ints_one _) (by simp; omega) ((Nat.zero_add _)) ((List.nil_append _))
      ·
       intro vf pf hmu hR
       refine Or.inl ⟨rfl, ?_⟩
       show RunQ _ _ _ (([] : List Nat).flatMap pf ++ _) (envOf3 _ vf [] ++ _) _ _
       refine rq_less (sx 6 rfl (sub_nil _)) (List.sublist_append_right _ _) ?_
       exact rq_v (rv_ev rfl)
      ·
       intro vf pf hmu hR
       refine Or.inl ⟨rfl, ?_⟩
       show RunQ _ _ _ (([] : List Nat).flatMap pf ++ _) (envOf3 _ vf [] ++ _) _ _
       refine rq_less (sx 7 rfl (sub_nil _)) (List.sublist_append_right _ _) ?_
       exact rq_v (rv_ev rfl)
      ·
       intro vf pf hmu hR
       have e6 : (vf 6) = .int .i64 a ∧ (pf 6) = [] := hR 6 (by decide)
       refine Or.inl ⟨rfl, ?_⟩
       show RunQ _ _ _ (([6] : List Nat).flatMap pf ++ _) (envOf3 _ vf [6] ++ _) _ _
       refine rq_less (sx 65 (congrArg some e6.1) (sub_nil _)) (List.sublist_append_right _ _) ?_
       exact rq_v (rv_add rfl rfl rfl (by constructor <;> omega))
      ·
       intro vf pf hmu hR
       have e5 : (vf 5) = u ∧ (pf 5) = [] := hR 5 (by decide)
       have e7 : (vf 7) = .int .i64 (a + 1) ∧ (pf 7) = [] := hR 7 (by decide)
       refine Or.inl ⟨rfl, ?_⟩
       show RunQ _ _ _ (([5, 7] : List Nat).flatMap pf ++ _) (envOf3 _ vf [5, 7] ++ _) _ _
       refine rq_less (sx 64 (congrArg some e5.1) (sx 66 (congrArg some e7.1) (sub_nil _))) (List.sublist_append_right _ _) ?_
       exact rq_v (rv_slL rfl Try.underlying26 (by kernel_rfl) rfl rfl (rd_row 1 rfl) (by omega) (by omega))
     ·
      intro vf pf hmu hR
      have e0 : IsRow_o 3 1 0 ([]) (vf 0) (pf 0) := hR 0 (by decide)
      obtain ⟨g14, v0, p0⟩ := e0
      have e4 : (∃ pm_, (pf 4) = [pm_] ∧ (fun u_ p_ => p_ = rowE 3 1 u_ ((xs.take (a).toNat).length) ((xs.take (a).toNat).map (Value.int .i64))) (vf 4) pm_) := hR 4 (by decide)
      obtain ⟨p16, p4, hR17⟩ := e4
      obtain ⟨v15, v4⟩ : ∃ x, vf 4 = x := ⟨_, rfl⟩
      rw [v4] at hR17
      subst hR17
      have e8 : (vf 8) = slV u (a + 1).toNat xs.length 1 ∧ (pf 8) = [] := hR 8 (by decide)
      have q1 : (vf 1) = u ∧ (pf 1) = [] := hR 1 (by decide)
      have q2 : (vf 2) = .int .i64 a ∧ (pf 2) = [] := hR 2 (by decide)
      have q3 : (vf 3) = slV u 0 (a).toNat 1 ∧ (pf 3) = [] := hR 3 (by decide)
      have q5 : (vf 5) = u ∧ (pf 5) = [] := hR 5 (by decide)
      have q6 : (vf 6) = .int .i64 a ∧ (pf 6) = [] := hR 6 (by decide)
      have q7 : (vf 7) = .int .i64 (a + 1) ∧ (pf 7) = [] := hR 7 (by decide)
      have q8 : (vf 8) = slV u (a + 1).toNat xs.length 1 ∧ (pf 8) = [] := hR 8 (by decide)
      refine hl_less (l' := [rowE 3 1 v15 ((xs.take (a).toNat).length) ((xs.take (a).toNat).map (Value.int .i64)), boxE b13 #[.int .i64 ((n.gs.getD ((((xs.getD ((a).toNat) 0) / 2) - n.fst).toNat) an0).a), .int .i64 ((n.gs.getD ((((xs.getD ((a).toNat) 0) / 2) - n.fst).toNat) an0).b)] 80, rowE 3 1 u xs.length (xs.map (Value.int .i64)), boxE b1 #[.int .i64 n.ins, n.sv, n.av, n.ov] 28]) (sx 0 rfl (sx 1 rfl (sx 2 rfl (sx 4 rfl (sx 5 rfl (sx 6 rfl (sx 7 rfl (sx 10 rfl (sx 26 rfl (sx 27 rfl (sx 28 rfl (sx 29 rfl (sx 45 rfl (sx 63 (congrArg some v4) (sx 67 (congrArg some e8.1) (sub_nil _)))))))))))))))) (by first | (simp only [p4, v4, q1.2, q2.2, q3.2, q5.2, q6.2, q7.2, q8.2, List.flatMap_cons, List.flatMap_nil, List.append_nil, List.nil_append, List.cons_append]; exact List.Sublist.refl _) | simp [p4, v4, q1.2, q2.2, q3.2, q5.2, q6.2, q7.2, q8.2]) ?_
      simp only [List.drop_succ_cons, List.drop_zero]
      refine hl_append (i := 0) (z := .int .i64 0) (bytes := 8) (n' := ((xs.take (a).toNat) ++ (xs.drop (a + 1).toNat)).length) (xs' := (((xs.take (a).toNat) ++ (xs.drop (a + 1).toNat)).map (Value.int .i64))) (L := fun v18 => [rowE 3 1 v18 (((xs.take (a).toNat) ++ (xs.drop (a + 1).toNat)).length) (((xs.take (a).toNat) ++ (xs.drop (a + 1).toNat)).map (Value.int .i64)), boxE b13 #[.int .i64 ((n.gs.getD ((((xs.getD ((a).toNat) 0) / 2) - n.fst).toNat) an0).a), .int .i64 ((n.gs.getD ((((xs.getD ((a).toNat) 0) / 2) - n.fst).toNat) an0).b)] 80, rowE 3 1 u xs.length (xs.map (Value.int .i64)), boxE b1 #[.int .i64 n.ins, n.sv, n.av, n.ov] 28]) rfl rfl rfl rfl Try.underlying26 (by kernel_rfl) (by kernel_rfl) rfl rfl rfl (rd_slL (rd_row 2 rfl) (by omega)) (ints_one _) (by simp; omega) (len_app (xs.take (a).toNat) (xs.drop (a + 1).toNat)) (ints_app (xs.take (a).toNat) (xs.drop (a + 1).toNat)) (fun _ => rfl) ?_
      intro v18
      refine hl_v rfl rfl rfl (rv_ev rfl) ?_
      refine hl_less (sx 0 rfl (sx 1 rfl (sx 2 rfl (sx 4 rfl (sx 5 rfl (sx 6 rfl (sx 7 rfl (sx 10 rfl (sx 11 rfl (sx 26 rfl (sx 27 rfl (sx 28 rfl (sx 29 rfl (sx 45 rfl (sub_nil _))))))))))))))) (.refl _) ?_
      refine hl_nil ?_
      refine hq_then ?_
      have hr1 : ((xs.take (a).toNat) ++ (xs.drop (a + 1).toNat)).length ≤ 2000 := by simp; omega
      have hr2 := insI_len ((xs.take (a).toNat) ++ (xs.drop (a + 1).toNat)) (n.gs.getD ((xs.getD (a).toNat 0 / 2 - n.fst).toNat) an0).a
      refine hc_draw2 (l := [boxE b13 #[.int .i64 ((n.gs.getD ((((xs.getD ((a).toNat) 0) / 2) - n.fst).toNat) an0).a), .int .i64 ((n.gs.getD ((((xs.getD ((a).toNat) 0) / 2) - n.fst).toNat) an0).b)] 80, rowE 3 1 u xs.length (xs.map (Value.int .i64)), boxE b1 #[.int .i64 n.ins, n.sv, n.av, n.ov] 28]) (by kernel_rfl) 7 [0, 1, 2, 3, 4, 5, 6] (List.take 7 _) (List.drop 7 _) [[], [], [1], [0, 2], [], [4], [3, 5]] [69, 70, 71, 72, 73, 74, 75] (fun i_ vs_ v_ p_ => match i_ with | 0 => v_ = v18 ∧ p_ = [] | 1 => v_ = .pointer (some ⟨b13, 0 + 0, none⟩) ∧ p_ = [] | 2 => v_ = .int .i64 ((n.gs.getD ((((xs.getD ((a).toNat) 0) / 2) - n.fst).toNat) an0).a) ∧ p_ = [] | 3 => (∃ pm_, p_ = [pm_] ∧ (fun v' p' => p' = rowE 3 1 v' (insI ((xs.take (a).toNat) ++ (xs.drop (a + 1).toNat)) ((n.gs.getD ((((xs.getD ((a).toNat) 0) / 2) - n.fst).toNat) an0).a)).length ((insI ((xs.take (a).toNat) ++ (xs.drop (a + 1).toNat)) ((n.gs.getD ((((xs.getD ((a).toNat) 0) / 2) - n.fst).toNat) an0).a)).map (Value.int .i64))) v_ pm_) | 4 => v_ = .pointer (some ⟨b13, 0 + 1, none⟩) ∧ p_ = [] | 5 => v_ = .int .i64 ((n.gs.getD ((((xs.getD ((a).toNat) 0) / 2) - n.fst).toNat) an0).b) ∧ p_ = [] | 6 => (∃ pm_, p_ = [pm_] ∧ (fun v' p' => p' = rowE 3 1 v' (insI (insI ((xs.take (a).toNat) ++ (xs.drop (a + 1).toNat)) ((n.gs.getD ((((xs.getD ((a).toNat) 0) / 2) - n.fst).toNat) an0).a)) ((n.gs.getD ((((xs.getD ((a).toNat) 0) / 2) - n.fst).toNat) an0).b)).length ((insI (insI ((xs.take (a).toNat) ++ (xs.drop (a + 1).toNat)) ((n.gs.getD ((((xs.getD ((a).toNat) 0) / 2) - n.fst).toNat) an0).a)) ((n.gs.getD ((((xs.getD ((a).toNat) 0) / 2) - n.fst).toNat) an0).b)).map (Value.int .i64))) v_ pm_) | _ => True) [[], [], [1], [0, 2], [], [4], [5]] [none, none, none, some 8, none, none, some 3] [rowE 3 1 v18 (((xs.take (a).toNat) ++ (xs.drop (a + 1).toNat)).length) (((xs.take (a).toNat) ++ (xs.drop (a + 1).toNat)).map (Value.int .i64))] [0, 1, 2, 4, 5, 6] 8 (List.take_append_drop 7 _).symm (by kernel_rfl) (by kernel_rfl) (by kernel_rfl) rfl rfl ?_ ?_
      ·
       refine ⟨?_, ?_, ?_, ?_, ?_, ?_, ?_, trivial⟩
       ·
        intro vf pf hmu hR
        refine Or.inl ⟨rfl, ?_⟩
        show RunQ _ _ _ (([] : List Nat).flatMap pf ++ _) (envOf _ vf [] ++ _) _ _
        refine rq_less (sx 11 rfl (sub_nil _)) (List.sublist_append_right _ _) ?_
        exact rq_v (rv_ev rfl)
       ·
        intro vf pf hmu hR
        refine Or.inl ⟨rfl, ?_⟩
        show RunQ _ _ _ (([] : List Nat).flatMap pf ++ _) (envOf _ vf [] ++ _) _ _
        refine rq_less (sx 10 rfl (sub_nil _)) (List.sublist_append_right _ _) ?_
        exact rq_v (rv_field (k0 := 0) rfl (by kernel_rfl) rfl)
       ·
        intro vf pf hmu hR
        have e1 : (vf 1) = .pointer (some ⟨b13, 0 + 0, none⟩) ∧ (pf 1) = [] := hR 1 (by decide)
        refine Or.inl ⟨rfl, ?_⟩
        show RunQ _ _ _ (([1] : List Nat).flatMap pf ++ _) (envOf _ vf [1] ++ _) _ _
        refine rq_less (sx 70 (congrArg some e1.1) (sub_nil _)) (List.sublist_append_right _ _) ?_
        exact rq_v (rv_load rfl (by kernel_rfl) rfl (box_cell 0 rfl rfl))
       ·
        intro vf pf hmu hR
        have e0 : (vf 0) = v18 ∧ (pf 0) = [] := hR 0 (by decide)
        have e2 : (vf 2) = .int .i64 ((n.gs.getD ((((xs.getD ((a).toNat) 0) / 2) - n.fst).toNat) an0).a) ∧ (pf 2) = [] := hR 2 (by decide)
        refine Or.inl ⟨rfl, ?_⟩
        show RunM _ _ _ (pf 8) (([0, 2] : List Nat).flatMap pf ++ _) (envOf _ vf [0, 2] ++ _) _ _
        rw [hmu]
        refine rm_less (X' := [boxE b13 #[.int .i64 ((n.gs.getD ((((xs.getD ((a).toNat) 0) / 2) - n.fst).toNat) an0).a), .int .i64 ((n.gs.getD ((((xs.getD ((a).toNat) 0) / 2) - n.fst).toNat) an0).b)] 80, rowE 3 1 u xs.length (xs.map (Value.int .i64)), boxE b1 #[.int .i64 n.ins, n.sv, n.av, n.ov] 28]) (sx 69 (congrArg some e0.1) (sx 71 (congrArg some e2.1) (sub_nil _))) (by first | (simp only [e0.2, e2.2, List.flatMap_cons, List.flatMap_nil, List.append_nil, List.nil_append, List.cons_append]; exact List.Sublist.refl _) | simp [e0.2, e2.2]) ?_
        exact rq_callM (R := (fun v' p' => p' = rowE 3 1 v' (insI ((xs.take (a).toNat) ++ (xs.drop (a + 1).toNat)) ((n.gs.getD ((((xs.getD ((a).toNat) 0) / 2) - n.fst).toNat) an0).a)).length ((insI ((xs.take (a).toNat) ++ (xs.drop (a + 1).toNat)) ((n.gs.getD ((((xs.getD ((a).toNat) 0) / 2) - n.fst).toNat) an0).a)).map (Value.int .i64)))) (by kernel_rfl) rfl (fun L w hX hm => insertInt_mut _ ((xs.take (a).toNat) ++ (xs.drop (a + 1).toNat)) _ (by omega) w hm)
       ·
        intro vf pf hmu hR
        refine Or.inl ⟨rfl, ?_⟩
        show RunQ _ _ _ (([] : List Nat).flatMap pf ++ _) (envOf _ vf [] ++ _) _ _
        refine rq_less (sx 10 rfl (sub_nil _)) (List.sublist_append_right _ _) ?_
        exact rq_v (rv_field (k0 := 1) rfl (by kernel_rfl) rfl)
       ·
        intro vf pf hmu hR
        have e4 : (vf 4) = .pointer (some ⟨b13, 0 + 1, none⟩) ∧ (pf 4) = [] := hR 4 (by decide)
        refine Or.inl ⟨rfl, ?_⟩
        show RunQ _ _ _ (([4] : List Nat).flatMap pf ++ _) (envOf _ vf [4] ++ _) _ _
        refine rq_less (sx 73 (congrArg some e4.1) (sub_nil _)) (List.sublist_append_right _ _) ?_
        exact rq_v (rv_load rfl (by kernel_rfl) rfl (box_cell 0 rfl rfl))
       ·
        intro vf pf hmu hR
        have e3 : (∃ pm_, (pf 3) = [pm_] ∧ (fun v' p' => p' = rowE 3 1 v' (insI ((xs.take (a).toNat) ++ (xs.drop (a + 1).toNat)) ((n.gs.getD ((((xs.getD ((a).toNat) 0) / 2) - n.fst).toNat) an0).a)).length ((insI ((xs.take (a).toNat) ++ (xs.drop (a + 1).toNat)) ((n.gs.getD ((((xs.getD ((a).toNat) 0) / 2) - n.fst).toNat) an0).a)).map (Value.int .i64))) (vf 3) pm_) := hR 3 (by decide)
        obtain ⟨p20, p3, hR21⟩ := e3
        obtain ⟨v19, v3⟩ : ∃ x, vf 3 = x := ⟨_, rfl⟩
        rw [v3] at hR21
        subst hR21
        have e5 : (vf 5) = .int .i64 ((n.gs.getD ((((xs.getD ((a).toNat) 0) / 2) - n.fst).toNat) an0).b) ∧ (pf 5) = [] := hR 5 (by decide)
        refine Or.inl ⟨rfl, ?_⟩
        show RunM _ _ _ (pf 3) (([5] : List Nat).flatMap pf ++ _) (envOf _ vf [3, 5] ++ _) _ _
        rw [p3]
        refine rm_less (X' := [boxE b13 #[.int .i64 ((n.gs.getD ((((xs.getD ((a).toNat) 0) / 2) - n.fst).toNat) an0).a), .int .i64 ((n.gs.getD ((((xs.getD ((a).toNat) 0) / 2) - n.fst).toNat) an0).b)] 80, rowE 3 1 u xs.length (xs.map (Value.int .i64)), boxE b1 #[.int .i64 n.ins, n.sv, n.av, n.ov] 28]) (sx 72 (congrArg some v3) (sx 74 (congrArg some e5.1) (sub_nil _))) (by first | (simp only [e5.2, List.flatMap_cons, List.flatMap_nil, List.append_nil, List.nil_append, List.cons_append]; exact List.Sublist.refl _) | simp [e5.2]) ?_
        exact rq_callM (R := (fun v' p' => p' = rowE 3 1 v' (insI (insI ((xs.take (a).toNat) ++ (xs.drop (a + 1).toNat)) ((n.gs.getD ((((xs.getD ((a).toNat) 0) / 2) - n.fst).toNat) an0).a)) ((n.gs.getD ((((xs.getD ((a).toNat) 0) / 2) - n.fst).toNat) an0).b)).length ((insI (insI ((xs.take (a).toNat) ++ (xs.drop (a + 1).toNat)) ((n.gs.getD ((((xs.getD ((a).toNat) 0) / 2) - n.fst).toNat) an0).a)) ((n.gs.getD ((((xs.getD ((a).toNat) 0) / 2) - n.fst).toNat) an0).b)).map (Value.int .i64)))) (by kernel_rfl) rfl (fun L w hX hm => insertInt_mut _ (insI ((xs.take (a).toNat) ++ (xs.drop (a + 1).toNat)) ((n.gs.getD ((((xs.getD ((a).toNat) 0) / 2) - n.fst).toNat) an0).a)) _ (by omega) w hm)
      ·
       intro vf pf hmu hR
       have e3 : (∃ pm_, (pf 3) = [pm_] ∧ (fun v' p' => p' = rowE 3 1 v' (insI ((xs.take (a).toNat) ++ (xs.drop (a + 1).toNat)) ((n.gs.getD ((((xs.getD ((a).toNat) 0) / 2) - n.fst).toNat) an0).a)).length ((insI ((xs.take (a).toNat) ++ (xs.drop (a + 1).toNat)) ((n.gs.getD ((((xs.getD ((a).toNat) 0) / 2) - n.fst).toNat) an0).a)).map (Value.int .i64))) (vf 3) pm_) := hR 3 (by decide)
       obtain ⟨p20, p3, hR21⟩ := e3
       obtain ⟨v19, v3⟩ : ∃ x, vf 3 = x := ⟨_, rfl⟩
       rw [v3] at hR21
       subst hR21
       have e6 : (∃ pm_, (pf 6) = [pm_] ∧ (fun v' p' => p' = rowE 3 1 v' (insI (insI ((xs.take (a).toNat) ++ (xs.drop (a + 1).toNat)) ((n.gs.getD ((((xs.getD ((a).toNat) 0) / 2) - n.fst).toNat) an0).a)) ((n.gs.getD ((((xs.getD ((a).toNat) 0) / 2) - n.fst).toNat) an0).b)).length ((insI (insI ((xs.take (a).toNat) ++ (xs.drop (a + 1).toNat)) ((n.gs.getD ((((xs.getD ((a).toNat) 0) / 2) - n.fst).toNat) an0).a)) ((n.gs.getD ((((xs.getD ((a).toNat) 0) / 2) - n.fst).toNat) an0).b)).map (Value.int .i64))) (vf 6) pm_) := hR 6 (by decide)
       obtain ⟨p23, p6, hR24⟩ := e6
       obtain ⟨v22, v6⟩ : ∃ x, vf 6 = x := ⟨_, rfl⟩
       rw [v6] at hR24
       subst hR24
       have q0 : (vf 0) = v18 ∧ (pf 0) = [] := hR 0 (by decide)
       have q1 : (vf 1) = .pointer (some ⟨b13, 0 + 0, none⟩) ∧ (pf 1) = [] := hR 1 (by decide)
       have q2 : (vf 2) = .int .i64 ((n.gs.getD ((((xs.getD ((a).toNat) 0) / 2) - n.fst).toNat) an0).a) ∧ (pf 2) = [] := hR 2 (by decide)
       have q4 : (vf 4) = .pointer (some ⟨b13, 0 + 1, none⟩) ∧ (pf 4) = [] := hR 4 (by decide)
       have q5 : (vf 5) = .int .i64 ((n.gs.getD ((((xs.getD ((a).toNat) 0) / 2) - n.fst).toNat) an0).b) ∧ (pf 5) = [] := hR 5 (by decide)
       refine hl_less (l' := [rowE 3 1 v22 ((insI (insI ((xs.take (a).toNat) ++ (xs.drop (a + 1).toNat)) ((n.gs.getD ((((xs.getD ((a).toNat) 0) / 2) - n.fst).toNat) an0).a)) ((n.gs.getD ((((xs.getD ((a).toNat) 0) / 2) - n.fst).toNat) an0).b)).length) ((insI (insI ((xs.take (a).toNat) ++ (xs.drop (a + 1).toNat)) ((n.gs.getD ((((xs.getD ((a).toNat) 0) / 2) - n.fst).toNat) an0).a)) ((n.gs.getD ((((xs.getD ((a).toNat) 0) / 2) - n.fst).toNat) an0).b)).map (Value.int .i64)), boxE b13 #[.int .i64 ((n.gs.getD ((((xs.getD ((a).toNat) 0) / 2) - n.fst).toNat) an0).a), .int .i64 ((n.gs.getD ((((xs.getD ((a).toNat) 0) / 2) - n.fst).toNat) an0).b)] 80, rowE 3 1 u xs.length (xs.map (Value.int .i64)), boxE b1 #[.int .i64 n.ins, n.sv, n.av, n.ov] 28]) (sx 0 rfl (sx 1 rfl (sx 2 rfl (sx 4 rfl (sx 5 rfl (sx 6 rfl (sx 7 rfl (sx 10 rfl (sx 11 rfl (sx 26 rfl (sx 27 rfl (sx 28 rfl (sx 29 rfl (sx 45 rfl (sx 75 (congrArg some v6) (sub_nil _)))))))))))))))) (by first | (simp only [p6, v6, q0.2, q1.2, q2.2, q4.2, q5.2, List.flatMap_cons, List.flatMap_nil, List.append_nil, List.nil_append, List.cons_append]; exact List.Sublist.refl _) | simp [p6, v6, q0.2, q1.2, q2.2, q4.2, q5.2]) ?_
       simp only [List.drop_succ_cons, List.drop_zero]
       refine hl_v rfl rfl rfl (rv_ev rfl) ?_
       refine hl_less (sx 0 rfl (sx 1 rfl (sx 2 rfl (sx 4 rfl (sx 5 rfl (sx 6 rfl (sx 7 rfl (sx 10 rfl (sx 11 rfl (sx 26 rfl (sx 27 rfl (sx 28 rfl (sx 29 rfl (sx 45 rfl (sub_nil _))))))))))))))) (.refl _) ?_
       refine hl_nil ?_
       refine hq_block_normal ?_
       obtain ⟨hst1, hst2⟩ := hcj.step hn (j := a.toNat) (by omega) rfl (by omega) (by omega) (by omega)
       rw [show a.toNat + 1 = (a + 1).toNat by omega] at hst1 hst2
       exact hq_round2 v22 (insI (insI ((xs.take (a).toNat) ++ (xs.drop (a + 1).toNat)) ((n.gs.getD ((((xs.getD ((a).toNat) 0) / 2) - n.fst).toNat) an0).a)) ((n.gs.getD ((((xs.getD ((a).toNat) 0) / 2) - n.fst).toNat) an0).b)) hst1 hst2 (sx 0 rfl (sx 1 rfl (sx 2 rfl (sx 4 rfl (sx 5 rfl (sx 6 rfl (sub_nil _))))))) ((.cons_cons _ (.cons _ (.cons _ (.cons_cons _ .slnil)))))
open Go.RowKit
theorem nt_rds3 {w0 : World} {l : List HP} {n : Nt} (i j k : Nat) (hi : l[i]? = some (sqsE n.sv n.ss)) (hj : l[j]? = some (rowE 80 2 n.av n.gs.length (n.gs.flatMap anC))) (hk : l[k]? = some (rowE 3 1 n.ov n.os.length (n.os.map (Value.int .i64)))) (w : World) (hm : Mem w0 l w) : RdsNt w n := by
  obtain ⟨d1, -⟩ := hm.holds _ (mem_at hi)
  have e1 := (d1 _ (List.mem_cons_self)).2
  have e2 := (d1 _ (List.mem_cons_of_mem _ List.mem_cons_self)).2
  exact ⟨rdsW_own e2, fun s hs => rdsW_own (e1.1 (sqPart s) (List.mem_map.2 ⟨s, hs, rfl⟩)).2, rdsW_own (hm.holds _ (mem_at hj)), rdsW_own (hm.holds _ (mem_at hk))⟩
theorem nt_app {n : Nt} {u : Value} {gs : List An} {a b : Int} (h : NtOk (Nt.mk n.ins n.sv u n.ov n.ss gs n.os)) (u' : Value) (hl : gs.length ≤ 299) (ha : LtOk a (1 + n.ins + n.ss.length + gs.length)) (hb : LtOk b (1 + n.ins + n.ss.length + gs.length)) : NtOk (Nt.mk n.ins n.sv u' n.ov n.ss (gs ++ [An.mk a b]) n.os) := by
  have hc : ∀ x, LtOk x (1 + n.ins + n.ss.length + gs.length) → LtOk x (1 + n.ins + n.ss.length + ((gs ++ [An.mk a b]).length : Nat)) := fun x hx => by unfold LtOk at *; rw [List.length_append, List.length_singleton]; omega
  refine ⟨h.i0, h.i1, h.s1, by show (gs ++ [An.mk a b]).length ≤ 300; rw [List.length_append, List.length_singleton]; omega, h.o1, h.sq, fun s hs x hx => hc x (h.xs s hs x hx), fun k hk => ?_, fun x hx => hc x (h.ou x hx)⟩
  have hk2 : k < (gs ++ [An.mk a b]).length := hk
  rw [List.length_append, List.length_singleton] at hk2
  show LtOk ((gs ++ [An.mk a b]).getD k an0).a _ ∧ LtOk ((gs ++ [An.mk a b]).getD k an0).b _
  by_cases e : k < gs.length
  · rw [getD_left e]; exact h.an k e
  · rw [getD_right (by omega), show k - gs.length = 0 by omega]
    have : k = gs.length := by omega
    subst this
    exact ⟨ha, hb⟩
theorem nt_outs {n : Nt} {u : Value} {gs : List An} (h : NtOk (Nt.mk n.ins n.sv u n.ov n.ss gs n.os)) (v' : Value) {os : List Int} (hl : os.length ≤ 16) (ho : ∀ x ∈ os, LtOk x (1 + n.ins + n.ss.length + gs.length)) : NtOk (Nt.mk n.ins n.sv u v' n.ss gs os) :=
  ⟨h.i0, h.i1, h.s1, h.a1, hl, h.sq, h.xs, h.an, ho⟩
set_option maxHeartbeats 4000000 in
set_option maxRecDepth 100000 in
theorem Conjuncts_ret (n : Nt) (node : Int) (w : World) (hr : RdsNt w n) (hn : NtOk n) (hnd : n.fst ≤ node ∧ node < n.cnt) :
  Calls Try.prog 17 #[.agg #[.int .i64 n.ins, n.sv, n.av, n.ov], .int .i64 node] w (Ret w (fun v' post => ∃ xs : List Int, post = [rowE 3 1 v' xs.length (xs.map (Value.int .i64))] ∧ CjInv n node xs ∧ ∀ k, k < xs.length → ¬ (xs.getD k 0 % 2 = 0 ∧ n.fst ≤ xs.getD k 0 / 2 ∧ xs.getD k 0 / 2 < n.cnt))) := by
 have hi0 := hn.i0
 have hi1 := hn.i1
 have hs1 := hn.s1
 have ha1 := hn.a1
 have ho1 := hn.o1
 have hcnt : n.cnt = 1 + n.ins + n.ss.length + n.gs.length := rfl
 have hfst : n.fst = 1 + n.ins + n.ss.length := rfl
 refine calls_hc (N := 17) (args := [.agg #[.int .i64 n.ins, n.sv, n.av, n.ov], .int .i64 node]) Try.func17 rfl rfl ?_
 refine hc_less _ (sx 0 rfl (sx 1 rfl (sub_nil _))) (.refl _) ?_
 refine hc_seq ?_
 refine hc_region ?_
 refine hl_box rfl rfl rfl (rq_box rfl rfl) ?_
 intro b1
 refine hl_v rfl rfl rfl (rv_ev rfl) ?_
 refine hl_less (sx 0 rfl (sx 1 rfl (sx 2 rfl (sx 4 rfl (sub_nil _))))) (.refl _) ?_
 refine hl_nil ?_
 refine hq_then ?_
 refine hc_seq ?_
 refine hc_seq ?_
 refine hc_region ?_
 refine hl_v rfl rfl rfl (rv_loadN (cs := [.int .i64 n.ins, n.sv, n.av, n.ov]) rfl (by kernel_rfl) (by kernel_rfl) rfl rfl (box_part 0 rfl 0 rfl)) ?_
 refine hl_callV rfl rfl rfl (rq_call (by kernel_rfl) rfl (fun w hm => ret_ans (implNetOk_yes n w (hr.below hm.bel) hn))) ?_
 refine hl_v rfl rfl rfl (rv_ev rfl) ?_
 refine hl_v rfl rfl rfl (rv_ev rfl) ?_
 refine hl_v rfl rfl rfl (rv_loadN (cs := [.int .i64 n.ins, n.sv, n.av, n.ov]) rfl (by kernel_rfl) (by kernel_rfl) rfl rfl (box_part 0 rfl 0 rfl)) ?_
 refine hl_v rfl rfl rfl (rv_ev rfl) ?_
 refine hl_callV rfl rfl rfl (rq_call (by kernel_rfl) rfl (fun w hm => ret_ans (isAnd_yes n node w (hr.below hm.bel) hn))) ?_
 refine hl_bool (fun h2 => ?_) (fun h2 => absurd (((isAnd_iff.2 hnd)).symm.trans h2) (by decide))
 refine hl_v rfl rfl rfl (rv_ev rfl) ?_
 refine hl_v rfl rfl rfl (rv_ev rfl) ?_
 refine hl_less (sx 0 rfl (sx 1 rfl (sx 2 rfl (sx 4 rfl (sx 13 rfl (sub_nil _)))))) (.refl _) ?_
 refine hl_nil ?_
 refine hq_then ?_
 refine hc_false rfl ?_
 refine hc_skip ?_
 refine hq_then ?_
 refine hc_seq ?_
 refine hc_region ?_
 refine hl_v rfl rfl rfl (rv_loadN (cs := [.int .i64 n.ins, n.sv, n.av, n.ov]) rfl (by kernel_rfl) (by kernel_rfl) rfl rfl (box_part 0 rfl 0 rfl)) ?_
 refine hl_v rfl rfl rfl (rv_ev rfl) ?_
 refine hl_q rfl rfl rfl (rq_call (by kernel_rfl) rfl (fun w hm => conjuncts_ret n node w (hr.below hm.bel) hn hnd)) ?_
 intro v3 p4 hR5
 obtain ⟨xs, rfl, hcj, hcn⟩ := hR5
 have hxl := hcj.len hn
 have hxn := hcj.ne
 refine hl_v rfl rfl rfl (rv_ev rfl) ?_
 refine hl_less (sx 0 rfl (sx 1 rfl (sx 2 rfl (sx 4 rfl (sx 13 rfl (sub_nil _)))))) (.refl _) ?_
 refine hl_nil ?_
 refine hq_then ?_
 refine hc_ret ?_
 exact hq_retR (post := [rowE 3 1 v3 xs.length (xs.map (Value.int .i64))]) rfl rfl ((.cons_cons _ (.cons _ .slnil))) ⟨xs, rfl, hcj, hcn⟩
set_option maxHeartbeats 4000000 in
set_option maxRecDepth 100000 in
theorem Conjuncts_nil (n : Nt) (w : World) (hr : RdsNt w n) (hn : NtOk n) :
  Calls Try.prog 17 #[.agg #[.int .i64 n.ins, n.sv, n.av, n.ov], .int .i64 0] w (Ret w (fun v' post => v' = .slice none 0 0 ∧ post = [])) := by
 have hi0 := hn.i0
 have hi1 := hn.i1
 have hs1 := hn.s1
 have ha1 := hn.a1
 have ho1 := hn.o1
 have hcnt : n.cnt = 1 + n.ins + n.ss.length + n.gs.length := rfl
 have hfst : n.fst = 1 + n.ins + n.ss.length := rfl
 refine calls_hc (N := 17) (args := [.agg #[.int .i64 n.ins, n.sv, n.av, n.ov], .int .i64 0]) Try.func17 rfl rfl ?_
 refine hc_less _ (sx 0 rfl (sx 1 rfl (sub_nil _))) (.refl _) ?_
 refine hc_seq ?_
 refine hc_region ?_
 refine hl_box rfl rfl rfl (rq_box rfl rfl) ?_
 intro b1
 refine hl_v rfl rfl rfl (rv_ev rfl) ?_
 refine hl_less (sx 0 rfl (sx 1 rfl (sx 2 rfl (sx 4 rfl (sub_nil _))))) (.refl _) ?_
 refine hl_nil ?_
 refine hq_then ?_
 refine hc_seq ?_
 refine hc_seq ?_
 refine hc_region ?_
 refine hl_v rfl rfl rfl (rv_loadN (cs := [.int .i64 n.ins, n.sv, n.av, n.ov]) rfl (by kernel_rfl) (by kernel_rfl) rfl rfl (box_part 0 rfl 0 rfl)) ?_
 refine hl_callV rfl rfl rfl (rq_call (by kernel_rfl) rfl (fun w hm => ret_ans (implNetOk_yes n w (hr.below hm.bel) hn))) ?_
 refine hl_v rfl rfl rfl (rv_ev rfl) ?_
 refine hl_v rfl rfl rfl (rv_ev rfl) ?_
 refine hl_v rfl rfl rfl (rv_loadN (cs := [.int .i64 n.ins, n.sv, n.av, n.ov]) rfl (by kernel_rfl) (by kernel_rfl) rfl rfl (box_part 0 rfl 0 rfl)) ?_
 refine hl_v rfl rfl rfl (rv_ev rfl) ?_
 refine hl_callV rfl rfl rfl (rq_call (by kernel_rfl) rfl (fun w hm => ret_ans (isAnd_yes n 0 w (hr.below hm.bel) hn))) ?_
 refine hl_bool (fun h2 => absurd (((Bool.eq_false_iff.2 (fun h => by have := isAnd_iff.1 h; omega))).symm.trans h2) (by decide)) (fun h2 => ?_)
 refine hl_v rfl rfl rfl (rv_ev rfl) ?_
 refine hl_v rfl rfl rfl (rv_ev rfl) ?_
 refine hl_less (sx 0 rfl (sx 1 rfl (sx 2 rfl (sx 4 rfl (sx 13 rfl (sub_nil _)))))) (.refl _) ?_
 refine hl_nil ?_
 refine hq_then ?_
 refine hc_true rfl ?_
 refine hc_seq ?_
 refine hc_region ?_
 refine hl_v rfl rfl rfl (rv_ev rfl) ?_
 refine hl_less (sx 0 rfl (sx 1 rfl (sx 2 rfl (sx 4 rfl (sx 13 rfl (sub_nil _)))))) (.refl _) ?_
 refine hl_nil ?_
 refine hq_then ?_
 refine hc_ret ?_
 refine hq_then_ret ?_
 exact hq_retR (post := []) rfl rfl (List.nil_sublist _) ⟨rfl, rfl⟩
set_option maxHeartbeats 4000000 in
set_option maxRecDepth 100000 in
theorem l12Chain_mut (g : Nat) (a : Option Addr) (len cap : Nat) (z : List Int) (w0 : World) (l : List HP) (w : World) (hm0 : Mem w0 (curE g a len cap :: l) w) (hb : BRow .u8 w0 a len cap z) :
  Calls Try.prog 60 #[.pointer (some ⟨g, 0, none⟩)] w (fun e_ w_ => ∃ v_ p_, e_ = .returned v_ ∧ (fun u_ p_ => ∃ n : Nt, u_ = n.agg ∧ p_ = bigE [curE g a len cap, ntE n] ∧ (n.sv.oneCell' = true ∧ n.av.oneCell' = true ∧ n.ov.oneCell' = true) ∧ NtOk n ∧ n.ins ≤ 6 ∧ (n.ss.length : Int) ≤ 3 ∧ (n.gs.length : Int) ≤ 16) v_ p_ ∧ Mem w0 (p_ :: l) w_) := by
 refine calls_hcM (N := 47) (args := [.pointer (some ⟨g, 0, none⟩)]) Try.func60 rfl rfl hm0 ?_
 refine hc_less _ (sx 0 rfl (sub_nil _)) (.refl _) ?_
 refine hc_seq ?_
 refine hc_region ?_
 refine hl_box rfl rfl rfl (rq_alloc (z := .agg #[.int .i64 0, .slice none 0 0, .slice none 0 0, .slice none 0 0]) rfl (by kernel_rfl)) ?_
 intro b1
 refine hl_less (sx 0 rfl (sx 2 rfl (sub_nil _))) (.refl _) ?_
 refine hl_nil ?_
 refine hq_then ?_
 refine hc_seq ?_
 refine hc_region ?_
 refine hl_v rfl rfl rfl (rv_ev rfl) ?_
 refine hl_callM (R := (fun u_ p_ => ∃ n : Nt, u_ = n.agg ∧ p_ = bigE [curE g a len cap, ntE n] ∧ (n.sv.oneCell' = true ∧ n.av.oneCell' = true ∧ n.ov.oneCell' = true) ∧ NtOk n ∧ n.ins ≤ 6 ∧ (n.ss.length : Int) ≤ 1 ∧ (n.gs.length : Int) ≤ 3)) 1 rfl rfl (by kernel_rfl) rfl rfl (fun l' w hm => l08Sized_mut g a len cap z 6 1 3 _ _ _ hm hb (by decide) (by decide) (by decide)) ?_
 intro v2 p3 hR4
 obtain ⟨n, rfl, rfl, ⟨o1n, o2n, o3n⟩, hn, hnq1, hnq2, hnq3⟩ := hR4
 refine hl_eqL (l' := (boxE b1 #[.int .i64 0, .slice none 0 0, .slice none 0 0, .slice none 0 0] 28 :: bigE [curE g a len cap, ntE n] :: l)) rfl ?_
 refine hl_box rfl rfl rfl (rq_alloc (z := .agg #[.int .i64 0, .slice none 0 0, .slice none 0 0, .slice none 0 0]) rfl (by kernel_rfl)) ?_
 intro b5
 refine hl_storeBoxN (i := 0) (off := 0) (us := [.int .i64 n.ins, n.sv, n.av, n.ov]) (l' := (boxE b5 #[.int .i64 n.ins, n.sv, n.av, n.ov] 28 :: boxE b1 #[.int .i64 0, .slice none 0 0, .slice none 0 0, .slice none 0 0] 28 :: bigE [curE g a len cap, ntE n] :: l)) rfl rfl rfl (by kernel_rfl) rfl rfl rfl (all_cons rfl (all_cons o1n (all_cons o2n (all_cons o3n all_nil)))) rfl rfl rfl ?_
 refine hl_less (sx 0 rfl (sx 2 rfl (sx 3 rfl (sub_nil _)))) (.refl _) ?_
 refine hl_nil ?_
 refine hq_then ?_
 refine hc_seq ?_
 refine hc_seq ?_
 refine hc_region ?_
 refine hl_conv (bigE [curE g a len cap, ntE n] :: boxE b5 #[.int .i64 n.ins, n.sv, n.av, n.ov] 28 :: boxE b1 #[.int .i64 0, .slice none 0 0, .slice none 0 0, .slice none 0 0] 28 :: l) (conv_pick (src := [boxE b5 #[.int .i64 n.ins, n.sv, n.av, n.ov] 28, boxE b1 #[.int .i64 0, .slice none 0 0, .slice none 0 0, .slice none 0 0] 28, bigE [curE g a len cap, ntE n]]) (dst := [bigE [curE g a len cap, ntE n], boxE b5 #[.int .i64 n.ins, n.sv, n.av, n.ov] 28, boxE b1 #[.int .i64 0, .slice none 0 0, .slice none 0 0, .slice none 0 0] 28]) (l := l) [2, 0, 1] (by decide) rfl) ?_
 refine hl_conv (curE g a len cap :: ntE n :: boxE b5 #[.int .i64 n.ins, n.sv, n.av, n.ov] 28 :: boxE b1 #[.int .i64 0, .slice none 0 0, .slice none 0 0, .slice none 0 0] 28 :: l) conv_unbig ?_
 refine hl_conv (ntE n :: curE g a len cap :: boxE b5 #[.int .i64 n.ins, n.sv, n.av, n.ov] 28 :: boxE b1 #[.int .i64 0, .slice none 0 0, .slice none 0 0, .slice none 0 0] 28 :: l) (conv_pick (src := [curE g a len cap, ntE n, boxE b5 #[.int .i64 n.ins, n.sv, n.av, n.ov] 28, boxE b1 #[.int .i64 0, .slice none 0 0, .slice none 0 0, .slice none 0 0] 28]) (dst := [ntE n, curE g a len cap, boxE b5 #[.int .i64 n.ins, n.sv, n.av, n.ov] 28, boxE b1 #[.int .i64 0, .slice none 0 0, .slice none 0 0, .slice none 0 0] 28]) (l := l) [1, 0, 2, 3] (by decide) rfl) ?_
 refine hl_conv (sqsE n.sv n.ss :: rowE 80 2 n.av n.gs.length (n.gs.flatMap anC) :: rowE 3 1 n.ov n.os.length (n.os.map (Value.int .i64)) :: curE g a len cap :: boxE b5 #[.int .i64 n.ins, n.sv, n.av, n.ov] 28 :: boxE b1 #[.int .i64 0, .slice none 0 0, .slice none 0 0, .slice none 0 0] 28 :: l) conv_unbig ?_
 have hi0 := hn.i0
 have hi1 := hn.i1
 have hs1 := hn.s1
 have ha1 := hn.a1
 have ho1 := hn.o1
 have hcnt : n.cnt = 1 + n.ins + n.ss.length + n.gs.length := rfl
 have hfst : n.fst = 1 + n.ins + n.ss.length := rfl
 refine hl_v rfl rfl rfl (rv_ev rfl) ?_
 refine hl_callM (R := (fun u_ p_ => (∃ x_ : Int, u_ = .int .i64 x_ ∧ 0 ≤ x_ ∧ x_ < 12) ∧ p_ = curE g a len cap)) 3 rfl rfl (by kernel_rfl) rfl rfl (fun l' w hm => belowN_mut g a len cap z 12 _ _ _ hm hb (by constructor <;> omega)) ?_
 intro v6 p7 hR8
 obtain ⟨⟨xhR8, rfl, xhR80, xhR81⟩, rfl⟩ := hR8
 refine hl_eqL (l' := (sqsE n.sv n.ss :: rowE 80 2 n.av n.gs.length (n.gs.flatMap anC) :: rowE 3 1 n.ov n.os.length (n.os.map (Value.int .i64)) :: curE g a len cap :: boxE b5 #[.int .i64 n.ins, n.sv, n.av, n.ov] 28 :: boxE b1 #[.int .i64 0, .slice none 0 0, .slice none 0 0, .slice none 0 0] 28 :: l)) rfl ?_
 refine hl_v rfl rfl rfl (rv_add rfl rfl rfl (by constructor <;> omega)) ?_
 refine hl_v rfl rfl rfl (rv_ev rfl) ?_
 refine hl_less (sx 0 rfl (sx 2 rfl (sx 3 rfl (sx 4 rfl (sub_nil _))))) (.refl _) ?_
 refine hl_nil ?_
 refine hq_then ?_
 refine hc_block ?_
 refine hc_loop3 (α := Int) (β := Value) (γ := List An) (fun k u gs => (sqsE n.sv n.ss :: rowE 80 2 u gs.length (gs.flatMap anC) :: rowE 3 1 n.ov n.os.length (n.os.map (Value.int .i64)) :: curE g a len cap :: boxE b5 #[.int .i64 n.ins, n.sv, u, n.ov] 28 :: boxE b1 #[.int .i64 0, .slice none 0 0, .slice none 0 0, .slice none 0 0] 28 :: l)) (fun k u gs => [(0, .pointer (some ⟨g, 0, none⟩)), (2, .pointer (some ⟨b1, 0, none⟩)), (3, .pointer (some ⟨b5, 0, none⟩)), (4, .int .i64 k)]) (fun k u gs => (0 ≤ k ∧ k ≤ 13) ∧ ((gs.length : Int) + k ≤ 16 ∧ 2 ≤ (gs.length : Int) + k) ∧ NtOk (Nt.mk n.ins n.sv u n.ov n.ss gs n.os)) (fun k u gs => k.toNat) _ n.av n.gs ⟨by omega, by omega, hn⟩ (sx 0 rfl (sx 2 rfl (sx 3 rfl (sx 4 rfl (sub_nil _))))) ((.cons_cons _ (.cons_cons _ (.cons_cons _ (.cons_cons _ (.cons_cons _ (.cons_cons _ (.refl _)))))))) ?_
 intro k u gs hi9
 obtain ⟨hk, hgl, hno⟩ := hi9
 have hcm : (Nt.mk n.ins n.sv u n.ov n.ss gs n.os).cnt = 1 + n.ins + n.ss.length + gs.length := rfl
 refine hc_seq ?_
 refine hc_seq ?_
 refine hc_region ?_
 refine hl_v rfl rfl rfl (rv_ev rfl) ?_
 refine hl_gtr rfl rfl rfl rfl rfl rfl (fun h10 => ?_) (fun h10 => ?_)
 ·
  refine hl_less (sx 0 rfl (sx 2 rfl (sx 3 rfl (sx 4 rfl (sx 12 rfl (sub_nil _)))))) (.refl _) ?_
  refine hl_nil ?_
  refine hq_then ?_
  refine hc_true rfl ?_
  refine hc_skip ?_
  refine hq_then ?_
  refine hc_seq ?_
  refine hc_block ?_
  refine hc_seq ?_
  refine hc_region ?_
  refine hl_v rfl rfl rfl (rv_loadN (cs := [.int .i64 n.ins, n.sv, u, n.ov]) rfl (by kernel_rfl) (by kernel_rfl) rfl rfl (box_part 4 rfl 0 rfl)) ?_
  refine hl_callV rfl rfl rfl (rq_call (by kernel_rfl) rfl (fun w hm => ret_ans (specNodeCount_yes (Nt.mk n.ins n.sv u n.ov n.ss gs n.os) w (nt_rds3 0 1 2 rfl rfl rfl w hm) hno))) ?_
  refine hl_v rfl rfl rfl (rv_mul rfl rfl rfl (by constructor <;> omega)) ?_
  refine hl_v rfl rfl rfl (rv_ev rfl) ?_
  refine hl_less (sx 0 rfl (sx 2 rfl (sx 3 rfl (sx 4 rfl (sx 5 rfl (sx 12 rfl (sub_nil _))))))) (.refl _) ?_
  refine hl_nil ?_
  refine hq_then ?_
  refine hc_conv (curE g a len cap :: sqsE n.sv n.ss :: rowE 80 2 u gs.length (gs.flatMap anC) :: rowE 3 1 n.ov n.os.length (n.os.map (Value.int .i64)) :: boxE b5 #[.int .i64 n.ins, n.sv, u, n.ov] 28 :: boxE b1 #[.int .i64 0, .slice none 0 0, .slice none 0 0, .slice none 0 0] 28 :: l) (conv_pick (src := [sqsE n.sv n.ss, rowE 80 2 u gs.length (gs.flatMap anC), rowE 3 1 n.ov n.os.length (n.os.map (Value.int .i64)), curE g a len cap, boxE b5 #[.int .i64 n.ins, n.sv, u, n.ov] 28, boxE b1 #[.int .i64 0, .slice none 0 0, .slice none 0 0, .slice none 0 0] 28]) (dst := [curE g a len cap, sqsE n.sv n.ss, rowE 80 2 u gs.length (gs.flatMap anC), rowE 3 1 n.ov n.os.length (n.os.map (Value.int .i64)), boxE b5 #[.int .i64 n.ins, n.sv, u, n.ov] 28, boxE b1 #[.int .i64 0, .slice none 0 0, .slice none 0 0, .slice none 0 0] 28]) (l := l) [3, 0, 1, 2, 4, 5] (by decide) rfl) ?_
  refine hc_draw2 (l := (sqsE n.sv n.ss :: rowE 80 2 u gs.length (gs.flatMap anC) :: rowE 3 1 n.ov n.os.length (n.os.map (Value.int .i64)) :: boxE b5 #[.int .i64 n.ins, n.sv, u, n.ov] 28 :: boxE b1 #[.int .i64 0, .slice none 0 0, .slice none 0 0, .slice none 0 0] 28 :: l)) (by kernel_rfl) 13 [0, 1, 2, 3, 4, 5, 6, 7, 8, 9, 10, 11, 12] (List.take 13 _) (List.drop 13 _) [[], [0], [], [], [2, 3], [], [5], [], [4, 7], [8], [6, 8, 9], [4, 8, 10], [4, 8, 11]] [18, 19, 20, 21, 22, 23, 24, 25, 26, 27, 28, 29, 30] (fun i_ vs_ v_ p_ => match i_ with | 0 => v_ = .pointer (some ⟨b5, 0 + 2, none⟩) ∧ p_ = [] | 1 => v_ = u ∧ p_ = [] | 2 => v_ = .pointer (some ⟨g, 0, none⟩) ∧ p_ = [] | 3 => v_ = .int .i64 (2 * (1 + n.ins + (n.ss.length : Int) + (gs.length : Int))) ∧ p_ = [] | 4 => (∃ pm_, p_ = [pm_] ∧ (fun u_ p_ => (∃ x_ : Int, u_ = .int .i64 x_ ∧ 0 ≤ x_ ∧ x_ < 2 * (1 + n.ins + (n.ss.length : Int) + (gs.length : Int))) ∧ p_ = curE g a len cap) v_ pm_) | 5 => v_ = .int .i64 (2 * (1 + n.ins + (n.ss.length : Int) + (gs.length : Int))) ∧ p_ = [] | 6 => v_ = .int .i64 ((2 * (1 + n.ins + (n.ss.length : Int) + (gs.length : Int))) - 2) ∧ p_ = [] | 7 => v_ = .pointer (some ⟨g, 0, none⟩) ∧ p_ = [] | 8 => (∃ pm_, p_ = [pm_] ∧ (fun u_ p_ => (∃ x_ : Int, u_ = .int .i64 x_ ∧ 0 ≤ x_ ∧ x_ < 8) ∧ p_ = curE g a len cap) v_ pm_) | 9 => v_ = .int .i64 ((intOf_o (List.getD vs_ 0 undef)) / 7) ∧ p_ = [] | 10 => v_ = .int .i64 (((2 * (1 + n.ins + (n.ss.length : Int) + (gs.length : Int))) - 2) + ((intOf_o (List.getD vs_ 1 undef)) / 7)) ∧ p_ = [] | 11 => v_ = .agg #[.int .i64 (intOf_o (List.getD vs_ 0 undef)), .int .i64 (((2 * (1 + n.ins + (n.ss.length : Int) + (gs.length : Int))) - 2) + ((intOf_o (List.getD vs_ 1 undef)) / 7))] ∧ p_ = [] | 12 => IsRow_o 80 2 1 ([(intOf_o (List.getD vs_ 0 undef)), ((2 * (1 + n.ins + (n.ss.length : Int) + (gs.length : Int))) - 2) + ((intOf_o (List.getD vs_ 1 undef)) / 7)].map (Value.int .i64)) v_ p_ | _ => True) [[], [0], [], [], [2, 3], [], [5], [], [7], [8], [6, 8, 9], [8, 10], [8, 11]] [none, none, none, none, some 16, none, none, none, some 4, none, none, none, none] [curE g a len cap] [0, 1, 2, 3, 5, 6, 7, 8, 9, 10, 11, 12] 16 (List.take_append_drop 13 _).symm (by kernel_rfl) (by kernel_rfl) (by kernel_rfl) rfl rfl ?_ ?_
  ·
   refine ⟨?_, ?_, ?_, ?_, ?_, ?_, ?_, ?_, ?_, ?_, ?_, ?_, ?_, trivial⟩
   ·
    intro vf pf hmu hR
    refine Or.inl ⟨rfl, ?_⟩
    show RunQ _ _ _ (([] : List Nat).flatMap pf ++ _) (envOf _ vf [] ++ _) _ _
    refine rq_less (sx 3 rfl (sub_nil _)) (List.sublist_append_right _ _) ?_
    exact rq_v (rv_field (k0 := 2) rfl (by kernel_rfl) rfl)
   ·
    intro vf pf hmu hR
    have e0 : (vf 0) = .pointer (some ⟨b5, 0 + 2, none⟩) ∧ (pf 0) = [] := hR 0 (by decide)
    refine Or.inl ⟨rfl, ?_⟩
    show RunQ _ _ _ (([0] : List Nat).flatMap pf ++ _) (envOf _ vf [0] ++ _) _ _
    refine rq_less (sx 18 (congrArg some e0.1) (sub_nil _)) (List.sublist_append_right _ _) ?_
    exact rq_v (rv_load rfl (by kernel_rfl) rfl (box_cell 3 rfl rfl))
   ·
    intro vf pf hmu hR
    refine Or.inl ⟨rfl, ?_⟩
    show RunQ _ _ _ (([] : List Nat).flatMap pf ++ _) (envOf _ vf [] ++ _) _ _
    refine rq_less (sx 0 rfl (sub_nil _)) (List.sublist_append_right _ _) ?_
    exact rq_v (rv_ev rfl)
   ·
    intro vf pf hmu hR
    refine Or.inl ⟨rfl, ?_⟩
    show RunQ _ _ _ (([] : List Nat).flatMap pf ++ _) (envOf _ vf [] ++ _) _ _
    refine rq_less (sx 5 rfl (sub_nil _)) (List.sublist_append_right _ _) ?_
    exact rq_v (rv_ev rfl)
   ·
    intro vf pf hmu hR
    have e2 : (vf 2) = .pointer (some ⟨g, 0, none⟩) ∧ (pf 2) = [] := hR 2 (by decide)
    have e3 : (vf 3) = .int .i64 (2 * (1 + n.ins + (n.ss.length : Int) + (gs.length : Int))) ∧ (pf 3) = [] := hR 3 (by decide)
    refine Or.inl ⟨rfl, ?_⟩
    show RunM _ _ _ (pf 16) (([2, 3] : List Nat).flatMap pf ++ _) (envOf _ vf [2, 3] ++ _) _ _
    rw [hmu]
    refine rm_less (X' := (sqsE n.sv n.ss :: rowE 80 2 u gs.length (gs.flatMap anC) :: rowE 3 1 n.ov n.os.length (n.os.map (Value.int .i64)) :: boxE b5 #[.int .i64 n.ins, n.sv, u, n.ov] 28 :: boxE b1 #[.int .i64 0, .slice none 0 0, .slice none 0 0, .slice none 0 0] 28 :: l)) (sx 20 (congrArg some e2.1) (sx 21 (congrArg some e3.1) (sub_nil _))) (by first | (simp only [e2.2, e3.2, List.flatMap_cons, List.flatMap_nil, List.append_nil, List.nil_append, List.cons_append]; exact List.Sublist.refl _) | simp [e2.2, e3.2]) ?_
    exact rq_callM (R := (fun u_ p_ => (∃ x_ : Int, u_ = .int .i64 x_ ∧ 0 ≤ x_ ∧ x_ < 2 * (1 + n.ins + (n.ss.length : Int) + (gs.length : Int))) ∧ p_ = curE g a len cap)) (by kernel_rfl) rfl (fun L w hX hm => belowN_mut g a len cap z (2 * (1 + n.ins + (n.ss.length : Int) + (gs.length : Int))) _ _ _ hm hb (by constructor <;> omega))
   ·
    intro vf pf hmu hR
    refine Or.inl ⟨rfl, ?_⟩
    show RunQ _ _ _ (([] : List Nat).flatMap pf ++ _) (envOf _ vf [] ++ _) _ _
    refine rq_less (sx 5 rfl (sub_nil _)) (List.sublist_append_right _ _) ?_
    exact rq_v (rv_ev rfl)
   ·
    intro vf pf hmu hR
    have e5 : (vf 5) = .int .i64 (2 * (1 + n.ins + (n.ss.length : Int) + (gs.length : Int))) ∧ (pf 5) = [] := hR 5 (by decide)
    refine Or.inl ⟨rfl, ?_⟩
    show RunQ _ _ _ (([5] : List Nat).flatMap pf ++ _) (envOf _ vf [5] ++ _) _ _
    refine rq_less (sx 23 (congrArg some e5.1) (sub_nil _)) (List.sublist_append_right _ _) ?_
    exact rq_v (rv_sub rfl rfl rfl (by constructor <;> omega))
   ·
    intro vf pf hmu hR
    refine Or.inl ⟨rfl, ?_⟩
    show RunQ _ _ _ (([] : List Nat).flatMap pf ++ _) (envOf _ vf [] ++ _) _ _
    refine rq_less (sx 0 rfl (sub_nil _)) (List.sublist_append_right _ _) ?_
    exact rq_v (rv_ev rfl)
   ·
    intro vf pf hmu hR
    have e4 : (∃ pm_, (pf 4) = [pm_] ∧ (fun u_ p_ => (∃ x_ : Int, u_ = .int .i64 x_ ∧ 0 ≤ x_ ∧ x_ < 2 * (1 + n.ins + (n.ss.length : Int) + (gs.length : Int))) ∧ p_ = curE g a len cap) (vf 4) pm_) := hR 4 (by decide)
    obtain ⟨p12, p4, hR13⟩ := e4
    obtain ⟨v11, v4⟩ : ∃ x, vf 4 = x := ⟨_, rfl⟩
    rw [v4] at hR13
    obtain ⟨⟨xhR13, rfl, xhR130, xhR131⟩, rfl⟩ := hR13
    have e7 : (vf 7) = .pointer (some ⟨g, 0, none⟩) ∧ (pf 7) = [] := hR 7 (by decide)
    refine Or.inl ⟨rfl, ?_⟩
    show RunM _ _ _ (pf 4) (([7] : List Nat).flatMap pf ++ _) (envOf _ vf [4, 7] ++ _) _ _
    rw [p4]
    refine rm_less (X' := (sqsE n.sv n.ss :: rowE 80 2 u gs.length (gs.flatMap anC) :: rowE 3 1 n.ov n.os.length (n.os.map (Value.int .i64)) :: boxE b5 #[.int .i64 n.ins, n.sv, u, n.ov] 28 :: boxE b1 #[.int .i64 0, .slice none 0 0, .slice none 0 0, .slice none 0 0] 28 :: l)) (sx 25 (congrArg some e7.1) (sub_nil _)) (by first | (simp only [e7.2, List.flatMap_cons, List.flatMap_nil, List.append_nil, List.nil_append, List.cons_append]; exact List.Sublist.refl _) | simp [e7.2]) ?_
    exact rq_callM (R := (fun u_ p_ => (∃ x_ : Int, u_ = .int .i64 x_ ∧ 0 ≤ x_ ∧ x_ < 8) ∧ p_ = curE g a len cap)) (by kernel_rfl) rfl (fun L w hX hm => belowN_mut g a len cap z 8 _ _ _ hm hb (by constructor <;> omega))
   ·
    intro vf pf hmu hR
    have e8 : (∃ pm_, (pf 8) = [pm_] ∧ (fun u_ p_ => (∃ x_ : Int, u_ = .int .i64 x_ ∧ 0 ≤ x_ ∧ x_ < 8) ∧ p_ = curE g a len cap) (vf 8) pm_) := hR 8 (by decide)
    obtain ⟨p15, p8, hR16⟩ := e8
    obtain ⟨v14, v8⟩ : ∃ x, vf 8 = x := ⟨_, rfl⟩
    rw [v8] at hR16
    obtain ⟨⟨xhR16, rfl, xhR160, xhR161⟩, rfl⟩ := hR16
    refine Or.inl ⟨rfl, ?_⟩
    show RunQ _ _ _ (([8] : List Nat).flatMap pf ++ _) (envOf _ vf [8] ++ _) _ _
    refine rq_less (l' := (curE g a len cap :: sqsE n.sv n.ss :: rowE 80 2 u gs.length (gs.flatMap anC) :: rowE 3 1 n.ov n.os.length (n.os.map (Value.int .i64)) :: boxE b5 #[.int .i64 n.ins, n.sv, u, n.ov] 28 :: boxE b1 #[.int .i64 0, .slice none 0 0, .slice none 0 0, .slice none 0 0] 28 :: l)) (sx 26 (congrArg some v8) (sub_nil _)) (by first | (simp only [p8, v8, List.flatMap_cons, List.flatMap_nil, List.append_nil, List.nil_append, List.cons_append]; exact List.Sublist.refl _) | simp [p8, v8]) ?_
    exact rq_mono (rq_v (rv_quo rfl rfl rfl (by refine ⟨?_, ?_, ?_⟩ <;> omega))) (fun _ _ h => ⟨h.1.trans (by show _ = (.int .i64 ((intOf_o (vf 8)) / 7) : Value); first | (rw [v8]; done) | (rw [v8]; rfl)), h.2⟩)
   ·
    intro vf pf hmu hR
    have e6 : (vf 6) = .int .i64 ((2 * (1 + n.ins + (n.ss.length : Int) + (gs.length : Int))) - 2) ∧ (pf 6) = [] := hR 6 (by decide)
    have e8 : (∃ pm_, (pf 8) = [pm_] ∧ (fun u_ p_ => (∃ x_ : Int, u_ = .int .i64 x_ ∧ 0 ≤ x_ ∧ x_ < 8) ∧ p_ = curE g a len cap) (vf 8) pm_) := hR 8 (by decide)
    obtain ⟨p15, p8, hR16⟩ := e8
    obtain ⟨v14, v8⟩ : ∃ x, vf 8 = x := ⟨_, rfl⟩
    rw [v8] at hR16
    obtain ⟨⟨xhR16, rfl, xhR160, xhR161⟩, rfl⟩ := hR16
    have e9 : (vf 9) = .int .i64 ((intOf_o (vf 8)) / 7) ∧ (pf 9) = [] := hR 9 (by decide)
    rw [v8] at e9; try simp only [intOf_o] at e9
    refine Or.inl ⟨rfl, ?_⟩
    show RunQ _ _ _ (([6, 8, 9] : List Nat).flatMap pf ++ _) (envOf _ vf [6, 8, 9] ++ _) _ _
    refine rq_less (l' := (curE g a len cap :: sqsE n.sv n.ss :: rowE 80 2 u gs.length (gs.flatMap anC) :: rowE 3 1 n.ov n.os.length (n.os.map (Value.int .i64)) :: boxE b5 #[.int .i64 n.ins, n.sv, u, n.ov] 28 :: boxE b1 #[.int .i64 0, .slice none 0 0, .slice none 0 0, .slice none 0 0] 28 :: l)) (sx 24 (congrArg some e6.1) (sx 27 (congrArg some e9.1) (sub_nil _))) (by first | (simp only [p8, v8, e6.2, e9.2, List.flatMap_cons, List.flatMap_nil, List.append_nil, List.nil_append, List.cons_append]; exact List.Sublist.refl _) | simp [p8, v8, e6.2, e9.2]) ?_
    exact rq_mono (rq_v (rv_add rfl rfl rfl (by constructor <;> omega))) (fun _ _ h => ⟨h.1.trans (by show _ = (.int .i64 (((2 * (1 + n.ins + (n.ss.length : Int) + (gs.length : Int))) - 2) + ((intOf_o (vf 8)) / 7)) : Value); first | (rw [v8]; done) | (rw [v8]; rfl)), h.2⟩)
   ·
    intro vf pf hmu hR
    have e4 : (∃ pm_, (pf 4) = [pm_] ∧ (fun u_ p_ => (∃ x_ : Int, u_ = .int .i64 x_ ∧ 0 ≤ x_ ∧ x_ < 2 * (1 + n.ins + (n.ss.length : Int) + (gs.length : Int))) ∧ p_ = curE g a len cap) (vf 4) pm_) := hR 4 (by decide)
    obtain ⟨p12, p4, hR13⟩ := e4
    obtain ⟨v11, v4⟩ : ∃ x, vf 4 = x := ⟨_, rfl⟩
    rw [v4] at hR13
    obtain ⟨⟨xhR13, rfl, xhR130, xhR131⟩, rfl⟩ := hR13
    have e8 : (∃ pm_, (pf 8) = [pm_] ∧ (fun u_ p_ => (∃ x_ : Int, u_ = .int .i64 x_ ∧ 0 ≤ x_ ∧ x_ < 8) ∧ p_ = curE g a len cap) (vf 8) pm_) := hR 8 (by decide)
    obtain ⟨p15, p8, hR16⟩ := e8
    obtain ⟨v14, v8⟩ : ∃ x, vf 8 = x := ⟨_, rfl⟩
    rw [v8] at hR16
    obtain ⟨⟨xhR16, rfl, xhR160, xhR161⟩, rfl⟩ := hR16
    have e10 : (vf 10) = .int .i64 (((2 * (1 + n.ins + (n.ss.length : Int) + (gs.length : Int))) - 2) + ((intOf_o (vf 8)) / 7)) ∧ (pf 10) = [] := hR 10 (by decide)
    rw [v8] at e10; try simp only [intOf_o] at e10
    refine Or.inl ⟨rfl, ?_⟩
    show RunQ _ _ _ (([8, 10] : List Nat).flatMap pf ++ _) (envOf _ vf [4, 8, 10] ++ _) _ _
    refine rq_less (l' := (curE g a len cap :: sqsE n.sv n.ss :: rowE 80 2 u gs.length (gs.flatMap anC) :: rowE 3 1 n.ov n.os.length (n.os.map (Value.int .i64)) :: boxE b5 #[.int .i64 n.ins, n.sv, u, n.ov] 28 :: boxE b1 #[.int .i64 0, .slice none 0 0, .slice none 0 0, .slice none 0 0] 28 :: l)) (sx 22 (congrArg some v4) (sx 28 (congrArg some e10.1) (sub_nil _))) (by first | (simp only [p8, v8, e10.2, List.flatMap_cons, List.flatMap_nil, List.append_nil, List.nil_append, List.cons_append]; exact List.Sublist.refl _) | simp [p8, v8, e10.2]) ?_
    exact rq_mono (rq_v (rv_build (cs := #[.int .i64 xhR13, .int .i64 (((2 * (1 + n.ins + (n.ss.length : Int) + (gs.length : Int))) - 2) + (xhR16 / 7))]) rfl rfl (by kernel_rfl))) (fun _ _ h => ⟨h.1.trans (by show _ = (.agg #[.int .i64 (intOf_o (vf 4)), .int .i64 (((2 * (1 + n.ins + (n.ss.length : Int) + (gs.length : Int))) - 2) + ((intOf_o (vf 8)) / 7))] : Value); first | (rw [v4, v8]; done) | (rw [v4, v8]; rfl)), h.2⟩)
   ·
    intro vf pf hmu hR
    have e4 : (∃ pm_, (pf 4) = [pm_] ∧ (fun u_ p_ => (∃ x_ : Int, u_ = .int .i64 x_ ∧ 0 ≤ x_ ∧ x_ < 2 * (1 + n.ins + (n.ss.length : Int) + (gs.length : Int))) ∧ p_ = curE g a len cap) (vf 4) pm_) := hR 4 (by decide)
    obtain ⟨p12, p4, hR13⟩ := e4
    obtain ⟨v11, v4⟩ : ∃ x, vf 4 = x := ⟨_, rfl⟩
    rw [v4] at hR13
    obtain ⟨⟨xhR13, rfl, xhR130, xhR131⟩, rfl⟩ := hR13
    have e8 : (∃ pm_, (pf 8) = [pm_] ∧ (fun u_ p_ => (∃ x_ : Int, u_ = .int .i64 x_ ∧ 0 ≤ x_ ∧ x_ < 8) ∧ p_ = curE g a len cap) (vf 8) pm_) := hR 8 (by decide)
    obtain ⟨p15, p8, hR16⟩ := e8
    obtain ⟨v14, v8⟩ : ∃ x, vf 8 = x := ⟨_, rfl⟩
    rw [v8] at hR16
    obtain ⟨⟨xhR16, rfl, xhR160, xhR161⟩, rfl⟩ := hR16
    have e11 : (vf 11) = .agg #[.int .i64 (intOf_o (vf 4)), .int .i64 (((2 * (1 + n.ins + (n.ss.length : Int) + (gs.length : Int))) - 2) + ((intOf_o (vf 8)) / 7))] ∧ (pf 11) = [] := hR 11 (by decide)
    rw [v4, v8] at e11; try simp only [intOf_o] at e11
    refine Or.inl ⟨rfl, ?_⟩
    show RunQ _ _ _ (([8, 11] : List Nat).flatMap pf ++ _) (envOf _ vf [4, 8, 11] ++ _) _ _
    refine rq_less (l' := (curE g a len cap :: sqsE n.sv n.ss :: rowE 80 2 u gs.length (gs.flatMap anC) :: rowE 3 1 n.ov n.os.length (n.os.map (Value.int .i64)) :: boxE b5 #[.int .i64 n.ins, n.sv, u, n.ov] 28 :: boxE b1 #[.int .i64 0, .slice none 0 0, .slice none 0 0, .slice none 0 0] 28 :: l)) (sx 29 (congrArg some e11.1) (sub_nil _)) (by first | (simp only [p8, v8, e11.2, List.flatMap_cons, List.flatMap_nil, List.append_nil, List.nil_append, List.cons_append]; exact List.Sublist.refl _) | simp [p8, v8, e11.2]) ?_
    exact rq_mono (rq_buildSlice (z := .agg #[.int .i64 0, .int .i64 0]) (s := 2) (cs := ([xhR13, ((2 * (1 + n.ins + (n.ss.length : Int) + (gs.length : Int))) - 2) + (xhR16 / 7)].map (Value.int .i64))) rfl Try.underlying25 (by kernel_rfl) (by decide) rfl (by kernel_rfl) rfl) (fun v_ p_ h => by show IsRow_o 80 2 1 ([(intOf_o (vf 4)), ((2 * (1 + n.ins + (n.ss.length : Int) + (gs.length : Int))) - 2) + ((intOf_o (vf 8)) / 7)].map (Value.int .i64)) v_ p_; rw [v4, v8]; exact h)
  ·
   intro vf pf hmu hR
   have e1 : (vf 1) = u ∧ (pf 1) = [] := hR 1 (by decide)
   have e4 : (∃ pm_, (pf 4) = [pm_] ∧ (fun u_ p_ => (∃ x_ : Int, u_ = .int .i64 x_ ∧ 0 ≤ x_ ∧ x_ < 2 * (1 + n.ins + (n.ss.length : Int) + (gs.length : Int))) ∧ p_ = curE g a len cap) (vf 4) pm_) := hR 4 (by decide)
   obtain ⟨p12, p4, hR13⟩ := e4
   obtain ⟨v11, v4⟩ : ∃ x, vf 4 = x := ⟨_, rfl⟩
   rw [v4] at hR13
   obtain ⟨⟨xhR13, rfl, xhR130, xhR131⟩, rfl⟩ := hR13
   have e8 : (∃ pm_, (pf 8) = [pm_] ∧ (fun u_ p_ => (∃ x_ : Int, u_ = .int .i64 x_ ∧ 0 ≤ x_ ∧ x_ < 8) ∧ p_ = curE g a len cap) (vf 8) pm_) := hR 8 (by decide)
   obtain ⟨p15, p8, hR16⟩ := e8
   obtain ⟨v14, v8⟩ : ∃ x, vf 8 = x := ⟨_, rfl⟩
   rw [v8] at hR16
   obtain ⟨⟨xhR16, rfl, xhR160, xhR161⟩, rfl⟩ := hR16
   have e12 : IsRow_o 80 2 1 ([(intOf_o (vf 4)), ((2 * (1 + n.ins + (n.ss.length : Int) + (gs.length : Int))) - 2) + ((intOf_o (vf 8)) / 7)].map (Value.int .i64)) (vf 12) (pf 12) := hR 12 (by decide)
   rw [v4, v8] at e12; try simp only [intOf_o] at e12
   obtain ⟨g17, v12, p12⟩ := e12
   have q0 : (vf 0) = .pointer (some ⟨b5, 0 + 2, none⟩) ∧ (pf 0) = [] := hR 0 (by decide)
   have q1 : (vf 1) = u ∧ (pf 1) = [] := hR 1 (by decide)
   have q2 : (vf 2) = .pointer (some ⟨g, 0, none⟩) ∧ (pf 2) = [] := hR 2 (by decide)
   have q3 : (vf 3) = .int .i64 (2 * (1 + n.ins + (n.ss.length : Int) + (gs.length : Int))) ∧ (pf 3) = [] := hR 3 (by decide)
   have q5 : (vf 5) = .int .i64 (2 * (1 + n.ins + (n.ss.length : Int) + (gs.length : Int))) ∧ (pf 5) = [] := hR 5 (by decide)
   have q6 : (vf 6) = .int .i64 ((2 * (1 + n.ins + (n.ss.length : Int) + (gs.length : Int))) - 2) ∧ (pf 6) = [] := hR 6 (by decide)
   have q7 : (vf 7) = .pointer (some ⟨g, 0, none⟩) ∧ (pf 7) = [] := hR 7 (by decide)
   have q9 : (vf 9) = .int .i64 ((intOf_o (vf 8)) / 7) ∧ (pf 9) = [] := hR 9 (by decide)
   have q10 : (vf 10) = .int .i64 (((2 * (1 + n.ins + (n.ss.length : Int) + (gs.length : Int))) - 2) + ((intOf_o (vf 8)) / 7)) ∧ (pf 10) = [] := hR 10 (by decide)
   have q11 : (vf 11) = .agg #[.int .i64 (intOf_o (vf 4)), .int .i64 (((2 * (1 + n.ins + (n.ss.length : Int) + (gs.length : Int))) - 2) + ((intOf_o (vf 8)) / 7))] ∧ (pf 11) = [] := hR 11 (by decide)
   refine hl_less (l' := (curE g a len cap :: rowE 80 2 (.slice (some ⟨g17, 0, none⟩) 1 1) 1 ([xhR13, ((2 * (1 + n.ins + (n.ss.length : Int) + (gs.length : Int))) - 2) + (xhR16 / 7)].map (Value.int .i64)) :: sqsE n.sv n.ss :: rowE 80 2 u gs.length (gs.flatMap anC) :: rowE 3 1 n.ov n.os.length (n.os.map (Value.int .i64)) :: boxE b5 #[.int .i64 n.ins, n.sv, u, n.ov] 28 :: boxE b1 #[.int .i64 0, .slice none 0 0, .slice none 0 0, .slice none 0 0] 28 :: l)) (sx 0 rfl (sx 2 rfl (sx 3 rfl (sx 4 rfl (sx 5 rfl (sx 12 rfl (sx 19 (congrArg some e1.1) (sx 30 (congrArg some v12) (sub_nil _))))))))) (by first | (simp only [p8, v8, p12, v12, q0.2, q1.2, q2.2, q3.2, q5.2, q6.2, q7.2, q9.2, q10.2, q11.2, List.flatMap_cons, List.flatMap_nil, List.append_nil, List.nil_append, List.cons_append]; exact List.Sublist.refl _) | simp [p8, v8, p12, v12, q0.2, q1.2, q2.2, q3.2, q5.2, q6.2, q7.2, q9.2, q10.2, q11.2]) ?_
   simp only [List.drop_succ_cons, List.drop_zero]
   refine hl_append (i := 3) (z := .agg #[.int .i64 0, .int .i64 0]) (bytes := 16) (n' := (gs ++ [(An.mk xhR13 (((2 * (1 + n.ins + (n.ss.length : Int) + (gs.length : Int))) - 2) + (xhR16 / 7)))]).length) (xs' := ((gs ++ [(An.mk xhR13 (((2 * (1 + n.ins + (n.ss.length : Int) + (gs.length : Int))) - 2) + (xhR16 / 7)))]).flatMap anC)) (L := fun v18 => (curE g a len cap :: rowE 80 2 (.slice (some ⟨g17, 0, none⟩) 1 1) 1 ([xhR13, ((2 * (1 + n.ins + (n.ss.length : Int) + (gs.length : Int))) - 2) + (xhR16 / 7)].map (Value.int .i64)) :: sqsE n.sv n.ss :: rowE 80 2 v18 ((gs ++ [(An.mk xhR13 (((2 * (1 + n.ins + (n.ss.length : Int) + (gs.length : Int))) - 2) + (xhR16 / 7)))]).length) ((gs ++ [(An.mk xhR13 (((2 * (1 + n.ins + (n.ss.length : Int) + (gs.length : Int))) - 2) + (xhR16 / 7)))]).flatMap anC) :: rowE 3 1 n.ov n.os.length (n.os.map (Value.int .i64)) :: boxE b5 #[.int .i64 n.ins, n.sv, u, n.ov] 28 :: boxE b1 #[.int .i64 0, .slice none 0 0, .slice none 0 0, .slice none 0 0] 28 :: l)) rfl rfl rfl rfl Try.underlying25 (by kernel_rfl) (by kernel_rfl) rfl rfl rfl (rd_row 1 rfl) (ints_one _) (by first | omega | (simp only [List.length_append, List.length_cons, List.length_nil]; omega)) (len_app gs [(An.mk xhR13 (((2 * (1 + n.ins + (n.ss.length : Int) + (gs.length : Int))) - 2) + (xhR16 / 7)))]) (flat_app1 anC gs (An.mk xhR13 (((2 * (1 + n.ins + (n.ss.length : Int) + (gs.length : Int))) - 2) + (xhR16 / 7))) _ rfl) (fun _ => rfl) ?_
   intro v18
   refine hl_v rfl rfl rfl (rv_field (k0 := 2) rfl (by kernel_rfl) rfl) ?_
   refine hl_one (i := 3) rfl (fun ho19 => ?_)
   refine hl_storeBox (i := 5) (l' := (curE g a len cap :: rowE 80 2 (.slice (some ⟨g17, 0, none⟩) 1 1) 1 ([xhR13, ((2 * (1 + n.ins + (n.ss.length : Int) + (gs.length : Int))) - 2) + (xhR16 / 7)].map (Value.int .i64)) :: sqsE n.sv n.ss :: rowE 80 2 v18 ((gs ++ [(An.mk xhR13 (((2 * (1 + n.ins + (n.ss.length : Int) + (gs.length : Int))) - 2) + (xhR16 / 7)))]).length) ((gs ++ [(An.mk xhR13 (((2 * (1 + n.ins + (n.ss.length : Int) + (gs.length : Int))) - 2) + (xhR16 / 7)))]).flatMap anC) :: rowE 3 1 n.ov n.os.length (n.os.map (Value.int .i64)) :: boxE b5 #[.int .i64 n.ins, n.sv, v18, n.ov] 28 :: boxE b1 #[.int .i64 0, .slice none 0 0, .slice none 0 0, .slice none 0 0] 28 :: l)) rfl rfl rfl (by kernel_rfl) rfl rfl ho19 rfl rfl rfl ?_
   refine hl_less (sx 0 rfl (sx 2 rfl (sx 3 rfl (sx 4 rfl (sx 5 rfl (sx 12 rfl (sub_nil _))))))) (.refl _) ?_
   refine hl_nil ?_
   refine hq_block_normal ?_
   refine hq_then ?_
   refine hc_region ?_
   refine hl_v rfl rfl rfl (rv_ev rfl) ?_
   refine hl_v rfl rfl rfl (rv_sub rfl rfl rfl (by constructor <;> omega)) ?_
   refine hl_v rfl rfl rfl (rv_ev rfl) ?_
   refine hl_less (sx 0 rfl (sx 2 rfl (sx 3 rfl (sx 4 rfl (sx 5 rfl (sx 12 rfl (sub_nil _))))))) (.refl _) ?_
   refine hl_nil ?_
   refine hq_conv (sqsE n.sv n.ss :: rowE 80 2 v18 ((gs ++ [(An.mk xhR13 (((2 * (1 + n.ins + (n.ss.length : Int) + (gs.length : Int))) - 2) + (xhR16 / 7)))]).length) ((gs ++ [(An.mk xhR13 (((2 * (1 + n.ins + (n.ss.length : Int) + (gs.length : Int))) - 2) + (xhR16 / 7)))]).flatMap anC) :: rowE 3 1 n.ov n.os.length (n.os.map (Value.int .i64)) :: curE g a len cap :: boxE b5 #[.int .i64 n.ins, n.sv, v18, n.ov] 28 :: boxE b1 #[.int .i64 0, .slice none 0 0, .slice none 0 0, .slice none 0 0] 28 :: l) (conv_pick (src := [curE g a len cap, rowE 80 2 (.slice (some ⟨g17, 0, none⟩) 1 1) 1 ([xhR13, ((2 * (1 + n.ins + (n.ss.length : Int) + (gs.length : Int))) - 2) + (xhR16 / 7)].map (Value.int .i64)), sqsE n.sv n.ss, rowE 80 2 v18 ((gs ++ [(An.mk xhR13 (((2 * (1 + n.ins + (n.ss.length : Int) + (gs.length : Int))) - 2) + (xhR16 / 7)))]).length) ((gs ++ [(An.mk xhR13 (((2 * (1 + n.ins + (n.ss.length : Int) + (gs.length : Int))) - 2) + (xhR16 / 7)))]).flatMap anC), rowE 3 1 n.ov n.os.length (n.os.map (Value.int .i64)), boxE b5 #[.int .i64 n.ins, n.sv, v18, n.ov] 28, boxE b1 #[.int .i64 0, .slice none 0 0, .slice none 0 0, .slice none 0 0] 28]) (dst := [sqsE n.sv n.ss, rowE 80 2 v18 ((gs ++ [(An.mk xhR13 (((2 * (1 + n.ins + (n.ss.length : Int) + (gs.length : Int))) - 2) + (xhR16 / 7)))]).length) ((gs ++ [(An.mk xhR13 (((2 * (1 + n.ins + (n.ss.length : Int) + (gs.length : Int))) - 2) + (xhR16 / 7)))]).flatMap anC), rowE 3 1 n.ov n.os.length (n.os.map (Value.int .i64)), curE g a len cap, boxE b5 #[.int .i64 n.ins, n.sv, v18, n.ov] 28, boxE b1 #[.int .i64 0, .slice none 0 0, .slice none 0 0, .slice none 0 0] 28]) (l := l) [2, 3, 4, 0, 5, 6] (by decide) rfl) ?_
   exact hq_round3 (k - 1) v18 (gs ++ [(An.mk xhR13 (((2 * (1 + n.ins + (n.ss.length : Int) + (gs.length : Int))) - 2) + (xhR16 / 7)))]) ⟨by omega, by rw [List.length_append, List.length_singleton]; omega, nt_app hno _ (by omega) (by unfold LtOk; omega) (by unfold LtOk; omega)⟩ (by omega) (sx 0 rfl (sx 2 rfl (sx 3 rfl (sx 4 rfl (sub_nil _))))) ((.cons_cons _ (.cons_cons _ (.cons_cons _ (.cons_cons _ (.cons_cons _ (.cons_cons _ (.refl _))))))))
 ·
  refine hl_less (sx 0 rfl (sx 2 rfl (sx 3 rfl (sx 4 rfl (sx 12 rfl (sub_nil _)))))) (.refl _) ?_
  refine hl_nil ?_
  refine hq_then ?_
  refine hc_false rfl ?_
  refine hc_exit ?_
  refine hq_then_exit ?_
  refine hq_then_exit ?_
  refine hq_block_exit ?_
  refine hq_then ?_
  refine hc_seq ?_
  refine hc_conv (curE g a len cap :: sqsE n.sv n.ss :: rowE 80 2 u gs.length (gs.flatMap anC) :: rowE 3 1 n.ov n.os.length (n.os.map (Value.int .i64)) :: boxE b5 #[.int .i64 n.ins, n.sv, u, n.ov] 28 :: boxE b1 #[.int .i64 0, .slice none 0 0, .slice none 0 0, .slice none 0 0] 28 :: l) (conv_pick (src := [sqsE n.sv n.ss, rowE 80 2 u gs.length (gs.flatMap anC), rowE 3 1 n.ov n.os.length (n.os.map (Value.int .i64)), curE g a len cap, boxE b5 #[.int .i64 n.ins, n.sv, u, n.ov] 28, boxE b1 #[.int .i64 0, .slice none 0 0, .slice none 0 0, .slice none 0 0] 28]) (dst := [curE g a len cap, sqsE n.sv n.ss, rowE 80 2 u gs.length (gs.flatMap anC), rowE 3 1 n.ov n.os.length (n.os.map (Value.int .i64)), boxE b5 #[.int .i64 n.ins, n.sv, u, n.ov] 28, boxE b1 #[.int .i64 0, .slice none 0 0, .slice none 0 0, .slice none 0 0] 28]) (l := l) [3, 0, 1, 2, 4, 5] (by decide) rfl) ?_
  refine hc_draw2 (l := (sqsE n.sv n.ss :: rowE 80 2 u gs.length (gs.flatMap anC) :: rowE 3 1 n.ov n.os.length (n.os.map (Value.int .i64)) :: boxE b5 #[.int .i64 n.ins, n.sv, u, n.ov] 28 :: boxE b1 #[.int .i64 0, .slice none 0 0, .slice none 0 0, .slice none 0 0] 28 :: l)) (by kernel_rfl) 13 [0, 1, 2, 3, 4, 5, 6, 7, 8, 9, 10, 11, 12] (List.take 13 _) (List.drop 13 _) [[], [0], [1], [2], [], [4], [5], [6], [], [8], [7, 9], [3, 9, 10], []] [33, 34, 35, 36, 37, 38, 39, 40, 41, 42, 43, 44, 45] (fun i_ vs_ v_ p_ => match i_ with | 0 => v_ = .agg #[.int .i64 n.ins, n.sv, u, n.ov] ∧ p_ = [] | 1 => v_ = .int .i64 (1 + n.ins + (n.ss.length : Int) + (gs.length : Int)) ∧ p_ = [] | 2 => v_ = .int .i64 (2 * (1 + n.ins + (n.ss.length : Int) + (gs.length : Int))) ∧ p_ = [] | 3 => v_ = .int .i64 ((2 * (1 + n.ins + (n.ss.length : Int) + (gs.length : Int))) - 2) ∧ p_ = [] | 4 => v_ = .agg #[.int .i64 n.ins, n.sv, u, n.ov] ∧ p_ = [] | 5 => v_ = .int .i64 (1 + n.ins + (n.ss.length : Int) + (gs.length : Int)) ∧ p_ = [] | 6 => v_ = .int .i64 (2 * (1 + n.ins + (n.ss.length : Int) + (gs.length : Int))) ∧ p_ = [] | 7 => v_ = .int .i64 ((2 * (1 + n.ins + (n.ss.length : Int) + (gs.length : Int))) - 1) ∧ p_ = [] | 8 => v_ = .pointer (some ⟨g, 0, none⟩) ∧ p_ = [] | 9 => (∃ pm_, p_ = [pm_] ∧ (fun u_ p_ => (∃ x_ : Int, u_ = .int .i64 x_ ∧ 0 ≤ x_ ∧ x_ < 6) ∧ p_ = curE g a len cap) v_ pm_) | 10 => v_ = .int .i64 (((2 * (1 + n.ins + (n.ss.length : Int) + (gs.length : Int))) - 1) - (intOf_o (List.getD vs_ 1 undef))) ∧ p_ = [] | 11 => IsRow_o 3 1 2 ([(2 * (1 + n.ins + (n.ss.length : Int) + (gs.length : Int))) - 2, ((2 * (1 + n.ins + (n.ss.length : Int) + (gs.length : Int))) - 1) - (intOf_o (List.getD vs_ 1 undef))].map (Value.int .i64)) v_ p_ | 12 => v_ = .pointer (some ⟨b5, 0 + 3, none⟩) ∧ p_ = [] | _ => True) [[], [0], [1], [2], [], [4], [5], [6], [], [8], [7, 9], [3, 9, 10], []] [none, none, none, none, none, none, none, none, none, some 14, none, none, none] [curE g a len cap] [0, 1, 2, 3, 4, 5, 6, 7, 8, 9, 10, 11, 12] 14 (List.take_append_drop 13 _).symm (by kernel_rfl) (by kernel_rfl) (by kernel_rfl) rfl rfl ?_ ?_
  ·
   refine ⟨?_, ?_, ?_, ?_, ?_, ?_, ?_, ?_, ?_, ?_, ?_, ?_, ?_, trivial⟩
   ·
    intro vf pf hmu hR
    refine Or.inl ⟨rfl, ?_⟩
    show RunQ _ _ _ (([] : List Nat).flatMap pf ++ _) (envOf _ vf [] ++ _) _ _
    refine rq_less (sx 3 rfl (sub_nil _)) (List.sublist_append_right _ _) ?_
    exact rq_v (rv_loadN (cs := [.int .i64 n.ins, n.sv, u, n.ov]) rfl (by kernel_rfl) (by kernel_rfl) rfl rfl (box_part 3 rfl 0 rfl))
   ·
    intro vf pf hmu hR
    have e0 : (vf 0) = .agg #[.int .i64 n.ins, n.sv, u, n.ov] ∧ (pf 0) = [] := hR 0 (by decide)
    refine Or.inl ⟨rfl, ?_⟩
    show RunQ _ _ _ (([0] : List Nat).flatMap pf ++ _) (envOf _ vf [0] ++ _) _ _
    refine rq_less (sx 33 (congrArg some e0.1) (sub_nil _)) (List.sublist_append_right _ _) ?_
    exact (rq_call (by kernel_rfl) rfl (fun w hm => ret_ans (specNodeCount_yes (Nt.mk n.ins n.sv u n.ov n.ss gs n.os) w (nt_rds3 0 1 2 rfl rfl rfl w hm) hno)))
   ·
    intro vf pf hmu hR
    have e1 : (vf 1) = .int .i64 (1 + n.ins + (n.ss.length : Int) + (gs.length : Int)) ∧ (pf 1) = [] := hR 1 (by decide)
    refine Or.inl ⟨rfl, ?_⟩
    show RunQ _ _ _ (([1] : List Nat).flatMap pf ++ _) (envOf _ vf [1] ++ _) _ _
    refine rq_less (sx 34 (congrArg some e1.1) (sub_nil _)) (List.sublist_append_right _ _) ?_
    exact rq_v (rv_mul rfl rfl rfl (by constructor <;> omega))
   ·
    intro vf pf hmu hR
    have e2 : (vf 2) = .int .i64 (2 * (1 + n.ins + (n.ss.length : Int) + (gs.length : Int))) ∧ (pf 2) = [] := hR 2 (by decide)
    refine Or.inl ⟨rfl, ?_⟩
    show RunQ _ _ _ (([2] : List Nat).flatMap pf ++ _) (envOf _ vf [2] ++ _) _ _
    refine rq_less (sx 35 (congrArg some e2.1) (sub_nil _)) (List.sublist_append_right _ _) ?_
    exact rq_v (rv_sub rfl rfl rfl (by constructor <;> omega))
   ·
    intro vf pf hmu hR
    refine Or.inl ⟨rfl, ?_⟩
    show RunQ _ _ _ (([] : List Nat).flatMap pf ++ _) (envOf _ vf [] ++ _) _ _
    refine rq_less (sx 3 rfl (sub_nil _)) (List.sublist_append_right _ _) ?_
    exact rq_v (rv_loadN (cs := [.int .i64 n.ins, n.sv, u, n.ov]) rfl (by kernel_rfl) (by kernel_rfl) rfl rfl (box_part 3 rfl 0 rfl))
   ·
    intro vf pf hmu hR
    have e4 : (vf 4) = .agg #[.int .i64 n.ins, n.sv, u, n.ov] ∧ (pf 4) = [] := hR 4 (by decide)
    refine Or.inl ⟨rfl, ?_⟩
    show RunQ _ _ _ (([4] : List Nat).flatMap pf ++ _) (envOf _ vf [4] ++ _) _ _
    refine rq_less (sx 37 (congrArg some e4.1) (sub_nil _)) (List.sublist_append_right _ _) ?_
    exact (rq_call (by kernel_rfl) rfl (fun w hm => ret_ans (specNodeCount_yes (Nt.mk n.ins n.sv u n.ov n.ss gs n.os) w (nt_rds3 0 1 2 rfl rfl rfl w hm) hno)))
   ·
    intro vf pf hmu hR
    have e5 : (vf 5) = .int .i64 (1 + n.ins + (n.ss.length : Int) + (gs.length : Int)) ∧ (pf 5) = [] := hR 5 (by decide)
    refine Or.inl ⟨rfl, ?_⟩
    show RunQ _ _ _ (([5] : List Nat).flatMap pf ++ _) (envOf _ vf [5] ++ _) _ _
    refine rq_less (sx 38 (congrArg some e5.1) (sub_nil _)) (List.sublist_append_right _ _) ?_
    exact rq_v (rv_mul rfl rfl rfl (by constructor <;> omega))
   ·
    intro vf pf hmu hR
    have e6 : (vf 6) = .int .i64 (2 * (1 + n.ins + (n.ss.length : Int) + (gs.length : Int))) ∧ (pf 6) = [] := hR 6 (by decide)
    refine Or.inl ⟨rfl, ?_⟩
    show RunQ _ _ _ (([6] : List Nat).flatMap pf ++ _) (envOf _ vf [6] ++ _) _ _
    refine rq_less (sx 39 (congrArg some e6.1) (sub_nil _)) (List.sublist_append_right _ _) ?_
    exact rq_v (rv_sub rfl rfl rfl (by constructor <;> omega))
   ·
    intro vf pf hmu hR
    refine Or.inl ⟨rfl, ?_⟩
    show RunQ _ _ _ (([] : List Nat).flatMap pf ++ _) (envOf _ vf [] ++ _) _ _
    refine rq_less (sx 0 rfl (sub_nil _)) (List.sublist_append_right _ _) ?_
    exact rq_v (rv_ev rfl)
   ·
    intro vf pf hmu hR
    have e8 : (vf 8) = .pointer (some ⟨g, 0, none⟩) ∧ (pf 8) = [] := hR 8 (by decide)
    refine Or.inl ⟨rfl, ?_⟩
    show RunM _ _ _ (pf 14) (([8] : List Nat).flatMap pf ++ _) (envOf _ vf [8] ++ _) _ _
    rw [hmu]
    refine rm_less (X' := (sqsE n.sv n.ss :: rowE 80 2 u gs.length (gs.flatMap anC) :: rowE 3 1 n.ov n.os.length (n.os.map (Value.int .i64)) :: boxE b5 #[.int .i64 n.ins, n.sv, u, n.ov] 28 :: boxE b1 #[.int .i64 0, .slice none 0 0, .slice none 0 0, .slice none 0 0] 28 :: l)) (sx 41 (congrArg some e8.1) (sub_nil _)) (by first | (simp only [e8.2, List.flatMap_cons, List.flatMap_nil, List.append_nil, List.nil_append, List.cons_append]; exact List.Sublist.refl _) | simp [e8.2]) ?_
    exact rq_callM (R := (fun u_ p_ => (∃ x_ : Int, u_ = .int .i64 x_ ∧ 0 ≤ x_ ∧ x_ < 6) ∧ p_ = curE g a len cap)) (by kernel_rfl) rfl (fun L w hX hm => belowN_mut g a len cap z 6 _ _ _ hm hb (by constructor <;> omega))
   ·
    intro vf pf hmu hR
    have e7 : (vf 7) = .int .i64 ((2 * (1 + n.ins + (n.ss.length : Int) + (gs.length : Int))) - 1) ∧ (pf 7) = [] := hR 7 (by decide)
    have e9 : (∃ pm_, (pf 9) = [pm_] ∧ (fun u_ p_ => (∃ x_ : Int, u_ = .int .i64 x_ ∧ 0 ≤ x_ ∧ x_ < 6) ∧ p_ = curE g a len cap) (vf 9) pm_) := hR 9 (by decide)
    obtain ⟨p21, p9, hR22⟩ := e9
    obtain ⟨v20, v9⟩ : ∃ x, vf 9 = x := ⟨_, rfl⟩
    rw [v9] at hR22
    obtain ⟨⟨xhR22, rfl, xhR220, xhR221⟩, rfl⟩ := hR22
    refine Or.inl ⟨rfl, ?_⟩
    show RunQ _ _ _ (([7, 9] : List Nat).flatMap pf ++ _) (envOf _ vf [7, 9] ++ _) _ _
    refine rq_less (l' := (curE g a len cap :: sqsE n.sv n.ss :: rowE 80 2 u gs.length (gs.flatMap anC) :: rowE 3 1 n.ov n.os.length (n.os.map (Value.int .i64)) :: boxE b5 #[.int .i64 n.ins, n.sv, u, n.ov] 28 :: boxE b1 #[.int .i64 0, .slice none 0 0, .slice none 0 0, .slice none 0 0] 28 :: l)) (sx 40 (congrArg some e7.1) (sx 42 (congrArg some v9) (sub_nil _))) (by first | (simp only [p9, v9, e7.2, List.flatMap_cons, List.flatMap_nil, List.append_nil, List.nil_append, List.cons_append]; exact List.Sublist.refl _) | simp [p9, v9, e7.2]) ?_
    exact rq_mono (rq_v (rv_sub rfl rfl rfl (by constructor <;> omega))) (fun _ _ h => ⟨h.1.trans (by show _ = (.int .i64 (((2 * (1 + n.ins + (n.ss.length : Int) + (gs.length : Int))) - 1) - (intOf_o (vf 9))) : Value); first | (rw [v9]; done) | (rw [v9]; rfl)), h.2⟩)
   ·
    intro vf pf hmu hR
    have e3 : (vf 3) = .int .i64 ((2 * (1 + n.ins + (n.ss.length : Int) + (gs.length : Int))) - 2) ∧ (pf 3) = [] := hR 3 (by decide)
    have e9 : (∃ pm_, (pf 9) = [pm_] ∧ (fun u_ p_ => (∃ x_ : Int, u_ = .int .i64 x_ ∧ 0 ≤ x_ ∧ x_ < 6) ∧ p_ = curE g a len cap) (vf 9) pm_) := hR 9 (by decide)
    obtain ⟨p21, p9, hR22⟩ := e9
    obtain ⟨v20, v9⟩ : ∃ x, vf 9 = x := ⟨_, rfl⟩
    rw [v9] at hR22
    obtain ⟨⟨xhR22, rfl, xhR220, xhR221⟩, rfl⟩ := hR22
    have e10 : (vf 10) = .int .i64 (((2 * (1 + n.ins + (n.ss.length : Int) + (gs.length : Int))) - 1) - (intOf_o (vf 9))) ∧ (pf 10) = [] := hR 10 (by decide)
    rw [v9] at e10; try simp only [intOf_o] at e10
    refine Or.inl ⟨rfl, ?_⟩
    show RunQ _ _ _ (([3, 9, 10] : List Nat).flatMap pf ++ _) (envOf _ vf [3, 9, 10] ++ _) _ _
    refine rq_less (l' := (curE g a len cap :: sqsE n.sv n.ss :: rowE 80 2 u gs.length (gs.flatMap anC) :: rowE 3 1 n.ov n.os.length (n.os.map (Value.int .i64)) :: boxE b5 #[.int .i64 n.ins, n.sv, u, n.ov] 28 :: boxE b1 #[.int .i64 0, .slice none 0 0, .slice none 0 0, .slice none 0 0] 28 :: l)) (sx 36 (congrArg some e3.1) (sx 43 (congrArg some e10.1) (sub_nil _))) (by first | (simp only [p9, v9, e3.2, e10.2, List.flatMap_cons, List.flatMap_nil, List.append_nil, List.nil_append, List.cons_append]; exact List.Sublist.refl _) | simp [p9, v9, e3.2, e10.2]) ?_
    exact rq_mono (rq_buildSlice (z := .int .i64 0) (s := 1) (cs := ([(2 * (1 + n.ins + (n.ss.length : Int) + (gs.length : Int))) - 2, ((2 * (1 + n.ins + (n.ss.length : Int) + (gs.length : Int))) - 1) - xhR22].map (Value.int .i64))) rfl Try.underlying26 (by kernel_rfl) (by decide) rfl (by kernel_rfl) rfl) (fun v_ p_ h => by show IsRow_o 3 1 2 ([(2 * (1 + n.ins + (n.ss.length : Int) + (gs.length : Int))) - 2, ((2 * (1 + n.ins + (n.ss.length : Int) + (gs.length : Int))) - 1) - (intOf_o (vf 9))].map (Value.int .i64)) v_ p_; rw [v9]; exact h)
   ·
    intro vf pf hmu hR
    refine Or.inl ⟨rfl, ?_⟩
    show RunQ _ _ _ (([] : List Nat).flatMap pf ++ _) (envOf _ vf [] ++ _) _ _
    refine rq_less (sx 3 rfl (sub_nil _)) (List.sublist_append_right _ _) ?_
    exact rq_v (rv_field (k0 := 3) rfl (by kernel_rfl) rfl)
  ·
   intro vf pf hmu hR
   have e9 : (∃ pm_, (pf 9) = [pm_] ∧ (fun u_ p_ => (∃ x_ : Int, u_ = .int .i64 x_ ∧ 0 ≤ x_ ∧ x_ < 6) ∧ p_ = curE g a len cap) (vf 9) pm_) := hR 9 (by decide)
   obtain ⟨p21, p9, hR22⟩ := e9
   obtain ⟨v20, v9⟩ : ∃ x, vf 9 = x := ⟨_, rfl⟩
   rw [v9] at hR22
   obtain ⟨⟨xhR22, rfl, xhR220, xhR221⟩, rfl⟩ := hR22
   have e11 : IsRow_o 3 1 2 ([(2 * (1 + n.ins + (n.ss.length : Int) + (gs.length : Int))) - 2, ((2 * (1 + n.ins + (n.ss.length : Int) + (gs.length : Int))) - 1) - (intOf_o (vf 9))].map (Value.int .i64)) (vf 11) (pf 11) := hR 11 (by decide)
   rw [v9] at e11; try simp only [intOf_o] at e11
   obtain ⟨g23, v11, p11⟩ := e11
   have e12 : (vf 12) = .pointer (some ⟨b5, 0 + 3, none⟩) ∧ (pf 12) = [] := hR 12 (by decide)
   have q0 : (vf 0) = .agg #[.int .i64 n.ins, n.sv, u, n.ov] ∧ (pf 0) = [] := hR 0 (by decide)
   have q1 : (vf 1) = .int .i64 (1 + n.ins + (n.ss.length : Int) + (gs.length : Int)) ∧ (pf 1) = [] := hR 1 (by decide)
   have q2 : (vf 2) = .int .i64 (2 * (1 + n.ins + (n.ss.length : Int) + (gs.length : Int))) ∧ (pf 2) = [] := hR 2 (by decide)
   have q3 : (vf 3) = .int .i64 ((2 * (1 + n.ins + (n.ss.length : Int) + (gs.length : Int))) - 2) ∧ (pf 3) = [] := hR 3 (by decide)
   have q4 : (vf 4) = .agg #[.int .i64 n.ins, n.sv, u, n.ov] ∧ (pf 4) = [] := hR 4 (by decide)
   have q5 : (vf 5) = .int .i64 (1 + n.ins + (n.ss.length : Int) + (gs.length : Int)) ∧ (pf 5) = [] := hR 5 (by decide)
   have q6 : (vf 6) = .int .i64 (2 * (1 + n.ins + (n.ss.length : Int) + (gs.length : Int))) ∧ (pf 6) = [] := hR 6 (by decide)
   have q7 : (vf 7) = .int .i64 ((2 * (1 + n.ins + (n.ss.length : Int) + (gs.length : Int))) - 1) ∧ (pf 7) = [] := hR 7 (by decide)
   have q8 : (vf 8) = .pointer (some ⟨g, 0, none⟩) ∧ (pf 8) = [] := hR 8 (by decide)
   have q10 : (vf 10) = .int .i64 (((2 * (1 + n.ins + (n.ss.length : Int) + (gs.length : Int))) - 1) - (intOf_o (vf 9))) ∧ (pf 10) = [] := hR 10 (by decide)
   have q12 : (vf 12) = .pointer (some ⟨b5, 0 + 3, none⟩) ∧ (pf 12) = [] := hR 12 (by decide)
   refine hl_less (l' := (curE g a len cap :: rowE 3 1 (.slice (some ⟨g23, 0, none⟩) 2 2) 2 ([(2 * (1 + n.ins + (n.ss.length : Int) + (gs.length : Int))) - 2, ((2 * (1 + n.ins + (n.ss.length : Int) + (gs.length : Int))) - 1) - xhR22].map (Value.int .i64)) :: sqsE n.sv n.ss :: rowE 80 2 u gs.length (gs.flatMap anC) :: rowE 3 1 n.ov n.os.length (n.os.map (Value.int .i64)) :: boxE b5 #[.int .i64 n.ins, n.sv, u, n.ov] 28 :: boxE b1 #[.int .i64 0, .slice none 0 0, .slice none 0 0, .slice none 0 0] 28 :: l)) (sx 0 rfl (sx 2 rfl (sx 3 rfl (sx 4 rfl (sx 12 rfl (sx 44 (congrArg some v11) (sx 45 (congrArg some e12.1) (sub_nil _)))))))) (by first | (simp only [p9, v9, p11, v11, q0.2, q1.2, q2.2, q3.2, q4.2, q5.2, q6.2, q7.2, q8.2, q10.2, q12.2, List.flatMap_cons, List.flatMap_nil, List.append_nil, List.nil_append, List.cons_append]; exact List.Sublist.refl _) | simp [p9, v9, p11, v11, q0.2, q1.2, q2.2, q3.2, q4.2, q5.2, q6.2, q7.2, q8.2, q10.2, q12.2]) ?_
   simp only [List.drop_succ_cons, List.drop_zero]
   refine hl_storeBox (i := 5) (l' := (curE g a len cap :: rowE 3 1 (.slice (some ⟨g23, 0, none⟩) 2 2) 2 ([(2 * (1 + n.ins + (n.ss.length : Int) + (gs.length : Int))) - 2, ((2 * (1 + n.ins + (n.ss.length : Int) + (gs.length : Int))) - 1) - xhR22].map (Value.int .i64)) :: sqsE n.sv n.ss :: rowE 80 2 u gs.length (gs.flatMap anC) :: rowE 3 1 n.ov n.os.length (n.os.map (Value.int .i64)) :: boxE b5 #[.int .i64 n.ins, n.sv, u, .slice (some ⟨g23, 0, none⟩) 2 2] 28 :: boxE b1 #[.int .i64 0, .slice none 0 0, .slice none 0 0, .slice none 0 0] 28 :: l)) rfl rfl rfl (by kernel_rfl) rfl rfl rfl rfl rfl rfl ?_
   refine hl_less (sx 0 rfl (sx 2 rfl (sx 3 rfl (sx 4 rfl (sx 12 rfl (sub_nil _)))))) (.refl _) ?_
   refine hl_nil ?_
   refine hq_then ?_
   refine hc_seq ?_
   refine hc_region ?_
   refine hl_v rfl rfl rfl (rv_loadN (cs := [.int .i64 n.ins, n.sv, u, .slice (some ⟨g23, 0, none⟩) 2 2]) rfl (by kernel_rfl) (by kernel_rfl) rfl rfl (box_part 5 rfl 0 rfl)) ?_
   refine hl_one (i := 3) rfl (fun ho24 => ?_)
   refine hl_storeBoxN (i := 6) (off := 0) (us := [.int .i64 n.ins, n.sv, u, .slice (some ⟨g23, 0, none⟩) 2 2]) (l' := (curE g a len cap :: rowE 3 1 (.slice (some ⟨g23, 0, none⟩) 2 2) 2 ([(2 * (1 + n.ins + (n.ss.length : Int) + (gs.length : Int))) - 2, ((2 * (1 + n.ins + (n.ss.length : Int) + (gs.length : Int))) - 1) - xhR22].map (Value.int .i64)) :: sqsE n.sv n.ss :: rowE 80 2 u gs.length (gs.flatMap anC) :: rowE 3 1 n.ov n.os.length (n.os.map (Value.int .i64)) :: boxE b5 #[.int .i64 n.ins, n.sv, u, .slice (some ⟨g23, 0, none⟩) 2 2] 28 :: boxE b1 #[.int .i64 n.ins, n.sv, u, .slice (some ⟨g23, 0, none⟩) 2 2] 28 :: l)) rfl rfl rfl (by kernel_rfl) rfl rfl rfl (all_cons rfl (all_cons o1n (all_cons ho24 (all_cons rfl all_nil)))) rfl rfl rfl ?_
   refine hl_less (sx 0 rfl (sx 2 rfl (sx 3 rfl (sx 4 rfl (sx 12 rfl (sub_nil _)))))) (.refl _) ?_
   refine hl_nil ?_
   refine hq_then ?_
   refine hc_ret ?_
   refine hq_oneX (i := 3) rfl (fun oA => ?_)
   refine hq_conv (sqsE n.sv n.ss :: rowE 80 2 u gs.length (gs.flatMap anC) :: rowE 3 1 (.slice (some ⟨g23, 0, none⟩) 2 2) 2 ([(2 * (1 + n.ins + (n.ss.length : Int) + (gs.length : Int))) - 2, ((2 * (1 + n.ins + (n.ss.length : Int) + (gs.length : Int))) - 1) - xhR22].map (Value.int .i64)) :: curE g a len cap :: boxE b1 #[.int .i64 n.ins, n.sv, u, .slice (some ⟨g23, 0, none⟩) 2 2] 28 :: l) (conv_pick (src := [curE g a len cap, rowE 3 1 (.slice (some ⟨g23, 0, none⟩) 2 2) 2 ([(2 * (1 + n.ins + (n.ss.length : Int) + (gs.length : Int))) - 2, ((2 * (1 + n.ins + (n.ss.length : Int) + (gs.length : Int))) - 1) - xhR22].map (Value.int .i64)), sqsE n.sv n.ss, rowE 80 2 u gs.length (gs.flatMap anC), rowE 3 1 n.ov n.os.length (n.os.map (Value.int .i64)), boxE b5 #[.int .i64 n.ins, n.sv, u, .slice (some ⟨g23, 0, none⟩) 2 2] 28, boxE b1 #[.int .i64 n.ins, n.sv, u, .slice (some ⟨g23, 0, none⟩) 2 2] 28]) (dst := [sqsE n.sv n.ss, rowE 80 2 u gs.length (gs.flatMap anC), rowE 3 1 (.slice (some ⟨g23, 0, none⟩) 2 2) 2 ([(2 * (1 + n.ins + (n.ss.length : Int) + (gs.length : Int))) - 2, ((2 * (1 + n.ins + (n.ss.length : Int) + (gs.length : Int))) - 1) - xhR22].map (Value.int .i64)), curE g a len cap, boxE b1 #[.int .i64 n.ins, n.sv, u, .slice (some ⟨g23, 0, none⟩) 2 2] 28]) (l := l) [2, 3, 1, 0, 6] (by decide) rfl) ?_
   refine hq_conv (bigE [curE g a len cap, ntE (Nt.mk n.ins n.sv u (.slice (some ⟨g23, 0, none⟩) 2 2) n.ss gs ([(2 * (1 + n.ins + (n.ss.length : Int) + (gs.length : Int))) - 2, ((2 * (1 + n.ins + (n.ss.length : Int) + (gs.length : Int))) - 1) - xhR22]))] :: boxE b1 #[.int .i64 n.ins, n.sv, u, .slice (some ⟨g23, 0, none⟩) 2 2] 28 :: l) (fun w hm => by
     have h1 : Mem _ ([sqsE n.sv n.ss, rowE 80 2 u gs.length (gs.flatMap anC), rowE 3 1 (.slice (some ⟨g23, 0, none⟩) 2 2) 2 ([(2 * (1 + n.ins + (n.ss.length : Int) + (gs.length : Int))) - 2, ((2 * (1 + n.ins + (n.ss.length : Int) + (gs.length : Int))) - 1) - xhR22].map (Value.int .i64))] ++ (curE g a len cap :: boxE b1 #[.int .i64 n.ins, n.sv, u, .slice (some ⟨g23, 0, none⟩) 2 2] 28 :: l)) w := hm
     have h2 : Mem _ (ntE (Nt.mk n.ins n.sv u (.slice (some ⟨g23, 0, none⟩) 2 2) n.ss gs ([(2 * (1 + n.ins + (n.ss.length : Int) + (gs.length : Int))) - 2, ((2 * (1 + n.ins + (n.ss.length : Int) + (gs.length : Int))) - 1) - xhR22])) :: curE g a len cap :: boxE b1 #[.int .i64 n.ins, n.sv, u, .slice (some ⟨g23, 0, none⟩) 2 2] 28 :: l) w := h1.big
     exact Mem.big (ps := [curE g a len cap, ntE (Nt.mk n.ins n.sv u (.slice (some ⟨g23, 0, none⟩) 2 2) n.ss gs ([(2 * (1 + n.ins + (n.ss.length : Int) + (gs.length : Int))) - 2, ((2 * (1 + n.ins + (n.ss.length : Int) + (gs.length : Int))) - 1) - xhR22]))]) (h2.perm (.swap _ _ _))) ?_
   exact hq_ret (rs := [.cell 2 28]) (vs := [.agg #[.int .i64 n.ins, n.sv, u, .slice (some ⟨g23, 0, none⟩) 2 2]]) rfl ⟨⟨b1, 0, [.int .i64 n.ins, n.sv, u, .slice (some ⟨g23, 0, none⟩) 2 2], rfl, rfl, by kernel_rfl, by kernel_rfl, box_part 1 rfl 0 rfl⟩, trivial⟩ rfl (fun w hm => ⟨_, bigE [curE g a len cap, ntE (Nt.mk n.ins n.sv u (.slice (some ⟨g23, 0, none⟩) 2 2) n.ss gs ([(2 * (1 + n.ins + (n.ss.length : Int) + (gs.length : Int))) - 2, ((2 * (1 + n.ins + (n.ss.length : Int) + (gs.length : Int))) - 1) - xhR22]))], rfl, ⟨(Nt.mk n.ins n.sv u (.slice (some ⟨g23, 0, none⟩) 2 2) n.ss gs ([(2 * (1 + n.ins + (n.ss.length : Int) + (gs.length : Int))) - 2, ((2 * (1 + n.ins + (n.ss.length : Int) + (gs.length : Int))) - 1) - xhR22])), rfl, rfl, ⟨o1n, oA, rfl⟩, nt_outs hno _ (by simp) (fun x hx => by simp only [List.mem_cons, List.not_mem_nil, or_false] at hx; unfold LtOk; omega), by dsimp only; omega, by dsimp only; omega, by dsimp only; omega⟩, hm.sub (.cons_cons _ (.cons _ (.refl _)))⟩)
set_option maxHeartbeats 4000000 in
set_option maxRecDepth 100000 in
theorem DrawDeep_ret (a : Option Addr) (len cap : Nat) (z : List Int) (w : World) (hb : BRow .u8 w a len cap z) (hlen : len ≤ 1048576) :
  Calls Try.prog 12 #[.slice a len cap] w (Ret w (fun v' post => ∃ n : Nt, v' = n.agg ∧ post = [ntE n] ∧ (n.sv.oneCell' = true ∧ n.av.oneCell' = true ∧ n.ov.oneCell' = true) ∧ NtOk n ∧ n.ins ≤ 6 ∧ (n.ss.length : Int) ≤ 3 ∧ (n.gs.length : Int) ≤ 16)) := by
 refine calls_hc (N := 12) (args := [.slice a len cap]) Try.func12 rfl rfl ?_
 refine hc_less _ (sx 0 rfl (sub_nil _)) (.refl _) ?_
 refine hc_seq ?_
 refine hc_region ?_
 refine hl_box rfl rfl rfl (rq_alloc (z := .agg #[.int .i64 0, .slice none 0 0, .slice none 0 0, .slice none 0 0]) rfl (by kernel_rfl)) ?_
 intro b1
 refine hl_less (sx 0 rfl (sx 2 rfl (sub_nil _))) (.refl _) ?_
 refine hl_nil ?_
 refine hq_then ?_
 refine hc_seq ?_
 refine hc_region ?_
 refine hl_v rfl rfl rfl (rv_ev rfl) ?_
 refine hl_q rfl rfl rfl (rq_call (by kernel_rfl) rfl (fun w hm => new_ret (hb.below hm.bel) hlen)) ?_
 intro v2 p3 hR4
 obtain ⟨ghR4, rfl, rfl⟩ := hR4
 refine hl_v rfl rfl rfl (rv_ev rfl) ?_
 refine hl_less (sx 0 rfl (sx 2 rfl (sx 3 rfl (sub_nil _)))) (.refl _) ?_
 refine hl_nil ?_
 refine hq_then ?_
 refine hc_seq ?_
 refine hc_seq ?_
 refine hc_region ?_
 refine hl_v rfl rfl rfl (rv_ev rfl) ?_
 refine hl_callM (R := (fun u_ p_ => (∃ b : Bool, u_ = .bool b) ∧ p_ = curE ghR4 a len cap)) 0 rfl rfl (by kernel_rfl) rfl rfl (fun l' w hm => once_mut hm hb (2) (by omega) (by omega)) ?_
 intro v5 p6 hR7
 obtain ⟨⟨xhR7, rfl⟩, rfl⟩ := hR7
 refine hl_eqL (l' := [curE ghR4 a len cap, boxE b1 #[.int .i64 0, .slice none 0 0, .slice none 0 0, .slice none 0 0] 28]) rfl ?_
 refine hl_bool (fun h8 => ?_) (fun h8 => ?_)
 ·
  refine hl_less (sx 0 rfl (sx 2 rfl (sx 3 rfl (sx 7 rfl (sub_nil _))))) (.refl _) ?_
  refine hl_nil ?_
  refine hq_then ?_
  refine hc_true rfl ?_
  refine hc_seq ?_
  refine hc_region ?_
  refine hl_v rfl rfl rfl (rv_ev rfl) ?_
  refine hl_callM (R := (fun u_ p_ => ∃ n : Nt, u_ = n.agg ∧ p_ = bigE [curE ghR4 a len cap, ntE n] ∧ (n.sv.oneCell' = true ∧ n.av.oneCell' = true ∧ n.ov.oneCell' = true) ∧ NtOk n ∧ n.ins ≤ 6 ∧ (n.ss.length : Int) ≤ 3 ∧ (n.gs.length : Int) ≤ 16)) 0 rfl rfl (by kernel_rfl) rfl rfl (fun l' w hm => l12Chain_mut ghR4 a len cap z _ _ _ hm hb) ?_
  intro v9 p10 hR11
  obtain ⟨n, rfl, rfl, ⟨o1n, o2n, o3n⟩, hn, hnq1, hnq2, hnq3⟩ := hR11
  refine hl_eqL (l' := [bigE [curE ghR4 a len cap, ntE n], boxE b1 #[.int .i64 0, .slice none 0 0, .slice none 0 0, .slice none 0 0] 28]) rfl ?_
  refine hl_storeBoxN (i := 1) (off := 0) (us := [.int .i64 n.ins, n.sv, n.av, n.ov]) (l' := [bigE [curE ghR4 a len cap, ntE n], boxE b1 #[.int .i64 n.ins, n.sv, n.av, n.ov] 28]) rfl rfl rfl (by kernel_rfl) rfl rfl rfl (all_cons rfl (all_cons o1n (all_cons o2n (all_cons o3n all_nil)))) rfl rfl rfl ?_
  refine hl_less (sx 0 rfl (sx 2 rfl (sx 3 rfl (sx 7 rfl (sub_nil _))))) (.refl _) ?_
  refine hl_nil ?_
  refine hq_then ?_
  refine hc_ret ?_
  refine hq_then_ret ?_
  refine hq_conv [bigE [curE ghR4 a len cap, ntE n], boxE b1 #[.int .i64 n.ins, n.sv, n.av, n.ov] 28] (conv_pick (src := [bigE [curE ghR4 a len cap, ntE n], boxE b1 #[.int .i64 n.ins, n.sv, n.av, n.ov] 28]) (dst := [bigE [curE ghR4 a len cap, ntE n], boxE b1 #[.int .i64 n.ins, n.sv, n.av, n.ov] 28]) (l := []) [0, 1] (by decide) rfl) ?_
  refine hq_conv [curE ghR4 a len cap, ntE n, boxE b1 #[.int .i64 n.ins, n.sv, n.av, n.ov] 28] conv_unbig ?_
  exact hq_retM (rs := [.cell 2 28]) (vs := [.agg #[.int .i64 n.ins, n.sv, n.av, n.ov]]) (post := [ntE n]) rfl ⟨⟨b1, 0, [.int .i64 n.ins, n.sv, n.av, n.ov], rfl, rfl, by kernel_rfl, by kernel_rfl, box_part 2 rfl 0 rfl⟩, trivial⟩ rfl ((.cons _ (.cons_cons _ (.cons _ .slnil)))) ⟨n, rfl, rfl, ⟨o1n, o2n, o3n⟩, hn, by omega, by omega, by omega⟩
 ·
  refine hl_less (sx 0 rfl (sx 2 rfl (sx 3 rfl (sx 7 rfl (sub_nil _))))) (.refl _) ?_
  refine hl_nil ?_
  refine hq_then ?_
  refine hc_false rfl ?_
  refine hc_skip ?_
  refine hq_then ?_
  refine hc_seq ?_
  refine hc_region ?_
  refine hl_v rfl rfl rfl (rv_ev rfl) ?_
  refine hl_callM (R := (fun u_ p_ => ∃ n : Nt, u_ = n.agg ∧ p_ = bigE [curE ghR4 a len cap, ntE n] ∧ (n.sv.oneCell' = true ∧ n.av.oneCell' = true ∧ n.ov.oneCell' = true) ∧ NtOk n ∧ n.ins ≤ 4 ∧ (n.ss.length : Int) ≤ 3 ∧ (n.gs.length : Int) ≤ 14)) 0 rfl rfl (by kernel_rfl) rfl rfl (fun l' w hm => l08Net_mut ghR4 a len cap z _ _ _ hm hb) ?_
  intro v12 p13 hR14
  obtain ⟨n, rfl, rfl, ⟨o1n, o2n, o3n⟩, hn, hnq1, hnq2, hnq3⟩ := hR14
  refine hl_eqL (l' := [bigE [curE ghR4 a len cap, ntE n], boxE b1 #[.int .i64 0, .slice none 0 0, .slice none 0 0, .slice none 0 0] 28]) rfl ?_
  refine hl_storeBoxN (i := 1) (off := 0) (us := [.int .i64 n.ins, n.sv, n.av, n.ov]) (l' := [bigE [curE ghR4 a len cap, ntE n], boxE b1 #[.int .i64 n.ins, n.sv, n.av, n.ov] 28]) rfl rfl rfl (by kernel_rfl) rfl rfl rfl (all_cons rfl (all_cons o1n (all_cons o2n (all_cons o3n all_nil)))) rfl rfl rfl ?_
  refine hl_less (sx 0 rfl (sx 2 rfl (sx 3 rfl (sx 7 rfl (sub_nil _))))) (.refl _) ?_
  refine hl_nil ?_
  refine hq_then ?_
  refine hc_ret ?_
  refine hq_conv [bigE [curE ghR4 a len cap, ntE n], boxE b1 #[.int .i64 n.ins, n.sv, n.av, n.ov] 28] (conv_pick (src := [bigE [curE ghR4 a len cap, ntE n], boxE b1 #[.int .i64 n.ins, n.sv, n.av, n.ov] 28]) (dst := [bigE [curE ghR4 a len cap, ntE n], boxE b1 #[.int .i64 n.ins, n.sv, n.av, n.ov] 28]) (l := []) [0, 1] (by decide) rfl) ?_
  refine hq_conv [curE ghR4 a len cap, ntE n, boxE b1 #[.int .i64 n.ins, n.sv, n.av, n.ov] 28] conv_unbig ?_
  exact hq_retM (rs := [.cell 2 28]) (vs := [.agg #[.int .i64 n.ins, n.sv, n.av, n.ov]]) (post := [ntE n]) rfl ⟨⟨b1, 0, [.int .i64 n.ins, n.sv, n.av, n.ov], rfl, rfl, by kernel_rfl, by kernel_rfl, box_part 2 rfl 0 rfl⟩, trivial⟩ rfl ((.cons _ (.cons_cons _ (.cons _ .slnil)))) ⟨n, rfl, rfl, ⟨o1n, o2n, o3n⟩, hn, by omega, by omega, by omega⟩
theorem srt_at {xs : List Int} (h : xs.Pairwise (· < ·)) {k : Nat} (h0 : 0 < k) (hk : k < xs.length) : xs.getD (k - 1) 0 < xs.getD k 0 := by
  rw [List.getD_eq_getElem?_getD, List.getD_eq_getElem?_getD, List.getElem?_eq_getElem hk, List.getElem?_eq_getElem (show k - 1 < xs.length by omega)]
  exact (List.pairwise_iff_getElem.1 h) (k - 1) k (by omega) hk (by omega)
end Go.Proofs.Ytakbbebpimlnpaa
