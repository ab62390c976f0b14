/- Texts of the law FnCoverLogic, part 3: what it uses. -/
import Derived.Test.YtakbbebpimlnpaaCv2
set_option linter.unusedVariables false
set_option linter.unusedSimpArgs false
namespace Go.Proofs.Ytakbbebpimlnpaa
open Go.RowKit Go.ChangeShapes
open Go.RowKit
set_option maxHeartbeats 4000000 in
set_option maxRecDepth 100000 in
theorem specNetOk_yes (n : Nt) (w : World) (hr : RdsNt w n) (hn : NtOk n) :
  Calls Try.prog 66 #[.agg #[.int .i64 n.ins, n.sv, n.av, n.ov]] w (Ans w (.bool true)) := by
 have hi0 := hn.i0
 have hi1 := hn.i1
 have hs1 := hn.s1
 have ha1 := hn.a1
 have ho1 := hn.o1
 have hcnt : n.cnt = 1 + n.ins + n.ss.length + n.gs.length := rfl
 have hfst : n.fst = 1 + n.ins + n.ss.length := rfl
 refine calls_hc (N := 104) (args := [.agg #[.int .i64 n.ins, n.sv, n.av, n.ov]]) Try.func66 rfl rfl ?_
 refine hc_less _ (sx 0 rfl (sub_nil _)) (.refl _) ?_
 refine hc_seq ?_
 refine hc_region ?_
 refine hl_box rfl rfl rfl (rq_box rfl rfl) ?_
 intro b1
 refine hl_v rfl rfl rfl (rv_ev rfl) ?_
 refine hl_less (sx 0 rfl (sx 1 rfl (sx 2 rfl (sub_nil _)))) (.refl _) ?_
 refine hl_nil ?_
 refine hq_then ?_
 refine hc_seq ?_
 refine hc_region ?_
 refine hl_v rfl rfl rfl (rv_loadN (cs := [.int .i64 n.ins, n.sv, n.av, n.ov]) rfl (by kernel_rfl) (by kernel_rfl) rfl rfl (box_part 0 rfl 0 rfl)) ?_
 refine hl_callV rfl rfl rfl (rq_call (by kernel_rfl) rfl (fun w hm => ret_ans (specNodeCount_yes n w (hr.below hm.bel) hn))) ?_
 refine hl_v rfl rfl rfl (rv_ev rfl) ?_
 refine hl_less (sx 0 rfl (sx 1 rfl (sx 2 rfl (sx 3 rfl (sub_nil _))))) (.refl _) ?_
 refine hl_nil ?_
 refine hq_then ?_
 refine hc_seq ?_
 refine hc_seq ?_
 refine hc_region ?_
 refine hl_v rfl rfl rfl (rv_ev rfl) ?_
 refine hl_eql rfl rfl rfl rfl rfl rfl (fun h2 => absurd h2 (by omega)) (fun h2 => ?_)
 refine hl_less (sx 0 rfl (sx 1 rfl (sx 2 rfl (sx 3 rfl (sx 12 rfl (sub_nil _)))))) (.refl _) ?_
 refine hl_nil ?_
 refine hq_then ?_
 refine hc_false rfl ?_
 refine hc_skip ?_
 refine hq_then ?_
 refine hc_seq ?_
 refine hc_seq ?_
 refine hc_region ?_
 refine hl_v rfl rfl rfl (rv_ev rfl) ?_
 refine hl_less (sx 0 rfl (sx 1 rfl (sx 2 rfl (sx 3 rfl (sx 4 rfl (sx 12 rfl (sub_nil _))))))) (.refl _) ?_
 refine hl_nil ?_
 refine hq_then ?_
 refine hc_block ?_
 refine hc_loop1 (α := Nat) (fun k => [boxE b1 #[.int .i64 n.ins, n.sv, n.av, n.ov] 28]) (fun k => [(0, .agg #[.int .i64 n.ins, n.sv, n.av, n.ov]), (1, .pointer (some ⟨b1, 0, none⟩)), (2, .bool false), (3, .int .i64 n.cnt), (4, .int .i64 (k : Int)), (12, .bool false)]) (fun k => k ≤ n.ss.length) (fun k => n.ss.length - k) 0 (Nat.zero_le _) (sx 0 rfl (sx 1 rfl (sx 2 rfl (sx 3 rfl (sx 4 rfl (sx 12 rfl (sub_nil _))))))) ((.cons_cons _ .slnil)) ?_
 intro k hi3
 have hk := hi3
 refine hc_seq ?_
 refine hc_seq ?_
 refine hc_region ?_
 refine hl_v rfl rfl rfl (rv_ev rfl) ?_
 refine hl_v rfl rfl rfl (rv_field (k0 := 1) rfl (by kernel_rfl) rfl) ?_
 refine hl_v rfl rfl rfl (rv_load rfl (by kernel_rfl) rfl (box_cell 0 rfl rfl)) ?_
 refine hl_v rfl rfl rfl (rv_len rfl Try.underlying24 rfl (rd_old hr.sq)) ?_
 refine hl_lss rfl rfl rfl rfl rfl rfl (fun h4 => ?_) (fun h4 => ?_)
 ·
  refine hl_less (sx 0 rfl (sx 1 rfl (sx 2 rfl (sx 3 rfl (sx 4 rfl (sx 12 rfl (sx 17 rfl (sub_nil _)))))))) (.refl _) ?_
  refine hl_nil ?_
  refine hq_then ?_
  refine hc_true rfl ?_
  refine hc_skip ?_
  refine hq_then ?_
  refine hc_seq ?_
  refine hc_block ?_
  refine hc_seq ?_
  refine hc_region ?_
  have hqk := (hn.sq _ (getD_memX (d := sq0) (show k < n.ss.length by omega))).kind
  refine hl_v rfl rfl rfl (rv_field (k0 := 1) rfl (by kernel_rfl) rfl) ?_
  refine hl_v rfl rfl rfl (rv_load rfl (by kernel_rfl) rfl (box_cell 0 rfl rfl)) ?_
  refine hl_v rfl rfl rfl (rv_ev rfl) ?_
  refine hl_v rfl rfl rfl (rv_index (s := 3) rfl Try.underlying24 (by kernel_rfl) rfl rfl (rd_old hr.sq) (by omega) (by first | omega | (simp only [List.length_set]; omega))) ?_
  refine hl_v rfl rfl rfl (rv_loadElN (us := [.int .i64 ((n.ss.getD k sq0).kd), .int .i64 ((n.ss.getD k sq0).it), (n.ss.getD k sq0).iv]) rfl (by kernel_rfl) (by kernel_rfl) rfl (rd_old hr.sq) (by omega) rfl (flat_atN sqC 3 (fun _ => rfl) n.ss sq0 (show k < _ by first | omega | (simp only [List.length_set]; omega)) rfl)) ?_
  refine hl_box rfl rfl rfl (rq_alloc (z := .agg #[.int .i64 0, .int .i64 0, .slice none 0 0]) rfl (by kernel_rfl)) ?_
  intro b5
  refine hl_storeBoxN (i := 0) (off := 0) (us := [.int .i64 ((n.ss.getD k sq0).kd), .int .i64 ((n.ss.getD k sq0).it), (n.ss.getD k sq0).iv]) (l' := [boxE b5 #[.int .i64 ((n.ss.getD k sq0).kd), .int .i64 ((n.ss.getD k sq0).it), (n.ss.getD k sq0).iv] 83, boxE b1 #[.int .i64 n.ins, n.sv, n.av, n.ov] 28]) rfl rfl rfl (by kernel_rfl) rfl rfl rfl (all_cons rfl (all_cons rfl (all_cons (hr.at (k := k) (by omega)).one all_nil))) rfl rfl rfl ?_
  refine hl_less (sx 0 rfl (sx 1 rfl (sx 2 rfl (sx 3 rfl (sx 4 rfl (sx 5 rfl (sx 12 rfl (sx 17 rfl (sub_nil _))))))))) (.refl _) ?_
  refine hl_nil ?_
  refine hq_then ?_
  refine hc_seq ?_
  refine hc_region ?_
  refine hl_v rfl rfl rfl (rv_field (k0 := 0) rfl (by kernel_rfl) rfl) ?_
  refine hl_v rfl rfl rfl (rv_load rfl (by kernel_rfl) rfl (box_cell 0 rfl rfl)) ?_
  refine hl_eql rfl rfl rfl rfl rfl rfl (fun h6 => ?_) (fun h6 => ?_)
  ·
   refine hl_v rfl rfl rfl (rv_ev rfl) ?_
   refine hl_v rfl rfl rfl (rv_field (k0 := 1) rfl (by kernel_rfl) rfl) ?_
   refine hl_v rfl rfl rfl (rv_load rfl (by kernel_rfl) rfl (box_cell 0 rfl rfl)) ?_
   refine hl_callV rfl rfl rfl (rq_call (by kernel_rfl) rfl (fun w hm => ret_ans (l01In_any0 ((n.ss.getD k sq0).it) 0 1 w))) ?_
   refine hl_bool (fun h7 => ?_) (fun h7 => absurd ((((inR_iff _ _ _).2 (by omega))).symm.trans h7) (by decide))
   refine hl_v rfl rfl rfl (rv_ev rfl) ?_
   refine hl_v rfl rfl rfl (rv_ev rfl) ?_
   refine hl_v rfl rfl rfl (rv_field (k0 := 2) rfl (by kernel_rfl) rfl) ?_
   refine hl_v rfl rfl rfl (rv_load rfl (by kernel_rfl) rfl (box_cell 0 rfl rfl)) ?_
   refine hl_v rfl rfl rfl (rv_len rfl Try.underlying26 rfl (fun w hm => (hr.at (k := k) (by omega)).below hm.bel)) ?_
   refine hl_eql rfl rfl rfl rfl rfl rfl (fun h8 => ?_) (fun h8 => ?_)
   ·
    refine hl_v rfl rfl rfl (rv_ev rfl) ?_
    refine hl_v rfl rfl rfl (rv_ev rfl) ?_
    refine hl_skip rfl rfl rfl ?_
    refine hl_skip rfl rfl rfl ?_
    refine hl_skip rfl rfl rfl ?_
    refine hl_skip rfl rfl rfl ?_
    refine hl_skip rfl rfl rfl ?_
    refine hl_skip rfl rfl rfl ?_
    refine hl_skip rfl rfl rfl ?_
    refine hl_skip rfl rfl rfl ?_
    refine hl_skip rfl rfl rfl ?_
    refine hl_skip rfl rfl rfl ?_
    refine hl_skip rfl rfl rfl ?_
    refine hl_skip rfl rfl rfl ?_
    refine hl_skip rfl rfl rfl ?_
    refine hl_skip rfl rfl rfl ?_
    refine hl_v rfl rfl rfl (rv_ev rfl) ?_
    refine hl_v rfl rfl rfl (rv_ev rfl) ?_
    refine hl_less (sx 0 rfl (sx 1 rfl (sx 2 rfl (sx 3 rfl (sx 4 rfl (sx 5 rfl (sx 12 rfl (sx 17 rfl (sx 55 rfl (sub_nil _)))))))))) (.refl _) ?_
    refine hl_nil ?_
    refine hq_then ?_
    refine hc_false rfl ?_
    refine hc_skip ?_
    refine hq_block_normal ?_
    refine hq_then ?_
    refine hc_region ?_
    refine hl_v rfl rfl rfl (rv_ev rfl) ?_
    refine hl_v rfl rfl rfl (rv_add rfl rfl rfl (by constructor <;> omega)) ?_
    refine hl_v rfl rfl rfl (rv_ev rfl) ?_
    refine hl_less (sx 0 rfl (sx 1 rfl (sx 2 rfl (sx 3 rfl (sx 4 rfl (sx 5 rfl (sx 12 rfl (sx 17 rfl (sx 55 rfl (sub_nil _)))))))))) (.refl _) ?_
    refine hl_nil ?_
    exact hq_round1 (k + 1) (by omega) (by omega) (sx 0 rfl (sx 1 rfl (sx 2 rfl (sx 3 rfl (sx 4 rfl (sx 12 rfl (sub_nil _))))))) ((.cons _ (.cons_cons _ .slnil)))
   ·
    refine hl_v rfl rfl rfl (rv_ev rfl) ?_
    refine hl_v rfl rfl rfl (rv_ev rfl) ?_
    refine hl_v rfl rfl rfl (rv_field (k0 := 0) rfl (by kernel_rfl) rfl) ?_
    refine hl_v rfl rfl rfl (rv_load rfl (by kernel_rfl) rfl (box_cell 0 rfl rfl)) ?_
    refine hl_eql rfl rfl rfl rfl rfl rfl (fun h9 => ?_) (fun h9 => ?_)
    ·
     refine hl_v rfl rfl rfl (rv_ev rfl) ?_
     refine hl_v rfl rfl rfl (rv_field (k0 := 1) rfl (by kernel_rfl) rfl) ?_
     refine hl_v rfl rfl rfl (rv_load rfl (by kernel_rfl) rfl (box_cell 0 rfl rfl)) ?_
     refine hl_callV rfl rfl rfl (rq_call (by kernel_rfl) rfl (fun w hm => ret_ans (l01In_any0 ((n.ss.getD k sq0).it) 0 31 w))) ?_
     refine hl_bool (fun h10 => ?_) (fun h10 => absurd ((((inR_iff _ _ _).2 (by omega))).symm.trans h10) (by decide))
     refine hl_v rfl rfl rfl (rv_ev rfl) ?_
     refine hl_v rfl rfl rfl (rv_ev rfl) ?_
     refine hl_v rfl rfl rfl (rv_field (k0 := 2) rfl (by kernel_rfl) rfl) ?_
     refine hl_v rfl rfl rfl (rv_load rfl (by kernel_rfl) rfl (box_cell 0 rfl rfl)) ?_
     refine hl_v rfl rfl rfl (rv_len rfl Try.underlying26 rfl (fun w hm => (hr.at (k := k) (by omega)).below hm.bel)) ?_
     refine hl_eql rfl rfl rfl rfl rfl rfl (fun h11 => ?_) (fun h11 => ?_)
     ·
      refine hl_v rfl rfl rfl (rv_ev rfl) ?_
      refine hl_v rfl rfl rfl (rv_ev rfl) ?_
      refine hl_v rfl rfl rfl (rv_ev rfl) ?_
      refine hl_less (sx 0 rfl (sx 1 rfl (sx 2 rfl (sx 3 rfl (sx 4 rfl (sx 5 rfl (sx 12 rfl (sx 17 rfl (sx 55 rfl (sub_nil _)))))))))) (.refl _) ?_
      refine hl_nil ?_
      refine hq_then ?_
      refine hc_false rfl ?_
      refine hc_skip ?_
      refine hq_block_normal ?_
      refine hq_then ?_
      refine hc_region ?_
      refine hl_v rfl rfl rfl (rv_ev rfl) ?_
      refine hl_v rfl rfl rfl (rv_add rfl rfl rfl (by constructor <;> omega)) ?_
      refine hl_v rfl rfl rfl (rv_ev rfl) ?_
      refine hl_less (sx 0 rfl (sx 1 rfl (sx 2 rfl (sx 3 rfl (sx 4 rfl (sx 5 rfl (sx 12 rfl (sx 17 rfl (sx 55 rfl (sub_nil _)))))))))) (.refl _) ?_
      refine hl_nil ?_
      exact hq_round1 (k + 1) (by omega) (by omega) (sx 0 rfl (sx 1 rfl (sx 2 rfl (sx 3 rfl (sx 4 rfl (sx 12 rfl (sub_nil _))))))) ((.cons _ (.cons_cons _ .slnil)))
     ·
      refine hl_v rfl rfl rfl (rv_ev rfl) ?_
      refine hl_v rfl rfl rfl (rv_ev rfl) ?_
      refine hl_v rfl rfl rfl (rv_ev rfl) ?_
      refine hl_less (sx 0 rfl (sx 1 rfl (sx 2 rfl (sx 3 rfl (sx 4 rfl (sx 5 rfl (sx 12 rfl (sx 17 rfl (sx 55 rfl (sub_nil _)))))))))) (.refl _) ?_
      refine hl_nil ?_
      refine hq_then ?_
      refine hc_true rfl ?_
      refine hc_seq ?_
      refine hc_region ?_
      refine hl_v rfl rfl rfl (rv_ev rfl) ?_
      refine hl_less (sx 0 rfl (sx 1 rfl (sx 2 rfl (sx 3 rfl (sx 4 rfl (sx 5 rfl (sx 12 rfl (sx 17 rfl (sx 55 rfl (sub_nil _)))))))))) (.refl _) ?_
      refine hl_nil ?_
      refine hq_then ?_
      refine hc_ret ?_
      refine hq_block_ret ?_
      refine hq_then_ret ?_
      refine hq_then_ret ?_
      refine hq_block_ret ?_
      refine hq_then_ret ?_
      exfalso
      omega
    ·
     refine hl_v rfl rfl rfl (rv_ev rfl) ?_
     refine hl_skip rfl rfl rfl ?_
     refine hl_skip rfl rfl rfl ?_
     refine hl_skip rfl rfl rfl ?_
     refine hl_v rfl rfl rfl (rv_ev rfl) ?_
     refine hl_v rfl rfl rfl (rv_ev rfl) ?_
     refine hl_skip rfl rfl rfl ?_
     refine hl_skip rfl rfl rfl ?_
     refine hl_skip rfl rfl rfl ?_
     refine hl_skip rfl rfl rfl ?_
     refine hl_v rfl rfl rfl (rv_ev rfl) ?_
     refine hl_v rfl rfl rfl (rv_ev rfl) ?_
     refine hl_v rfl rfl rfl (rv_ev rfl) ?_
     refine hl_less (sx 0 rfl (sx 1 rfl (sx 2 rfl (sx 3 rfl (sx 4 rfl (sx 5 rfl (sx 12 rfl (sx 17 rfl (sx 55 rfl (sub_nil _)))))))))) (.refl _) ?_
     refine hl_nil ?_
     refine hq_then ?_
     refine hc_true rfl ?_
     refine hc_seq ?_
     refine hc_region ?_
     refine hl_v rfl rfl rfl (rv_ev rfl) ?_
     refine hl_less (sx 0 rfl (sx 1 rfl (sx 2 rfl (sx 3 rfl (sx 4 rfl (sx 5 rfl (sx 12 rfl (sx 17 rfl (sx 55 rfl (sub_nil _)))))))))) (.refl _) ?_
     refine hl_nil ?_
     refine hq_then ?_
     refine hc_ret ?_
     refine hq_block_ret ?_
     refine hq_then_ret ?_
     refine hq_then_ret ?_
     refine hq_block_ret ?_
     refine hq_then_ret ?_
     exfalso
     omega
  ·
   refine hl_v rfl rfl rfl (rv_ev rfl) ?_
   refine hl_skip rfl rfl rfl ?_
   refine hl_skip rfl rfl rfl ?_
   refine hl_skip rfl rfl rfl ?_
   refine hl_v rfl rfl rfl (rv_ev rfl) ?_
   refine hl_v rfl rfl rfl (rv_ev rfl) ?_
   refine hl_skip rfl rfl rfl ?_
   refine hl_skip rfl rfl rfl ?_
   refine hl_skip rfl rfl rfl ?_
   refine hl_skip rfl rfl rfl ?_
   refine hl_v rfl rfl rfl (rv_ev rfl) ?_
   refine hl_v rfl rfl rfl (rv_ev rfl) ?_
   refine hl_v rfl rfl rfl (rv_field (k0 := 0) rfl (by kernel_rfl) rfl) ?_
   refine hl_v rfl rfl rfl (rv_load rfl (by kernel_rfl) rfl (box_cell 0 rfl rfl)) ?_
   refine hl_eql rfl rfl rfl rfl rfl rfl (fun h12 => ?_) (fun h12 => ?_)
   ·
    refine hl_v rfl rfl rfl (rv_ev rfl) ?_
    refine hl_v rfl rfl rfl (rv_field (k0 := 1) rfl (by kernel_rfl) rfl) ?_
    refine hl_v rfl rfl rfl (rv_load rfl (by kernel_rfl) rfl (box_cell 0 rfl rfl)) ?_
    refine hl_callV rfl rfl rfl (rq_call (by kernel_rfl) rfl (fun w hm => ret_ans (l01In_any0 ((n.ss.getD k sq0).it) 0 31 w))) ?_
    refine hl_bool (fun h13 => ?_) (fun h13 => absurd ((((inR_iff _ _ _).2 (by omega))).symm.trans h13) (by decide))
    refine hl_v rfl rfl rfl (rv_ev rfl) ?_
    refine hl_v rfl rfl rfl (rv_ev rfl) ?_
    refine hl_v rfl rfl rfl (rv_field (k0 := 2) rfl (by kernel_rfl) rfl) ?_
    refine hl_v rfl rfl rfl (rv_load rfl (by kernel_rfl) rfl (box_cell 0 rfl rfl)) ?_
    refine hl_v rfl rfl rfl (rv_len rfl Try.underlying26 rfl (fun w hm => (hr.at (k := k) (by omega)).below hm.bel)) ?_
    refine hl_eql rfl rfl rfl rfl rfl rfl (fun h14 => ?_) (fun h14 => ?_)
    ·
     refine hl_v rfl rfl rfl (rv_ev rfl) ?_
     refine hl_v rfl rfl rfl (rv_ev rfl) ?_
     refine hl_v rfl rfl rfl (rv_ev rfl) ?_
     refine hl_less (sx 0 rfl (sx 1 rfl (sx 2 rfl (sx 3 rfl (sx 4 rfl (sx 5 rfl (sx 12 rfl (sx 17 rfl (sx 55 rfl (sub_nil _)))))))))) (.refl _) ?_
     refine hl_nil ?_
     refine hq_then ?_
     refine hc_false rfl ?_
     refine hc_skip ?_
     refine hq_block_normal ?_
     refine hq_then ?_
     refine hc_region ?_
     refine hl_v rfl rfl rfl (rv_ev rfl) ?_
     refine hl_v rfl rfl rfl (rv_add rfl rfl rfl (by constructor <;> omega)) ?_
     refine hl_v rfl rfl rfl (rv_ev rfl) ?_
     refine hl_less (sx 0 rfl (sx 1 rfl (sx 2 rfl (sx 3 rfl (sx 4 rfl (sx 5 rfl (sx 12 rfl (sx 17 rfl (sx 55 rfl (sub_nil _)))))))))) (.refl _) ?_
     refine hl_nil ?_
     exact hq_round1 (k + 1) (by omega) (by omega) (sx 0 rfl (sx 1 rfl (sx 2 rfl (sx 3 rfl (sx 4 rfl (sx 12 rfl (sub_nil _))))))) ((.cons _ (.cons_cons _ .slnil)))
    ·
     refine hl_v rfl rfl rfl (rv_ev rfl) ?_
     refine hl_v rfl rfl rfl (rv_ev rfl) ?_
     refine hl_v rfl rfl rfl (rv_ev rfl) ?_
     refine hl_less (sx 0 rfl (sx 1 rfl (sx 2 rfl (sx 3 rfl (sx 4 rfl (sx 5 rfl (sx 12 rfl (sx 17 rfl (sx 55 rfl (sub_nil _)))))))))) (.refl _) ?_
     refine hl_nil ?_
     refine hq_then ?_
     refine hc_true rfl ?_
     refine hc_seq ?_
     refine hc_region ?_
     refine hl_v rfl rfl rfl (rv_ev rfl) ?_
     refine hl_less (sx 0 rfl (sx 1 rfl (sx 2 rfl (sx 3 rfl (sx 4 rfl (sx 5 rfl (sx 12 rfl (sx 17 rfl (sx 55 rfl (sub_nil _)))))))))) (.refl _) ?_
     refine hl_nil ?_
     refine hq_then ?_
     refine hc_ret ?_
     refine hq_block_ret ?_
     refine hq_then_ret ?_
     refine hq_then_ret ?_
     refine hq_block_ret ?_
     refine hq_then_ret ?_
     exfalso
     omega
   ·
    refine hl_v rfl rfl rfl (rv_ev rfl) ?_
    refine hl_skip rfl rfl rfl ?_
    refine hl_skip rfl rfl rfl ?_
    refine hl_skip rfl rfl rfl ?_
    refine hl_v rfl rfl rfl (rv_ev rfl) ?_
    refine hl_v rfl rfl rfl (rv_ev rfl) ?_
    refine hl_skip rfl rfl rfl ?_
    refine hl_skip rfl rfl rfl ?_
    refine hl_skip rfl rfl rfl ?_
    refine hl_skip rfl rfl rfl ?_
    refine hl_v rfl rfl rfl (rv_ev rfl) ?_
    refine hl_v rfl rfl rfl (rv_ev rfl) ?_
    refine hl_v rfl rfl rfl (rv_ev rfl) ?_
    refine hl_less (sx 0 rfl (sx 1 rfl (sx 2 rfl (sx 3 rfl (sx 4 rfl (sx 5 rfl (sx 12 rfl (sx 17 rfl (sx 55 rfl (sub_nil _)))))))))) (.refl _) ?_
    refine hl_nil ?_
    refine hq_then ?_
    refine hc_true rfl ?_
    refine hc_seq ?_
    refine hc_region ?_
    refine hl_v rfl rfl rfl (rv_ev rfl) ?_
    refine hl_less (sx 0 rfl (sx 1 rfl (sx 2 rfl (sx 3 rfl (sx 4 rfl (sx 5 rfl (sx 12 rfl (sx 17 rfl (sx 55 rfl (sub_nil _)))))))))) (.refl _) ?_
    refine hl_nil ?_
    refine hq_then ?_
    refine hc_ret ?_
    refine hq_block_ret ?_
    refine hq_then_ret ?_
    refine hq_then_ret ?_
    refine hq_block_ret ?_
    refine hq_then_ret ?_
    exfalso
    omega
 ·
  refine hl_less (sx 0 rfl (sx 1 rfl (sx 2 rfl (sx 3 rfl (sx 4 rfl (sx 12 rfl (sx 17 rfl (sub_nil _)))))))) (.refl _) ?_
  refine hl_nil ?_
  refine hq_then ?_
  refine hc_false rfl ?_
  refine hc_exit ?_
  refine hq_then_exit ?_
  refine hq_then_exit ?_
  refine hq_block_exit ?_
  refine hq_then ?_
  refine hc_seq ?_
  refine hc_region ?_
  refine hl_v rfl rfl rfl (rv_loadN (cs := [.int .i64 n.ins, n.sv, n.av, n.ov]) rfl (by kernel_rfl) (by kernel_rfl) rfl rfl (box_part 0 rfl 0 rfl)) ?_
  refine hl_q rfl rfl rfl (rq_call (by kernel_rfl) rfl (fun w hm => l08Roots_ret n w (hr.below hm.bel) hn)) ?_
  intro v15 p16 hR17
  subst hR17
  refine hl_v rfl rfl rfl (rv_ev rfl) ?_
  refine hl_less (sx 0 rfl (sx 1 rfl (sx 2 rfl (sx 3 rfl (sx 4 rfl (sx 6 rfl (sx 12 rfl (sx 17 rfl (sub_nil _))))))))) (.refl _) ?_
  refine hl_nil ?_
  refine hq_then ?_
  refine hc_seq ?_
  refine hc_seq ?_
  refine hc_region ?_
  refine hl_v rfl rfl rfl (rv_ev rfl) ?_
  refine hl_less (sx 0 rfl (sx 1 rfl (sx 2 rfl (sx 3 rfl (sx 4 rfl (sx 6 rfl (sx 7 rfl (sx 12 rfl (sx 17 rfl (sub_nil _)))))))))) (.refl _) ?_
  refine hl_nil ?_
  refine hq_then ?_
  refine hc_block ?_
  refine hc_loop1 (α := Nat) (fun q => [rowE 3 1 v15 ((rtsL n n.ss.length).length) ((rtsL n n.ss.length).map (Value.int .i64)), boxE b1 #[.int .i64 n.ins, n.sv, n.av, n.ov] 28]) (fun q => [(0, .agg #[.int .i64 n.ins, n.sv, n.av, n.ov]), (1, .pointer (some ⟨b1, 0, none⟩)), (2, .bool false), (3, .int .i64 n.cnt), (6, v15), (7, .int .i64 (q : Int)), (12, .bool false), (17, .bool false)]) (fun q => q ≤ (rtsL n n.ss.length).length) (fun q => (rtsL n n.ss.length).length - q) 0 (Nat.zero_le _) (sx 0 rfl (sx 1 rfl (sx 2 rfl (sx 3 rfl (sx 6 rfl (sx 7 rfl (sx 12 rfl (sx 17 rfl (sub_nil _))))))))) ((.cons_cons _ (.cons_cons _ .slnil))) ?_
  intro q hi18
  have hq := hi18
  refine hc_seq ?_
  refine hc_seq ?_
  refine hc_region ?_
  have hzl := rts_len hn n.ss.length (Nat.le_refl _)
  refine hl_v rfl rfl rfl (rv_ev rfl) ?_
  refine hl_v rfl rfl rfl (rv_ev rfl) ?_
  refine hl_v rfl rfl rfl (rv_len rfl Try.underlying26 rfl (rd_row 0 rfl)) ?_
  refine hl_lss rfl rfl rfl rfl rfl rfl (fun h19 => ?_) (fun h19 => ?_)
  ·
   refine hl_less (sx 0 rfl (sx 1 rfl (sx 2 rfl (sx 3 rfl (sx 6 rfl (sx 7 rfl (sx 12 rfl (sx 17 rfl (sx 61 rfl (sub_nil _)))))))))) (.refl _) ?_
   refine hl_nil ?_
   refine hq_then ?_
   refine hc_true rfl ?_
   refine hc_skip ?_
   refine hq_then ?_
   refine hc_seq ?_
   refine hc_block ?_
   refine hc_seq ?_
   refine hc_region ?_
   have hlk := rts_ok hn (i := q) (by omega)
   have hzl := rts_len hn n.ss.length (Nat.le_refl _)
   refine hl_v rfl rfl rfl (rv_ev rfl) ?_
   refine hl_v rfl rfl rfl (rv_ev rfl) ?_
   refine hl_v rfl rfl rfl (rv_index (s := 1) rfl Try.underlying26 (by kernel_rfl) rfl rfl (rd_row 0 rfl) (by omega) (by first | omega | (simp only [List.length_set]; omega))) ?_
   refine hl_v rfl rfl rfl (rv_loadEl (u := .int .i64 ((rtsL n n.ss.length).getD q 0)) rfl (by kernel_rfl) rfl (rd_row 0 rfl) (ints_at1 (show _ < (rtsL n n.ss.length).length by first | omega | (simp only [List.length_set]; omega)))) ?_
   refine hl_v rfl rfl rfl (rv_ev rfl) ?_
   refine hl_callV rfl rfl rfl (rq_call (by kernel_rfl) rfl (fun w hm => ret_ans (l08Lit_yes ((rtsL n n.ss.length).getD q 0) n.cnt w (by first | assumption | (unfold LtOk; omega)) (by omega)))) ?_
   refine hl_v rfl rfl rfl (rv_ev rfl) ?_
   refine hl_less (sx 0 rfl (sx 1 rfl (sx 2 rfl (sx 3 rfl (sx 6 rfl (sx 7 rfl (sx 12 rfl (sx 17 rfl (sx 61 rfl (sx 70 rfl (sub_nil _))))))))))) (.refl _) ?_
   refine hl_nil ?_
   refine hq_then ?_
   refine hc_false rfl ?_
   refine hc_skip ?_
   refine hq_block_normal ?_
   refine hq_then ?_
   refine hc_region ?_
   refine hl_v rfl rfl rfl (rv_ev rfl) ?_
   refine hl_v rfl rfl rfl (rv_add rfl rfl rfl (by constructor <;> omega)) ?_
   refine hl_v rfl rfl rfl (rv_ev rfl) ?_
   refine hl_less (sx 0 rfl (sx 1 rfl (sx 2 rfl (sx 3 rfl (sx 6 rfl (sx 7 rfl (sx 12 rfl (sx 17 rfl (sx 61 rfl (sx 70 rfl (sub_nil _))))))))))) (.refl _) ?_
   refine hl_nil ?_
   exact hq_round1 (q + 1) (by omega) (by omega) (sx 0 rfl (sx 1 rfl (sx 2 rfl (sx 3 rfl (sx 6 rfl (sx 7 rfl (sx 12 rfl (sx 17 rfl (sub_nil _))))))))) ((.cons_cons _ (.cons_cons _ .slnil)))
  ·
   refine hl_less (sx 0 rfl (sx 1 rfl (sx 2 rfl (sx 3 rfl (sx 6 rfl (sx 7 rfl (sx 12 rfl (sx 17 rfl (sx 61 rfl (sub_nil _)))))))))) (.refl _) ?_
   refine hl_nil ?_
   refine hq_then ?_
   refine hc_false rfl ?_
   refine hc_exit ?_
   refine hq_then_exit ?_
   refine hq_then_exit ?_
   refine hq_block_exit ?_
   refine hq_then ?_
   refine hc_seq ?_
   refine hc_seq ?_
   refine hc_region ?_
   refine hl_v rfl rfl rfl (rv_ev rfl) ?_
   refine hl_less (sx 0 rfl (sx 1 rfl (sx 2 rfl (sx 3 rfl (sx 6 rfl (sx 7 rfl (sx 8 rfl (sx 12 rfl (sx 17 rfl (sx 61 rfl (sub_nil _))))))))))) (.refl _) ?_
   refine hl_nil ?_
   refine hq_then ?_
   refine hc_block ?_
   refine hc_loop1 (α := Nat) (fun j => [rowE 3 1 v15 ((rtsL n n.ss.length).length) ((rtsL n n.ss.length).map (Value.int .i64)), boxE b1 #[.int .i64 n.ins, n.sv, n.av, n.ov] 28]) (fun j => [(0, .agg #[.int .i64 n.ins, n.sv, n.av, n.ov]), (1, .pointer (some ⟨b1, 0, none⟩)), (2, .bool false), (3, .int .i64 n.cnt), (6, v15), (8, .int .i64 (j : Int)), (12, .bool false), (17, .bool false), (61, .bool false)]) (fun j => j ≤ n.gs.length) (fun j => n.gs.length - j) 0 (Nat.zero_le _) (sx 0 rfl (sx 1 rfl (sx 2 rfl (sx 3 rfl (sx 6 rfl (sx 8 rfl (sx 12 rfl (sx 17 rfl (sx 61 rfl (sub_nil _)))))))))) ((.cons_cons _ (.cons_cons _ .slnil))) ?_
   intro j hi20
   have hj := hi20
   refine hc_seq ?_
   refine hc_seq ?_
   refine hc_region ?_
   refine hl_v rfl rfl rfl (rv_ev rfl) ?_
   refine hl_v rfl rfl rfl (rv_field (k0 := 2) rfl (by kernel_rfl) rfl) ?_
   refine hl_v rfl rfl rfl (rv_load rfl (by kernel_rfl) rfl (box_cell 1 rfl rfl)) ?_
   refine hl_v rfl rfl rfl (rv_len rfl Try.underlying25 rfl (rd_old hr.an)) ?_
   refine hl_lss rfl rfl rfl rfl rfl rfl (fun h21 => ?_) (fun h21 => ?_)
   ·
    refine hl_less (sx 0 rfl (sx 1 rfl (sx 2 rfl (sx 3 rfl (sx 6 rfl (sx 8 rfl (sx 12 rfl (sx 17 rfl (sx 61 rfl (sx 75 rfl (sub_nil _))))))))))) (.refl _) ?_
    refine hl_nil ?_
    refine hq_then ?_
    refine hc_true rfl ?_
    refine hc_skip ?_
    refine hq_then ?_
    refine hc_seq ?_
    refine hc_block ?_
    refine hc_seq ?_
    have hlj := hn.an j (by omega)
    obtain ⟨hlj1, hlj2⟩ := hlj
    refine hc_draw (by kernel_rfl) 26 [0, 1, 2, 3, 4, 5, 6, 7, 8, 9, 10, 11, 12, 13, 14, 15, 16, 17, 18, 19, 20, 21, 22, 23, 24, 25] (List.take 26 _) (List.drop 26 _) [[], [0], [], [1, 2], [3], [4], [], [6], [], [7, 8], [5, 9], [10], [11], [12], [12, 13], [12], [12, 14, 15], [12, 16], [12, 17], [12], [12, 19], [12], [12, 20, 21], [12, 18, 22], [12, 23], [12, 24]] [78, 79, 80, 81, 82, 83, 84, 85, 86, 87, 88, 89, 90, 91, 92, 93, 94, 95, 96, 97, 98, 99, 100, 101, 102, 103] (fun i_ vs_ v_ p_ => match i_ with | 0 => v_ = .pointer (some ⟨b1, 0 + 2, none⟩) ∧ p_ = [] | 1 => v_ = n.av ∧ p_ = [] | 2 => v_ = .int .i64 (j : Int) ∧ p_ = [] | 3 => v_ = elP n.av (((j : Int)).toNat * 2) ∧ p_ = [] | 4 => v_ = elP n.av (((j : Int)).toNat * 2 + 0) ∧ p_ = [] | 5 => v_ = .int .i64 ((n.gs.getD j an0).a) ∧ p_ = [] | 6 => v_ = .agg #[.int .i64 n.ins, n.sv, n.av, n.ov] ∧ p_ = [] | 7 => v_ = .int .i64 n.fst ∧ p_ = [] | 8 => v_ = .int .i64 (j : Int) ∧ p_ = [] | 9 => v_ = .int .i64 (n.fst + (j : Int)) ∧ p_ = [] | 10 => v_ = .bool true ∧ p_ = [] | 11 => v_ = .bool false ∧ p_ = [] | 12 => v_ = .bool false ∧ p_ = [] | 13 => v_ = .pointer (some ⟨b1, 0 + 2, none⟩) ∧ p_ = [] | 14 => v_ = n.av ∧ p_ = [] | 15 => v_ = .int .i64 (j : Int) ∧ p_ = [] | 16 => v_ = elP n.av (((j : Int)).toNat * 2) ∧ p_ = [] | 17 => v_ = elP n.av (((j : Int)).toNat * 2 + 1) ∧ p_ = [] | 18 => v_ = .int .i64 ((n.gs.getD j an0).b) ∧ p_ = [] | 19 => v_ = .agg #[.int .i64 n.ins, n.sv, n.av, n.ov] ∧ p_ = [] | 20 => v_ = .int .i64 n.fst ∧ p_ = [] | 21 => v_ = .int .i64 (j : Int) ∧ p_ = [] | 22 => v_ = .int .i64 (n.fst + (j : Int)) ∧ p_ = [] | 23 => v_ = .bool true ∧ p_ = [] | 24 => v_ = .bool false ∧ p_ = [] | 25 => v_ = .bool false ∧ p_ = [] | _ => True) (List.take_append_drop 26 _).symm (by kernel_rfl) (by kernel_rfl) rfl rfl ?_ ?_
    ·
     refine ⟨?_, ?_, ?_, ?_, ?_, ?_, ?_, ?_, ?_, ?_, ?_, ?_, ?_, ?_, ?_, ?_, ?_, ?_, ?_, ?_, ?_, ?_, ?_, ?_, ?_, ?_, trivial⟩
     ·
      intro vf pf hR
      refine Or.inl ⟨rfl, ?_⟩
      refine rq_less (sx 1 rfl (sub_nil _)) (List.sublist_append_right _ _) ?_
      exact rq_v (rv_field (k0 := 2) rfl (by kernel_rfl) rfl)
     ·
      intro vf pf hR
      have e0 : (vf 0) = .pointer (some ⟨b1, 0 + 2, none⟩) ∧ (pf 0) = [] := hR 0 (by decide)
      refine Or.inl ⟨rfl, ?_⟩
      refine rq_less (sx 78 (congrArg some e0.1) (sub_nil _)) (List.sublist_append_right _ _) ?_
      exact rq_v (rv_load rfl (by kernel_rfl) rfl (box_cell 1 rfl rfl))
     ·
      intro vf pf hR
      refine Or.inl ⟨rfl, ?_⟩
      refine rq_less (sx 8 rfl (sub_nil _)) (List.sublist_append_right _ _) ?_
      exact rq_v (rv_ev rfl)
     ·
      intro vf pf hR
      have e1 : (vf 1) = n.av ∧ (pf 1) = [] := hR 1 (by decide)
      have e2 : (vf 2) = .int .i64 (j : Int) ∧ (pf 2) = [] := hR 2 (by decide)
      refine Or.inl ⟨rfl, ?_⟩
      refine rq_less (sx 79 (congrArg some e1.1) (sx 80 (congrArg some e2.1) (sub_nil _))) (List.sublist_append_right _ _) ?_
      exact rq_v (rv_index (s := 2) rfl Try.underlying25 (by kernel_rfl) rfl rfl (rd_old hr.an) (by omega) (by first | omega | (simp only [List.length_set]; omega)))
     ·
      intro vf pf hR
      have e3 : (vf 3) = elP n.av (((j : Int)).toNat * 2) ∧ (pf 3) = [] := hR 3 (by decide)
      refine Or.inl ⟨rfl, ?_⟩
      refine rq_less (sx 81 (congrArg some e3.1) (sub_nil _)) (List.sublist_append_right _ _) ?_
      exact rq_v (rv_fieldEl (k0 := 0) rfl (by kernel_rfl) rfl (rd_old hr.an) (by first | omega | (simp only [List.length_set]; omega)))
     ·
      intro vf pf hR
      have e4 : (vf 4) = elP n.av (((j : Int)).toNat * 2 + 0) ∧ (pf 4) = [] := hR 4 (by decide)
      refine Or.inl ⟨rfl, ?_⟩
      refine rq_less (sx 82 (congrArg some e4.1) (sub_nil _)) (List.sublist_append_right _ _) ?_
      exact rq_v (rv_loadEl (u := .int .i64 ((n.gs.getD j an0).a)) rfl (by kernel_rfl) rfl (rd_old hr.an) ((flat_at anC 2 (fun _ => rfl) n.gs an0 (show j < _ by first | omega | (simp only [List.length_set]; omega)) (by decide)).trans rfl))
     ·
      intro vf pf hR
      refine Or.inl ⟨rfl, ?_⟩
      refine rq_less (sx 1 rfl (sub_nil _)) (List.sublist_append_right _ _) ?_
      exact rq_v (rv_loadN (cs := [.int .i64 n.ins, n.sv, n.av, n.ov]) rfl (by kernel_rfl) (by kernel_rfl) rfl rfl (box_part 1 rfl 0 rfl))
     ·
      intro vf pf hR
      have e6 : (vf 6) = .agg #[.int .i64 n.ins, n.sv, n.av, n.ov] ∧ (pf 6) = [] := hR 6 (by decide)
      refine Or.inl ⟨rfl, ?_⟩
      refine rq_less (sx 84 (congrArg some e6.1) (sub_nil _)) (List.sublist_append_right _ _) ?_
      exact (rq_call (by kernel_rfl) rfl (fun w hm => ret_ans (l08First_yes n w (hr.below hm.bel) hn)))
     ·
      intro vf pf hR
      refine Or.inl ⟨rfl, ?_⟩
      refine rq_less (sx 8 rfl (sub_nil _)) (List.sublist_append_right _ _) ?_
      exact rq_v (rv_ev rfl)
     ·
      intro vf pf hR
      have e7 : (vf 7) = .int .i64 n.fst ∧ (pf 7) = [] := hR 7 (by decide)
      have e8 : (vf 8) = .int .i64 (j : Int) ∧ (pf 8) = [] := hR 8 (by decide)
      refine Or.inl ⟨rfl, ?_⟩
      refine rq_less (sx 85 (congrArg some e7.1) (sx 86 (congrArg some e8.1) (sub_nil _))) (List.sublist_append_right _ _) ?_
      exact rq_v (rv_add rfl rfl rfl (by constructor <;> omega))
     ·
      intro vf pf hR
      have e5 : (vf 5) = .int .i64 ((n.gs.getD j an0).a) ∧ (pf 5) = [] := hR 5 (by decide)
      have e9 : (vf 9) = .int .i64 (n.fst + (j : Int)) ∧ (pf 9) = [] := hR 9 (by decide)
      refine Or.inl ⟨rfl, ?_⟩
      refine rq_less (sx 83 (congrArg some e5.1) (sx 87 (congrArg some e9.1) (sub_nil _))) (List.sublist_append_right _ _) ?_
      exact (rq_call (by kernel_rfl) rfl (fun w hm => ret_ans (l08Lit_yes ((n.gs.getD j an0).a) (n.fst + (j : Int)) w (by first | assumption | (unfold LtOk; omega)) (by omega))))
     ·
      intro vf pf hR
      have e10 : (vf 10) = .bool true ∧ (pf 10) = [] := hR 10 (by decide)
      refine Or.inl ⟨rfl, ?_⟩
      refine rq_less (sx 88 (congrArg some e10.1) (sub_nil _)) (List.sublist_append_right _ _) ?_
      exact rq_v (rv_ev rfl)
     ·
      intro vf pf hR
      have e11 : (vf 11) = .bool false ∧ (pf 11) = [] := hR 11 (by decide)
      refine Or.inl ⟨rfl, ?_⟩
      refine rq_less (sx 89 (congrArg some e11.1) (sub_nil _)) (List.sublist_append_right _ _) ?_
      exact rq_v (rv_ev rfl)
     ·
      intro vf pf hR
      have e12 : (vf 12) = .bool false ∧ (pf 12) = [] := hR 12 (by decide)
      refine Or.inl ⟨want_of (congrArg some e12.1) rfl, ?_⟩
      refine rq_less (sx 1 rfl (sub_nil _)) (List.sublist_append_right _ _) ?_
      exact rq_v (rv_field (k0 := 2) rfl (by kernel_rfl) rfl)
     ·
      intro vf pf hR
      have e12 : (vf 12) = .bool false ∧ (pf 12) = [] := hR 12 (by decide)
      have e13 : (vf 13) = .pointer (some ⟨b1, 0 + 2, none⟩) ∧ (pf 13) = [] := hR 13 (by decide)
      refine Or.inl ⟨want_of (congrArg some e12.1) rfl, ?_⟩
      refine rq_less (sx 91 (congrArg some e13.1) (sub_nil _)) (List.sublist_append_right _ _) ?_
      exact rq_v (rv_load rfl (by kernel_rfl) rfl (box_cell 1 rfl rfl))
     ·
      intro vf pf hR
      have e12 : (vf 12) = .bool false ∧ (pf 12) = [] := hR 12 (by decide)
      refine Or.inl ⟨want_of (congrArg some e12.1) rfl, ?_⟩
      refine rq_less (sx 8 rfl (sub_nil _)) (List.sublist_append_right _ _) ?_
      exact rq_v (rv_ev rfl)
     ·
      intro vf pf hR
      have e12 : (vf 12) = .bool false ∧ (pf 12) = [] := hR 12 (by decide)
      have e14 : (vf 14) = n.av ∧ (pf 14) = [] := hR 14 (by decide)
      have e15 : (vf 15) = .int .i64 (j : Int) ∧ (pf 15) = [] := hR 15 (by decide)
      refine Or.inl ⟨want_of (congrArg some e12.1) rfl, ?_⟩
      refine rq_less (sx 92 (congrArg some e14.1) (sx 93 (congrArg some e15.1) (sub_nil _))) (List.sublist_append_right _ _) ?_
      exact rq_v (rv_index (s := 2) rfl Try.underlying25 (by kernel_rfl) rfl rfl (rd_old hr.an) (by omega) (by first | omega | (simp only [List.length_set]; omega)))
     ·
      intro vf pf hR
      have e12 : (vf 12) = .bool false ∧ (pf 12) = [] := hR 12 (by decide)
      have e16 : (vf 16) = elP n.av (((j : Int)).toNat * 2) ∧ (pf 16) = [] := hR 16 (by decide)
      refine Or.inl ⟨want_of (congrArg some e12.1) rfl, ?_⟩
      refine rq_less (sx 94 (congrArg some e16.1) (sub_nil _)) (List.sublist_append_right _ _) ?_
      exact rq_v (rv_fieldEl (k0 := 1) rfl (by kernel_rfl) rfl (rd_old hr.an) (by first | omega | (simp only [List.length_set]; omega)))
     ·
      intro vf pf hR
      have e12 : (vf 12) = .bool false ∧ (pf 12) = [] := hR 12 (by decide)
      have e17 : (vf 17) = elP n.av (((j : Int)).toNat * 2 + 1) ∧ (pf 17) = [] := hR 17 (by decide)
      refine Or.inl ⟨want_of (congrArg some e12.1) rfl, ?_⟩
      refine rq_less (sx 95 (congrArg some e17.1) (sub_nil _)) (List.sublist_append_right _ _) ?_
      exact rq_v (rv_loadEl (u := .int .i64 ((n.gs.getD j an0).b)) rfl (by kernel_rfl) rfl (rd_old hr.an) ((flat_at anC 2 (fun _ => rfl) n.gs an0 (show j < _ by first | omega | (simp only [List.length_set]; omega)) (by decide)).trans rfl))
     ·
      intro vf pf hR
      have e12 : (vf 12) = .bool false ∧ (pf 12) = [] := hR 12 (by decide)
      refine Or.inl ⟨want_of (congrArg some e12.1) rfl, ?_⟩
      refine rq_less (sx 1 rfl (sub_nil _)) (List.sublist_append_right _ _) ?_
      exact rq_v (rv_loadN (cs := [.int .i64 n.ins, n.sv, n.av, n.ov]) rfl (by kernel_rfl) (by kernel_rfl) rfl rfl (box_part 1 rfl 0 rfl))
     ·
      intro vf pf hR
      have e12 : (vf 12) = .bool false ∧ (pf 12) = [] := hR 12 (by decide)
      have e19 : (vf 19) = .agg #[.int .i64 n.ins, n.sv, n.av, n.ov] ∧ (pf 19) = [] := hR 19 (by decide)
      refine Or.inl ⟨want_of (congrArg some e12.1) rfl, ?_⟩
      refine rq_less (sx 97 (congrArg some e19.1) (sub_nil _)) (List.sublist_append_right _ _) ?_
      exact (rq_call (by kernel_rfl) rfl (fun w hm => ret_ans (l08First_yes n w (hr.below hm.bel) hn)))
     ·
      intro vf pf hR
      have e12 : (vf 12) = .bool false ∧ (pf 12) = [] := hR 12 (by decide)
      refine Or.inl ⟨want_of (congrArg some e12.1) rfl, ?_⟩
      refine rq_less (sx 8 rfl (sub_nil _)) (List.sublist_append_right _ _) ?_
      exact rq_v (rv_ev rfl)
     ·
      intro vf pf hR
      have e12 : (vf 12) = .bool false ∧ (pf 12) = [] := hR 12 (by decide)
      have e20 : (vf 20) = .int .i64 n.fst ∧ (pf 20) = [] := hR 20 (by decide)
      have e21 : (vf 21) = .int .i64 (j : Int) ∧ (pf 21) = [] := hR 21 (by decide)
      refine Or.inl ⟨want_of (congrArg some e12.1) rfl, ?_⟩
      refine rq_less (sx 98 (congrArg some e20.1) (sx 99 (congrArg some e21.1) (sub_nil _))) (List.sublist_append_right _ _) ?_
      exact rq_v (rv_add rfl rfl rfl (by constructor <;> omega))
     ·
      intro vf pf hR
      have e12 : (vf 12) = .bool false ∧ (pf 12) = [] := hR 12 (by decide)
      have e18 : (vf 18) = .int .i64 ((n.gs.getD j an0).b) ∧ (pf 18) = [] := hR 18 (by decide)
      have e22 : (vf 22) = .int .i64 (n.fst + (j : Int)) ∧ (pf 22) = [] := hR 22 (by decide)
      refine Or.inl ⟨want_of (congrArg some e12.1) rfl, ?_⟩
      refine rq_less (sx 96 (congrArg some e18.1) (sx 100 (congrArg some e22.1) (sub_nil _))) (List.sublist_append_right _ _) ?_
      exact (rq_call (by kernel_rfl) rfl (fun w hm => ret_ans (l08Lit_yes ((n.gs.getD j an0).b) (n.fst + (j : Int)) w (by first | assumption | (unfold LtOk; omega)) (by omega))))
     ·
      intro vf pf hR
      have e12 : (vf 12) = .bool false ∧ (pf 12) = [] := hR 12 (by decide)
      have e23 : (vf 23) = .bool true ∧ (pf 23) = [] := hR 23 (by decide)
      refine Or.inl ⟨want_of (congrArg some e12.1) rfl, ?_⟩
      refine rq_less (sx 101 (congrArg some e23.1) (sub_nil _)) (List.sublist_append_right _ _) ?_
      exact rq_v (rv_ev rfl)
     ·
      intro vf pf hR
      have e12 : (vf 12) = .bool false ∧ (pf 12) = [] := hR 12 (by decide)
      have e24 : (vf 24) = .bool false ∧ (pf 24) = [] := hR 24 (by decide)
      refine Or.inl ⟨rfl, ?_⟩
      refine rq_less (sx 90 (congrArg some e12.1) (sx 102 (congrArg some e24.1) (sub_nil _))) (List.sublist_append_right _ _) ?_
      exact rq_v (rv_ev rfl)
    ·
     intro vf pf hR
     have e25 : (vf 25) = .bool false ∧ (pf 25) = [] := hR 25 (by decide)
     refine hl_less (l' := [rowE 3 1 v15 ((rtsL n n.ss.length).length) ((rtsL n n.ss.length).map (Value.int .i64)), boxE b1 #[.int .i64 n.ins, n.sv, n.av, n.ov] 28]) (sx 0 rfl (sx 1 rfl (sx 2 rfl (sx 3 rfl (sx 6 rfl (sx 8 rfl (sx 12 rfl (sx 17 rfl (sx 61 rfl (sx 75 rfl (sx 103 (congrArg some e25.1) (sub_nil _)))))))))))) (List.sublist_append_right _ _) ?_
     simp only [List.drop_succ_cons, List.drop_zero]
     refine hl_less (sx 0 rfl (sx 1 rfl (sx 2 rfl (sx 3 rfl (sx 6 rfl (sx 8 rfl (sx 12 rfl (sx 17 rfl (sx 61 rfl (sx 75 rfl (sx 103 rfl (sub_nil _)))))))))))) (.refl _) ?_
     refine hl_nil ?_
     refine hq_then ?_
     refine hc_false rfl ?_
     refine hc_skip ?_
     refine hq_block_normal ?_
     refine hq_then ?_
     refine hc_region ?_
     refine hl_v rfl rfl rfl (rv_ev rfl) ?_
     refine hl_v rfl rfl rfl (rv_add rfl rfl rfl (by constructor <;> omega)) ?_
     refine hl_v rfl rfl rfl (rv_ev rfl) ?_
     refine hl_less (sx 0 rfl (sx 1 rfl (sx 2 rfl (sx 3 rfl (sx 6 rfl (sx 8 rfl (sx 12 rfl (sx 17 rfl (sx 61 rfl (sx 75 rfl (sx 103 rfl (sub_nil _)))))))))))) (.refl _) ?_
     refine hl_nil ?_
     exact hq_round1 (j + 1) (by omega) (by omega) (sx 0 rfl (sx 1 rfl (sx 2 rfl (sx 3 rfl (sx 6 rfl (sx 8 rfl (sx 12 rfl (sx 17 rfl (sx 61 rfl (sub_nil _)))))))))) ((.cons_cons _ (.cons_cons _ .slnil)))
   ·
    refine hl_less (sx 0 rfl (sx 1 rfl (sx 2 rfl (sx 3 rfl (sx 6 rfl (sx 8 rfl (sx 12 rfl (sx 17 rfl (sx 61 rfl (sx 75 rfl (sub_nil _))))))))))) (.refl _) ?_
    refine hl_nil ?_
    refine hq_then ?_
    refine hc_false rfl ?_
    refine hc_exit ?_
    refine hq_then_exit ?_
    refine hq_then_exit ?_
    refine hq_block_exit ?_
    refine hq_then ?_
    refine hc_seq ?_
    refine hc_region ?_
    refine hl_v rfl rfl rfl (rv_ev rfl) ?_
    refine hl_less (sx 0 rfl (sx 1 rfl (sx 2 rfl (sx 3 rfl (sx 6 rfl (sx 8 rfl (sx 12 rfl (sx 17 rfl (sx 61 rfl (sx 75 rfl (sub_nil _))))))))))) (.refl _) ?_
    refine hl_nil ?_
    refine hq_then ?_
    refine hc_ret ?_
    exact hq_ans rfl rfl rfl
set_option maxHeartbeats 4000000 in
set_option maxRecDepth 100000 in
theorem SeqNext_zero (kd v : Int) (w : World) (hs0 : kd = 0 ∨ kd = 1) (hs1 : 0 ≤ v ∧ v ≤ 31) (hs2 : kd = 0 → v ≤ 1) :
  Calls Try.prog 122 #[.int .i64 kd, .int .i64 v, .int .i64 0] w (Ans w (.int .i64 (seqZ kd v))) := by
 refine calls_hc (N := 49) (args := [.int .i64 kd, .int .i64 v, .int .i64 0]) Try.func122 rfl rfl ?_
 refine hc_less _ (sx 0 rfl (sx 1 rfl (sx 2 rfl (sub_nil _)))) (.refl _) ?_
 refine hc_seq ?_
 refine hc_region ?_
 refine hl_v rfl rfl rfl (rv_ev rfl) ?_
 refine hl_less (sx 0 rfl (sx 1 rfl (sx 2 rfl (sx 6 rfl (sub_nil _))))) (.refl _) ?_
 refine hl_nil ?_
 refine hq_then ?_
 refine hc_seq ?_
 refine hc_seq ?_
 refine hc_region ?_
 refine hl_v rfl rfl rfl (rv_ev rfl) ?_
 refine hl_eql rfl rfl rfl rfl rfl rfl (fun h1 => ?_) (fun h1 => ?_)
 ·
  refine hl_v rfl rfl rfl (rv_ev rfl) ?_
  refine hl_v rfl rfl rfl (rv_ev rfl) ?_
  refine hl_callV rfl rfl rfl (rq_call (by kernel_rfl) rfl (fun w hm => ret_ans (l01In_any0 v 0 1 w))) ?_
  refine hl_bool (fun h2 => ?_) (fun h2 => absurd ((((inR_iff _ _ _).2 (by omega))).symm.trans h2) (by decide))
  refine hl_v rfl rfl rfl (rv_ev rfl) ?_
  refine hl_less (sx 0 rfl (sx 1 rfl (sx 2 rfl (sx 6 rfl (sx 14 rfl (sub_nil _)))))) (.refl _) ?_
  refine hl_nil ?_
  refine hq_then ?_
  refine hc_true rfl ?_
  refine hc_seq ?_
  refine hc_region ?_
  refine hl_v rfl rfl rfl (rv_ev rfl) ?_
  refine hl_v rfl rfl rfl (rv_bits rfl (by decide) rfl rfl (r := 0) (by decide)) ?_
  refine hl_v rfl rfl rfl (rv_ev rfl) ?_
  refine hl_less (sx 0 rfl (sx 1 rfl (sx 2 rfl (sx 6 rfl (sx 14 rfl (sub_nil _)))))) (.refl _) ?_
  refine hl_nil ?_
  refine hq_then ?_
  refine hc_ret ?_
  refine hq_then_ret ?_
  exact hq_ans rfl rfl (congrArg _ (show _ = seqZ kd v by unfold seqZ; first | rw [if_pos (by omega)] | (rw [if_neg (by omega)] <;> omega)))
 ·
  refine hl_v rfl rfl rfl (rv_ev rfl) ?_
  refine hl_skip rfl rfl rfl ?_
  refine hl_skip rfl rfl rfl ?_
  refine hl_v rfl rfl rfl (rv_ev rfl) ?_
  refine hl_less (sx 0 rfl (sx 1 rfl (sx 2 rfl (sx 6 rfl (sx 14 rfl (sub_nil _)))))) (.refl _) ?_
  refine hl_nil ?_
  refine hq_then ?_
  refine hc_false rfl ?_
  refine hc_skip ?_
  refine hq_then ?_
  refine hc_seq ?_
  refine hc_seq ?_
  refine hc_region ?_
  refine hl_v rfl rfl rfl (rv_ev rfl) ?_
  refine hl_neq rfl rfl rfl rfl rfl rfl (fun h3 => ?_) (fun h3 => ?_)
  ·
   refine hl_v rfl rfl rfl (rv_ev rfl) ?_
   refine hl_skip rfl rfl rfl ?_
   refine hl_skip rfl rfl rfl ?_
   refine hl_skip rfl rfl rfl ?_
   refine hl_v rfl rfl rfl (rv_ev rfl) ?_
   refine hl_less (sx 0 rfl (sx 1 rfl (sx 2 rfl (sx 6 rfl (sx 14 rfl (sx 23 rfl (sub_nil _))))))) (.refl _) ?_
   refine hl_nil ?_
   refine hq_then ?_
   refine hc_true rfl ?_
   refine hc_seq ?_
   refine hc_region ?_
   refine hl_v rfl rfl rfl (rv_ev rfl) ?_
   refine hl_less (sx 0 rfl (sx 1 rfl (sx 2 rfl (sx 6 rfl (sx 14 rfl (sx 23 rfl (sub_nil _))))))) (.refl _) ?_
   refine hl_nil ?_
   refine hq_then ?_
   refine hc_ret ?_
   refine hq_then_ret ?_
   exfalso
   omega
  ·
   refine hl_v rfl rfl rfl (rv_ev rfl) ?_
   refine hl_v rfl rfl rfl (rv_ev rfl) ?_
   refine hl_callV rfl rfl rfl (rq_call (by kernel_rfl) rfl (fun w hm => ret_ans (l01In_any0 v 0 31 w))) ?_
   refine hl_bool (fun h4 => ?_) (fun h4 => absurd ((((inR_iff _ _ _).2 (by omega))).symm.trans h4) (by decide))
   refine hl_v rfl rfl rfl (rv_ev rfl) ?_
   refine hl_v rfl rfl rfl (rv_ev rfl) ?_
   refine hl_less (sx 0 rfl (sx 1 rfl (sx 2 rfl (sx 6 rfl (sx 14 rfl (sx 23 rfl (sub_nil _))))))) (.refl _) ?_
   refine hl_nil ?_
   refine hq_then ?_
   refine hc_false rfl ?_
   refine hc_skip ?_
   refine hq_then ?_
   refine hc_seq ?_
   refine hc_region ?_
   refine hl_v rfl rfl rfl (rv_ev rfl) ?_
   refine hl_v rfl rfl rfl (rv_bits rfl (by decide) rfl rfl (r := 0) (by decide)) ?_
   refine hl_v rfl rfl rfl (rv_add rfl rfl rfl (by constructor <;> omega)) ?_
   refine hl_v rfl rfl rfl (rv_ev rfl) ?_
   refine hl_less (sx 0 rfl (sx 1 rfl (sx 2 rfl (sx 6 rfl (sx 7 rfl (sx 14 rfl (sx 23 rfl (sub_nil _)))))))) (.refl _) ?_
   refine hl_nil ?_
   refine hq_then ?_
   refine hc_seq ?_
   refine hc_region ?_
   refine hl_v rfl rfl rfl (rv_ev rfl) ?_
   refine hl_v rfl rfl rfl (rv_bits rfl (by decide) rfl rfl (r := v - v % 2) (andNot_small hs1.1 hs1.2)) ?_
   refine hl_v rfl rfl rfl (rv_ev rfl) ?_
   refine hl_v rfl rfl rfl (rv_ev rfl) ?_
   refine hl_v rfl rfl rfl (rv_shr rfl rfl rfl (by omega)) ?_
   rw [show (v / 2 ^ (0 + 1 : Int).toNat : Int) = v / 2 from rfl]
   refine hl_v rfl rfl rfl (rv_bits rfl (by decide) rfl rfl (r := (v / 2) % 2) (Bit.and_one _ (by omega) (by omega))) ?_
   refine hl_v rfl rfl rfl (rv_add rfl rfl rfl (by constructor <;> omega)) ?_
   refine hl_v rfl rfl rfl (rv_ev rfl) ?_
   refine hl_less (sx 0 rfl (sx 1 rfl (sx 2 rfl (sx 6 rfl (sx 7 rfl (sx 8 rfl (sx 14 rfl (sx 23 rfl (sub_nil _))))))))) (.refl _) ?_
   refine hl_nil ?_
   refine hq_then ?_
   refine hc_seq ?_
   refine hc_seq ?_
   refine hc_region ?_
   refine hl_v rfl rfl rfl (rv_ev rfl) ?_
   refine hl_v rfl rfl rfl (rv_shr rfl rfl rfl (by omega)) ?_
   refine hl_v rfl rfl rfl (rv_bits rfl (by decide) rfl rfl (r := 0) (by decide)) ?_
   refine hl_eql rfl rfl rfl rfl rfl rfl (fun h5 => absurd h5 (by omega)) (fun h5 => ?_)
   refine hl_less (sx 0 rfl (sx 1 rfl (sx 2 rfl (sx 6 rfl (sx 7 rfl (sx 8 rfl (sx 14 rfl (sx 23 rfl (sx 37 rfl (sub_nil _)))))))))) (.refl _) ?_
   refine hl_nil ?_
   refine hq_then ?_
   refine hc_false rfl ?_
   refine hc_skip ?_
   refine hq_then ?_
   refine hc_seq ?_
   refine hc_region ?_
   refine hl_v rfl rfl rfl (rv_ev rfl) ?_
   refine hl_v rfl rfl rfl (rv_ev rfl) ?_
   refine hl_less (sx 0 rfl (sx 1 rfl (sx 2 rfl (sx 6 rfl (sx 7 rfl (sx 8 rfl (sx 14 rfl (sx 23 rfl (sx 37 rfl (sub_nil _)))))))))) (.refl _) ?_
   refine hl_nil ?_
   refine hq_then ?_
   refine hc_ret ?_
   exact hq_ans rfl rfl (congrArg _ (show _ = seqZ kd v by unfold seqZ; first | rw [if_pos (by omega)] | (rw [if_neg (by omega)] <;> omega)))
set_option maxHeartbeats 4000000 in
set_option maxRecDepth 100000 in
theorem specStateOk_yes (n : Nt) (st : List Int) (v : Value) (w : World) (hr : RdsNt w n) (hn : NtOk n) (hst : RdsW w v 1 st.length (st.map (Value.int .i64))) (hso : StOk n st) :
  Calls Try.prog 63 #[.agg #[.int .i64 n.ins, n.sv, n.av, n.ov], v] w (Ans w (.bool true)) := by
 have hi0 := hn.i0
 have hi1 := hn.i1
 have hs1 := hn.s1
 have ha1 := hn.a1
 have ho1 := hn.o1
 have hcnt : n.cnt = 1 + n.ins + n.ss.length + n.gs.length := rfl
 have hfst : n.fst = 1 + n.ins + n.ss.length := rfl
 have hsl := hso.len
 refine calls_hc (N := 35) (args := [.agg #[.int .i64 n.ins, n.sv, n.av, n.ov], v]) Try.func63 rfl rfl ?_
 refine hc_less _ (sx 0 rfl (sx 1 rfl (sub_nil _))) (.refl _) ?_
 refine hc_seq ?_
 refine hc_region ?_
 refine hl_box rfl rfl rfl (rq_box rfl rfl) ?_
 intro b1
 refine hl_v rfl rfl rfl (rv_ev rfl) ?_
 refine hl_less (sx 0 rfl (sx 1 rfl (sx 2 rfl (sx 4 rfl (sub_nil _))))) (.refl _) ?_
 refine hl_nil ?_
 refine hq_then ?_
 refine hc_seq ?_
 refine hc_seq ?_
 refine hc_region ?_
 refine hl_v rfl rfl rfl (rv_loadN (cs := [.int .i64 n.ins, n.sv, n.av, n.ov]) rfl (by kernel_rfl) (by kernel_rfl) rfl rfl (box_part 0 rfl 0 rfl)) ?_
 refine hl_callV rfl rfl rfl (rq_call (by kernel_rfl) rfl (fun w hm => ret_ans (specNetOk_yes n w (hr.below hm.bel) hn))) ?_
 refine hl_v rfl rfl rfl (rv_ev rfl) ?_
 refine hl_v rfl rfl rfl (rv_ev rfl) ?_
 refine hl_v rfl rfl rfl (rv_ev rfl) ?_
 refine hl_v rfl rfl rfl (rv_len rfl Try.underlying26 rfl (rd_old hst)) ?_
 refine hl_v rfl rfl rfl (rv_field (k0 := 1) rfl (by kernel_rfl) rfl) ?_
 refine hl_v rfl rfl rfl (rv_load rfl (by kernel_rfl) rfl (box_cell 0 rfl rfl)) ?_
 refine hl_v rfl rfl rfl (rv_len rfl Try.underlying24 rfl (rd_old hr.sq)) ?_
 refine hl_neq rfl rfl rfl rfl rfl rfl (fun h2 => absurd h2 (by omega)) (fun h2 => ?_)
 refine hl_v rfl rfl rfl (rv_ev rfl) ?_
 refine hl_less (sx 0 rfl (sx 1 rfl (sx 2 rfl (sx 4 rfl (sx 16 rfl (sub_nil _)))))) (.refl _) ?_
 refine hl_nil ?_
 refine hq_then ?_
 refine hc_false rfl ?_
 refine hc_skip ?_
 refine hq_then ?_
 refine hc_seq ?_
 refine hc_seq ?_
 refine hc_region ?_
 refine hl_v rfl rfl rfl (rv_ev rfl) ?_
 refine hl_less (sx 0 rfl (sx 1 rfl (sx 2 rfl (sx 4 rfl (sx 5 rfl (sx 16 rfl (sub_nil _))))))) (.refl _) ?_
 refine hl_nil ?_
 refine hq_then ?_
 refine hc_block ?_
 refine hc_loop1 (α := Nat) (fun k => [boxE b1 #[.int .i64 n.ins, n.sv, n.av, n.ov] 28]) (fun k => [(0, .agg #[.int .i64 n.ins, n.sv, n.av, n.ov]), (1, v), (2, .pointer (some ⟨b1, 0, none⟩)), (4, .bool false), (5, .int .i64 (k : Int)), (16, .bool false)]) (fun k => k ≤ st.length) (fun k => st.length - k) 0 (Nat.zero_le _) (sx 0 rfl (sx 1 rfl (sx 2 rfl (sx 4 rfl (sx 5 rfl (sx 16 rfl (sub_nil _))))))) ((.cons_cons _ .slnil)) ?_
 intro k hi3
 have hk := hi3
 refine hc_seq ?_
 refine hc_seq ?_
 refine hc_region ?_
 refine hl_v rfl rfl rfl (rv_ev rfl) ?_
 refine hl_v rfl rfl rfl (rv_ev rfl) ?_
 refine hl_v rfl rfl rfl (rv_len rfl Try.underlying26 rfl (rd_old hst)) ?_
 refine hl_lss rfl rfl rfl rfl rfl rfl (fun h4 => ?_) (fun h4 => ?_)
 ·
  refine hl_less (sx 0 rfl (sx 1 rfl (sx 2 rfl (sx 4 rfl (sx 5 rfl (sx 16 rfl (sx 20 rfl (sub_nil _)))))))) (.refl _) ?_
  refine hl_nil ?_
  refine hq_then ?_
  refine hc_true rfl ?_
  refine hc_skip ?_
  refine hq_then ?_
  refine hc_seq ?_
  refine hc_block ?_
  refine hc_seq ?_
  have hqk := (hn.sq _ (getD_memX (d := sq0) (show k < n.ss.length by omega))).kind
  have hsk := hso.rng k (by omega)
  have hzz := seqZ_pos (kd := (n.ss.getD k sq0).kd) hsk.1
  have hb5 : (decide (seqZ ((n.ss.getD k sq0).kd) (st.getD k 0) < 0)) = false := decide_eq_false (by omega)
  refine hc_draw (by kernel_rfl) 12 [0, 1, 2, 3, 4, 5, 6, 7, 8, 9, 10, 11] (List.take 12 _) (List.drop 12 _) [[], [0], [], [1, 2], [3], [4], [], [], [6, 7], [8], [5, 9], [10]] [23, 24, 25, 26, 27, 28, 29, 30, 31, 32, 33, 34] (fun i_ vs_ v_ p_ => match i_ with | 0 => v_ = .pointer (some ⟨b1, 0 + 1, none⟩) ∧ p_ = [] | 1 => v_ = n.sv ∧ p_ = [] | 2 => v_ = .int .i64 (k : Int) ∧ p_ = [] | 3 => v_ = elP n.sv (((k : Int)).toNat * 3) ∧ p_ = [] | 4 => v_ = elP n.sv (((k : Int)).toNat * 3 + 0) ∧ p_ = [] | 5 => v_ = .int .i64 ((n.ss.getD k sq0).kd) ∧ p_ = [] | 6 => v_ = v ∧ p_ = [] | 7 => v_ = .int .i64 (k : Int) ∧ p_ = [] | 8 => v_ = elP v (((k : Int)).toNat * 1) ∧ p_ = [] | 9 => v_ = .int .i64 (st.getD k 0) ∧ p_ = [] | 10 => v_ = .int .i64 (seqZ ((n.ss.getD k sq0).kd) (st.getD k 0)) ∧ p_ = [] | 11 => v_ = .bool false ∧ p_ = [] | _ => True) (List.take_append_drop 12 _).symm (by kernel_rfl) (by kernel_rfl) rfl rfl ?_ ?_
  ·
   refine ⟨?_, ?_, ?_, ?_, ?_, ?_, ?_, ?_, ?_, ?_, ?_, ?_, trivial⟩
   ·
    intro vf pf hR
    refine Or.inl ⟨rfl, ?_⟩
    refine rq_less (sx 2 rfl (sub_nil _)) (List.sublist_append_right _ _) ?_
    exact rq_v (rv_field (k0 := 1) rfl (by kernel_rfl) rfl)
   ·
    intro vf pf hR
    have e0 : (vf 0) = .pointer (some ⟨b1, 0 + 1, none⟩) ∧ (pf 0) = [] := hR 0 (by decide)
    refine Or.inl ⟨rfl, ?_⟩
    refine rq_less (sx 23 (congrArg some e0.1) (sub_nil _)) (List.sublist_append_right _ _) ?_
    exact rq_v (rv_load rfl (by kernel_rfl) rfl (box_cell 0 rfl rfl))
   ·
    intro vf pf hR
    refine Or.inl ⟨rfl, ?_⟩
    refine rq_less (sx 5 rfl (sub_nil _)) (List.sublist_append_right _ _) ?_
    exact rq_v (rv_ev rfl)
   ·
    intro vf pf hR
    have e1 : (vf 1) = n.sv ∧ (pf 1) = [] := hR 1 (by decide)
    have e2 : (vf 2) = .int .i64 (k : Int) ∧ (pf 2) = [] := hR 2 (by decide)
    refine Or.inl ⟨rfl, ?_⟩
    refine rq_less (sx 24 (congrArg some e1.1) (sx 25 (congrArg some e2.1) (sub_nil _))) (List.sublist_append_right _ _) ?_
    exact rq_v (rv_index (s := 3) rfl Try.underlying24 (by kernel_rfl) rfl rfl (rd_old hr.sq) (by omega) (by first | omega | (simp only [List.length_set]; omega)))
   ·
    intro vf pf hR
    have e3 : (vf 3) = elP n.sv (((k : Int)).toNat * 3) ∧ (pf 3) = [] := hR 3 (by decide)
    refine Or.inl ⟨rfl, ?_⟩
    refine rq_less (sx 26 (congrArg some e3.1) (sub_nil _)) (List.sublist_append_right _ _) ?_
    exact rq_v (rv_fieldEl (k0 := 0) rfl (by kernel_rfl) rfl (rd_old hr.sq) (by first | omega | (simp only [List.length_set]; omega)))
   ·
    intro vf pf hR
    have e4 : (vf 4) = elP n.sv (((k : Int)).toNat * 3 + 0) ∧ (pf 4) = [] := hR 4 (by decide)
    refine Or.inl ⟨rfl, ?_⟩
    refine rq_less (sx 27 (congrArg some e4.1) (sub_nil _)) (List.sublist_append_right _ _) ?_
    exact rq_v (rv_loadEl (u := .int .i64 ((n.ss.getD k sq0).kd)) rfl (by kernel_rfl) rfl (rd_old hr.sq) ((flat_at sqC 3 (fun _ => rfl) n.ss sq0 (show k < _ by first | omega | (simp only [List.length_set]; omega)) (by decide)).trans rfl))
   ·
    intro vf pf hR
    refine Or.inl ⟨rfl, ?_⟩
    refine rq_less (sx 1 rfl (sub_nil _)) (List.sublist_append_right _ _) ?_
    exact rq_v (rv_ev rfl)
   ·
    intro vf pf hR
    refine Or.inl ⟨rfl, ?_⟩
    refine rq_less (sx 5 rfl (sub_nil _)) (List.sublist_append_right _ _) ?_
    exact rq_v (rv_ev rfl)
   ·
    intro vf pf hR
    have e6 : (vf 6) = v ∧ (pf 6) = [] := hR 6 (by decide)
    have e7 : (vf 7) = .int .i64 (k : Int) ∧ (pf 7) = [] := hR 7 (by decide)
    refine Or.inl ⟨rfl, ?_⟩
    refine rq_less (sx 29 (congrArg some e6.1) (sx 30 (congrArg some e7.1) (sub_nil _))) (List.sublist_append_right _ _) ?_
    exact rq_v (rv_index (s := 1) rfl Try.underlying26 (by kernel_rfl) rfl rfl (rd_old hst) (by omega) (by first | omega | (simp only [List.length_set]; omega)))
   ·
    intro vf pf hR
    have e8 : (vf 8) = elP v (((k : Int)).toNat * 1) ∧ (pf 8) = [] := hR 8 (by decide)
    refine Or.inl ⟨rfl, ?_⟩
    refine rq_less (sx 31 (congrArg some e8.1) (sub_nil _)) (List.sublist_append_right _ _) ?_
    exact rq_v (rv_loadEl (u := .int .i64 (st.getD k 0)) rfl (by kernel_rfl) rfl (rd_old hst) (ints_at1 (show _ < st.length by first | omega | (simp only [List.length_set]; omega))))
   ·
    intro vf pf hR
    have e5 : (vf 5) = .int .i64 ((n.ss.getD k sq0).kd) ∧ (pf 5) = [] := hR 5 (by decide)
    have e9 : (vf 9) = .int .i64 (st.getD k 0) ∧ (pf 9) = [] := hR 9 (by decide)
    refine Or.inl ⟨rfl, ?_⟩
    refine rq_less (sx 28 (congrArg some e5.1) (sx 32 (congrArg some e9.1) (sub_nil _))) (List.sublist_append_right _ _) ?_
    exact (rq_call (by kernel_rfl) rfl (fun w hm => ret_ans (SeqNext_zero ((n.ss.getD k sq0).kd) (st.getD k 0) w (by omega) (by omega) (by omega))))
   ·
    intro vf pf hR
    have e10 : (vf 10) = .int .i64 (seqZ ((n.ss.getD k sq0).kd) (st.getD k 0)) ∧ (pf 10) = [] := hR 10 (by decide)
    refine Or.inl ⟨rfl, ?_⟩
    refine rq_less (sx 33 (congrArg some e10.1) (sub_nil _)) (List.sublist_append_right _ _) ?_
    exact rq_mono (rq_v (rv_cmp rfl rfl rfl rfl)) (fun _ _ h => ⟨h.1.trans (congrArg Value.bool hb5), h.2⟩)
  ·
   intro vf pf hR
   have e11 : (vf 11) = .bool false ∧ (pf 11) = [] := hR 11 (by decide)
   refine hl_less (l' := [boxE b1 #[.int .i64 n.ins, n.sv, n.av, n.ov] 28]) (sx 0 rfl (sx 1 rfl (sx 2 rfl (sx 4 rfl (sx 5 rfl (sx 16 rfl (sx 20 rfl (sx 34 (congrArg some e11.1) (sub_nil _))))))))) (List.sublist_append_right _ _) ?_
   simp only [List.drop_succ_cons, List.drop_zero]
   refine hl_less (sx 0 rfl (sx 1 rfl (sx 2 rfl (sx 4 rfl (sx 5 rfl (sx 16 rfl (sx 20 rfl (sx 34 rfl (sub_nil _))))))))) (.refl _) ?_
   refine hl_nil ?_
   refine hq_then ?_
   refine hc_false rfl ?_
   refine hc_skip ?_
   refine hq_block_normal ?_
   refine hq_then ?_
   refine hc_region ?_
   refine hl_v rfl rfl rfl (rv_ev rfl) ?_
   refine hl_v rfl rfl rfl (rv_add rfl rfl rfl (by constructor <;> omega)) ?_
   refine hl_v rfl rfl rfl (rv_ev rfl) ?_
   refine hl_less (sx 0 rfl (sx 1 rfl (sx 2 rfl (sx 4 rfl (sx 5 rfl (sx 16 rfl (sx 20 rfl (sx 34 rfl (sub_nil _))))))))) (.refl _) ?_
   refine hl_nil ?_
   exact hq_round1 (k + 1) (by omega) (by omega) (sx 0 rfl (sx 1 rfl (sx 2 rfl (sx 4 rfl (sx 5 rfl (sx 16 rfl (sub_nil _))))))) ((.cons_cons _ .slnil))
 ·
  refine hl_less (sx 0 rfl (sx 1 rfl (sx 2 rfl (sx 4 rfl (sx 5 rfl (sx 16 rfl (sx 20 rfl (sub_nil _)))))))) (.refl _) ?_
  refine hl_nil ?_
  refine hq_then ?_
  refine hc_false rfl ?_
  refine hc_exit ?_
  refine hq_then_exit ?_
  refine hq_then_exit ?_
  refine hq_block_exit ?_
  refine hq_then ?_
  refine hc_seq ?_
  refine hc_region ?_
  refine hl_v rfl rfl rfl (rv_ev rfl) ?_
  refine hl_less (sx 0 rfl (sx 1 rfl (sx 2 rfl (sx 4 rfl (sx 5 rfl (sx 16 rfl (sx 20 rfl (sub_nil _)))))))) (.refl _) ?_
  refine hl_nil ?_
  refine hq_then ?_
  refine hc_ret ?_
  exact hq_ans rfl rfl rfl
set_option maxHeartbeats 4000000 in
set_option maxRecDepth 100000 in
theorem NetStart_ret (n : Nt) (w : World) (hr : RdsNt w n) (hn : NtOk n) :
  Calls Try.prog 15 #[.agg #[.int .i64 n.ins, n.sv, n.av, n.ov]] w (Ret w (fun v' post => post = [rowE 3 1 v' (stL n).length ((stL n).map (Value.int .i64))])) := by
 have hi0 := hn.i0
 have hi1 := hn.i1
 have hs1 := hn.s1
 have ha1 := hn.a1
 have ho1 := hn.o1
 have hcnt : n.cnt = 1 + n.ins + n.ss.length + n.gs.length := rfl
 have hfst : n.fst = 1 + n.ins + n.ss.length := rfl
 refine calls_hc (N := 27) (args := [.agg #[.int .i64 n.ins, n.sv, n.av, n.ov]]) Try.func15 rfl rfl ?_
 refine hc_less _ (sx 0 rfl (sub_nil _)) (.refl _) ?_
 refine hc_seq ?_
 refine hc_region ?_
 refine hl_box rfl rfl rfl (rq_box rfl rfl) ?_
 intro b1
 refine hl_v rfl rfl rfl (rv_ev rfl) ?_
 refine hl_less (sx 0 rfl (sx 1 rfl (sx 2 rfl (sub_nil _)))) (.refl _) ?_
 refine hl_nil ?_
 refine hq_then ?_
 refine hc_seq ?_
 refine hc_region ?_
 refine hl_row rfl rfl rfl (rq_slice0 (s := 1) rfl Try.underlying26 (by kernel_rfl)) ?_
 intro g2
 refine hl_v rfl rfl rfl (rv_ev rfl) ?_
 refine hl_less (sx 0 rfl (sx 1 rfl (sx 2 rfl (sx 3 rfl (sub_nil _))))) (.refl _) ?_
 refine hl_nil ?_
 refine hq_then ?_
 refine hc_seq ?_
 refine hc_seq ?_
 refine hc_region ?_
 refine hl_v rfl rfl rfl (rv_loadN (cs := [.int .i64 n.ins, n.sv, n.av, n.ov]) rfl (by kernel_rfl) (by kernel_rfl) rfl rfl (box_part 1 rfl 0 rfl)) ?_
 refine hl_callV rfl rfl rfl (rq_call (by kernel_rfl) rfl (fun w hm => ret_ans (specNetOk_yes n w (hr.below hm.bel) hn))) ?_
 refine hl_v rfl rfl rfl (rv_ev rfl) ?_
 refine hl_less (sx 0 rfl (sx 1 rfl (sx 2 rfl (sx 3 rfl (sx 8 rfl (sub_nil _)))))) (.refl _) ?_
 refine hl_nil ?_
 refine hq_then ?_
 refine hc_false rfl ?_
 refine hc_skip ?_
 refine hq_then ?_
 refine hc_seq ?_
 refine hc_seq ?_
 refine hc_region ?_
 refine hl_v rfl rfl rfl (rv_ev rfl) ?_
 refine hl_less (sx 0 rfl (sx 1 rfl (sx 2 rfl (sx 3 rfl (sx 4 rfl (sx 8 rfl (sub_nil _))))))) (.refl _) ?_
 refine hl_nil ?_
 refine hq_then ?_
 refine hc_block ?_
 refine hc_loop3 (α := Nat) (β := Value) (γ := List Int) (fun k u zs => [rowE 3 1 u zs.length (zs.map (Value.int .i64)), boxE b1 #[.int .i64 n.ins, n.sv, n.av, n.ov] 28]) (fun k u zs => [(0, .agg #[.int .i64 n.ins, n.sv, n.av, n.ov]), (1, .pointer (some ⟨b1, 0, none⟩)), (2, .slice none 0 0), (3, u), (4, .int .i64 (k : Int)), (8, .bool false)]) (fun k u zs => k ≤ n.ss.length ∧ zs = strL n k) (fun k u zs => n.ss.length - k) 0 _ [] ⟨by omega, rfl⟩ (sx 0 rfl (sx 1 rfl (sx 2 rfl (sx 3 rfl (sx 4 rfl (sx 8 rfl (sub_nil _))))))) ((.cons_cons _ (.cons_cons _ .slnil))) ?_
 intro k u zs hi3
 obtain ⟨hk, hz⟩ := hi3
 have hzl : zs.length = k := by rw [hz]; exact str_len n hk
 refine hc_seq ?_
 refine hc_seq ?_
 refine hc_region ?_
 refine hl_v rfl rfl rfl (rv_ev rfl) ?_
 refine hl_v rfl rfl rfl (rv_field (k0 := 1) rfl (by kernel_rfl) rfl) ?_
 refine hl_v rfl rfl rfl (rv_load rfl (by kernel_rfl) rfl (box_cell 1 rfl rfl)) ?_
 refine hl_v rfl rfl rfl (rv_len rfl Try.underlying24 rfl (rd_old hr.sq)) ?_
 refine hl_lss rfl rfl rfl rfl rfl rfl (fun h4 => ?_) (fun h4 => ?_)
 ·
  refine hl_less (sx 0 rfl (sx 1 rfl (sx 2 rfl (sx 3 rfl (sx 4 rfl (sx 8 rfl (sx 14 rfl (sub_nil _)))))))) (.refl _) ?_
  refine hl_nil ?_
  refine hq_then ?_
  refine hc_true rfl ?_
  refine hc_skip ?_
  refine hq_then ?_
  refine hc_seq ?_
  refine hc_block ?_
  refine hc_region ?_
  refine hl_v rfl rfl rfl (rv_ev rfl) ?_
  refine hl_v rfl rfl rfl (rv_field (k0 := 1) rfl (by kernel_rfl) rfl) ?_
  refine hl_v rfl rfl rfl (rv_load rfl (by kernel_rfl) rfl (box_cell 1 rfl rfl)) ?_
  refine hl_v rfl rfl rfl (rv_ev rfl) ?_
  refine hl_v rfl rfl rfl (rv_index (s := 3) rfl Try.underlying24 (by kernel_rfl) rfl rfl (rd_old hr.sq) (by omega) (by first | omega | (simp only [List.length_set]; omega))) ?_
  refine hl_v rfl rfl rfl (rv_fieldEl (k0 := 1) rfl (by kernel_rfl) rfl (rd_old hr.sq) (by first | omega | (simp only [List.length_set]; omega))) ?_
  refine hl_v rfl rfl rfl (rv_loadEl (u := .int .i64 ((n.ss.getD k sq0).it)) rfl (by kernel_rfl) rfl (rd_old hr.sq) ((flat_at sqC 3 (fun _ => rfl) n.ss sq0 (show k < _ by first | omega | (simp only [List.length_set]; omega)) (by decide)).trans rfl)) ?_
  refine hl_row rfl rfl rfl (rq_buildSlice (z := .int .i64 0) (s := 1) (cs := ([(n.ss.getD k sq0).it].map (Value.int .i64))) rfl Try.underlying26 (by kernel_rfl) (by decide) rfl (by kernel_rfl) rfl) ?_
  intro g5
  refine hl_append (i := 1) (z := .int .i64 0) (bytes := 8) (n' := (zs ++ ([(n.ss.getD k sq0).it])).length) (xs' := ((zs ++ ([(n.ss.getD k sq0).it])).map (Value.int .i64))) (L := fun v6 => [rowE 3 1 (.slice (some ⟨g5, 0, none⟩) 1 1) 1 ([(n.ss.getD k sq0).it].map (Value.int .i64)), rowE 3 1 v6 ((zs ++ ([(n.ss.getD k sq0).it])).length) ((zs ++ ([(n.ss.getD k sq0).it])).map (Value.int .i64)), boxE b1 #[.int .i64 n.ins, n.sv, n.av, n.ov] 28]) rfl rfl rfl rfl Try.underlying26 (by kernel_rfl) (by kernel_rfl) rfl rfl rfl (rd_row 0 rfl) (ints_one _) (by first | omega | (simp; omega)) (len_app zs ([(n.ss.getD k sq0).it])) (ints_app zs ([(n.ss.getD k sq0).it])) (fun _ => rfl) ?_
  intro v6
  refine hl_v rfl rfl rfl (rv_ev rfl) ?_
  refine hl_less (sx 0 rfl (sx 1 rfl (sx 2 rfl (sx 3 rfl (sx 4 rfl (sx 8 rfl (sx 14 rfl (sub_nil _)))))))) (.refl _) ?_
  refine hl_nil ?_
  refine hq_block_normal ?_
  refine hq_then ?_
  refine hc_region ?_
  refine hl_v rfl rfl rfl (rv_ev rfl) ?_
  refine hl_v rfl rfl rfl (rv_add rfl rfl rfl (by constructor <;> omega)) ?_
  refine hl_v rfl rfl rfl (rv_ev rfl) ?_
  refine hl_less (sx 0 rfl (sx 1 rfl (sx 2 rfl (sx 3 rfl (sx 4 rfl (sx 8 rfl (sx 14 rfl (sub_nil _)))))))) (.refl _) ?_
  refine hl_nil ?_
  exact hq_round3 (k + 1) v6 (zs ++ ([(n.ss.getD k sq0).it])) ⟨by omega, by rw [hz]; exact str_step n (by omega)⟩ (by omega) (sx 0 rfl (sx 1 rfl (sx 2 rfl (sx 3 rfl (sx 4 rfl (sx 8 rfl (sub_nil _))))))) ((.cons _ (.cons_cons _ (.cons_cons _ .slnil))))
 ·
  refine hl_less (sx 0 rfl (sx 1 rfl (sx 2 rfl (sx 3 rfl (sx 4 rfl (sx 8 rfl (sx 14 rfl (sub_nil _)))))))) (.refl _) ?_
  refine hl_nil ?_
  refine hq_then ?_
  refine hc_false rfl ?_
  refine hc_exit ?_
  refine hq_then_exit ?_
  refine hq_then_exit ?_
  refine hq_block_exit ?_
  refine hq_then ?_
  refine hc_seq ?_
  refine hc_region ?_
  refine hl_v rfl rfl rfl (rv_ev rfl) ?_
  refine hl_v rfl rfl rfl (rv_ev rfl) ?_
  refine hl_less (sx 0 rfl (sx 1 rfl (sx 2 rfl (sx 3 rfl (sx 4 rfl (sx 8 rfl (sx 14 rfl (sub_nil _)))))))) (.refl _) ?_
  refine hl_nil ?_
  refine hq_then ?_
  refine hc_ret ?_
  exact hq_retR (post := [rowE 3 1 u zs.length (zs.map (Value.int .i64))]) rfl rfl ((.cons_cons _ (.cons _ .slnil))) (by rw [hz, show k = n.ss.length by omega])
set_option maxHeartbeats 4000000 in
set_option maxRecDepth 100000 in
theorem l09Bit_ans (xs : List Int) (l : Int) (v : Value) (w : World) (hv : RdsW w v 1 xs.length (xs.map (Value.int .i64))) (hl : 0 ≤ l ∧ l < 2 * xs.length) (h01 : xs.getD (l / 2).toNat 0 = 0 ∨ xs.getD (l / 2).toNat 0 = 1) (hlen : xs.length ≤ 100000) :
  Calls Try.prog 64 #[v, .int .i64 l] w (Ans w (.int .i64 (bitL xs l))) := by
 refine calls_hc (N := 13) (args := [v, .int .i64 l]) Try.func64 rfl rfl ?_
 refine hc_less _ (sx 0 rfl (sx 1 rfl (sub_nil _))) (.refl _) ?_
 refine hc_seq ?_
 refine hc_region ?_
 refine hl_v rfl rfl rfl (rv_ev rfl) ?_
 refine hl_less (sx 0 rfl (sx 1 rfl (sx 4 rfl (sub_nil _)))) (.refl _) ?_
 refine hl_nil ?_
 refine hq_then ?_
 refine hc_seq ?_
 refine hc_region ?_
 refine hl_v rfl rfl rfl (rv_ev rfl) ?_
 refine hl_v rfl rfl rfl (rv_ev rfl) ?_
 refine hl_v rfl rfl rfl (rv_quo rfl rfl rfl (by refine ⟨?_, ?_, ?_⟩ <;> omega)) ?_
 refine hl_v rfl rfl rfl (rv_index (s := 1) rfl Try.underlying26 (by kernel_rfl) rfl rfl (rd_old hv) (by omega) (by first | omega | (simp only [List.length_set]; omega))) ?_
 refine hl_v rfl rfl rfl (rv_loadEl (u := .int .i64 (xs.getD ((l / 2).toNat) 0)) rfl (by kernel_rfl) rfl (rd_old hv) (ints_at1 (show _ < xs.length by first | omega | (simp only [List.length_set]; omega)))) ?_
 refine hl_v rfl rfl rfl (rv_ev rfl) ?_
 refine hl_v rfl rfl rfl (rv_bits rfl (by decide) rfl rfl (r := l % 2) (Bit.and_one _ (by omega) (by omega))) ?_
 refine hl_v rfl rfl rfl (rv_bits rfl (by decide) rfl rfl (r := bitL xs l) (xor01 h01)) ?_
 refine hl_v rfl rfl rfl (rv_ev rfl) ?_
 refine hl_less (sx 0 rfl (sx 1 rfl (sx 4 rfl (sub_nil _)))) (.refl _) ?_
 refine hl_nil ?_
 refine hq_then ?_
 refine hc_ret ?_
 exact hq_ans rfl rfl rfl
set_option maxHeartbeats 4000000 in
set_option maxRecDepth 100000 in
theorem specLitValue_ans (xs : List Int) (l : Int) (v : Value) (w : World) (hv : RdsW w v 1 xs.length (xs.map (Value.int .i64))) (hl : 0 ≤ l ∧ l < 2 * xs.length) (h01 : xs.getD (l / 2).toNat 0 = 0 ∨ xs.getD (l / 2).toNat 0 = 1) (hlen : xs.length ≤ 100000) :
  Calls Try.prog 20 #[v, .int .i64 l] w (Ans w (.int .i64 (bitL xs l))) := by
 refine calls_hc (N := 26) (args := [v, .int .i64 l]) Try.func20 rfl rfl ?_
 refine hc_less _ (sx 0 rfl (sx 1 rfl (sub_nil _))) (.refl _) ?_
 refine hc_seq ?_
 refine hc_region ?_
 refine hl_v rfl rfl rfl (rv_ev rfl) ?_
 refine hl_less (sx 0 rfl (sx 1 rfl (sx 4 rfl (sub_nil _)))) (.refl _) ?_
 refine hl_nil ?_
 refine hq_then ?_
 refine hc_seq ?_
 refine hc_seq ?_
 refine hc_region ?_
 refine hl_v rfl rfl rfl (rv_ev rfl) ?_
 refine hl_lss rfl rfl rfl rfl rfl rfl (fun h1 => absurd h1 (by omega)) (fun h1 => ?_)
 refine hl_v rfl rfl rfl (rv_ev rfl) ?_
 refine hl_v rfl rfl rfl (rv_ev rfl) ?_
 refine hl_v rfl rfl rfl (rv_quo rfl rfl rfl (by refine ⟨?_, ?_, ?_⟩ <;> omega)) ?_
 refine hl_v rfl rfl rfl (rv_ev rfl) ?_
 refine hl_v rfl rfl rfl (rv_len rfl Try.underlying26 rfl (rd_old hv)) ?_
 refine hl_geq rfl rfl rfl rfl rfl rfl (fun h2 => absurd h2 (by omega)) (fun h2 => ?_)
 refine hl_v rfl rfl rfl (rv_ev rfl) ?_
 refine hl_v rfl rfl rfl (rv_ev rfl) ?_
 refine hl_v rfl rfl rfl (rv_ev rfl) ?_
 refine hl_v rfl rfl rfl (rv_ev rfl) ?_
 refine hl_v rfl rfl rfl (rv_quo rfl rfl rfl (by refine ⟨?_, ?_, ?_⟩ <;> omega)) ?_
 refine hl_v rfl rfl rfl (rv_index (s := 1) rfl Try.underlying26 (by kernel_rfl) rfl rfl (rd_old hv) (by omega) (by first | omega | (simp only [List.length_set]; omega))) ?_
 refine hl_v rfl rfl rfl (rv_loadEl (u := .int .i64 (xs.getD ((l / 2).toNat) 0)) rfl (by kernel_rfl) rfl (rd_old hv) (ints_at1 (show _ < xs.length by first | omega | (simp only [List.length_set]; omega)))) ?_
 refine hl_callV rfl rfl rfl (rq_call (by kernel_rfl) rfl (fun w hm => ret_ans (l01In_any0 (xs.getD ((l / 2).toNat) 0) 0 1 w))) ?_
 refine hl_bool (fun h3 => ?_) (fun h3 => absurd ((((inR_iff _ _ _).2 (by omega))).symm.trans h3) (by decide))
 refine hl_v rfl rfl rfl (rv_ev rfl) ?_
 refine hl_v rfl rfl rfl (rv_ev rfl) ?_
 refine hl_less (sx 0 rfl (sx 1 rfl (sx 4 rfl (sx 22 rfl (sub_nil _))))) (.refl _) ?_
 refine hl_nil ?_
 refine hq_then ?_
 refine hc_false rfl ?_
 refine hc_skip ?_
 refine hq_then ?_
 refine hc_seq ?_
 refine hc_region ?_
 refine hl_v rfl rfl rfl (rv_ev rfl) ?_
 refine hl_v rfl rfl rfl (rv_ev rfl) ?_
 refine hl_callV rfl rfl rfl (rq_call (by kernel_rfl) rfl (fun w hm => ret_ans (l09Bit_ans xs l _ w ((rd_old hv) w hm) (by omega) (by first | assumption | omega) (by omega)))) ?_
 refine hl_v rfl rfl rfl (rv_ev rfl) ?_
 refine hl_less (sx 0 rfl (sx 1 rfl (sx 4 rfl (sx 22 rfl (sub_nil _))))) (.refl _) ?_
 refine hl_nil ?_
 refine hq_then ?_
 refine hc_ret ?_
 exact hq_ans rfl rfl rfl
theorem shr_rng {inp : Int} (h : 0 ≤ inp ∧ inp ≤ 4294967295) (k : Nat) : 0 ≤ inp / 2 ^ k ∧ inp / 2 ^ k < 4294967296 := by
  have hp : (0 : Int) < 2 ^ k := Int.pow_pos (by decide)
  have h1 := Int.ediv_nonneg h.1 (Int.le_of_lt hp)
  have h2 := Int.ediv_le_self (2 ^ k) h.1
  omega
set_option maxHeartbeats 4000000 in
set_option maxRecDepth 100000 in
theorem specNodeValues_ret (n : Nt) (st : List Int) (v : Value) (inp : Int) (w : World) (hr : RdsNt w n) (hn : NtOk n) (hst : RdsW w v 1 st.length (st.map (Value.int .i64))) (hso : StOk n st) (hin : 0 ≤ inp ∧ inp ≤ 4294967295) :
  Calls Try.prog 14 #[.agg #[.int .i64 n.ins, n.sv, n.av, n.ov], v, .int .i64 inp] w (Ret w (fun v' post => post = [rowE 3 1 v' (valsL n st inp).length ((valsL n st inp).map (Value.int .i64))])) := by
 have hi0 := hn.i0
 have hi1 := hn.i1
 have hs1 := hn.s1
 have ha1 := hn.a1
 have ho1 := hn.o1
 have hcnt : n.cnt = 1 + n.ins + n.ss.length + n.gs.length := rfl
 have hfst : n.fst = 1 + n.ins + n.ss.length := rfl
 have hsl := hso.len
 refine calls_hc (N := 82) (args := [.agg #[.int .i64 n.ins, n.sv, n.av, n.ov], v, .int .i64 inp]) Try.func14 rfl rfl ?_
 refine hc_less _ (sx 0 rfl (sx 1 rfl (sx 2 rfl (sub_nil _)))) (.refl _) ?_
 refine hc_seq ?_
 refine hc_region ?_
 refine hl_box rfl rfl rfl (rq_box rfl rfl) ?_
 intro b1
 refine hl_v rfl rfl rfl (rv_ev rfl) ?_
 refine hl_less (sx 0 rfl (sx 1 rfl (sx 2 rfl (sx 3 rfl (sx 6 rfl (sub_nil _)))))) (.refl _) ?_
 refine hl_nil ?_
 refine hq_then ?_
 refine hc_seq ?_
 refine hc_seq ?_
 refine hc_region ?_
 refine hl_v rfl rfl rfl (rv_loadN (cs := [.int .i64 n.ins, n.sv, n.av, n.ov]) rfl (by kernel_rfl) (by kernel_rfl) rfl rfl (box_part 0 rfl 0 rfl)) ?_
 refine hl_v rfl rfl rfl (rv_ev rfl) ?_
 refine hl_callV rfl rfl rfl (rq_call (by kernel_rfl) rfl (fun w hm => ret_ans (specStateOk_yes n st v w (hr.below hm.bel) hn (hst.below hm.bel) hso))) ?_
 refine hl_v rfl rfl rfl (rv_ev rfl) ?_
 refine hl_less (sx 0 rfl (sx 1 rfl (sx 2 rfl (sx 3 rfl (sx 6 rfl (sx 14 rfl (sub_nil _))))))) (.refl _) ?_
 refine hl_nil ?_
 refine hq_then ?_
 refine hc_false rfl ?_
 refine hc_skip ?_
 refine hq_then ?_
 refine hc_seq ?_
 refine hc_region ?_
 refine hl_v rfl rfl rfl (rv_loadN (cs := [.int .i64 n.ins, n.sv, n.av, n.ov]) rfl (by kernel_rfl) (by kernel_rfl) rfl rfl (box_part 0 rfl 0 rfl)) ?_
 refine hl_callV rfl rfl rfl (rq_call (by kernel_rfl) rfl (fun w hm => ret_ans (specNodeCount_yes n w (hr.below hm.bel) hn))) ?_
 refine hl_row rfl rfl rfl (rq_make (z := .int .i64 0) (s := 1) (bytes := 8) (n := (List.replicate (n.cnt).toNat (0 : Int)).length) (cs := ((List.replicate (n.cnt).toNat (0 : Int)).map (Value.int .i64))) rfl Try.underlying26 (by kernel_rfl) (by decide) rfl rfl (by first | (rw [List.length_replicate]; done) | (rw [List.length_replicate]; omega)) (by first | (rw [List.length_replicate]; done) | (rw [List.length_replicate]; omega)) (by rw [List.length_replicate]; omega) (ints_make _)) ?_
 intro g2
 refine hl_v rfl rfl rfl (rv_ev rfl) ?_
 refine hl_less (sx 0 rfl (sx 1 rfl (sx 2 rfl (sx 3 rfl (sx 6 rfl (sx 7 rfl (sx 14 rfl (sub_nil _)))))))) (.refl _) ?_
 refine hl_nil ?_
 refine hq_then ?_
 refine hc_seq ?_
 refine hc_seq ?_
 refine hc_region ?_
 refine hl_v rfl rfl rfl (rv_ev rfl) ?_
 refine hl_less (sx 0 rfl (sx 1 rfl (sx 2 rfl (sx 3 rfl (sx 6 rfl (sx 7 rfl (sx 8 rfl (sx 14 rfl (sub_nil _))))))))) (.refl _) ?_
 refine hl_nil ?_
 refine hq_then ?_
 refine hc_block ?_
 refine hc_loop2 (α := Nat) (β := List Int) (fun k zs => [rowE 3 1 (.slice (some ⟨g2, 0, none⟩) ((List.replicate (n.cnt).toNat (0 : Int)).length) ((List.replicate (n.cnt).toNat (0 : Int)).length)) zs.length (zs.map (Value.int .i64)), boxE b1 #[.int .i64 n.ins, n.sv, n.av, n.ov] 28]) (fun k zs => [(0, .agg #[.int .i64 n.ins, n.sv, n.av, n.ov]), (1, v), (2, .int .i64 inp), (3, .pointer (some ⟨b1, 0, none⟩)), (6, .slice none 0 0), (7, .slice (some ⟨g2, 0, none⟩) ((List.replicate (n.cnt).toNat (0 : Int)).length) ((List.replicate (n.cnt).toNat (0 : Int)).length)), (8, .int .i64 (k : Int)), (14, .bool false)]) (fun k zs => (k : Int) ≤ n.ins ∧ zs = fillZ n.cnt.toNat (preA n inp k)) (fun k zs => (n.ins).toNat - k) 0 (List.replicate n.cnt.toNat (0 : Int)) ⟨by omega, fill_one (by omega)⟩ (sx 0 rfl (sx 1 rfl (sx 2 rfl (sx 3 rfl (sx 6 rfl (sx 7 rfl (sx 8 rfl (sx 14 rfl (sub_nil _))))))))) ((.cons_cons _ (.cons_cons _ .slnil))) ?_
 intro k zs hi3
 obtain ⟨hk, hz⟩ := hi3
 have hzl : zs.length = n.cnt.toNat := by rw [hz]; exact fill_len (by rw [preA_len]; omega)
 refine hc_seq ?_
 refine hc_seq ?_
 refine hc_region ?_
 refine hl_v rfl rfl rfl (rv_ev rfl) ?_
 refine hl_v rfl rfl rfl (rv_field (k0 := 0) rfl (by kernel_rfl) rfl) ?_
 refine hl_v rfl rfl rfl (rv_load rfl (by kernel_rfl) rfl (box_cell 1 rfl rfl)) ?_
 refine hl_lss rfl rfl rfl rfl rfl rfl (fun h4 => ?_) (fun h4 => ?_)
 ·
  refine hl_less (sx 0 rfl (sx 1 rfl (sx 2 rfl (sx 3 rfl (sx 6 rfl (sx 7 rfl (sx 8 rfl (sx 14 rfl (sx 22 rfl (sub_nil _)))))))))) (.refl _) ?_
  refine hl_nil ?_
  refine hq_then ?_
  refine hc_true rfl ?_
  refine hc_skip ?_
  refine hq_then ?_
  refine hc_seq ?_
  refine hc_block ?_
  refine hc_region ?_
  refine hl_v rfl rfl rfl (rv_ev rfl) ?_
  refine hl_v rfl rfl rfl (rv_ev rfl) ?_
  refine hl_v rfl rfl rfl (rv_add rfl rfl rfl (by constructor <;> omega)) ?_
  refine hl_v rfl rfl rfl (rv_ev rfl) ?_
  refine hl_v rfl rfl rfl (rv_ev rfl) ?_
  refine hl_v rfl rfl rfl (rv_shr rfl rfl rfl (by omega)) ?_
  refine hl_v rfl rfl rfl (rv_bits rfl (by decide) rfl rfl (r := inp / 2 ^ k % 2) (by rw [show (inp / 2 ^ ((k : Int)).toNat : Int) = inp / 2 ^ k by rw [Int.toNat_natCast]]; exact Bit.and_one _ (shr_rng hin k).1 (shr_rng hin k).2)) ?_
  refine hl_v rfl rfl rfl (rv_index (s := 1) rfl Try.underlying26 (by kernel_rfl) rfl rfl (rd_row 0 rfl) (by omega) (by first | omega | (simp only [List.length_set]; omega))) ?_
  refine hl_storeEl (i := 0) (n' := (zs.set ((1 + (k : Int)).toNat) (inp / 2 ^ k % 2)).length) (xs' := ((zs.set ((1 + (k : Int)).toNat) (inp / 2 ^ k % 2)).map (Value.int .i64))) (l' := [rowE 3 1 (.slice (some ⟨g2, 0, none⟩) ((List.replicate (n.cnt).toNat (0 : Int)).length) ((List.replicate (n.cnt).toNat (0 : Int)).length)) ((zs.set ((1 + (k : Int)).toNat) (inp / 2 ^ k % 2)).length) ((zs.set ((1 + (k : Int)).toNat) (inp / 2 ^ k % 2)).map (Value.int .i64)), boxE b1 #[.int .i64 n.ins, n.sv, n.av, n.ov] 28]) rfl rfl rfl (by kernel_rfl) rfl rfl rfl rfl (by first | omega | (simp only [List.length_set]; omega)) List.length_set.symm (ints_set _ _ _) rfl ?_
  refine hl_less (sx 0 rfl (sx 1 rfl (sx 2 rfl (sx 3 rfl (sx 6 rfl (sx 7 rfl (sx 8 rfl (sx 14 rfl (sx 22 rfl (sub_nil _)))))))))) (.refl _) ?_
  refine hl_nil ?_
  refine hq_block_normal ?_
  refine hq_then ?_
  refine hc_region ?_
  refine hl_v rfl rfl rfl (rv_ev rfl) ?_
  refine hl_v rfl rfl rfl (rv_add rfl rfl rfl (by constructor <;> omega)) ?_
  refine hl_v rfl rfl rfl (rv_ev rfl) ?_
  refine hl_less (sx 0 rfl (sx 1 rfl (sx 2 rfl (sx 3 rfl (sx 6 rfl (sx 7 rfl (sx 8 rfl (sx 14 rfl (sx 22 rfl (sub_nil _)))))))))) (.refl _) ?_
  refine hl_nil ?_
  exact hq_round2 (k + 1) (zs.set ((1 + (k : Int)).toNat) (inp / 2 ^ k % 2)) ⟨by omega, by rw [hz]; exact (fill_set (by rw [preA_len]; omega) (by rw [preA_len]; omega)).trans (by rw [preA_step])⟩ (by omega) (sx 0 rfl (sx 1 rfl (sx 2 rfl (sx 3 rfl (sx 6 rfl (sx 7 rfl (sx 8 rfl (sx 14 rfl (sub_nil _))))))))) ((.cons_cons _ (.cons_cons _ .slnil)))
 ·
  refine hl_less (sx 0 rfl (sx 1 rfl (sx 2 rfl (sx 3 rfl (sx 6 rfl (sx 7 rfl (sx 8 rfl (sx 14 rfl (sx 22 rfl (sub_nil _)))))))))) (.refl _) ?_
  refine hl_nil ?_
  refine hq_then ?_
  refine hc_false rfl ?_
  refine hc_exit ?_
  refine hq_then_exit ?_
  refine hq_then_exit ?_
  refine hq_block_exit ?_
  refine hq_then ?_
  refine hc_seq ?_
  refine hc_seq ?_
  refine hc_region ?_
  refine hl_v rfl rfl rfl (rv_ev rfl) ?_
  refine hl_less (sx 0 rfl (sx 1 rfl (sx 2 rfl (sx 3 rfl (sx 6 rfl (sx 7 rfl (sx 8 rfl (sx 9 rfl (sx 14 rfl (sx 22 rfl (sub_nil _))))))))))) (.refl _) ?_
  refine hl_nil ?_
  refine hq_then ?_
  refine hc_block ?_
  refine hc_loop2 (α := Nat) (β := List Int) (fun k zs => [rowE 3 1 (.slice (some ⟨g2, 0, none⟩) ((List.replicate (n.cnt).toNat (0 : Int)).length) ((List.replicate (n.cnt).toNat (0 : Int)).length)) zs.length (zs.map (Value.int .i64)), boxE b1 #[.int .i64 n.ins, n.sv, n.av, n.ov] 28]) (fun k zs => [(0, .agg #[.int .i64 n.ins, n.sv, n.av, n.ov]), (1, v), (2, .int .i64 inp), (3, .pointer (some ⟨b1, 0, none⟩)), (6, .slice none 0 0), (7, .slice (some ⟨g2, 0, none⟩) ((List.replicate (n.cnt).toNat (0 : Int)).length) ((List.replicate (n.cnt).toNat (0 : Int)).length)), (9, .int .i64 (k : Int)), (14, .bool false), (22, .bool false)]) (fun k zs => (k : Int) ≤ (st.length : Int) ∧ zs = fillZ n.cnt.toNat (preB n st inp k)) (fun k zs => ((st.length : Int)).toNat - k) 0 zs ⟨by omega, by rw [hz, show k = n.ins.toNat by omega, preB_zero n st inp]⟩ (sx 0 rfl (sx 1 rfl (sx 2 rfl (sx 3 rfl (sx 6 rfl (sx 7 rfl (sx 9 rfl (sx 14 rfl (sx 22 rfl (sub_nil _)))))))))) ((.cons_cons _ (.cons_cons _ .slnil))) ?_
  intro k zs hi5
  obtain ⟨hk, hz⟩ := hi5
  have hzl : zs.length = n.cnt.toNat := by rw [hz]; exact fill_len (by rw [preB_len n st inp (by omega)]; omega)
  refine hc_seq ?_
  refine hc_seq ?_
  refine hc_region ?_
  refine hl_v rfl rfl rfl (rv_ev rfl) ?_
  refine hl_v rfl rfl rfl (rv_ev rfl) ?_
  refine hl_v rfl rfl rfl (rv_len rfl Try.underlying26 rfl (rd_old hst)) ?_
  refine hl_lss rfl rfl rfl rfl rfl rfl (fun h6 => ?_) (fun h6 => ?_)
  ·
   refine hl_less (sx 0 rfl (sx 1 rfl (sx 2 rfl (sx 3 rfl (sx 6 rfl (sx 7 rfl (sx 9 rfl (sx 14 rfl (sx 22 rfl (sx 36 rfl (sub_nil _))))))))))) (.refl _) ?_
   refine hl_nil ?_
   refine hq_then ?_
   refine hc_true rfl ?_
   refine hc_skip ?_
   refine hq_then ?_
   refine hc_seq ?_
   refine hc_block ?_
   have hsk := hso.rng k (by omega)
   refine hc_draw (by kernel_rfl) 12 [0, 1, 2, 3, 4, 5, 6, 7, 8, 9, 10, 11] (List.take 12 _) (List.drop 12 _) [[], [], [1], [2], [], [3, 4], [], [], [6, 7], [8], [9], [0, 5]] [39, 40, 41, 42, 43, 44, 45, 46, 47, 48, 49, 50] (fun i_ vs_ v_ p_ => match i_ with | 0 => v_ = .slice (some ⟨g2, 0, none⟩) ((List.replicate (n.cnt).toNat (0 : Int)).length) ((List.replicate (n.cnt).toNat (0 : Int)).length) ∧ p_ = [] | 1 => v_ = .pointer (some ⟨b1, 0 + 0, none⟩) ∧ p_ = [] | 2 => v_ = .int .i64 n.ins ∧ p_ = [] | 3 => v_ = .int .i64 (1 + n.ins) ∧ p_ = [] | 4 => v_ = .int .i64 (k : Int) ∧ p_ = [] | 5 => v_ = .int .i64 ((1 + n.ins) + (k : Int)) ∧ p_ = [] | 6 => v_ = v ∧ p_ = [] | 7 => v_ = .int .i64 (k : Int) ∧ p_ = [] | 8 => v_ = elP v (((k : Int)).toNat * 1) ∧ p_ = [] | 9 => v_ = .int .i64 (st.getD k 0) ∧ p_ = [] | 10 => v_ = .int .i64 ((st.getD k 0) % 2) ∧ p_ = [] | 11 => v_ = elP (.slice (some ⟨g2, 0, none⟩) ((List.replicate (n.cnt).toNat (0 : Int)).length) ((List.replicate (n.cnt).toNat (0 : Int)).length)) (((1 + n.ins) + (k : Int)).toNat * 1) ∧ p_ = [] | _ => True) (List.take_append_drop 12 _).symm (by kernel_rfl) (by kernel_rfl) rfl rfl ?_ ?_
   ·
    refine ⟨?_, ?_, ?_, ?_, ?_, ?_, ?_, ?_, ?_, ?_, ?_, ?_, trivial⟩
    ·
     intro vf pf hR
     refine Or.inl ⟨rfl, ?_⟩
     refine rq_less (sx 7 rfl (sub_nil _)) (List.sublist_append_right _ _) ?_
     exact rq_v (rv_ev rfl)
    ·
     intro vf pf hR
     refine Or.inl ⟨rfl, ?_⟩
     refine rq_less (sx 3 rfl (sub_nil _)) (List.sublist_append_right _ _) ?_
     exact rq_v (rv_field (k0 := 0) rfl (by kernel_rfl) rfl)
    ·
     intro vf pf hR
     have e1 : (vf 1) = .pointer (some ⟨b1, 0 + 0, none⟩) ∧ (pf 1) = [] := hR 1 (by decide)
     refine Or.inl ⟨rfl, ?_⟩
     refine rq_less (sx 40 (congrArg some e1.1) (sub_nil _)) (List.sublist_append_right _ _) ?_
     exact rq_v (rv_load rfl (by kernel_rfl) rfl (box_cell 1 rfl rfl))
    ·
     intro vf pf hR
     have e2 : (vf 2) = .int .i64 n.ins ∧ (pf 2) = [] := hR 2 (by decide)
     refine Or.inl ⟨rfl, ?_⟩
     refine rq_less (sx 41 (congrArg some e2.1) (sub_nil _)) (List.sublist_append_right _ _) ?_
     exact rq_v (rv_add rfl rfl rfl (by constructor <;> omega))
    ·
     intro vf pf hR
     refine Or.inl ⟨rfl, ?_⟩
     refine rq_less (sx 9 rfl (sub_nil _)) (List.sublist_append_right _ _) ?_
     exact rq_v (rv_ev rfl)
    ·
     intro vf pf hR
     have e3 : (vf 3) = .int .i64 (1 + n.ins) ∧ (pf 3) = [] := hR 3 (by decide)
     have e4 : (vf 4) = .int .i64 (k : Int) ∧ (pf 4) = [] := hR 4 (by decide)
     refine Or.inl ⟨rfl, ?_⟩
     refine rq_less (sx 42 (congrArg some e3.1) (sx 43 (congrArg some e4.1) (sub_nil _))) (List.sublist_append_right _ _) ?_
     exact rq_v (rv_add rfl rfl rfl (by constructor <;> omega))
    ·
     intro vf pf hR
     refine Or.inl ⟨rfl, ?_⟩
     refine rq_less (sx 1 rfl (sub_nil _)) (List.sublist_append_right _ _) ?_
     exact rq_v (rv_ev rfl)
    ·
     intro vf pf hR
     refine Or.inl ⟨rfl, ?_⟩
     refine rq_less (sx 9 rfl (sub_nil _)) (List.sublist_append_right _ _) ?_
     exact rq_v (rv_ev rfl)
    ·
     intro vf pf hR
     have e6 : (vf 6) = v ∧ (pf 6) = [] := hR 6 (by decide)
     have e7 : (vf 7) = .int .i64 (k : Int) ∧ (pf 7) = [] := hR 7 (by decide)
     refine Or.inl ⟨rfl, ?_⟩
     refine rq_less (sx 45 (congrArg some e6.1) (sx 46 (congrArg some e7.1) (sub_nil _))) (List.sublist_append_right _ _) ?_
     exact rq_v (rv_index (s := 1) rfl Try.underlying26 (by kernel_rfl) rfl rfl (rd_old hst) (by omega) (by first | omega | (simp only [List.length_set]; omega)))
    ·
     intro vf pf hR
     have e8 : (vf 8) = elP v (((k : Int)).toNat * 1) ∧ (pf 8) = [] := hR 8 (by decide)
     refine Or.inl ⟨rfl, ?_⟩
     refine rq_less (sx 47 (congrArg some e8.1) (sub_nil _)) (List.sublist_append_right _ _) ?_
     exact rq_v (rv_loadEl (u := .int .i64 (st.getD k 0)) rfl (by kernel_rfl) rfl (rd_old hst) (ints_at1 (show _ < st.length by first | omega | (simp only [List.length_set]; omega))))
    ·
     intro vf pf hR
     have e9 : (vf 9) = .int .i64 (st.getD k 0) ∧ (pf 9) = [] := hR 9 (by decide)
     refine Or.inl ⟨rfl, ?_⟩
     refine rq_less (sx 48 (congrArg some e9.1) (sub_nil _)) (List.sublist_append_right _ _) ?_
     exact rq_v (rv_bits rfl (by decide) rfl rfl (r := (st.getD k 0) % 2) (Bit.and_one _ (by omega) (by omega)))
    ·
     intro vf pf hR
     have e0 : (vf 0) = .slice (some ⟨g2, 0, none⟩) ((List.replicate (n.cnt).toNat (0 : Int)).length) ((List.replicate (n.cnt).toNat (0 : Int)).length) ∧ (pf 0) = [] := hR 0 (by decide)
     have e5 : (vf 5) = .int .i64 ((1 + n.ins) + (k : Int)) ∧ (pf 5) = [] := hR 5 (by decide)
     refine Or.inl ⟨rfl, ?_⟩
     refine rq_less (sx 39 (congrArg some e0.1) (sx 44 (congrArg some e5.1) (sub_nil _))) (List.sublist_append_right _ _) ?_
     exact rq_v (rv_index (s := 1) rfl Try.underlying26 (by kernel_rfl) rfl rfl (rd_row 0 rfl) (by omega) (by first | omega | (simp only [List.length_set]; omega)))
   ·
    intro vf pf hR
    have e10 : (vf 10) = .int .i64 ((st.getD k 0) % 2) ∧ (pf 10) = [] := hR 10 (by decide)
    have e11 : (vf 11) = elP (.slice (some ⟨g2, 0, none⟩) ((List.replicate (n.cnt).toNat (0 : Int)).length) ((List.replicate (n.cnt).toNat (0 : Int)).length)) (((1 + n.ins) + (k : Int)).toNat * 1) ∧ (pf 11) = [] := hR 11 (by decide)
    refine hl_less (l' := [rowE 3 1 (.slice (some ⟨g2, 0, none⟩) ((List.replicate (n.cnt).toNat (0 : Int)).length) ((List.replicate (n.cnt).toNat (0 : Int)).length)) zs.length (zs.map (Value.int .i64)), boxE b1 #[.int .i64 n.ins, n.sv, n.av, n.ov] 28]) (sx 0 rfl (sx 1 rfl (sx 2 rfl (sx 3 rfl (sx 6 rfl (sx 7 rfl (sx 9 rfl (sx 14 rfl (sx 22 rfl (sx 36 rfl (sx 49 (congrArg some e10.1) (sx 50 (congrArg some e11.1) (sub_nil _))))))))))))) (List.sublist_append_right _ _) ?_
    simp only [List.drop_succ_cons, List.drop_zero]
    refine hl_storeEl (i := 0) (n' := (zs.set (((1 + n.ins) + (k : Int)).toNat) ((st.getD k 0) % 2)).length) (xs' := ((zs.set (((1 + n.ins) + (k : Int)).toNat) ((st.getD k 0) % 2)).map (Value.int .i64))) (l' := [rowE 3 1 (.slice (some ⟨g2, 0, none⟩) ((List.replicate (n.cnt).toNat (0 : Int)).length) ((List.replicate (n.cnt).toNat (0 : Int)).length)) ((zs.set (((1 + n.ins) + (k : Int)).toNat) ((st.getD k 0) % 2)).length) ((zs.set (((1 + n.ins) + (k : Int)).toNat) ((st.getD k 0) % 2)).map (Value.int .i64)), boxE b1 #[.int .i64 n.ins, n.sv, n.av, n.ov] 28]) rfl rfl rfl (by kernel_rfl) rfl rfl rfl rfl (by first | omega | (simp only [List.length_set]; omega)) List.length_set.symm (ints_set _ _ _) rfl ?_
    refine hl_less (sx 0 rfl (sx 1 rfl (sx 2 rfl (sx 3 rfl (sx 6 rfl (sx 7 rfl (sx 9 rfl (sx 14 rfl (sx 22 rfl (sx 36 rfl (sub_nil _))))))))))) (.refl _) ?_
    refine hl_nil ?_
    refine hq_block_normal ?_
    refine hq_then ?_
    refine hc_region ?_
    refine hl_v rfl rfl rfl (rv_ev rfl) ?_
    refine hl_v rfl rfl rfl (rv_add rfl rfl rfl (by constructor <;> omega)) ?_
    refine hl_v rfl rfl rfl (rv_ev rfl) ?_
    refine hl_less (sx 0 rfl (sx 1 rfl (sx 2 rfl (sx 3 rfl (sx 6 rfl (sx 7 rfl (sx 9 rfl (sx 14 rfl (sx 22 rfl (sx 36 rfl (sub_nil _))))))))))) (.refl _) ?_
    refine hl_nil ?_
    exact hq_round2 (k + 1) (zs.set (((1 + n.ins) + (k : Int)).toNat) ((st.getD k 0) % 2)) ⟨by omega, by rw [hz]; exact (fill_set (by rw [preB_len n st inp (by omega)]; omega) (by rw [preB_len n st inp (by omega)]; omega)).trans (by rw [preB_step n st inp (by omega)])⟩ (by omega) (sx 0 rfl (sx 1 rfl (sx 2 rfl (sx 3 rfl (sx 6 rfl (sx 7 rfl (sx 9 rfl (sx 14 rfl (sx 22 rfl (sub_nil _)))))))))) ((.cons_cons _ (.cons_cons _ .slnil)))
  ·
   refine hl_less (sx 0 rfl (sx 1 rfl (sx 2 rfl (sx 3 rfl (sx 6 rfl (sx 7 rfl (sx 9 rfl (sx 14 rfl (sx 22 rfl (sx 36 rfl (sub_nil _))))))))))) (.refl _) ?_
   refine hl_nil ?_
   refine hq_then ?_
   refine hc_false rfl ?_
   refine hc_exit ?_
   refine hq_then_exit ?_
   refine hq_then_exit ?_
   refine hq_block_exit ?_
   refine hq_then ?_
   refine hc_seq ?_
   refine hc_seq ?_
   refine hc_region ?_
   refine hl_v rfl rfl rfl (rv_ev rfl) ?_
   refine hl_less (sx 0 rfl (sx 1 rfl (sx 2 rfl (sx 3 rfl (sx 6 rfl (sx 7 rfl (sx 9 rfl (sx 10 rfl (sx 14 rfl (sx 22 rfl (sx 36 rfl (sub_nil _)))))))))))) (.refl _) ?_
   refine hl_nil ?_
   refine hq_then ?_
   refine hc_block ?_
   refine hc_loop2 (α := Nat) (β := List Int) (fun k zs => [rowE 3 1 (.slice (some ⟨g2, 0, none⟩) ((List.replicate (n.cnt).toNat (0 : Int)).length) ((List.replicate (n.cnt).toNat (0 : Int)).length)) zs.length (zs.map (Value.int .i64)), boxE b1 #[.int .i64 n.ins, n.sv, n.av, n.ov] 28]) (fun k zs => [(0, .agg #[.int .i64 n.ins, n.sv, n.av, n.ov]), (1, v), (2, .int .i64 inp), (3, .pointer (some ⟨b1, 0, none⟩)), (6, .slice none 0 0), (7, .slice (some ⟨g2, 0, none⟩) ((List.replicate (n.cnt).toNat (0 : Int)).length) ((List.replicate (n.cnt).toNat (0 : Int)).length)), (10, .int .i64 (k : Int)), (14, .bool false), (22, .bool false), (36, .bool false)]) (fun k zs => (k : Int) ≤ (n.gs.length : Int) ∧ zs = fillZ n.cnt.toNat (valL n st inp k)) (fun k zs => ((n.gs.length : Int)).toNat - k) 0 zs ⟨by omega, by rw [hz, show k = st.length by omega, preB_end]⟩ (sx 0 rfl (sx 1 rfl (sx 2 rfl (sx 3 rfl (sx 6 rfl (sx 7 rfl (sx 10 rfl (sx 14 rfl (sx 22 rfl (sx 36 rfl (sub_nil _))))))))))) ((.cons_cons _ (.cons_cons _ .slnil))) ?_
   intro k zs hi7
   obtain ⟨hk, hz⟩ := hi7
   have hzl : zs.length = n.cnt.toNat := by rw [hz]; exact fill_len (by rw [val_len n st inp k (by omega)]; omega)
   have hvl := val_len n st inp k (by omega)
   have hv01 := val01 hn hsl inp k (by omega)
   refine hc_seq ?_
   refine hc_seq ?_
   refine hc_region ?_
   refine hl_v rfl rfl rfl (rv_ev rfl) ?_
   refine hl_v rfl rfl rfl (rv_field (k0 := 2) rfl (by kernel_rfl) rfl) ?_
   refine hl_v rfl rfl rfl (rv_load rfl (by kernel_rfl) rfl (box_cell 1 rfl rfl)) ?_
   refine hl_v rfl rfl rfl (rv_len rfl Try.underlying25 rfl (rd_old hr.an)) ?_
   refine hl_lss rfl rfl rfl rfl rfl rfl (fun h8 => ?_) (fun h8 => ?_)
   ·
    refine hl_less (sx 0 rfl (sx 1 rfl (sx 2 rfl (sx 3 rfl (sx 6 rfl (sx 7 rfl (sx 10 rfl (sx 14 rfl (sx 22 rfl (sx 36 rfl (sx 55 rfl (sub_nil _)))))))))))) (.refl _) ?_
    refine hl_nil ?_
    refine hq_then ?_
    refine hc_true rfl ?_
    refine hc_skip ?_
    refine hq_then ?_
    refine hc_seq ?_
    refine hc_block ?_
    have hak := hn.an k (by omega)
    obtain ⟨⟨hA0, hA1⟩, hC0, hC1⟩ := id hak
    have hg1 : zs.getD ((n.gs.getD k an0).a / 2).toNat 0 = (valL n st inp k).getD ((n.gs.getD k an0).a / 2).toNat 0 := by rw [hz]; exact fill_get (by omega)
    have hg2 : zs.getD ((n.gs.getD k an0).b / 2).toNat 0 = (valL n st inp k).getD ((n.gs.getD k an0).b / 2).toNat 0 := by rw [hz]; exact fill_get (by omega)
    have hA : zs.getD ((n.gs.getD k an0).a / 2).toNat 0 = 0 ∨ zs.getD ((n.gs.getD k an0).a / 2).toNat 0 = 1 := by rw [hg1]; exact hv01 _ (by omega)
    have hB : zs.getD ((n.gs.getD k an0).b / 2).toNat 0 = 0 ∨ zs.getD ((n.gs.getD k an0).b / 2).toNat 0 = 1 := by rw [hg2]; exact hv01 _ (by omega)
    have hB1 : bitL zs (n.gs.getD k an0).a = bitL (valL n st inp k) (n.gs.getD k an0).a := by unfold bitL; rw [hg1]
    have hB2 : bitL zs (n.gs.getD k an0).b = bitL (valL n st inp k) (n.gs.getD k an0).b := by unfold bitL; rw [hg2]
    have hP1 : bitL zs (n.gs.getD k an0).a = 0 ∨ bitL zs (n.gs.getD k an0).a = 1 := by rw [hB1]; exact bit01 hv01 hA0 (by omega)
    have hP2 : bitL zs (n.gs.getD k an0).b = 0 ∨ bitL zs (n.gs.getD k an0).b = 1 := by rw [hB2]; exact bit01 hv01 hC0 (by omega)
    refine hc_draw (by kernel_rfl) 23 [0, 1, 2, 3, 4, 5, 6, 7, 8, 9, 10, 11, 12, 13, 14, 15, 16, 17, 18, 19, 20, 21, 22] (List.take 23 _) (List.drop 23 _) [[], [], [1], [], [2, 3], [], [], [6], [], [7, 8], [9], [10], [5, 11], [], [], [14], [], [15, 16], [17], [18], [13, 19], [12, 20], [0, 4]] [58, 59, 60, 61, 62, 63, 64, 65, 66, 67, 68, 69, 70, 71, 72, 73, 74, 75, 76, 77, 78, 79, 80] (fun i_ vs_ v_ p_ => match i_ with | 0 => v_ = .slice (some ⟨g2, 0, none⟩) ((List.replicate (n.cnt).toNat (0 : Int)).length) ((List.replicate (n.cnt).toNat (0 : Int)).length) ∧ p_ = [] | 1 => v_ = .agg #[.int .i64 n.ins, n.sv, n.av, n.ov] ∧ p_ = [] | 2 => v_ = .int .i64 n.fst ∧ p_ = [] | 3 => v_ = .int .i64 (k : Int) ∧ p_ = [] | 4 => v_ = .int .i64 (n.fst + (k : Int)) ∧ p_ = [] | 5 => v_ = .slice (some ⟨g2, 0, none⟩) ((List.replicate (n.cnt).toNat (0 : Int)).length) ((List.replicate (n.cnt).toNat (0 : Int)).length) ∧ p_ = [] | 6 => v_ = .pointer (some ⟨b1, 0 + 2, none⟩) ∧ p_ = [] | 7 => v_ = n.av ∧ p_ = [] | 8 => v_ = .int .i64 (k : Int) ∧ p_ = [] | 9 => v_ = elP n.av (((k : Int)).toNat * 2) ∧ p_ = [] | 10 => v_ = elP n.av (((k : Int)).toNat * 2 + 0) ∧ p_ = [] | 11 => v_ = .int .i64 ((n.gs.getD k an0).a) ∧ p_ = [] | 12 => v_ = .int .i64 (bitL zs ((n.gs.getD k an0).a)) ∧ p_ = [] | 13 => v_ = .slice (some ⟨g2, 0, none⟩) ((List.replicate (n.cnt).toNat (0 : Int)).length) ((List.replicate (n.cnt).toNat (0 : Int)).length) ∧ p_ = [] | 14 => v_ = .pointer (some ⟨b1, 0 + 2, none⟩) ∧ p_ = [] | 15 => v_ = n.av ∧ p_ = [] | 16 => v_ = .int .i64 (k : Int) ∧ p_ = [] | 17 => v_ = elP n.av (((k : Int)).toNat * 2) ∧ p_ = [] | 18 => v_ = elP n.av (((k : Int)).toNat * 2 + 1) ∧ p_ = [] | 19 => v_ = .int .i64 ((n.gs.getD k an0).b) ∧ p_ = [] | 20 => v_ = .int .i64 (bitL zs ((n.gs.getD k an0).b)) ∧ p_ = [] | 21 => v_ = .int .i64 ((bitL zs ((n.gs.getD k an0).a)) * (bitL zs ((n.gs.getD k an0).b))) ∧ p_ = [] | 22 => v_ = elP (.slice (some ⟨g2, 0, none⟩) ((List.replicate (n.cnt).toNat (0 : Int)).length) ((List.replicate (n.cnt).toNat (0 : Int)).length)) ((n.fst + (k : Int)).toNat * 1) ∧ p_ = [] | _ => True) (List.take_append_drop 23 _).symm (by kernel_rfl) (by kernel_rfl) rfl rfl ?_ ?_
    ·
     refine ⟨?_, ?_, ?_, ?_, ?_, ?_, ?_, ?_, ?_, ?_, ?_, ?_, ?_, ?_, ?_, ?_, ?_, ?_, ?_, ?_, ?_, ?_, ?_, trivial⟩
     ·
      intro vf pf hR
      refine Or.inl ⟨rfl, ?_⟩
      refine rq_less (sx 7 rfl (sub_nil _)) (List.sublist_append_right _ _) ?_
      exact rq_v (rv_ev rfl)
     ·
      intro vf pf hR
      refine Or.inl ⟨rfl, ?_⟩
      refine rq_less (sx 3 rfl (sub_nil _)) (List.sublist_append_right _ _) ?_
      exact rq_v (rv_loadN (cs := [.int .i64 n.ins, n.sv, n.av, n.ov]) rfl (by kernel_rfl) (by kernel_rfl) rfl rfl (box_part 1 rfl 0 rfl))
     ·
      intro vf pf hR
      have e1 : (vf 1) = .agg #[.int .i64 n.ins, n.sv, n.av, n.ov] ∧ (pf 1) = [] := hR 1 (by decide)
      refine Or.inl ⟨rfl, ?_⟩
      refine rq_less (sx 59 (congrArg some e1.1) (sub_nil _)) (List.sublist_append_right _ _) ?_
      exact (rq_call (by kernel_rfl) rfl (fun w hm => ret_ans (l08First_yes n w (hr.below hm.bel) hn)))
     ·
      intro vf pf hR
      refine Or.inl ⟨rfl, ?_⟩
      refine rq_less (sx 10 rfl (sub_nil _)) (List.sublist_append_right _ _) ?_
      exact rq_v (rv_ev rfl)
     ·
      intro vf pf hR
      have e2 : (vf 2) = .int .i64 n.fst ∧ (pf 2) = [] := hR 2 (by decide)
      have e3 : (vf 3) = .int .i64 (k : Int) ∧ (pf 3) = [] := hR 3 (by decide)
      refine Or.inl ⟨rfl, ?_⟩
      refine rq_less (sx 60 (congrArg some e2.1) (sx 61 (congrArg some e3.1) (sub_nil _))) (List.sublist_append_right _ _) ?_
      exact rq_v (rv_add rfl rfl rfl (by constructor <;> omega))
     ·
      intro vf pf hR
      refine Or.inl ⟨rfl, ?_⟩
      refine rq_less (sx 7 rfl (sub_nil _)) (List.sublist_append_right _ _) ?_
      exact rq_v (rv_ev rfl)
     ·
      intro vf pf hR
      refine Or.inl ⟨rfl, ?_⟩
      refine rq_less (sx 3 rfl (sub_nil _)) (List.sublist_append_right _ _) ?_
      exact rq_v (rv_field (k0 := 2) rfl (by kernel_rfl) rfl)
     ·
      intro vf pf hR
      have e6 : (vf 6) = .pointer (some ⟨b1, 0 + 2, none⟩) ∧ (pf 6) = [] := hR 6 (by decide)
      refine Or.inl ⟨rfl, ?_⟩
      refine rq_less (sx 64 (congrArg some e6.1) (sub_nil _)) (List.sublist_append_right _ _) ?_
      exact rq_v (rv_load rfl (by kernel_rfl) rfl (box_cell 1 rfl rfl))
     ·
      intro vf pf hR
      refine Or.inl ⟨rfl, ?_⟩
      refine rq_less (sx 10 rfl (sub_nil _)) (List.sublist_append_right _ _) ?_
      exact rq_v (rv_ev rfl)
     ·
      intro vf pf hR
      have e7 : (vf 7) = n.av ∧ (pf 7) = [] := hR 7 (by decide)
      have e8 : (vf 8) = .int .i64 (k : Int) ∧ (pf 8) = [] := hR 8 (by decide)
      refine Or.inl ⟨rfl, ?_⟩
      refine rq_less (sx 65 (congrArg some e7.1) (sx 66 (congrArg some e8.1) (sub_nil _))) (List.sublist_append_right _ _) ?_
      exact rq_v (rv_index (s := 2) rfl Try.underlying25 (by kernel_rfl) rfl rfl (rd_old hr.an) (by omega) (by first | omega | (simp only [List.length_set]; omega)))
     ·
      intro vf pf hR
      have e9 : (vf 9) = elP n.av (((k : Int)).toNat * 2) ∧ (pf 9) = [] := hR 9 (by decide)
      refine Or.inl ⟨rfl, ?_⟩
      refine rq_less (sx 67 (congrArg some e9.1) (sub_nil _)) (List.sublist_append_right _ _) ?_
      exact rq_v (rv_fieldEl (k0 := 0) rfl (by kernel_rfl) rfl (rd_old hr.an) (by first | omega | (simp only [List.length_set]; omega)))
     ·
      intro vf pf hR
      have e10 : (vf 10) = elP n.av (((k : Int)).toNat * 2 + 0) ∧ (pf 10) = [] := hR 10 (by decide)
      refine Or.inl ⟨rfl, ?_⟩
      refine rq_less (sx 68 (congrArg some e10.1) (sub_nil _)) (List.sublist_append_right _ _) ?_
      exact rq_v (rv_loadEl (u := .int .i64 ((n.gs.getD k an0).a)) rfl (by kernel_rfl) rfl (rd_old hr.an) ((flat_at anC 2 (fun _ => rfl) n.gs an0 (show k < _ by first | omega | (simp only [List.length_set]; omega)) (by decide)).trans rfl))
     ·
      intro vf pf hR
      have e5 : (vf 5) = .slice (some ⟨g2, 0, none⟩) ((List.replicate (n.cnt).toNat (0 : Int)).length) ((List.replicate (n.cnt).toNat (0 : Int)).length) ∧ (pf 5) = [] := hR 5 (by decide)
      have e11 : (vf 11) = .int .i64 ((n.gs.getD k an0).a) ∧ (pf 11) = [] := hR 11 (by decide)
      refine Or.inl ⟨rfl, ?_⟩
      refine rq_less (sx 63 (congrArg some e5.1) (sx 69 (congrArg some e11.1) (sub_nil _))) (List.sublist_append_right _ _) ?_
      exact (rq_call (by kernel_rfl) rfl (fun w hm => ret_ans (l09Bit_ans zs ((n.gs.getD k an0).a) _ w ((rd_row 0 rfl) w hm) (by omega) (by first | assumption | omega) (by omega))))
     ·
      intro vf pf hR
      refine Or.inl ⟨rfl, ?_⟩
      refine rq_less (sx 7 rfl (sub_nil _)) (List.sublist_append_right _ _) ?_
      exact rq_v (rv_ev rfl)
     ·
      intro vf pf hR
      refine Or.inl ⟨rfl, ?_⟩
      refine rq_less (sx 3 rfl (sub_nil _)) (List.sublist_append_right _ _) ?_
      exact rq_v (rv_field (k0 := 2) rfl (by kernel_rfl) rfl)
     ·
      intro vf pf hR
      have e14 : (vf 14) = .pointer (some ⟨b1, 0 + 2, none⟩) ∧ (pf 14) = [] := hR 14 (by decide)
      refine Or.inl ⟨rfl, ?_⟩
      refine rq_less (sx 72 (congrArg some e14.1) (sub_nil _)) (List.sublist_append_right _ _) ?_
      exact rq_v (rv_load rfl (by kernel_rfl) rfl (box_cell 1 rfl rfl))
     ·
      intro vf pf hR
      refine Or.inl ⟨rfl, ?_⟩
      refine rq_less (sx 10 rfl (sub_nil _)) (List.sublist_append_right _ _) ?_
      exact rq_v (rv_ev rfl)
     ·
      intro vf pf hR
      have e15 : (vf 15) = n.av ∧ (pf 15) = [] := hR 15 (by decide)
      have e16 : (vf 16) = .int .i64 (k : Int) ∧ (pf 16) = [] := hR 16 (by decide)
      refine Or.inl ⟨rfl, ?_⟩
      refine rq_less (sx 73 (congrArg some e15.1) (sx 74 (congrArg some e16.1) (sub_nil _))) (List.sublist_append_right _ _) ?_
      exact rq_v (rv_index (s := 2) rfl Try.underlying25 (by kernel_rfl) rfl rfl (rd_old hr.an) (by omega) (by first | omega | (simp only [List.length_set]; omega)))
     ·
      intro vf pf hR
      have e17 : (vf 17) = elP n.av (((k : Int)).toNat * 2) ∧ (pf 17) = [] := hR 17 (by decide)
      refine Or.inl ⟨rfl, ?_⟩
      refine rq_less (sx 75 (congrArg some e17.1) (sub_nil _)) (List.sublist_append_right _ _) ?_
      exact rq_v (rv_fieldEl (k0 := 1) rfl (by kernel_rfl) rfl (rd_old hr.an) (by first | omega | (simp only [List.length_set]; omega)))
     ·
      intro vf pf hR
      have e18 : (vf 18) = elP n.av (((k : Int)).toNat * 2 + 1) ∧ (pf 18) = [] := hR 18 (by decide)
      refine Or.inl ⟨rfl, ?_⟩
      refine rq_less (sx 76 (congrArg some e18.1) (sub_nil _)) (List.sublist_append_right _ _) ?_
      exact rq_v (rv_loadEl (u := .int .i64 ((n.gs.getD k an0).b)) rfl (by kernel_rfl) rfl (rd_old hr.an) ((flat_at anC 2 (fun _ => rfl) n.gs an0 (show k < _ by first | omega | (simp only [List.length_set]; omega)) (by decide)).trans rfl))
     ·
      intro vf pf hR
      have e13 : (vf 13) = .slice (some ⟨g2, 0, none⟩) ((List.replicate (n.cnt).toNat (0 : Int)).length) ((List.replicate (n.cnt).toNat (0 : Int)).length) ∧ (pf 13) = [] := hR 13 (by decide)
      have e19 : (vf 19) = .int .i64 ((n.gs.getD k an0).b) ∧ (pf 19) = [] := hR 19 (by decide)
      refine Or.inl ⟨rfl, ?_⟩
      refine rq_less (sx 71 (congrArg some e13.1) (sx 77 (congrArg some e19.1) (sub_nil _))) (List.sublist_append_right _ _) ?_
      exact (rq_call (by kernel_rfl) rfl (fun w hm => ret_ans (l09Bit_ans zs ((n.gs.getD k an0).b) _ w ((rd_row 0 rfl) w hm) (by omega) (by first | assumption | omega) (by omega))))
     ·
      intro vf pf hR
      have e12 : (vf 12) = .int .i64 (bitL zs ((n.gs.getD k an0).a)) ∧ (pf 12) = [] := hR 12 (by decide)
      have e20 : (vf 20) = .int .i64 (bitL zs ((n.gs.getD k an0).b)) ∧ (pf 20) = [] := hR 20 (by decide)
      refine Or.inl ⟨rfl, ?_⟩
      refine rq_less (sx 70 (congrArg some e12.1) (sx 78 (congrArg some e20.1) (sub_nil _))) (List.sublist_append_right _ _) ?_
      exact rq_v (rv_bits rfl (by decide) rfl rfl (r := (bitL zs ((n.gs.getD k an0).a)) * (bitL zs ((n.gs.getD k an0).b))) (and01 hP1 hP2))
     ·
      intro vf pf hR
      have e0 : (vf 0) = .slice (some ⟨g2, 0, none⟩) ((List.replicate (n.cnt).toNat (0 : Int)).length) ((List.replicate (n.cnt).toNat (0 : Int)).length) ∧ (pf 0) = [] := hR 0 (by decide)
      have e4 : (vf 4) = .int .i64 (n.fst + (k : Int)) ∧ (pf 4) = [] := hR 4 (by decide)
      refine Or.inl ⟨rfl, ?_⟩
      refine rq_less (sx 58 (congrArg some e0.1) (sx 62 (congrArg some e4.1) (sub_nil _))) (List.sublist_append_right _ _) ?_
      exact rq_v (rv_index (s := 1) rfl Try.underlying26 (by kernel_rfl) rfl rfl (rd_row 0 rfl) (by omega) (by first | omega | (simp only [List.length_set]; omega)))
    ·
     intro vf pf hR
     have e21 : (vf 21) = .int .i64 ((bitL zs ((n.gs.getD k an0).a)) * (bitL zs ((n.gs.getD k an0).b))) ∧ (pf 21) = [] := hR 21 (by decide)
     have e22 : (vf 22) = elP (.slice (some ⟨g2, 0, none⟩) ((List.replicate (n.cnt).toNat (0 : Int)).length) ((List.replicate (n.cnt).toNat (0 : Int)).length)) ((n.fst + (k : Int)).toNat * 1) ∧ (pf 22) = [] := hR 22 (by decide)
     refine hl_less (l' := [rowE 3 1 (.slice (some ⟨g2, 0, none⟩) ((List.replicate (n.cnt).toNat (0 : Int)).length) ((List.replicate (n.cnt).toNat (0 : Int)).length)) zs.length (zs.map (Value.int .i64)), boxE b1 #[.int .i64 n.ins, n.sv, n.av, n.ov] 28]) (sx 0 rfl (sx 1 rfl (sx 2 rfl (sx 3 rfl (sx 6 rfl (sx 7 rfl (sx 10 rfl (sx 14 rfl (sx 22 rfl (sx 36 rfl (sx 55 rfl (sx 79 (congrArg some e21.1) (sx 80 (congrArg some e22.1) (sub_nil _)))))))))))))) (List.sublist_append_right _ _) ?_
     simp only [List.drop_succ_cons, List.drop_zero]
     refine hl_storeEl (i := 0) (n' := (zs.set ((n.fst + (k : Int)).toNat) ((bitL zs ((n.gs.getD k an0).a)) * (bitL zs ((n.gs.getD k an0).b)))).length) (xs' := ((zs.set ((n.fst + (k : Int)).toNat) ((bitL zs ((n.gs.getD k an0).a)) * (bitL zs ((n.gs.getD k an0).b)))).map (Value.int .i64))) (l' := [rowE 3 1 (.slice (some ⟨g2, 0, none⟩) ((List.replicate (n.cnt).toNat (0 : Int)).length) ((List.replicate (n.cnt).toNat (0 : Int)).length)) ((zs.set ((n.fst + (k : Int)).toNat) ((bitL zs ((n.gs.getD k an0).a)) * (bitL zs ((n.gs.getD k an0).b)))).length) ((zs.set ((n.fst + (k : Int)).toNat) ((bitL zs ((n.gs.getD k an0).a)) * (bitL zs ((n.gs.getD k an0).b)))).map (Value.int .i64)), boxE b1 #[.int .i64 n.ins, n.sv, n.av, n.ov] 28]) rfl rfl rfl (by kernel_rfl) rfl rfl rfl rfl (by first | omega | (simp only [List.length_set]; omega)) List.length_set.symm (ints_set _ _ _) rfl ?_
     refine hl_less (sx 0 rfl (sx 1 rfl (sx 2 rfl (sx 3 rfl (sx 6 rfl (sx 7 rfl (sx 10 rfl (sx 14 rfl (sx 22 rfl (sx 36 rfl (sx 55 rfl (sub_nil _)))))))))))) (.refl _) ?_
     refine hl_nil ?_
     refine hq_block_normal ?_
     refine hq_then ?_
     refine hc_region ?_
     refine hl_v rfl rfl rfl (rv_ev rfl) ?_
     refine hl_v rfl rfl rfl (rv_add rfl rfl rfl (by constructor <;> omega)) ?_
     refine hl_v rfl rfl rfl (rv_ev rfl) ?_
     refine hl_less (sx 0 rfl (sx 1 rfl (sx 2 rfl (sx 3 rfl (sx 6 rfl (sx 7 rfl (sx 10 rfl (sx 14 rfl (sx 22 rfl (sx 36 rfl (sx 55 rfl (sub_nil _)))))))))))) (.refl _) ?_
     refine hl_nil ?_
     exact hq_round2 (k + 1) (zs.set ((n.fst + (k : Int)).toNat) ((bitL zs ((n.gs.getD k an0).a)) * (bitL zs ((n.gs.getD k an0).b)))) ⟨by omega, by rw [hB1, hB2, hz, show (n.fst + (k : Int)).toNat = (valL n st inp k).length by omega, val_step n st inp (by omega)]; exact fill_set rfl (by omega)⟩ (by omega) (sx 0 rfl (sx 1 rfl (sx 2 rfl (sx 3 rfl (sx 6 rfl (sx 7 rfl (sx 10 rfl (sx 14 rfl (sx 22 rfl (sx 36 rfl (sub_nil _))))))))))) ((.cons_cons _ (.cons_cons _ .slnil)))
   ·
    refine hl_less (sx 0 rfl (sx 1 rfl (sx 2 rfl (sx 3 rfl (sx 6 rfl (sx 7 rfl (sx 10 rfl (sx 14 rfl (sx 22 rfl (sx 36 rfl (sx 55 rfl (sub_nil _)))))))))))) (.refl _) ?_
    refine hl_nil ?_
    refine hq_then ?_
    refine hc_false rfl ?_
    refine hc_exit ?_
    refine hq_then_exit ?_
    refine hq_then_exit ?_
    refine hq_block_exit ?_
    refine hq_then ?_
    refine hc_seq ?_
    refine hc_region ?_
    refine hl_v rfl rfl rfl (rv_ev rfl) ?_
    refine hl_v rfl rfl rfl (rv_ev rfl) ?_
    refine hl_less (sx 0 rfl (sx 1 rfl (sx 2 rfl (sx 3 rfl (sx 6 rfl (sx 7 rfl (sx 10 rfl (sx 14 rfl (sx 22 rfl (sx 36 rfl (sx 55 rfl (sub_nil _)))))))))))) (.refl _) ?_
    refine hl_nil ?_
    refine hq_then ?_
    refine hc_ret ?_
    exact hq_retR (post := [rowE 3 1 (.slice (some ⟨g2, 0, none⟩) ((List.replicate (n.cnt).toNat (0 : Int)).length) ((List.replicate (n.cnt).toNat (0 : Int)).length)) zs.length (zs.map (Value.int .i64))]) rfl rfl ((.cons_cons _ (.cons _ .slnil))) (by rw [hz, show k = n.gs.length by omega, fill_all (by rw [val_len n st inp _ (Nat.le_refl _)]; omega)])
section
variable {P : Program} {N : Nat} {w0 : World} {l : List HP} {env : List (Nat × Value)} {Q : Post} {os : List Oper} {m : Nat} {dps : List (List Nat)} {dsts : List (Option Nat)} {R : Nat → List Value → Value → List HP → Prop}
/-- where the quiet part stands -/
structure Mid4 (N : Nat) (w0 : World) (l : List HP) (env : List (Nat × Value)) (os : List Oper) (m : Nat) (dps : List (List Nat)) (dsts : List (Option Nat)) (R : Nat → List Value → Value → List HP → Prop) (tau : List (Option Nat)) (P0 : List (List HP)) (listed : Array Bool) (ord held : List Nat) (vf : Nat → Value) (pf : Nat → List HP) (a : Act) (w : World) : Prop where
  size : listed.size = os.length
  iff : ∀ i, i < os.length → (listed.getD i true = true ↔ i ∈ ord)
  low : ∀ i ∈ ord, i < m
  closed : ∀ i ∈ ord, ∀ j ∈ depsOf os i, j ∈ ord
  nodup : ord.Nodup
  dcl : ∀ i ∈ ord, ∀ j ∈ dps.getD i [], j ∈ ord
  rel : ∀ i ∈ ord, R i ((dps.getD i []).map vf) (vf i) (pf i)
  hn : held.Nodup
  hin : ∀ i ∈ held, i ∈ ord ∨ (os.length ≤ i ∧ i < os.length + P0.length)
  hall : ∀ i, (i ∈ ord ∨ (os.length ≤ i ∧ i < os.length + P0.length)) → (∀ j ∈ ord, tau.getD j none ≠ some i) → i ∈ held
  hP : ∀ k, k < P0.length → pf (os.length + k) = P0.getD k []
  mem : Mem w0 (held.flatMap pf ++ l) w
  asize : a.tmps.size = N
  defers : a.defers = []
  env : ∀ d v, lk env d = some v → a.tmps[d]? = some v
  slots : ∀ i ∈ ord, ∀ d, dsts[i]? = some (some d) → a.tmps[d]? = some (vf i)
theorem Mid4.st {tau P0 listed ord held vf pf a w} (h : Mid4 N w0 l env os m dps dsts R tau P0 listed ord held vf pf a w) (hm : m ≤ dsts.length) {is : List Nat} (hs : ∀ j ∈ is, j ∈ ord) {L : List HP} (hM : Mem w0 L w) : St N w0 L (envOf3 dsts vf is ++ env) a w := by
  refine ⟨hM, h.asize, h.defers, fun d v hd => ?_⟩
  rcases lk_append _ _ _ _ hd with h1 | h1
  · unfold envOf3 at h1
    rw [List.mem_filterMap] at h1
    obtain ⟨i, hi, he⟩ := h1
    rw [Option.map_eq_some_iff] at he
    obtain ⟨d', hd', he⟩ := he
    simp only [Prod.mk.injEq] at he
    obtain ⟨rfl, rfl⟩ := he
    have : dsts[i]? = some (some d') := by
      rw [List.getD_eq_getElem?_getD] at hd'
      cases hx : dsts[i]? with
      | none => rw [hx] at hd'; cases hd'
      | some y => rw [hx] at hd'; exact congrArg some hd'
    exact h.slots i (hs i hi) _ this
  · exact h.env d v h1
end
open Go.RowKit
set_option maxHeartbeats 4000000 in
set_option maxRecDepth 100000 in
theorem implnodeCount_yes (n : Nt) (w : World) (hr : RdsNt w n) (hn : NtOk n) :
  Calls Try.prog 84 #[.agg #[.int .i64 n.ins, n.sv, n.av, n.ov]] w (Ans w (.int .i64 n.cnt)) := by
 have hi0 := hn.i0
 have hi1 := hn.i1
 have hs1 := hn.s1
 have ha1 := hn.a1
 have ho1 := hn.o1
 have hcnt : n.cnt = 1 + n.ins + n.ss.length + n.gs.length := rfl
 have hfst : n.fst = 1 + n.ins + n.ss.length := rfl
 refine calls_hc (N := 14) (args := [.agg #[.int .i64 n.ins, n.sv, n.av, n.ov]]) Try.func84 rfl rfl ?_
 refine hc_less _ (sx 0 rfl (sub_nil _)) (.refl _) ?_
 refine hc_seq ?_
 refine hc_region ?_
 refine hl_box rfl rfl rfl (rq_box rfl rfl) ?_
 intro b1
 refine hl_v rfl rfl rfl (rv_ev rfl) ?_
 refine hl_less (sx 0 rfl (sx 1 rfl (sx 2 rfl (sub_nil _)))) (.refl _) ?_
 refine hl_nil ?_
 refine hq_then ?_
 refine hc_seq ?_
 refine hc_region ?_
 refine hl_v rfl rfl rfl (rv_field (k0 := 0) rfl (by kernel_rfl) rfl) ?_
 refine hl_v rfl rfl rfl (rv_load rfl (by kernel_rfl) rfl (box_cell 0 rfl rfl)) ?_
 refine hl_v rfl rfl rfl (rv_add rfl rfl rfl (by constructor <;> omega)) ?_
 refine hl_v rfl rfl rfl (rv_field (k0 := 1) rfl (by kernel_rfl) rfl) ?_
 refine hl_v rfl rfl rfl (rv_load rfl (by kernel_rfl) rfl (box_cell 0 rfl rfl)) ?_
 refine hl_v rfl rfl rfl (rv_len rfl Try.underlying24 rfl (rd_old hr.sq)) ?_
 refine hl_v rfl rfl rfl (rv_add rfl rfl rfl (by constructor <;> omega)) ?_
 refine hl_v rfl rfl rfl (rv_field (k0 := 2) rfl (by kernel_rfl) rfl) ?_
 refine hl_v rfl rfl rfl (rv_load rfl (by kernel_rfl) rfl (box_cell 0 rfl rfl)) ?_
 refine hl_v rfl rfl rfl (rv_len rfl Try.underlying25 rfl (rd_old hr.an)) ?_
 refine hl_v rfl rfl rfl (rv_add rfl rfl rfl (by constructor <;> omega)) ?_
 refine hl_v rfl rfl rfl (rv_ev rfl) ?_
 refine hl_less (sx 0 rfl (sx 1 rfl (sx 2 rfl (sub_nil _)))) (.refl _) ?_
 refine hl_nil ?_
 refine hq_then ?_
 refine hc_ret ?_
 exact hq_ans rfl rfl rfl
set_option maxHeartbeats 4000000 in
set_option maxRecDepth 100000 in
theorem implNodeCount_yes (n : Nt) (w : World) (hr : RdsNt w n) (hn : NtOk n) :
  Calls Try.prog 124 #[.agg #[.int .i64 n.ins, n.sv, n.av, n.ov]] w (Ans w (.int .i64 n.cnt)) := by
 have hi0 := hn.i0
 have hi1 := hn.i1
 have hs1 := hn.s1
 have ha1 := hn.a1
 have ho1 := hn.o1
 have hcnt : n.cnt = 1 + n.ins + n.ss.length + n.gs.length := rfl
 have hfst : n.fst = 1 + n.ins + n.ss.length := rfl
 refine calls_hc (N := 27) (args := [.agg #[.int .i64 n.ins, n.sv, n.av, n.ov]]) Try.func124 rfl rfl ?_
 refine hc_less _ (sx 0 rfl (sub_nil _)) (.refl _) ?_
 refine hc_seq ?_
 refine hc_region ?_
 refine hl_box rfl rfl rfl (rq_box rfl rfl) ?_
 intro b1
 refine hl_v rfl rfl rfl (rv_ev rfl) ?_
 refine hl_less (sx 0 rfl (sx 1 rfl (sx 2 rfl (sub_nil _)))) (.refl _) ?_
 refine hl_nil ?_
 refine hq_then ?_
 refine hc_seq ?_
 refine hc_seq ?_
 refine hc_region ?_
 refine hl_v rfl rfl rfl (rv_field (k0 := 0) rfl (by kernel_rfl) rfl) ?_
 refine hl_v rfl rfl rfl (rv_load rfl (by kernel_rfl) rfl (box_cell 0 rfl rfl)) ?_
 refine hl_callV rfl rfl rfl (rq_call (by kernel_rfl) rfl (fun w hm => ret_ans (ans_of (inRange_any _ _ _ w)))) ?_
 refine hl_bool (fun h2 => ?_) (fun h2 => absurd ((((inR_iff _ _ _).2 (by omega))).symm.trans h2) (by decide))
 refine hl_v rfl rfl rfl (rv_ev rfl) ?_
 refine hl_v rfl rfl rfl (rv_ev rfl) ?_
 refine hl_v rfl rfl rfl (rv_field (k0 := 1) rfl (by kernel_rfl) rfl) ?_
 refine hl_v rfl rfl rfl (rv_load rfl (by kernel_rfl) rfl (box_cell 0 rfl rfl)) ?_
 refine hl_v rfl rfl rfl (rv_len rfl Try.underlying24 rfl (rd_old hr.sq)) ?_
 refine hl_gtr rfl rfl rfl rfl rfl rfl (fun h3 => absurd h3 (by omega)) (fun h3 => ?_)
 refine hl_v rfl rfl rfl (rv_ev rfl) ?_
 refine hl_v rfl rfl rfl (rv_ev rfl) ?_
 refine hl_v rfl rfl rfl (rv_field (k0 := 2) rfl (by kernel_rfl) rfl) ?_
 refine hl_v rfl rfl rfl (rv_load rfl (by kernel_rfl) rfl (box_cell 0 rfl rfl)) ?_
 refine hl_v rfl rfl rfl (rv_len rfl Try.underlying25 rfl (rd_old hr.an)) ?_
 refine hl_gtr rfl rfl rfl rfl rfl rfl (fun h4 => absurd h4 (by omega)) (fun h4 => ?_)
 refine hl_v rfl rfl rfl (rv_ev rfl) ?_
 refine hl_v rfl rfl rfl (rv_ev rfl) ?_
 refine hl_v rfl rfl rfl (rv_field (k0 := 3) rfl (by kernel_rfl) rfl) ?_
 refine hl_v rfl rfl rfl (rv_load rfl (by kernel_rfl) rfl (box_cell 0 rfl rfl)) ?_
 refine hl_v rfl rfl rfl (rv_len rfl Try.underlying26 rfl (rd_old hr.ou)) ?_
 refine hl_gtr rfl rfl rfl rfl rfl rfl (fun h5 => absurd h5 (by omega)) (fun h5 => ?_)
 refine hl_v rfl rfl rfl (rv_ev rfl) ?_
 refine hl_less (sx 0 rfl (sx 1 rfl (sx 2 rfl (sx 24 rfl (sub_nil _))))) (.refl _) ?_
 refine hl_nil ?_
 refine hq_then ?_
 refine hc_false rfl ?_
 refine hc_skip ?_
 refine hq_then ?_
 refine hc_seq ?_
 refine hc_region ?_
 refine hl_v rfl rfl rfl (rv_loadN (cs := [.int .i64 n.ins, n.sv, n.av, n.ov]) rfl (by kernel_rfl) (by kernel_rfl) rfl rfl (box_part 0 rfl 0 rfl)) ?_
 refine hl_callV rfl rfl rfl (rq_call (by kernel_rfl) rfl (fun w hm => ret_ans (implnodeCount_yes n w (hr.below hm.bel) hn))) ?_
 refine hl_v rfl rfl rfl (rv_ev rfl) ?_
 refine hl_less (sx 0 rfl (sx 1 rfl (sx 2 rfl (sx 24 rfl (sub_nil _))))) (.refl _) ?_
 refine hl_nil ?_
 refine hq_then ?_
 refine hc_ret ?_
 exact hq_ans rfl rfl rfl
set_option maxHeartbeats 4000000 in
set_option maxRecDepth 100000 in
theorem firstAnd_yes (n : Nt) (w : World) (hr : RdsNt w n) (hn : NtOk n) :
  Calls Try.prog 86 #[.agg #[.int .i64 n.ins, n.sv, n.av, n.ov]] w (Ans w (.int .i64 n.fst)) := by
 have hi0 := hn.i0
 have hi1 := hn.i1
 have hs1 := hn.s1
 have ha1 := hn.a1
 have ho1 := hn.o1
 have hcnt : n.cnt = 1 + n.ins + n.ss.length + n.gs.length := rfl
 have hfst : n.fst = 1 + n.ins + n.ss.length := rfl
 refine calls_hc (N := 10) (args := [.agg #[.int .i64 n.ins, n.sv, n.av, n.ov]]) Try.func86 rfl rfl ?_
 refine hc_less _ (sx 0 rfl (sub_nil _)) (.refl _) ?_
 refine hc_seq ?_
 refine hc_region ?_
 refine hl_box rfl rfl rfl (rq_box rfl rfl) ?_
 intro b1
 refine hl_v rfl rfl rfl (rv_ev rfl) ?_
 refine hl_less (sx 0 rfl (sx 1 rfl (sx 2 rfl (sub_nil _)))) (.refl _) ?_
 refine hl_nil ?_
 refine hq_then ?_
 refine hc_seq ?_
 refine hc_region ?_
 refine hl_v rfl rfl rfl (rv_field (k0 := 0) rfl (by kernel_rfl) rfl) ?_
 refine hl_v rfl rfl rfl (rv_load rfl (by kernel_rfl) rfl (box_cell 0 rfl rfl)) ?_
 refine hl_v rfl rfl rfl (rv_add rfl rfl rfl (by constructor <;> omega)) ?_
 refine hl_v rfl rfl rfl (rv_field (k0 := 1) rfl (by kernel_rfl) rfl) ?_
 refine hl_v rfl rfl rfl (rv_load rfl (by kernel_rfl) rfl (box_cell 0 rfl rfl)) ?_
 refine hl_v rfl rfl rfl (rv_len rfl Try.underlying24 rfl (rd_old hr.sq)) ?_
 refine hl_v rfl rfl rfl (rv_add rfl rfl rfl (by constructor <;> omega)) ?_
 refine hl_v rfl rfl rfl (rv_ev rfl) ?_
 refine hl_less (sx 0 rfl (sx 1 rfl (sx 2 rfl (sub_nil _)))) (.refl _) ?_
 refine hl_nil ?_
 refine hq_then ?_
 refine hc_ret ?_
 exact hq_ans rfl rfl rfl
set_option maxHeartbeats 4000000 in
set_option maxRecDepth 100000 in
theorem firstSeq_yes (n : Nt) (w : World) (hr : RdsNt w n) (hn : NtOk n) :
  Calls Try.prog 129 #[.agg #[.int .i64 n.ins, n.sv, n.av, n.ov]] w (Ans w (.int .i64 (1 + n.ins))) := by
 have hi0 := hn.i0
 have hi1 := hn.i1
 have hs1 := hn.s1
 have ha1 := hn.a1
 have ho1 := hn.o1
 have hcnt : n.cnt = 1 + n.ins + n.ss.length + n.gs.length := rfl
 have hfst : n.fst = 1 + n.ins + n.ss.length := rfl
 refine calls_hc (N := 6) (args := [.agg #[.int .i64 n.ins, n.sv, n.av, n.ov]]) Try.func129 rfl rfl ?_
 refine hc_less _ (sx 0 rfl (sub_nil _)) (.refl _) ?_
 refine hc_seq ?_
 refine hc_region ?_
 refine hl_box rfl rfl rfl (rq_box rfl rfl) ?_
 intro b1
 refine hl_v rfl rfl rfl (rv_ev rfl) ?_
 refine hl_less (sx 0 rfl (sx 1 rfl (sx 2 rfl (sub_nil _)))) (.refl _) ?_
 refine hl_nil ?_
 refine hq_then ?_
 refine hc_seq ?_
 refine hc_region ?_
 refine hl_v rfl rfl rfl (rv_field (k0 := 0) rfl (by kernel_rfl) rfl) ?_
 refine hl_v rfl rfl rfl (rv_load rfl (by kernel_rfl) rfl (box_cell 0 rfl rfl)) ?_
 refine hl_v rfl rfl rfl (rv_add rfl rfl rfl (by constructor <;> omega)) ?_
 refine hl_v rfl rfl rfl (rv_ev rfl) ?_
 refine hl_less (sx 0 rfl (sx 1 rfl (sx 2 rfl (sub_nil _)))) (.refl _) ?_
 refine hl_nil ?_
 refine hq_then ?_
 refine hc_ret ?_
 exact hq_ans rfl rfl rfl
set_option maxHeartbeats 4000000 in
set_option maxRecDepth 100000 in
theorem seqOk_yes (s : Sq) (w : World) (hs : SqOk s) (hx : RdsW w s.iv 1 s.xs.length (s.xs.map (Value.int .i64))) :
  Calls Try.prog 125 #[.agg #[.int .i64 s.kd, .int .i64 s.it, s.iv]] w (Ans w (.bool true)) := by
 have hk := hs.kind
 refine calls_hc (N := 27) (args := [.agg #[.int .i64 s.kd, .int .i64 s.it, s.iv]]) Try.func125 rfl rfl ?_
 refine hc_less _ (sx 0 rfl (sub_nil _)) (.refl _) ?_
 refine hc_seq ?_
 refine hc_region ?_
 refine hl_box rfl rfl rfl (rq_box rfl rfl) ?_
 intro b1
 refine hl_v rfl rfl rfl (rv_ev rfl) ?_
 refine hl_less (sx 0 rfl (sx 1 rfl (sx 2 rfl (sub_nil _)))) (.refl _) ?_
 refine hl_nil ?_
 refine hq_then ?_
 refine hc_seq ?_
 refine hc_seq ?_
 refine hc_region ?_
 refine hl_v rfl rfl rfl (rv_field (k0 := 0) rfl (by kernel_rfl) rfl) ?_
 refine hl_v rfl rfl rfl (rv_load rfl (by kernel_rfl) rfl (box_cell 0 rfl rfl)) ?_
 refine hl_less (sx 0 rfl (sx 1 rfl (sx 2 rfl (sx 4 rfl (sub_nil _))))) (.refl _) ?_
 refine hl_nil ?_
 refine hq_then ?_
 refine hc_block ?_
 refine hc_seq ?_
 refine hc_region ?_
 refine hl_eql rfl rfl rfl rfl rfl rfl (fun h2 => ?_) (fun h2 => ?_)
 ·
  refine hl_v rfl rfl rfl (rv_ev rfl) ?_
  refine hl_less (sx 0 rfl (sx 1 rfl (sx 2 rfl (sx 4 rfl (sx 5 rfl (sub_nil _)))))) (.refl _) ?_
  refine hl_nil ?_
  refine hq_then ?_
  refine hc_true rfl ?_
  refine hc_seq ?_
  refine hc_region ?_
  refine hl_v rfl rfl rfl (rv_field (k0 := 1) rfl (by kernel_rfl) rfl) ?_
  refine hl_v rfl rfl rfl (rv_load rfl (by kernel_rfl) rfl (box_cell 0 rfl rfl)) ?_
  refine hl_callV rfl rfl rfl (rq_call (by kernel_rfl) rfl (fun w hm => ret_ans (ans_of (inRange_any _ _ _ w)))) ?_
  refine hl_bool (fun h3 => ?_) (fun h3 => absurd ((((inR_iff _ _ _).2 (by omega))).symm.trans h3) (by decide))
  refine hl_v rfl rfl rfl (rv_ev rfl) ?_
  refine hl_v rfl rfl rfl (rv_field (k0 := 2) rfl (by kernel_rfl) rfl) ?_
  refine hl_v rfl rfl rfl (rv_load rfl (by kernel_rfl) rfl (box_cell 0 rfl rfl)) ?_
  refine hl_v rfl rfl rfl (rv_len rfl Try.underlying26 rfl (rd_old hx)) ?_
  refine hl_eql rfl rfl rfl rfl rfl rfl (fun h4 => ?_) (fun h4 => ?_)
  ·
   refine hl_v rfl rfl rfl (rv_ev rfl) ?_
   refine hl_v rfl rfl rfl (rv_ev rfl) ?_
   refine hl_less (sx 0 rfl (sx 1 rfl (sx 2 rfl (sx 4 rfl (sx 5 rfl (sub_nil _)))))) (.refl _) ?_
   refine hl_nil ?_
   refine hq_then ?_
   refine hc_ret ?_
   refine hq_block_ret ?_
   refine hq_then_ret ?_
   exact hq_ans rfl rfl rfl
  ·
   refine hl_v rfl rfl rfl (rv_ev rfl) ?_
   refine hl_v rfl rfl rfl (rv_ev rfl) ?_
   refine hl_less (sx 0 rfl (sx 1 rfl (sx 2 rfl (sx 4 rfl (sx 5 rfl (sub_nil _)))))) (.refl _) ?_
   refine hl_nil ?_
   refine hq_then ?_
   refine hc_ret ?_
   refine hq_block_ret ?_
   refine hq_then_ret ?_
   exfalso
   omega
 ·
  refine hl_v rfl rfl rfl (rv_ev rfl) ?_
  refine hl_less (sx 0 rfl (sx 1 rfl (sx 2 rfl (sx 4 rfl (sx 5 rfl (sub_nil _)))))) (.refl _) ?_
  refine hl_nil ?_
  refine hq_then ?_
  refine hc_false rfl ?_
  refine hc_seq ?_
  refine hc_region ?_
  refine hl_eql rfl rfl rfl rfl rfl rfl (fun h5 => ?_) (fun h5 => ?_)
  ·
   refine hl_v rfl rfl rfl (rv_ev rfl) ?_
   refine hl_less (sx 0 rfl (sx 1 rfl (sx 2 rfl (sx 4 rfl (sx 5 rfl (sx 16 rfl (sub_nil _))))))) (.refl _) ?_
   refine hl_nil ?_
   refine hq_then ?_
   refine hc_true rfl ?_
   refine hc_seq ?_
   refine hc_region ?_
   refine hl_v rfl rfl rfl (rv_field (k0 := 1) rfl (by kernel_rfl) rfl) ?_
   refine hl_v rfl rfl rfl (rv_load rfl (by kernel_rfl) rfl (box_cell 0 rfl rfl)) ?_
   refine hl_callV rfl rfl rfl (rq_call (by kernel_rfl) rfl (fun w hm => ret_ans (ans_of (inRange_any _ _ _ w)))) ?_
   refine hl_bool (fun h6 => ?_) (fun h6 => absurd ((((inR_iff _ _ _).2 (by omega))).symm.trans h6) (by decide))
   refine hl_v rfl rfl rfl (rv_ev rfl) ?_
   refine hl_v rfl rfl rfl (rv_field (k0 := 2) rfl (by kernel_rfl) rfl) ?_
   refine hl_v rfl rfl rfl (rv_load rfl (by kernel_rfl) rfl (box_cell 0 rfl rfl)) ?_
   refine hl_v rfl rfl rfl (rv_len rfl Try.underlying26 rfl (rd_old hx)) ?_
   refine hl_eql rfl rfl rfl rfl rfl rfl (fun h7 => ?_) (fun h7 => ?_)
   ·
    refine hl_v rfl rfl rfl (rv_ev rfl) ?_
    refine hl_v rfl rfl rfl (rv_ev rfl) ?_
    refine hl_less (sx 0 rfl (sx 1 rfl (sx 2 rfl (sx 4 rfl (sx 5 rfl (sx 16 rfl (sub_nil _))))))) (.refl _) ?_
    refine hl_nil ?_
    refine hq_then ?_
    refine hc_ret ?_
    refine hq_block_ret ?_
    refine hq_then_ret ?_
    exact hq_ans rfl rfl rfl
   ·
    refine hl_v rfl rfl rfl (rv_ev rfl) ?_
    refine hl_v rfl rfl rfl (rv_ev rfl) ?_
    refine hl_less (sx 0 rfl (sx 1 rfl (sx 2 rfl (sx 4 rfl (sx 5 rfl (sx 16 rfl (sub_nil _))))))) (.refl _) ?_
    refine hl_nil ?_
    refine hq_then ?_
    refine hc_ret ?_
    refine hq_block_ret ?_
    refine hq_then_ret ?_
    exfalso
    omega
  ·
   refine hl_v rfl rfl rfl (rv_ev rfl) ?_
   refine hl_less (sx 0 rfl (sx 1 rfl (sx 2 rfl (sx 4 rfl (sx 5 rfl (sx 16 rfl (sub_nil _))))))) (.refl _) ?_
   refine hl_nil ?_
   refine hq_then ?_
   refine hc_false rfl ?_
   refine hc_skip ?_
   refine hq_block_normal ?_
   refine hq_then ?_
   refine hc_seq ?_
   refine hc_region ?_
   refine hl_v rfl rfl rfl (rv_ev rfl) ?_
   refine hl_less (sx 0 rfl (sx 1 rfl (sx 2 rfl (sx 4 rfl (sx 5 rfl (sx 16 rfl (sub_nil _))))))) (.refl _) ?_
   refine hl_nil ?_
   refine hq_then ?_
   refine hc_ret ?_
   exfalso
   omega
set_option maxHeartbeats 4000000 in
set_option maxRecDepth 100000 in
theorem copyIntsN_ret (xs : List Int) (v : Value) (w : World) (hv : RdsW w v 1 xs.length (xs.map (Value.int .i64))) (hlen : xs.length ≤ 1000000000) :
  Calls Try.prog 134 #[v] w (Ret w (fun v' post => post = [rowE 3 1 v' (xs).length ((xs).map (Value.int .i64))])) := by
 refine calls_hc (N := 6) (args := [v]) Try.func134 rfl rfl ?_
 refine hc_less _ (sx 0 rfl (sub_nil _)) (.refl _) ?_
 refine hc_seq ?_
 refine hc_region ?_
 refine hl_v rfl rfl rfl (rv_ev rfl) ?_
 refine hl_less (sx 0 rfl (sx 2 rfl (sub_nil _))) (.refl _) ?_
 refine hl_nil ?_
 refine hq_then ?_
 refine hc_seq ?_
 refine hc_region ?_
 refine hl_row rfl rfl rfl (rq_slice0 (s := 1) rfl Try.underlying26 (by kernel_rfl)) ?_
 intro g1
 refine hl_v rfl rfl rfl (rv_ev rfl) ?_
 refine hl_append (i := 0) (z := .int .i64 0) (bytes := 8) (n' := xs.length) (xs' := (xs.map (Value.int .i64))) (L := fun v2 => [rowE 3 1 v2 xs.length (xs.map (Value.int .i64))]) rfl rfl rfl rfl Try.underlying26 (by kernel_rfl) (by kernel_rfl) rfl rfl rfl (rd_old hv) (ints_one _) (by first | omega | (simp; omega)) ((Nat.zero_add _)) ((List.nil_append _)) (fun _ => rfl) ?_
 intro v2
 refine hl_v rfl rfl rfl (rv_ev rfl) ?_
 refine hl_less (sx 0 rfl (sx 2 rfl (sub_nil _))) (.refl _) ?_
 refine hl_nil ?_
 refine hq_then ?_
 refine hc_ret ?_
 exact hq_retR (post := [rowE 3 1 v2 xs.length (xs.map (Value.int .i64))]) rfl rfl ((.cons_cons _ .slnil)) rfl
set_option maxHeartbeats 4000000 in
set_option maxRecDepth 100000 in
theorem roots_ret (n : Nt) (w : World) (hr : RdsNt w n) (hn : NtOk n) :
  Calls Try.prog 126 #[.agg #[.int .i64 n.ins, n.sv, n.av, n.ov]] w (Ret w (fun v' post => post = [rowE 3 1 v' (rtsL n n.ss.length).length ((rtsL n n.ss.length).map (Value.int .i64))])) := by
 have hi0 := hn.i0
 have hi1 := hn.i1
 have hs1 := hn.s1
 have ha1 := hn.a1
 have ho1 := hn.o1
 have hcnt : n.cnt = 1 + n.ins + n.ss.length + n.gs.length := rfl
 have hfst : n.fst = 1 + n.ins + n.ss.length := rfl
 refine calls_hc (N := 22) (args := [.agg #[.int .i64 n.ins, n.sv, n.av, n.ov]]) Try.func126 rfl rfl ?_
 refine hc_less _ (sx 0 rfl (sub_nil _)) (.refl _) ?_
 refine hc_seq ?_
 refine hc_region ?_
 refine hl_box rfl rfl rfl (rq_box rfl rfl) ?_
 intro b1
 refine hl_v rfl rfl rfl (rv_ev rfl) ?_
 refine hl_less (sx 0 rfl (sx 1 rfl (sx 2 rfl (sub_nil _)))) (.refl _) ?_
 refine hl_nil ?_
 refine hq_then ?_
 refine hc_seq ?_
 refine hc_region ?_
 refine hl_v rfl rfl rfl (rv_field (k0 := 3) rfl (by kernel_rfl) rfl) ?_
 refine hl_v rfl rfl rfl (rv_load rfl (by kernel_rfl) rfl (box_cell 0 rfl rfl)) ?_
 refine hl_q rfl rfl rfl (rq_call (by kernel_rfl) rfl (fun w hm => copyIntsN_ret n.os _ w ((rd_old hr.ou) w hm) (by omega))) ?_
 intro v2 p3 hR4
 subst hR4
 refine hl_v rfl rfl rfl (rv_ev rfl) ?_
 refine hl_less (sx 0 rfl (sx 1 rfl (sx 2 rfl (sx 3 rfl (sub_nil _))))) (.refl _) ?_
 refine hl_nil ?_
 refine hq_then ?_
 refine hc_seq ?_
 refine hc_seq ?_
 refine hc_region ?_
 refine hl_v rfl rfl rfl (rv_field (k0 := 1) rfl (by kernel_rfl) rfl) ?_
 refine hl_v rfl rfl rfl (rv_load rfl (by kernel_rfl) rfl (box_cell 1 rfl rfl)) ?_
 refine hl_v rfl rfl rfl (rv_len rfl Try.underlying24 rfl (rd_old hr.sq)) ?_
 refine hl_v rfl rfl rfl (rv_ev rfl) ?_
 refine hl_less (sx 0 rfl (sx 1 rfl (sx 2 rfl (sx 3 rfl (sx 10 rfl (sx 11 rfl (sx 12 rfl (sub_nil _)))))))) (.refl _) ?_
 refine hl_nil ?_
 refine hq_then ?_
 refine hc_block ?_
 refine hc_loop3 (α := Nat) (β := Value) (γ := List Int) (fun k u zs => [rowE 3 1 u zs.length (zs.map (Value.int .i64)), boxE b1 #[.int .i64 n.ins, n.sv, n.av, n.ov] 28]) (fun k u zs => [(0, .agg #[.int .i64 n.ins, n.sv, n.av, n.ov]), (1, .pointer (some ⟨b1, 0, none⟩)), (2, .slice none 0 0), (3, u), (10, n.sv), (11, .int .i64 (n.ss.length : Int)), (12, .int .i64 (k : Int))]) (fun k u zs => k ≤ n.ss.length ∧ zs = rtsL n k) (fun k u zs => n.ss.length - k) 0 _ n.os ⟨by omega, by simp [rtsL]⟩ (sx 0 rfl (sx 1 rfl (sx 2 rfl (sx 3 rfl (sx 10 rfl (sx 11 rfl (sx 12 rfl (sub_nil _)))))))) ((.cons_cons _ (.cons_cons _ .slnil))) ?_
 intro k u zs hi5
 obtain ⟨hk, hz⟩ := hi5
 have hzl : zs.length ≤ 16 + 4 * k := by rw [hz]; exact rts_len hn k hk
 refine hc_seq ?_
 refine hc_region ?_
 refine hl_lss rfl rfl rfl rfl rfl rfl (fun h6 => ?_) (fun h6 => ?_)
 ·
  refine hl_less (sx 0 rfl (sx 1 rfl (sx 2 rfl (sx 3 rfl (sx 10 rfl (sx 11 rfl (sx 12 rfl (sx 13 rfl (sub_nil _))))))))) (.refl _) ?_
  refine hl_nil ?_
  refine hq_then ?_
  refine hc_seq ?_
  refine hc_true rfl ?_
  refine hc_skip ?_
  refine hq_then ?_
  refine hc_seq ?_
  refine hc_block ?_
  refine hc_seq ?_
  refine hc_region ?_
  refine hl_v rfl rfl rfl (rv_index (s := 3) rfl Try.underlying24 (by kernel_rfl) rfl rfl (rd_old hr.sq) (by omega) (by first | omega | (simp only [List.length_set]; omega))) ?_
  refine hl_v rfl rfl rfl (rv_loadElN (us := [.int .i64 ((n.ss.getD k sq0).kd), .int .i64 ((n.ss.getD k sq0).it), (n.ss.getD k sq0).iv]) rfl (by kernel_rfl) (by kernel_rfl) rfl (rd_old hr.sq) (by omega) rfl (flat_atN sqC 3 (fun _ => rfl) n.ss sq0 (show k < _ by first | omega | (simp only [List.length_set]; omega)) rfl)) ?_
  refine hl_box rfl rfl rfl (rq_alloc (z := .agg #[.int .i64 0, .int .i64 0, .slice none 0 0]) rfl (by kernel_rfl)) ?_
  intro b7
  refine hl_storeBoxN (i := 0) (off := 0) (us := [.int .i64 ((n.ss.getD k sq0).kd), .int .i64 ((n.ss.getD k sq0).it), (n.ss.getD k sq0).iv]) (l' := [boxE b7 #[.int .i64 ((n.ss.getD k sq0).kd), .int .i64 ((n.ss.getD k sq0).it), (n.ss.getD k sq0).iv] 83, rowE 3 1 u zs.length (zs.map (Value.int .i64)), boxE b1 #[.int .i64 n.ins, n.sv, n.av, n.ov] 28]) rfl rfl rfl (by kernel_rfl) rfl rfl rfl (all_cons rfl (all_cons rfl (all_cons (hr.at (k := k) (by omega)).one all_nil))) rfl rfl rfl ?_
  refine hl_less (sx 0 rfl (sx 1 rfl (sx 2 rfl (sx 3 rfl (sx 5 rfl (sx 10 rfl (sx 11 rfl (sx 12 rfl (sx 13 rfl (sub_nil _)))))))))) (.refl _) ?_
  refine hl_nil ?_
  refine hq_then ?_
  refine hc_region ?_
  have hx4 := (hn.sq _ (getD_memX (d := sq0) (show k < n.ss.length by omega))).len
  refine hl_v rfl rfl rfl (rv_ev rfl) ?_
  refine hl_v rfl rfl rfl (rv_field (k0 := 2) rfl (by kernel_rfl) rfl) ?_
  refine hl_v rfl rfl rfl (rv_load rfl (by kernel_rfl) rfl (box_cell 0 rfl rfl)) ?_
  refine hl_append (i := 1) (z := .int .i64 0) (bytes := 8) (n' := (zs ++ ((n.ss.getD k sq0).xs)).length) (xs' := ((zs ++ ((n.ss.getD k sq0).xs)).map (Value.int .i64))) (L := fun v8 => [boxE b7 #[.int .i64 ((n.ss.getD k sq0).kd), .int .i64 ((n.ss.getD k sq0).it), (n.ss.getD k sq0).iv] 83, rowE 3 1 v8 ((zs ++ ((n.ss.getD k sq0).xs)).length) ((zs ++ ((n.ss.getD k sq0).xs)).map (Value.int .i64)), boxE b1 #[.int .i64 n.ins, n.sv, n.av, n.ov] 28]) rfl rfl rfl rfl Try.underlying26 (by kernel_rfl) (by kernel_rfl) rfl rfl rfl (fun w hm => (hr.at (k := k) (by omega)).below hm.bel) (ints_one _) (by first | omega | (simp; omega)) (len_app zs ((n.ss.getD k sq0).xs)) (ints_app zs ((n.ss.getD k sq0).xs)) (fun _ => rfl) ?_
  intro v8
  refine hl_v rfl rfl rfl (rv_ev rfl) ?_
  refine hl_less (sx 0 rfl (sx 1 rfl (sx 2 rfl (sx 3 rfl (sx 5 rfl (sx 10 rfl (sx 11 rfl (sx 12 rfl (sx 13 rfl (sub_nil _)))))))))) (.refl _) ?_
  refine hl_nil ?_
  refine hq_block_normal ?_
  refine hq_then ?_
  refine hc_region ?_
  refine hl_v rfl rfl rfl (rv_add rfl rfl rfl (by constructor <;> omega)) ?_
  refine hl_v rfl rfl rfl (rv_ev rfl) ?_
  refine hl_less (sx 0 rfl (sx 1 rfl (sx 2 rfl (sx 3 rfl (sx 5 rfl (sx 10 rfl (sx 11 rfl (sx 12 rfl (sx 13 rfl (sub_nil _)))))))))) (.refl _) ?_
  refine hl_nil ?_
  exact hq_round3 (k + 1) v8 (zs ++ ((n.ss.getD k sq0).xs)) ⟨by omega, by rw [hz, rts_step n (by omega)]⟩ (by omega) (sx 0 rfl (sx 1 rfl (sx 2 rfl (sx 3 rfl (sx 10 rfl (sx 11 rfl (sx 12 rfl (sub_nil _)))))))) ((.cons _ (.cons_cons _ (.cons_cons _ .slnil))))
 ·
  refine hl_less (sx 0 rfl (sx 1 rfl (sx 2 rfl (sx 3 rfl (sx 10 rfl (sx 11 rfl (sx 12 rfl (sx 13 rfl (sub_nil _))))))))) (.refl _) ?_
  refine hl_nil ?_
  refine hq_then ?_
  refine hc_seq ?_
  refine hc_false rfl ?_
  refine hc_exit ?_
  refine hq_then_exit ?_
  refine hq_then_exit ?_
  refine hq_block_exit ?_
  refine hq_then ?_
  refine hc_seq ?_
  refine hc_region ?_
  refine hl_v rfl rfl rfl (rv_ev rfl) ?_
  refine hl_v rfl rfl rfl (rv_ev rfl) ?_
  refine hl_less (sx 0 rfl (sx 1 rfl (sx 2 rfl (sx 3 rfl (sx 10 rfl (sx 11 rfl (sx 12 rfl (sx 13 rfl (sub_nil _))))))))) (.refl _) ?_
  refine hl_nil ?_
  refine hq_then ?_
  refine hc_ret ?_
  exact hq_retR (post := [rowE 3 1 u zs.length (zs.map (Value.int .i64))]) rfl rfl ((.cons_cons _ (.cons _ .slnil))) (by rw [hz, show k = n.ss.length by omega])
set_option maxHeartbeats 4000000 in
set_option maxRecDepth 100000 in
theorem implNetOk_yes (n : Nt) (w : World) (hr : RdsNt w n) (hn : NtOk n) :
  Calls Try.prog 67 #[.agg #[.int .i64 n.ins, n.sv, n.av, n.ov]] w (Ans w (.bool true)) := by
 have hi0 := hn.i0
 have hi1 := hn.i1
 have hs1 := hn.s1
 have ha1 := hn.a1
 have ho1 := hn.o1
 have hcnt : n.cnt = 1 + n.ins + n.ss.length + n.gs.length := rfl
 have hfst : n.fst = 1 + n.ins + n.ss.length := rfl
 refine calls_hc (N := 67) (args := [.agg #[.int .i64 n.ins, n.sv, n.av, n.ov]]) Try.func67 rfl rfl ?_
 refine hc_less _ (sx 0 rfl (sub_nil _)) (.refl _) ?_
 refine hc_seq ?_
 refine hc_region ?_
 refine hl_box rfl rfl rfl (rq_box rfl rfl) ?_
 intro b1
 refine hl_v rfl rfl rfl (rv_ev rfl) ?_
 refine hl_less (sx 0 rfl (sx 1 rfl (sx 2 rfl (sub_nil _)))) (.refl _) ?_
 refine hl_nil ?_
 refine hq_then ?_
 refine hc_seq ?_
 refine hc_region ?_
 refine hl_v rfl rfl rfl (rv_loadN (cs := [.int .i64 n.ins, n.sv, n.av, n.ov]) rfl (by kernel_rfl) (by kernel_rfl) rfl rfl (box_part 0 rfl 0 rfl)) ?_
 refine hl_callV rfl rfl rfl (rq_call (by kernel_rfl) rfl (fun w hm => ret_ans (implNodeCount_yes n w (hr.below hm.bel) hn))) ?_
 refine hl_v rfl rfl rfl (rv_ev rfl) ?_
 refine hl_less (sx 0 rfl (sx 1 rfl (sx 2 rfl (sx 3 rfl (sub_nil _))))) (.refl _) ?_
 refine hl_nil ?_
 refine hq_then ?_
 refine hc_seq ?_
 refine hc_seq ?_
 refine hc_region ?_
 refine hl_v rfl rfl rfl (rv_ev rfl) ?_
 refine hl_eql rfl rfl rfl rfl rfl rfl (fun h2 => absurd h2 (by omega)) (fun h2 => ?_)
 refine hl_less (sx 0 rfl (sx 1 rfl (sx 2 rfl (sx 3 rfl (sx 14 rfl (sub_nil _)))))) (.refl _) ?_
 refine hl_nil ?_
 refine hq_then ?_
 refine hc_false rfl ?_
 refine hc_skip ?_
 refine hq_then ?_
 refine hc_seq ?_
 refine hc_seq ?_
 refine hc_region ?_
 refine hl_v rfl rfl rfl (rv_field (k0 := 1) rfl (by kernel_rfl) rfl) ?_
 refine hl_v rfl rfl rfl (rv_load rfl (by kernel_rfl) rfl (box_cell 0 rfl rfl)) ?_
 refine hl_v rfl rfl rfl (rv_len rfl Try.underlying24 rfl (rd_old hr.sq)) ?_
 refine hl_v rfl rfl rfl (rv_ev rfl) ?_
 refine hl_less (sx 0 rfl (sx 1 rfl (sx 2 rfl (sx 3 rfl (sx 14 rfl (sx 16 rfl (sx 17 rfl (sx 18 rfl (sub_nil _))))))))) (.refl _) ?_
 refine hl_nil ?_
 refine hq_then ?_
 refine hc_block ?_
 refine hc_loop1 (α := Nat) (fun k => [boxE b1 #[.int .i64 n.ins, n.sv, n.av, n.ov] 28]) (fun k => [(0, .agg #[.int .i64 n.ins, n.sv, n.av, n.ov]), (1, .pointer (some ⟨b1, 0, none⟩)), (2, .bool false), (3, .int .i64 n.cnt), (14, .bool false), (16, n.sv), (17, .int .i64 (n.ss.length : Int)), (18, .int .i64 (k : Int))]) (fun k => k ≤ n.ss.length) (fun k => n.ss.length - k) 0 (Nat.zero_le _) (sx 0 rfl (sx 1 rfl (sx 2 rfl (sx 3 rfl (sx 14 rfl (sx 16 rfl (sx 17 rfl (sx 18 rfl (sub_nil _))))))))) ((.cons_cons _ .slnil)) ?_
 intro k hi3
 have hk := hi3
 refine hc_seq ?_
 refine hc_region ?_
 refine hl_lss rfl rfl rfl rfl rfl rfl (fun h4 => ?_) (fun h4 => ?_)
 ·
  refine hl_less (sx 0 rfl (sx 1 rfl (sx 2 rfl (sx 3 rfl (sx 14 rfl (sx 16 rfl (sx 17 rfl (sx 18 rfl (sx 19 rfl (sub_nil _)))))))))) (.refl _) ?_
  refine hl_nil ?_
  refine hq_then ?_
  refine hc_seq ?_
  refine hc_true rfl ?_
  refine hc_skip ?_
  refine hq_then ?_
  refine hc_seq ?_
  refine hc_block ?_
  refine hc_seq ?_
  refine hc_region ?_
  refine hl_v rfl rfl rfl (rv_index (s := 3) rfl Try.underlying24 (by kernel_rfl) rfl rfl (rd_old hr.sq) (by omega) (by first | omega | (simp only [List.length_set]; omega))) ?_
  refine hl_v rfl rfl rfl (rv_loadElN (us := [.int .i64 ((n.ss.getD k sq0).kd), .int .i64 ((n.ss.getD k sq0).it), (n.ss.getD k sq0).iv]) rfl (by kernel_rfl) (by kernel_rfl) rfl (rd_old hr.sq) (by omega) rfl (flat_atN sqC 3 (fun _ => rfl) n.ss sq0 (show k < _ by first | omega | (simp only [List.length_set]; omega)) rfl)) ?_
  refine hl_box rfl rfl rfl (rq_alloc (z := .agg #[.int .i64 0, .int .i64 0, .slice none 0 0]) rfl (by kernel_rfl)) ?_
  intro b5
  refine hl_storeBoxN (i := 0) (off := 0) (us := [.int .i64 ((n.ss.getD k sq0).kd), .int .i64 ((n.ss.getD k sq0).it), (n.ss.getD k sq0).iv]) (l' := [boxE b5 #[.int .i64 ((n.ss.getD k sq0).kd), .int .i64 ((n.ss.getD k sq0).it), (n.ss.getD k sq0).iv] 83, boxE b1 #[.int .i64 n.ins, n.sv, n.av, n.ov] 28]) rfl rfl rfl (by kernel_rfl) rfl rfl rfl (all_cons rfl (all_cons rfl (all_cons (hr.at (k := k) (by omega)).one all_nil))) rfl rfl rfl ?_
  refine hl_less (sx 0 rfl (sx 1 rfl (sx 2 rfl (sx 3 rfl (sx 5 rfl (sx 14 rfl (sx 16 rfl (sx 17 rfl (sx 18 rfl (sx 19 rfl (sub_nil _))))))))))) (.refl _) ?_
  refine hl_nil ?_
  refine hq_then ?_
  refine hc_seq ?_
  refine hc_region ?_
  refine hl_v rfl rfl rfl (rv_loadN (cs := [.int .i64 ((n.ss.getD k sq0).kd), .int .i64 ((n.ss.getD k sq0).it), (n.ss.getD k sq0).iv]) rfl (by kernel_rfl) (by kernel_rfl) rfl rfl (box_part 0 rfl 0 rfl)) ?_
  refine hl_callV rfl rfl rfl (rq_call (by kernel_rfl) rfl (fun w hm => ret_ans (seqOk_yes (n.ss.getD k sq0) w (hn.sq _ (getD_memX (d := sq0) (by omega))) ((hr.at (k := k) (by omega)).below hm.bel)))) ?_
  refine hl_v rfl rfl rfl (rv_ev rfl) ?_
  refine hl_less (sx 0 rfl (sx 1 rfl (sx 2 rfl (sx 3 rfl (sx 5 rfl (sx 14 rfl (sx 16 rfl (sx 17 rfl (sx 18 rfl (sx 19 rfl (sx 24 rfl (sub_nil _)))))))))))) (.refl _) ?_
  refine hl_nil ?_
  refine hq_then ?_
  refine hc_false rfl ?_
  refine hc_skip ?_
  refine hq_block_normal ?_
  refine hq_then ?_
  refine hc_region ?_
  refine hl_v rfl rfl rfl (rv_add rfl rfl rfl (by constructor <;> omega)) ?_
  refine hl_v rfl rfl rfl (rv_ev rfl) ?_
  refine hl_less (sx 0 rfl (sx 1 rfl (sx 2 rfl (sx 3 rfl (sx 5 rfl (sx 14 rfl (sx 16 rfl (sx 17 rfl (sx 18 rfl (sx 19 rfl (sx 24 rfl (sub_nil _)))))))))))) (.refl _) ?_
  refine hl_nil ?_
  exact hq_round1 (k + 1) (by omega) (by omega) (sx 0 rfl (sx 1 rfl (sx 2 rfl (sx 3 rfl (sx 14 rfl (sx 16 rfl (sx 17 rfl (sx 18 rfl (sub_nil _))))))))) ((.cons _ (.cons_cons _ .slnil)))
 ·
  refine hl_less (sx 0 rfl (sx 1 rfl (sx 2 rfl (sx 3 rfl (sx 14 rfl (sx 16 rfl (sx 17 rfl (sx 18 rfl (sx 19 rfl (sub_nil _)))))))))) (.refl _) ?_
  refine hl_nil ?_
  refine hq_then ?_
  refine hc_seq ?_
  refine hc_false rfl ?_
  refine hc_exit ?_
  refine hq_then_exit ?_
  refine hq_then_exit ?_
  refine hq_block_exit ?_
  refine hq_then ?_
  refine hc_seq ?_
  refine hc_seq ?_
  refine hc_region ?_
  refine hl_v rfl rfl rfl (rv_loadN (cs := [.int .i64 n.ins, n.sv, n.av, n.ov]) rfl (by kernel_rfl) (by kernel_rfl) rfl rfl (box_part 0 rfl 0 rfl)) ?_
  refine hl_q rfl rfl rfl (rq_call (by kernel_rfl) rfl (fun w hm => roots_ret n w (hr.below hm.bel) hn)) ?_
  intro v6 p7 hR8
  subst hR8
  refine hl_v rfl rfl rfl (rv_len rfl Try.underlying26 rfl (rd_row 0 rfl)) ?_
  have hzl := rts_len hn n.ss.length (Nat.le_refl _)
  refine hl_v rfl rfl rfl (rv_ev rfl) ?_
  refine hl_less (sx 0 rfl (sx 1 rfl (sx 2 rfl (sx 3 rfl (sx 14 rfl (sx 16 rfl (sx 17 rfl (sx 18 rfl (sx 19 rfl (sx 27 rfl (sx 28 rfl (sx 29 rfl (sub_nil _))))))))))))) (.refl _) ?_
  refine hl_nil ?_
  refine hq_then ?_
  refine hc_block ?_
  refine hc_loop1 (α := Nat) (fun q => [rowE 3 1 v6 ((rtsL n n.ss.length).length) ((rtsL n n.ss.length).map (Value.int .i64)), boxE b1 #[.int .i64 n.ins, n.sv, n.av, n.ov] 28]) (fun q => [(0, .agg #[.int .i64 n.ins, n.sv, n.av, n.ov]), (1, .pointer (some ⟨b1, 0, none⟩)), (2, .bool false), (3, .int .i64 n.cnt), (14, .bool false), (16, n.sv), (17, .int .i64 (n.ss.length : Int)), (18, .int .i64 (k : Int)), (19, .bool false), (27, v6), (28, .int .i64 ((rtsL n n.ss.length).length : Int)), (29, .int .i64 (q : Int))]) (fun q => q ≤ (rtsL n n.ss.length).length) (fun q => (rtsL n n.ss.length).length - q) 0 (Nat.zero_le _) (sx 0 rfl (sx 1 rfl (sx 2 rfl (sx 3 rfl (sx 14 rfl (sx 16 rfl (sx 17 rfl (sx 18 rfl (sx 19 rfl (sx 27 rfl (sx 28 rfl (sx 29 rfl (sub_nil _))))))))))))) ((.cons_cons _ (.cons_cons _ .slnil))) ?_
  intro q hi9
  have hq := hi9
  refine hc_seq ?_
  refine hc_region ?_
  refine hl_lss rfl rfl rfl rfl rfl rfl (fun h10 => ?_) (fun h10 => ?_)
  ·
   refine hl_less (sx 0 rfl (sx 1 rfl (sx 2 rfl (sx 3 rfl (sx 14 rfl (sx 16 rfl (sx 17 rfl (sx 18 rfl (sx 19 rfl (sx 27 rfl (sx 28 rfl (sx 29 rfl (sx 30 rfl (sub_nil _)))))))))))))) (.refl _) ?_
   refine hl_nil ?_
   refine hq_then ?_
   refine hc_seq ?_
   refine hc_true rfl ?_
   refine hc_skip ?_
   refine hq_then ?_
   refine hc_seq ?_
   refine hc_block ?_
   refine hc_seq ?_
   refine hc_region ?_
   refine hl_v rfl rfl rfl (rv_index (s := 1) rfl Try.underlying26 (by kernel_rfl) rfl rfl (rd_row 0 rfl) (by omega) (by first | omega | (simp only [List.length_set]; omega))) ?_
   refine hl_v rfl rfl rfl (rv_loadEl (u := .int .i64 ((rtsL n n.ss.length).getD q 0)) rfl (by kernel_rfl) rfl (rd_row 0 rfl) (ints_at1 (show _ < (rtsL n n.ss.length).length by first | omega | (simp only [List.length_set]; omega)))) ?_
   refine hl_v rfl rfl rfl (rv_ev rfl) ?_
   refine hl_less (sx 0 rfl (sx 1 rfl (sx 2 rfl (sx 3 rfl (sx 7 rfl (sx 14 rfl (sx 16 rfl (sx 17 rfl (sx 18 rfl (sx 19 rfl (sx 27 rfl (sx 28 rfl (sx 29 rfl (sx 30 rfl (sub_nil _))))))))))))))) (.refl _) ?_
   refine hl_nil ?_
   refine hq_then ?_
   refine hc_seq ?_
   refine hc_region ?_
   have hlk := rts_ok hn (i := q) (by omega)
   obtain ⟨hlk1, hlk2⟩ := hlk
   refine hl_v rfl rfl rfl (rv_ev rfl) ?_
   refine hl_v rfl rfl rfl (rv_ev rfl) ?_
   refine hl_v rfl rfl rfl (rv_mul rfl rfl rfl (by constructor <;> omega)) ?_
   refine hl_v rfl rfl rfl (rv_sub rfl rfl rfl (by constructor <;> omega)) ?_
   refine hl_callV rfl rfl rfl (rq_call (by kernel_rfl) rfl (fun w hm => ret_ans (ans_of (inRange_any _ _ _ w)))) ?_
   refine hl_bool (fun h11 => ?_) (fun h11 => absurd ((((inR_iff _ _ _).2 (by omega))).symm.trans h11) (by decide))
   refine hl_v rfl rfl rfl (rv_ev rfl) ?_
   refine hl_less (sx 0 rfl (sx 1 rfl (sx 2 rfl (sx 3 rfl (sx 7 rfl (sx 14 rfl (sx 16 rfl (sx 17 rfl (sx 18 rfl (sx 19 rfl (sx 27 rfl (sx 28 rfl (sx 29 rfl (sx 30 rfl (sx 38 rfl (sub_nil _)))))))))))))))) (.refl _) ?_
   refine hl_nil ?_
   refine hq_then ?_
   refine hc_false rfl ?_
   refine hc_skip ?_
   refine hq_block_normal ?_
   refine hq_then ?_
   refine hc_region ?_
   refine hl_v rfl rfl rfl (rv_add rfl rfl rfl (by constructor <;> omega)) ?_
   have hzl := rts_len hn n.ss.length (Nat.le_refl _)
   refine hl_v rfl rfl rfl (rv_ev rfl) ?_
   refine hl_less (sx 0 rfl (sx 1 rfl (sx 2 rfl (sx 3 rfl (sx 7 rfl (sx 14 rfl (sx 16 rfl (sx 17 rfl (sx 18 rfl (sx 19 rfl (sx 27 rfl (sx 28 rfl (sx 29 rfl (sx 30 rfl (sx 38 rfl (sub_nil _)))))))))))))))) (.refl _) ?_
   refine hl_nil ?_
   exact hq_round1 (q + 1) (by omega) (by omega) (sx 0 rfl (sx 1 rfl (sx 2 rfl (sx 3 rfl (sx 14 rfl (sx 16 rfl (sx 17 rfl (sx 18 rfl (sx 19 rfl (sx 27 rfl (sx 28 rfl (sx 29 rfl (sub_nil _))))))))))))) ((.cons_cons _ (.cons_cons _ .slnil)))
  ·
   refine hl_less (sx 0 rfl (sx 1 rfl (sx 2 rfl (sx 3 rfl (sx 14 rfl (sx 16 rfl (sx 17 rfl (sx 18 rfl (sx 19 rfl (sx 27 rfl (sx 28 rfl (sx 29 rfl (sx 30 rfl (sub_nil _)))))))))))))) (.refl _) ?_
   refine hl_nil ?_
   refine hq_then ?_
   refine hc_seq ?_
   refine hc_false rfl ?_
   refine hc_exit ?_
   refine hq_then_exit ?_
   refine hq_then_exit ?_
   refine hq_block_exit ?_
   refine hq_then ?_
   refine hc_seq ?_
   refine hc_seq ?_
   refine hc_region ?_
   refine hl_v rfl rfl rfl (rv_field (k0 := 2) rfl (by kernel_rfl) rfl) ?_
   refine hl_v rfl rfl rfl (rv_load rfl (by kernel_rfl) rfl (box_cell 1 rfl rfl)) ?_
   refine hl_v rfl rfl rfl (rv_len rfl Try.underlying25 rfl (rd_old hr.an)) ?_
   refine hl_v rfl rfl rfl (rv_ev rfl) ?_
   refine hl_less (sx 0 rfl (sx 1 rfl (sx 2 rfl (sx 3 rfl (sx 14 rfl (sx 16 rfl (sx 17 rfl (sx 18 rfl (sx 19 rfl (sx 27 rfl (sx 28 rfl (sx 29 rfl (sx 30 rfl (sx 41 rfl (sx 42 rfl (sx 43 rfl (sub_nil _))))))))))))))))) (.refl _) ?_
   refine hl_nil ?_
   refine hq_then ?_
   refine hc_block ?_
   refine hc_loop1 (α := Nat) (fun j => [rowE 3 1 v6 ((rtsL n n.ss.length).length) ((rtsL n n.ss.length).map (Value.int .i64)), boxE b1 #[.int .i64 n.ins, n.sv, n.av, n.ov] 28]) (fun j => [(0, .agg #[.int .i64 n.ins, n.sv, n.av, n.ov]), (1, .pointer (some ⟨b1, 0, none⟩)), (2, .bool false), (3, .int .i64 n.cnt), (14, .bool false), (16, n.sv), (17, .int .i64 (n.ss.length : Int)), (18, .int .i64 (k : Int)), (19, .bool false), (27, v6), (28, .int .i64 ((rtsL n n.ss.length).length : Int)), (29, .int .i64 (q : Int)), (30, .bool false), (41, n.av), (42, .int .i64 (n.gs.length : Int)), (43, .int .i64 (j : Int))]) (fun j => j ≤ n.gs.length) (fun j => n.gs.length - j) 0 (Nat.zero_le _) (sx 0 rfl (sx 1 rfl (sx 2 rfl (sx 3 rfl (sx 14 rfl (sx 16 rfl (sx 17 rfl (sx 18 rfl (sx 19 rfl (sx 27 rfl (sx 28 rfl (sx 29 rfl (sx 30 rfl (sx 41 rfl (sx 42 rfl (sx 43 rfl (sub_nil _))))))))))))))))) ((.cons_cons _ (.cons_cons _ .slnil))) ?_
   intro j hi12
   have hj := hi12
   refine hc_seq ?_
   refine hc_region ?_
   refine hl_lss rfl rfl rfl rfl rfl rfl (fun h13 => ?_) (fun h13 => ?_)
   ·
    refine hl_less (sx 0 rfl (sx 1 rfl (sx 2 rfl (sx 3 rfl (sx 14 rfl (sx 16 rfl (sx 17 rfl (sx 18 rfl (sx 19 rfl (sx 27 rfl (sx 28 rfl (sx 29 rfl (sx 30 rfl (sx 41 rfl (sx 42 rfl (sx 43 rfl (sx 44 rfl (sub_nil _)))))))))))))))))) (.refl _) ?_
    refine hl_nil ?_
    refine hq_then ?_
    refine hc_seq ?_
    refine hc_true rfl ?_
    refine hc_skip ?_
    refine hq_then ?_
    refine hc_seq ?_
    refine hc_block ?_
    refine hc_seq ?_
    refine hc_region ?_
    refine hl_v rfl rfl rfl (rv_ev rfl) ?_
    refine hl_v rfl rfl rfl (rv_index (s := 2) rfl Try.underlying25 (by kernel_rfl) rfl rfl (rd_old hr.an) (by omega) (by first | omega | (simp only [List.length_set]; omega))) ?_
    refine hl_v rfl rfl rfl (rv_loadElN (us := [.int .i64 ((n.gs.getD j an0).a), .int .i64 ((n.gs.getD j an0).b)]) rfl (by kernel_rfl) (by kernel_rfl) rfl (rd_old hr.an) (by omega) rfl (flat_atN anC 2 (fun _ => rfl) n.gs an0 (show j < _ by first | omega | (simp only [List.length_set]; omega)) rfl)) ?_
    refine hl_box rfl rfl rfl (rq_alloc (z := .agg #[.int .i64 0, .int .i64 0]) rfl (by kernel_rfl)) ?_
    intro b14
    refine hl_v rfl rfl rfl (rv_ev rfl) ?_
    refine hl_storeBoxN (i := 0) (off := 0) (us := [.int .i64 ((n.gs.getD j an0).a), .int .i64 ((n.gs.getD j an0).b)]) (l' := [boxE b14 #[.int .i64 ((n.gs.getD j an0).a), .int .i64 ((n.gs.getD j an0).b)] 80, rowE 3 1 v6 ((rtsL n n.ss.length).length) ((rtsL n n.ss.length).map (Value.int .i64)), boxE b1 #[.int .i64 n.ins, n.sv, n.av, n.ov] 28]) rfl rfl rfl (by kernel_rfl) rfl rfl rfl (all_cons rfl (all_cons rfl all_nil)) rfl rfl rfl ?_
    refine hl_less (sx 0 rfl (sx 1 rfl (sx 2 rfl (sx 3 rfl (sx 8 rfl (sx 9 rfl (sx 14 rfl (sx 16 rfl (sx 17 rfl (sx 18 rfl (sx 19 rfl (sx 27 rfl (sx 28 rfl (sx 29 rfl (sx 30 rfl (sx 41 rfl (sx 42 rfl (sx 43 rfl (sx 44 rfl (sub_nil _)))))))))))))))))))) (.refl _) ?_
    refine hl_nil ?_
    refine hq_then ?_
    refine hc_seq ?_
    refine hc_region ?_
    refine hl_v rfl rfl rfl (rv_loadN (cs := [.int .i64 n.ins, n.sv, n.av, n.ov]) rfl (by kernel_rfl) (by kernel_rfl) rfl rfl (box_part 2 rfl 0 rfl)) ?_
    refine hl_callV rfl rfl rfl (rq_call (by kernel_rfl) rfl (fun w hm => ret_ans (firstAnd_yes n w (hr.below hm.bel) hn))) ?_
    refine hl_v rfl rfl rfl (rv_ev rfl) ?_
    refine hl_v rfl rfl rfl (rv_add rfl rfl rfl (by constructor <;> omega)) ?_
    refine hl_v rfl rfl rfl (rv_mul rfl rfl rfl (by constructor <;> omega)) ?_
    refine hl_v rfl rfl rfl (rv_sub rfl rfl rfl (by constructor <;> omega)) ?_
    refine hl_v rfl rfl rfl (rv_ev rfl) ?_
    refine hl_less (sx 0 rfl (sx 1 rfl (sx 2 rfl (sx 3 rfl (sx 8 rfl (sx 9 rfl (sx 10 rfl (sx 14 rfl (sx 16 rfl (sx 17 rfl (sx 18 rfl (sx 19 rfl (sx 27 rfl (sx 28 rfl (sx 29 rfl (sx 30 rfl (sx 41 rfl (sx 42 rfl (sx 43 rfl (sx 44 rfl (sub_nil _))))))))))))))))))))) (.refl _) ?_
    refine hl_nil ?_
    refine hq_then ?_
    refine hc_seq ?_
    refine hc_region ?_
    have hlj := hn.an j (by omega)
    obtain ⟨⟨hlj1, hlj2⟩, hlj3, hlj4⟩ := hlj
    refine hl_v rfl rfl rfl (rv_field (k0 := 0) rfl (by kernel_rfl) rfl) ?_
    refine hl_v rfl rfl rfl (rv_load rfl (by kernel_rfl) rfl (box_cell 0 rfl rfl)) ?_
    refine hl_v rfl rfl rfl (rv_ev rfl) ?_
    refine hl_callV rfl rfl rfl (rq_call (by kernel_rfl) rfl (fun w hm => ret_ans (ans_of (inRange_any _ _ _ w)))) ?_
    refine hl_bool (fun h15 => ?_) (fun h15 => absurd ((((inR_iff _ _ _).2 (by omega))).symm.trans h15) (by decide))
    refine hl_v rfl rfl rfl (rv_ev rfl) ?_
    refine hl_v rfl rfl rfl (rv_ev rfl) ?_
    refine hl_v rfl rfl rfl (rv_field (k0 := 1) rfl (by kernel_rfl) rfl) ?_
    refine hl_v rfl rfl rfl (rv_load rfl (by kernel_rfl) rfl (box_cell 0 rfl rfl)) ?_
    refine hl_v rfl rfl rfl (rv_ev rfl) ?_
    refine hl_callV rfl rfl rfl (rq_call (by kernel_rfl) rfl (fun w hm => ret_ans (ans_of (inRange_any _ _ _ w)))) ?_
    refine hl_bool (fun h16 => ?_) (fun h16 => absurd ((((inR_iff _ _ _).2 (by omega))).symm.trans h16) (by decide))
    refine hl_v rfl rfl rfl (rv_ev rfl) ?_
    refine hl_v rfl rfl rfl (rv_ev rfl) ?_
    refine hl_less (sx 0 rfl (sx 1 rfl (sx 2 rfl (sx 3 rfl (sx 8 rfl (sx 9 rfl (sx 10 rfl (sx 14 rfl (sx 16 rfl (sx 17 rfl (sx 18 rfl (sx 19 rfl (sx 27 rfl (sx 28 rfl (sx 29 rfl (sx 30 rfl (sx 41 rfl (sx 42 rfl (sx 43 rfl (sx 44 rfl (sx 65 rfl (sub_nil _)))))))))))))))))))))) (.refl _) ?_
    refine hl_nil ?_
    refine hq_then ?_
    refine hc_false rfl ?_
    refine hc_skip ?_
    refine hq_block_normal ?_
    refine hq_then ?_
    refine hc_region ?_
    refine hl_v rfl rfl rfl (rv_add rfl rfl rfl (by constructor <;> omega)) ?_
    refine hl_v rfl rfl rfl (rv_ev rfl) ?_
    refine hl_less (sx 0 rfl (sx 1 rfl (sx 2 rfl (sx 3 rfl (sx 8 rfl (sx 9 rfl (sx 10 rfl (sx 14 rfl (sx 16 rfl (sx 17 rfl (sx 18 rfl (sx 19 rfl (sx 27 rfl (sx 28 rfl (sx 29 rfl (sx 30 rfl (sx 41 rfl (sx 42 rfl (sx 43 rfl (sx 44 rfl (sx 65 rfl (sub_nil _)))))))))))))))))))))) (.refl _) ?_
    refine hl_nil ?_
    exact hq_round1 (j + 1) (by omega) (by omega) (sx 0 rfl (sx 1 rfl (sx 2 rfl (sx 3 rfl (sx 14 rfl (sx 16 rfl (sx 17 rfl (sx 18 rfl (sx 19 rfl (sx 27 rfl (sx 28 rfl (sx 29 rfl (sx 30 rfl (sx 41 rfl (sx 42 rfl (sx 43 rfl (sub_nil _))))))))))))))))) ((.cons _ (.cons_cons _ (.cons_cons _ .slnil))))
   ·
    refine hl_less (sx 0 rfl (sx 1 rfl (sx 2 rfl (sx 3 rfl (sx 14 rfl (sx 16 rfl (sx 17 rfl (sx 18 rfl (sx 19 rfl (sx 27 rfl (sx 28 rfl (sx 29 rfl (sx 30 rfl (sx 41 rfl (sx 42 rfl (sx 43 rfl (sx 44 rfl (sub_nil _)))))))))))))))))) (.refl _) ?_
    refine hl_nil ?_
    refine hq_then ?_
    refine hc_seq ?_
    refine hc_false rfl ?_
    refine hc_exit ?_
    refine hq_then_exit ?_
    refine hq_then_exit ?_
    refine hq_block_exit ?_
    refine hq_then ?_
    refine hc_seq ?_
    refine hc_region ?_
    refine hl_v rfl rfl rfl (rv_ev rfl) ?_
    refine hl_less (sx 0 rfl (sx 1 rfl (sx 2 rfl (sx 3 rfl (sx 14 rfl (sx 16 rfl (sx 17 rfl (sx 18 rfl (sx 19 rfl (sx 27 rfl (sx 28 rfl (sx 29 rfl (sx 30 rfl (sx 41 rfl (sx 42 rfl (sx 43 rfl (sx 44 rfl (sub_nil _)))))))))))))))))) (.refl _) ?_
    refine hl_nil ?_
    refine hq_then ?_
    refine hc_ret ?_
    exact hq_ans rfl rfl rfl
theorem bitL_xor {xs : List Int} {l : Int} (h : xs.getD (l / 2).toNat 0 = 0 ∨ xs.getD (l / 2).toNat 0 = 1) : bits .xor .i64 (xs.getD (l / 2).toNat 0) (l % 2) = bitL xs l := by unfold bitL; exact xor01 h
set_option maxHeartbeats 4000000 in
set_option maxRecDepth 100000 in
theorem implitValue_ans (xs : List Int) (l : Int) (v : Value) (w : World) (hv : RdsW w v 1 xs.length (xs.map (Value.int .i64))) (hl : 0 ≤ l ∧ l < 2 * xs.length) (h01 : xs.getD (l / 2).toNat 0 = 0 ∨ xs.getD (l / 2).toNat 0 = 1) (hlen : xs.length ≤ 100000) :
  Calls Try.prog 71 #[v, .int .i64 l] w (Ans w (.int .i64 (bitL xs l))) := by
 refine calls_hc (N := 13) (args := [v, .int .i64 l]) Try.func71 rfl rfl ?_
 refine hc_less _ (sx 0 rfl (sx 1 rfl (sub_nil _))) (.refl _) ?_
 refine hc_seq ?_
 refine hc_region ?_
 refine hl_v rfl rfl rfl (rv_ev rfl) ?_
 refine hl_less (sx 0 rfl (sx 1 rfl (sx 4 rfl (sub_nil _)))) (.refl _) ?_
 refine hl_nil ?_
 refine hq_then ?_
 refine hc_seq ?_
 refine hc_region ?_
 refine hl_v rfl rfl rfl (rv_ev rfl) ?_
 refine hl_v rfl rfl rfl (rv_ev rfl) ?_
 refine hl_v rfl rfl rfl (rv_quo rfl rfl rfl (by refine ⟨?_, ?_, ?_⟩ <;> omega)) ?_
 refine hl_v rfl rfl rfl (rv_index (s := 1) rfl Try.underlying26 (by kernel_rfl) rfl rfl (rd_old hv) (by omega) (by first | omega | (simp only [List.length_set]; omega))) ?_
 refine hl_v rfl rfl rfl (rv_loadEl (u := .int .i64 (xs.getD ((l / 2).toNat) 0)) rfl (by kernel_rfl) rfl (rd_old hv) (ints_at1 (show _ < xs.length by first | omega | (simp only [List.length_set]; omega)))) ?_
 refine hl_v rfl rfl rfl (rv_ev rfl) ?_
 refine hl_v rfl rfl rfl (rv_bits rfl (by decide) rfl rfl (r := l % 2) (Bit.and_one _ (by omega) (by omega))) ?_
 refine hl_v rfl rfl rfl (rv_bits rfl (by decide) rfl rfl (r := bitL xs l) (bitL_xor h01)) ?_
 refine hl_v rfl rfl rfl (rv_ev rfl) ?_
 refine hl_less (sx 0 rfl (sx 1 rfl (sx 4 rfl (sub_nil _)))) (.refl _) ?_
 refine hl_nil ?_
 refine hq_then ?_
 refine hc_ret ?_
 exact hq_ans rfl rfl rfl
set_option maxHeartbeats 4000000 in
set_option maxRecDepth 100000 in
theorem impLitValue_ans (xs : List Int) (l : Int) (v : Value) (w : World) (hv : RdsW w v 1 xs.length (xs.map (Value.int .i64))) (hl : 0 ≤ l ∧ l < 2 * xs.length) (h01 : xs.getD (l / 2).toNat 0 = 0 ∨ xs.getD (l / 2).toNat 0 = 1) (hlen : xs.length ≤ 100000) :
  Calls Try.prog 18 #[v, .int .i64 l] w (Ans w (.int .i64 (bitL xs l))) := by
 refine calls_hc (N := 26) (args := [v, .int .i64 l]) Try.func18 rfl rfl ?_
 refine hc_less _ (sx 0 rfl (sx 1 rfl (sub_nil _))) (.refl _) ?_
 refine hc_seq ?_
 refine hc_region ?_
 refine hl_v rfl rfl rfl (rv_ev rfl) ?_
 refine hl_less (sx 0 rfl (sx 1 rfl (sx 4 rfl (sub_nil _)))) (.refl _) ?_
 refine hl_nil ?_
 refine hq_then ?_
 refine hc_seq ?_
 refine hc_seq ?_
 refine hc_region ?_
 refine hl_v rfl rfl rfl (rv_ev rfl) ?_
 refine hl_lss rfl rfl rfl rfl rfl rfl (fun h1 => absurd h1 (by omega)) (fun h1 => ?_)
 refine hl_v rfl rfl rfl (rv_ev rfl) ?_
 refine hl_v rfl rfl rfl (rv_ev rfl) ?_
 refine hl_v rfl rfl rfl (rv_quo rfl rfl rfl (by refine ⟨?_, ?_, ?_⟩ <;> omega)) ?_
 refine hl_v rfl rfl rfl (rv_ev rfl) ?_
 refine hl_v rfl rfl rfl (rv_len rfl Try.underlying26 rfl (rd_old hv)) ?_
 refine hl_geq rfl rfl rfl rfl rfl rfl (fun h2 => absurd h2 (by omega)) (fun h2 => ?_)
 refine hl_v rfl rfl rfl (rv_ev rfl) ?_
 refine hl_v rfl rfl rfl (rv_ev rfl) ?_
 refine hl_v rfl rfl rfl (rv_ev rfl) ?_
 refine hl_v rfl rfl rfl (rv_ev rfl) ?_
 refine hl_v rfl rfl rfl (rv_quo rfl rfl rfl (by refine ⟨?_, ?_, ?_⟩ <;> omega)) ?_
 refine hl_v rfl rfl rfl (rv_index (s := 1) rfl Try.underlying26 (by kernel_rfl) rfl rfl (rd_old hv) (by omega) (by first | omega | (simp only [List.length_set]; omega))) ?_
 refine hl_v rfl rfl rfl (rv_loadEl (u := .int .i64 (xs.getD ((l / 2).toNat) 0)) rfl (by kernel_rfl) rfl (rd_old hv) (ints_at1 (show _ < xs.length by first | omega | (simp only [List.length_set]; omega)))) ?_
 refine hl_callV rfl rfl rfl (rq_call (by kernel_rfl) rfl (fun w hm => ret_ans (ans_of (inRange_any _ _ _ w)))) ?_
 refine hl_bool (fun h3 => ?_) (fun h3 => absurd ((((inR_iff _ _ _).2 (by omega))).symm.trans h3) (by decide))
 refine hl_v rfl rfl rfl (rv_ev rfl) ?_
 refine hl_v rfl rfl rfl (rv_ev rfl) ?_
 refine hl_less (sx 0 rfl (sx 1 rfl (sx 4 rfl (sx 22 rfl (sub_nil _))))) (.refl _) ?_
 refine hl_nil ?_
 refine hq_then ?_
 refine hc_false rfl ?_
 refine hc_skip ?_
 refine hq_then ?_
 refine hc_seq ?_
 refine hc_region ?_
 refine hl_v rfl rfl rfl (rv_ev rfl) ?_
 refine hl_v rfl rfl rfl (rv_ev rfl) ?_
 refine hl_callV rfl rfl rfl (rq_call (by kernel_rfl) rfl (fun w hm => ret_ans (implitValue_ans xs l _ w (hv.below hm.bel) hl h01 hlen))) ?_
 refine hl_v rfl rfl rfl (rv_ev rfl) ?_
 refine hl_less (sx 0 rfl (sx 1 rfl (sx 4 rfl (sx 22 rfl (sub_nil _))))) (.refl _) ?_
 refine hl_nil ?_
 refine hq_then ?_
 refine hc_ret ?_
 exact hq_ans rfl rfl rfl
set_option maxHeartbeats 4000000 in
set_option maxRecDepth 100000 in
theorem l08Net_mut (g : Nat) (a : Option Addr) (len cap : Nat) (z : List Int) (w0 : World) (l : List HP) (w : World) (hm0 : Mem w0 (curE g a len cap :: l) w) (hb : BRow .u8 w0 a len cap z) :
  Calls Try.prog 61 #[.pointer (some ⟨g, 0, none⟩)] w (fun e_ w_ => ∃ v_ p_, e_ = .returned v_ ∧ (fun u_ p_ => ∃ n : Nt, u_ = n.agg ∧ p_ = bigE [curE g a len cap, ntE n] ∧ (n.sv.oneCell' = true ∧ n.av.oneCell' = true ∧ n.ov.oneCell' = true) ∧ NtOk n ∧ n.ins ≤ 4 ∧ (n.ss.length : Int) ≤ 3 ∧ (n.gs.length : Int) ≤ 14) v_ p_ ∧ Mem w0 (p_ :: l) w_) := by
 refine calls_hcM (N := 5) (args := [.pointer (some ⟨g, 0, none⟩)]) Try.func61 rfl rfl hm0 ?_
 refine hc_less _ (sx 0 rfl (sub_nil _)) (.refl _) ?_
 refine hc_seq ?_
 refine hc_region ?_
 refine hl_box rfl rfl rfl (rq_alloc (z := .agg #[.int .i64 0, .slice none 0 0, .slice none 0 0, .slice none 0 0]) rfl (by kernel_rfl)) ?_
 intro b1
 refine hl_less (sx 0 rfl (sx 2 rfl (sub_nil _))) (.refl _) ?_
 refine hl_nil ?_
 refine hq_then ?_
 refine hc_seq ?_
 refine hc_region ?_
 refine hl_v rfl rfl rfl (rv_ev rfl) ?_
 refine hl_callM (R := (fun u_ p_ => ∃ n : Nt, u_ = n.agg ∧ p_ = bigE [curE g a len cap, ntE n] ∧ (n.sv.oneCell' = true ∧ n.av.oneCell' = true ∧ n.ov.oneCell' = true) ∧ NtOk n ∧ n.ins ≤ 4 ∧ (n.ss.length : Int) ≤ 3 ∧ (n.gs.length : Int) ≤ 14)) 1 rfl rfl (by kernel_rfl) rfl rfl (fun l' w hm => l08Sized_mut g a len cap z 4 3 14 _ _ _ hm hb (by decide) (by decide) (by decide)) ?_
 intro v2 p3 hR4
 obtain ⟨n, rfl, rfl, ⟨o1n, o2n, o3n⟩, hn, hnq1, hnq2, hnq3⟩ := hR4
 refine hl_eqL (l' := (boxE b1 #[.int .i64 0, .slice none 0 0, .slice none 0 0, .slice none 0 0] 28 :: bigE [curE g a len cap, ntE n] :: l)) rfl ?_
 refine hl_storeBoxN (i := 0) (off := 0) (us := [.int .i64 n.ins, n.sv, n.av, n.ov]) (l' := (boxE b1 #[.int .i64 n.ins, n.sv, n.av, n.ov] 28 :: bigE [curE g a len cap, ntE n] :: l)) rfl rfl rfl (by kernel_rfl) rfl rfl rfl (all_cons rfl (all_cons o1n (all_cons o2n (all_cons o3n all_nil)))) rfl rfl rfl ?_
 refine hl_less (sx 0 rfl (sx 2 rfl (sub_nil _))) (.refl _) ?_
 refine hl_nil ?_
 refine hq_then ?_
 refine hc_ret ?_
 exact hq_ret (rs := [.cell 2 28]) (vs := [.agg #[.int .i64 n.ins, n.sv, n.av, n.ov]]) rfl ⟨⟨b1, 0, [.int .i64 n.ins, n.sv, n.av, n.ov], rfl, rfl, by kernel_rfl, by kernel_rfl, box_part 0 rfl 0 rfl⟩, trivial⟩ rfl (fun w hm => ⟨_, bigE [curE g a len cap, ntE n], rfl, ⟨n, rfl, rfl, ⟨o1n, o2n, o3n⟩, hn, hnq1, hnq2, hnq3⟩, hm.sub ((.cons _ (.cons_cons _ (.refl _))))⟩)
set_option maxHeartbeats 4000000 in
set_option maxRecDepth 100000 in
theorem DrawNet_ret (a : Option Addr) (len cap : Nat) (z : List Int) (w : World) (hb : BRow .u8 w a len cap z) (hlen : len ≤ 1048576) :
  Calls Try.prog 19 #[.slice a len cap] w (Ret w (fun v' post => ∃ n : Nt, v' = n.agg ∧ post = [ntE n] ∧ (n.sv.oneCell' = true ∧ n.av.oneCell' = true ∧ n.ov.oneCell' = true) ∧ NtOk n ∧ n.ins ≤ 4 ∧ (n.ss.length : Int) ≤ 3 ∧ (n.gs.length : Int) ≤ 14)) := by
 refine calls_hc (N := 6) (args := [.slice a len cap]) Try.func19 rfl rfl ?_
 refine hc_less _ (sx 0 rfl (sub_nil _)) (.refl _) ?_
 refine hc_seq ?_
 refine hc_region ?_
 refine hl_box rfl rfl rfl (rq_alloc (z := .agg #[.int .i64 0, .slice none 0 0, .slice none 0 0, .slice none 0 0]) rfl (by kernel_rfl)) ?_
 intro b1
 refine hl_less (sx 0 rfl (sx 2 rfl (sub_nil _))) (.refl _) ?_
 refine hl_nil ?_
 refine hq_then ?_
 refine hc_seq ?_
 refine hc_region ?_
 refine hl_v rfl rfl rfl (rv_ev rfl) ?_
 refine hl_q rfl rfl rfl (rq_call (by kernel_rfl) rfl (fun w hm => new_ret (hb.below hm.bel) hlen)) ?_
 intro v2 p3 hR4
 obtain ⟨ghR4, rfl, rfl⟩ := hR4
 refine hl_callM (R := (fun u_ p_ => ∃ n : Nt, u_ = n.agg ∧ p_ = bigE [curE ghR4 a len cap, ntE n] ∧ (n.sv.oneCell' = true ∧ n.av.oneCell' = true ∧ n.ov.oneCell' = true) ∧ NtOk n ∧ n.ins ≤ 4 ∧ (n.ss.length : Int) ≤ 3 ∧ (n.gs.length : Int) ≤ 14)) 0 rfl rfl (by kernel_rfl) rfl rfl (fun l' w hm => l08Net_mut ghR4 a len cap z _ _ _ hm hb) ?_
 intro v5 p6 hR7
 obtain ⟨n, rfl, rfl, ⟨o1n, o2n, o3n⟩, hn, hnq1, hnq2, hnq3⟩ := hR7
 refine hl_eqL (l' := [bigE [curE ghR4 a len cap, ntE n], boxE b1 #[.int .i64 0, .slice none 0 0, .slice none 0 0, .slice none 0 0] 28]) rfl ?_
 refine hl_storeBoxN (i := 1) (off := 0) (us := [.int .i64 n.ins, n.sv, n.av, n.ov]) (l' := [bigE [curE ghR4 a len cap, ntE n], boxE b1 #[.int .i64 n.ins, n.sv, n.av, n.ov] 28]) rfl rfl rfl (by kernel_rfl) rfl rfl rfl (all_cons rfl (all_cons o1n (all_cons o2n (all_cons o3n all_nil)))) rfl rfl rfl ?_
 refine hl_less (sx 0 rfl (sx 2 rfl (sub_nil _))) (.refl _) ?_
 refine hl_nil ?_
 refine hq_then ?_
 refine hc_ret ?_
 refine hq_conv [bigE [curE ghR4 a len cap, ntE n], boxE b1 #[.int .i64 n.ins, n.sv, n.av, n.ov] 28] (conv_pick (src := [bigE [curE ghR4 a len cap, ntE n], boxE b1 #[.int .i64 n.ins, n.sv, n.av, n.ov] 28]) (dst := [bigE [curE ghR4 a len cap, ntE n], boxE b1 #[.int .i64 n.ins, n.sv, n.av, n.ov] 28]) (l := []) [0, 1] (by decide) rfl) ?_
 refine hq_conv [curE ghR4 a len cap, ntE n, boxE b1 #[.int .i64 n.ins, n.sv, n.av, n.ov] 28] conv_unbig ?_
 exact hq_retM (rs := [.cell 2 28]) (vs := [.agg #[.int .i64 n.ins, n.sv, n.av, n.ov]]) (post := [ntE n]) rfl ⟨⟨b1, 0, [.int .i64 n.ins, n.sv, n.av, n.ov], rfl, rfl, by kernel_rfl, by kernel_rfl, box_part 2 rfl 0 rfl⟩, trivial⟩ rfl ((.cons _ (.cons_cons _ (.cons _ .slnil)))) ⟨n, rfl, rfl, ⟨o1n, o2n, o3n⟩, hn, hnq1, hnq2, hnq3⟩
set_option maxHeartbeats 4000000 in
set_option maxRecDepth 100000 in
theorem seqMost_ans (kd : Int) (w : World) (h : kd = 0 ∨ kd = 1) :
  Calls Try.prog 128 #[.int .i64 kd] w (Ans w (.int .i64 (if kd = 0 then 1 else 31))) := by
 refine calls_hc (N := 8) (args := [.int .i64 kd]) Try.func128 rfl rfl ?_
 refine hc_less _ (sx 0 rfl (sub_nil _)) (.refl _) ?_
 refine hc_seq ?_
 refine hc_region ?_
 refine hl_v rfl rfl rfl (rv_ev rfl) ?_
 refine hl_less (sx 0 rfl (sx 2 rfl (sub_nil _))) (.refl _) ?_
 refine hl_nil ?_
 refine hq_then ?_
 refine hc_seq ?_
 refine hc_seq ?_
 refine hc_region ?_
 refine hl_v rfl rfl rfl (rv_ev rfl) ?_
 refine hl_less (sx 0 rfl (sx 2 rfl (sx 3 rfl (sub_nil _)))) (.refl _) ?_
 refine hl_nil ?_
 refine hq_then ?_
 refine hc_block ?_
 refine hc_seq ?_
 refine hc_region ?_
 refine hl_eql rfl rfl rfl rfl rfl rfl (fun h1 => ?_) (fun h1 => ?_)
 ·
  refine hl_v rfl rfl rfl (rv_ev rfl) ?_
  refine hl_less (sx 0 rfl (sx 2 rfl (sx 3 rfl (sx 4 rfl (sub_nil _))))) (.refl _) ?_
  refine hl_nil ?_
  refine hq_then ?_
  refine hc_true rfl ?_
  refine hc_seq ?_
  refine hc_region ?_
  refine hl_v rfl rfl rfl (rv_ev rfl) ?_
  refine hl_less (sx 0 rfl (sx 2 rfl (sx 3 rfl (sx 4 rfl (sub_nil _))))) (.refl _) ?_
  refine hl_nil ?_
  refine hq_then ?_
  refine hc_ret ?_
  refine hq_block_ret ?_
  refine hq_then_ret ?_
  exact hq_ans rfl rfl (by rw [if_pos (by omega)])
 ·
  refine hl_v rfl rfl rfl (rv_ev rfl) ?_
  refine hl_less (sx 0 rfl (sx 2 rfl (sx 3 rfl (sx 4 rfl (sub_nil _))))) (.refl _) ?_
  refine hl_nil ?_
  refine hq_then ?_
  refine hc_false rfl ?_
  refine hc_seq ?_
  refine hc_region ?_
  refine hl_eql rfl rfl rfl rfl rfl rfl (fun h2 => ?_) (fun h2 => ?_)
  ·
   refine hl_v rfl rfl rfl (rv_ev rfl) ?_
   refine hl_less (sx 0 rfl (sx 2 rfl (sx 3 rfl (sx 4 rfl (sx 6 rfl (sub_nil _)))))) (.refl _) ?_
   refine hl_nil ?_
   refine hq_then ?_
   refine hc_true rfl ?_
   refine hc_seq ?_
   refine hc_region ?_
   refine hl_v rfl rfl rfl (rv_ev rfl) ?_
   refine hl_less (sx 0 rfl (sx 2 rfl (sx 3 rfl (sx 4 rfl (sx 6 rfl (sub_nil _)))))) (.refl _) ?_
   refine hl_nil ?_
   refine hq_then ?_
   refine hc_ret ?_
   refine hq_block_ret ?_
   refine hq_then_ret ?_
   exact hq_ans rfl rfl (by rw [if_neg (by omega)])
  ·
   refine hl_v rfl rfl rfl (rv_ev rfl) ?_
   refine hl_less (sx 0 rfl (sx 2 rfl (sx 3 rfl (sx 4 rfl (sx 6 rfl (sub_nil _)))))) (.refl _) ?_
   refine hl_nil ?_
   refine hq_then ?_
   refine hc_false rfl ?_
   refine hc_skip ?_
   refine hq_block_normal ?_
   refine hq_then ?_
   refine hc_seq ?_
   refine hc_region ?_
   refine hl_v rfl rfl rfl (rv_ev rfl) ?_
   refine hl_less (sx 0 rfl (sx 2 rfl (sx 3 rfl (sx 4 rfl (sx 6 rfl (sub_nil _)))))) (.refl _) ?_
   refine hl_nil ?_
   refine hq_then ?_
   refine hc_ret ?_
   exfalso
   omega
set_option maxHeartbeats 4000000 in
set_option maxRecDepth 100000 in
theorem implStateOk_yes (n : Nt) (st : List Int) (v : Value) (w : World) (hr : RdsNt w n) (hn : NtOk n) (hst : RdsW w v 1 st.length (st.map (Value.int .i64))) (hso : StOk n st) :
  Calls Try.prog 81 #[.agg #[.int .i64 n.ins, n.sv, n.av, n.ov], v] w (Ans w (.bool true)) := by
 have hi0 := hn.i0
 have hi1 := hn.i1
 have hs1 := hn.s1
 have ha1 := hn.a1
 have ho1 := hn.o1
 have hcnt : n.cnt = 1 + n.ins + n.ss.length + n.gs.length := rfl
 have hfst : n.fst = 1 + n.ins + n.ss.length := rfl
 have hsl := hso.len
 refine calls_hc (N := 36) (args := [.agg #[.int .i64 n.ins, n.sv, n.av, n.ov], v]) Try.func81 rfl rfl ?_
 refine hc_less _ (sx 0 rfl (sx 1 rfl (sub_nil _))) (.refl _) ?_
 refine hc_seq ?_
 refine hc_region ?_
 refine hl_box rfl rfl rfl (rq_box rfl rfl) ?_
 intro b1
 refine hl_v rfl rfl rfl (rv_ev rfl) ?_
 refine hl_less (sx 0 rfl (sx 1 rfl (sx 2 rfl (sx 4 rfl (sub_nil _))))) (.refl _) ?_
 refine hl_nil ?_
 refine hq_then ?_
 refine hc_seq ?_
 refine hc_seq ?_
 refine hc_region ?_
 refine hl_v rfl rfl rfl (rv_loadN (cs := [.int .i64 n.ins, n.sv, n.av, n.ov]) rfl (by kernel_rfl) (by kernel_rfl) rfl rfl (box_part 0 rfl 0 rfl)) ?_
 refine hl_callV rfl rfl rfl (rq_call (by kernel_rfl) rfl (fun w hm => ret_ans (implNetOk_yes n w (hr.below hm.bel) hn))) ?_
 refine hl_v rfl rfl rfl (rv_ev rfl) ?_
 refine hl_v rfl rfl rfl (rv_ev rfl) ?_
 refine hl_v rfl rfl rfl (rv_ev rfl) ?_
 refine hl_v rfl rfl rfl (rv_len rfl Try.underlying26 rfl (rd_old hst)) ?_
 refine hl_v rfl rfl rfl (rv_field (k0 := 1) rfl (by kernel_rfl) rfl) ?_
 refine hl_v rfl rfl rfl (rv_load rfl (by kernel_rfl) rfl (box_cell 0 rfl rfl)) ?_
 refine hl_v rfl rfl rfl (rv_len rfl Try.underlying24 rfl (rd_old hr.sq)) ?_
 refine hl_neq rfl rfl rfl rfl rfl rfl (fun h2 => absurd h2 (by omega)) (fun h2 => ?_)
 refine hl_v rfl rfl rfl (rv_ev rfl) ?_
 refine hl_less (sx 0 rfl (sx 1 rfl (sx 2 rfl (sx 4 rfl (sx 17 rfl (sub_nil _)))))) (.refl _) ?_
 refine hl_nil ?_
 refine hq_then ?_
 refine hc_false rfl ?_
 refine hc_skip ?_
 refine hq_then ?_
 refine hc_seq ?_
 refine hc_seq ?_
 refine hc_region ?_
 refine hl_v rfl rfl rfl (rv_ev rfl) ?_
 refine hl_v rfl rfl rfl (rv_len rfl Try.underlying26 rfl (rd_old hst)) ?_
 refine hl_v rfl rfl rfl (rv_ev rfl) ?_
 refine hl_less (sx 0 rfl (sx 1 rfl (sx 2 rfl (sx 4 rfl (sx 17 rfl (sx 18 rfl (sx 19 rfl (sx 20 rfl (sub_nil _))))))))) (.refl _) ?_
 refine hl_nil ?_
 refine hq_then ?_
 refine hc_block ?_
 refine hc_loop1 (α := Nat) (fun k => [boxE b1 #[.int .i64 n.ins, n.sv, n.av, n.ov] 28]) (fun k => [(0, .agg #[.int .i64 n.ins, n.sv, n.av, n.ov]), (1, v), (2, .pointer (some ⟨b1, 0, none⟩)), (4, .bool false), (17, .bool false), (18, v), (19, .int .i64 (st.length : Int)), (20, .int .i64 (k : Int))]) (fun k => k ≤ st.length) (fun k => st.length - k) 0 (Nat.zero_le _) (sx 0 rfl (sx 1 rfl (sx 2 rfl (sx 4 rfl (sx 17 rfl (sx 18 rfl (sx 19 rfl (sx 20 rfl (sub_nil _))))))))) ((.cons_cons _ .slnil)) ?_
 intro k hi3
 have hk := hi3
 refine hc_seq ?_
 refine hc_region ?_
 refine hl_lss rfl rfl rfl rfl rfl rfl (fun h4 => ?_) (fun h4 => ?_)
 ·
  refine hl_less (sx 0 rfl (sx 1 rfl (sx 2 rfl (sx 4 rfl (sx 17 rfl (sx 18 rfl (sx 19 rfl (sx 20 rfl (sx 21 rfl (sub_nil _)))))))))) (.refl _) ?_
  refine hl_nil ?_
  refine hq_then ?_
  refine hc_seq ?_
  refine hc_true rfl ?_
  refine hc_skip ?_
  refine hq_then ?_
  refine hc_seq ?_
  refine hc_block ?_
  refine hc_seq ?_
  refine hc_region ?_
  refine hl_v rfl rfl rfl (rv_ev rfl) ?_
  refine hl_v rfl rfl rfl (rv_index (s := 1) rfl Try.underlying26 (by kernel_rfl) rfl rfl (rd_old hst) (by omega) (by first | omega | (simp only [List.length_set]; omega))) ?_
  refine hl_v rfl rfl rfl (rv_loadEl (u := .int .i64 (st.getD k 0)) rfl (by kernel_rfl) rfl (rd_old hst) (ints_at1 (show _ < st.length by first | omega | (simp only [List.length_set]; omega)))) ?_
  refine hl_v rfl rfl rfl (rv_ev rfl) ?_
  refine hl_v rfl rfl rfl (rv_ev rfl) ?_
  refine hl_less (sx 0 rfl (sx 1 rfl (sx 2 rfl (sx 4 rfl (sx 5 rfl (sx 6 rfl (sx 17 rfl (sx 18 rfl (sx 19 rfl (sx 20 rfl (sx 21 rfl (sub_nil _)))))))))))) (.refl _) ?_
  refine hl_nil ?_
  refine hq_then ?_
  refine hc_seq ?_
  refine hc_region ?_
  have hqk := (hn.sq _ (getD_memX (d := sq0) (show k < n.ss.length by omega))).kind
  have hsk := hso.rng k (by omega)
  refine hl_v rfl rfl rfl (rv_ev rfl) ?_
  refine hl_v rfl rfl rfl (rv_field (k0 := 1) rfl (by kernel_rfl) rfl) ?_
  refine hl_v rfl rfl rfl (rv_load rfl (by kernel_rfl) rfl (box_cell 0 rfl rfl)) ?_
  refine hl_v rfl rfl rfl (rv_ev rfl) ?_
  refine hl_v rfl rfl rfl (rv_index (s := 3) rfl Try.underlying24 (by kernel_rfl) rfl rfl (rd_old hr.sq) (by omega) (by first | omega | (simp only [List.length_set]; omega))) ?_
  refine hl_v rfl rfl rfl (rv_fieldEl (k0 := 0) rfl (by kernel_rfl) rfl (rd_old hr.sq) (by first | omega | (simp only [List.length_set]; omega))) ?_
  refine hl_v rfl rfl rfl (rv_loadEl (u := .int .i64 ((n.ss.getD k sq0).kd)) rfl (by kernel_rfl) rfl (rd_old hr.sq) ((flat_at sqC 3 (fun _ => rfl) n.ss sq0 (show k < _ by first | omega | (simp only [List.length_set]; omega)) (by decide)).trans rfl)) ?_
  refine hl_callV rfl rfl rfl (rq_call (by kernel_rfl) rfl (fun w hm => ret_ans (seqMost_ans ((n.ss.getD k sq0).kd) w (by omega)))) ?_
  refine hl_callV rfl rfl rfl (rq_call (by kernel_rfl) rfl (fun w hm => ret_ans (ans_of (inRange_any _ _ _ w)))) ?_
  refine hl_bool (fun h5 => ?_) (fun h5 => absurd ((((inR_iff _ _ _).2 ⟨by omega, by split <;> omega⟩)).symm.trans h5) (by decide))
  refine hl_v rfl rfl rfl (rv_ev rfl) ?_
  refine hl_less (sx 0 rfl (sx 1 rfl (sx 2 rfl (sx 4 rfl (sx 5 rfl (sx 6 rfl (sx 17 rfl (sx 18 rfl (sx 19 rfl (sx 20 rfl (sx 21 rfl (sx 34 rfl (sub_nil _))))))))))))) (.refl _) ?_
  refine hl_nil ?_
  refine hq_then ?_
  refine hc_false rfl ?_
  refine hc_skip ?_
  refine hq_block_normal ?_
  refine hq_then ?_
  refine hc_region ?_
  refine hl_v rfl rfl rfl (rv_add rfl rfl rfl (by constructor <;> omega)) ?_
  refine hl_v rfl rfl rfl (rv_ev rfl) ?_
  refine hl_less (sx 0 rfl (sx 1 rfl (sx 2 rfl (sx 4 rfl (sx 5 rfl (sx 6 rfl (sx 17 rfl (sx 18 rfl (sx 19 rfl (sx 20 rfl (sx 21 rfl (sx 34 rfl (sub_nil _))))))))))))) (.refl _) ?_
  refine hl_nil ?_
  exact hq_round1 (k + 1) (by omega) (by omega) (sx 0 rfl (sx 1 rfl (sx 2 rfl (sx 4 rfl (sx 17 rfl (sx 18 rfl (sx 19 rfl (sx 20 rfl (sub_nil _))))))))) ((.cons_cons _ .slnil))
 ·
  refine hl_less (sx 0 rfl (sx 1 rfl (sx 2 rfl (sx 4 rfl (sx 17 rfl (sx 18 rfl (sx 19 rfl (sx 20 rfl (sx 21 rfl (sub_nil _)))))))))) (.refl _) ?_
  refine hl_nil ?_
  refine hq_then ?_
  refine hc_seq ?_
  refine hc_false rfl ?_
  refine hc_exit ?_
  refine hq_then_exit ?_
  refine hq_then_exit ?_
  refine hq_block_exit ?_
  refine hq_then ?_
  refine hc_seq ?_
  refine hc_region ?_
  refine hl_v rfl rfl rfl (rv_ev rfl) ?_
  refine hl_less (sx 0 rfl (sx 1 rfl (sx 2 rfl (sx 4 rfl (sx 17 rfl (sx 18 rfl (sx 19 rfl (sx 20 rfl (sx 21 rfl (sub_nil _)))))))))) (.refl _) ?_
  refine hl_nil ?_
  refine hq_then ?_
  refine hc_ret ?_
  exact hq_ans rfl rfl rfl
set_option maxHeartbeats 4000000 in
set_option maxRecDepth 100000 in
theorem implnodeValues_ret (n : Nt) (st : List Int) (v : Value) (inp : Int) (w : World) (hr : RdsNt w n) (hn : NtOk n) (hst : RdsW w v 1 st.length (st.map (Value.int .i64))) (hso : StOk n st) (hin : 0 ≤ inp ∧ inp ≤ 4294967295) :
  Calls Try.prog 82 #[.agg #[.int .i64 n.ins, n.sv, n.av, n.ov], v, .int .i64 inp] w (Ret w (fun v' post => post = [rowE 3 1 v' (valsL n st inp).length ((valsL n st inp).map (Value.int .i64))])) := by
 have hi0 := hn.i0
 have hi1 := hn.i1
 have hs1 := hn.s1
 have ha1 := hn.a1
 have ho1 := hn.o1
 have hcnt : n.cnt = 1 + n.ins + n.ss.length + n.gs.length := rfl
 have hfst : n.fst = 1 + n.ins + n.ss.length := rfl
 have hsl := hso.len
 refine calls_hc (N := 72) (args := [.agg #[.int .i64 n.ins, n.sv, n.av, n.ov], v, .int .i64 inp]) Try.func82 rfl rfl ?_
 refine hc_less _ (sx 0 rfl (sx 1 rfl (sx 2 rfl (sub_nil _)))) (.refl _) ?_
 refine hc_seq ?_
 refine hc_region ?_
 refine hl_box rfl rfl rfl (rq_box rfl rfl) ?_
 intro b1
 refine hl_v rfl rfl rfl (rv_ev rfl) ?_
 refine hl_less (sx 0 rfl (sx 1 rfl (sx 2 rfl (sx 3 rfl (sx 6 rfl (sub_nil _)))))) (.refl _) ?_
 refine hl_nil ?_
 refine hq_then ?_
 refine hc_seq ?_
 refine hc_region ?_
 refine hl_v rfl rfl rfl (rv_loadN (cs := [.int .i64 n.ins, n.sv, n.av, n.ov]) rfl (by kernel_rfl) (by kernel_rfl) rfl rfl (box_part 0 rfl 0 rfl)) ?_
 refine hl_callV rfl rfl rfl (rq_call (by kernel_rfl) rfl (fun w hm => ret_ans (implnodeCount_yes n w (hr.below hm.bel) hn))) ?_
 refine hl_row rfl rfl rfl (rq_make (z := .int .i64 0) (s := 1) (bytes := 8) (n := (List.replicate (n.cnt).toNat (0 : Int)).length) (cs := ((List.replicate (n.cnt).toNat (0 : Int)).map (Value.int .i64))) rfl Try.underlying26 (by kernel_rfl) (by decide) rfl rfl (by first | (rw [List.length_replicate]; done) | (rw [List.length_replicate]; omega)) (by first | (rw [List.length_replicate]; done) | (rw [List.length_replicate]; omega)) (by rw [List.length_replicate]; omega) (ints_make _)) ?_
 intro g2
 refine hl_v rfl rfl rfl (rv_ev rfl) ?_
 refine hl_less (sx 0 rfl (sx 1 rfl (sx 2 rfl (sx 3 rfl (sx 6 rfl (sx 7 rfl (sub_nil _))))))) (.refl _) ?_
 refine hl_nil ?_
 refine hq_then ?_
 refine hc_seq ?_
 refine hc_seq ?_
 refine hc_region ?_
 refine hl_v rfl rfl rfl (rv_ev rfl) ?_
 refine hl_less (sx 0 rfl (sx 1 rfl (sx 2 rfl (sx 3 rfl (sx 6 rfl (sx 7 rfl (sx 8 rfl (sub_nil _)))))))) (.refl _) ?_
 refine hl_nil ?_
 refine hq_then ?_
 refine hc_block ?_
 refine hc_loop2 (α := Nat) (β := List Int) (fun k zs => [rowE 3 1 (.slice (some ⟨g2, 0, none⟩) ((List.replicate (n.cnt).toNat (0 : Int)).length) ((List.replicate (n.cnt).toNat (0 : Int)).length)) zs.length (zs.map (Value.int .i64)), boxE b1 #[.int .i64 n.ins, n.sv, n.av, n.ov] 28]) (fun k zs => [(0, .agg #[.int .i64 n.ins, n.sv, n.av, n.ov]), (1, v), (2, .int .i64 inp), (3, .pointer (some ⟨b1, 0, none⟩)), (6, .slice none 0 0), (7, .slice (some ⟨g2, 0, none⟩) ((List.replicate (n.cnt).toNat (0 : Int)).length) ((List.replicate (n.cnt).toNat (0 : Int)).length)), (8, .int .i64 (k : Int))]) (fun k zs => (k : Int) ≤ n.ins ∧ zs = fillZ n.cnt.toNat (preA n inp k)) (fun k zs => (n.ins).toNat - k) 0 (List.replicate n.cnt.toNat (0 : Int)) ⟨by omega, fill_one (by omega)⟩ (sx 0 rfl (sx 1 rfl (sx 2 rfl (sx 3 rfl (sx 6 rfl (sx 7 rfl (sx 8 rfl (sub_nil _)))))))) ((.cons_cons _ (.cons_cons _ .slnil))) ?_
 intro k zs hi3
 obtain ⟨hk, hz⟩ := hi3
 have hzl : zs.length = n.cnt.toNat := by rw [hz]; exact fill_len (by rw [preA_len]; omega)
 refine hc_seq ?_
 refine hc_seq ?_
 refine hc_region ?_
 refine hl_v rfl rfl rfl (rv_ev rfl) ?_
 refine hl_v rfl rfl rfl (rv_field (k0 := 0) rfl (by kernel_rfl) rfl) ?_
 refine hl_v rfl rfl rfl (rv_load rfl (by kernel_rfl) rfl (box_cell 1 rfl rfl)) ?_
 refine hl_lss rfl rfl rfl rfl rfl rfl (fun h4 => ?_) (fun h4 => ?_)
 ·
  refine hl_less (sx 0 rfl (sx 1 rfl (sx 2 rfl (sx 3 rfl (sx 6 rfl (sx 7 rfl (sx 8 rfl (sx 19 rfl (sub_nil _))))))))) (.refl _) ?_
  refine hl_nil ?_
  refine hq_then ?_
  refine hc_true rfl ?_
  refine hc_skip ?_
  refine hq_then ?_
  refine hc_seq ?_
  refine hc_block ?_
  refine hc_region ?_
  refine hl_v rfl rfl rfl (rv_ev rfl) ?_
  refine hl_v rfl rfl rfl (rv_ev rfl) ?_
  refine hl_v rfl rfl rfl (rv_add rfl rfl rfl (by constructor <;> omega)) ?_
  refine hl_v rfl rfl rfl (rv_ev rfl) ?_
  refine hl_v rfl rfl rfl (rv_ev rfl) ?_
  refine hl_v rfl rfl rfl (rv_conv rfl Try.underlying3 Try.underlying98 rfl (IntWalk.u64_in _ (by omega))) ?_
  refine hl_v rfl rfl rfl (rv_shr rfl rfl rfl (by omega)) ?_
  refine hl_v rfl rfl rfl (rv_bits rfl (by decide) rfl rfl (r := inp / 2 ^ k % 2) (by rw [show (inp / 2 ^ ((k : Int)).toNat : Int) = inp / 2 ^ k by rw [Int.toNat_natCast]]; exact Bit.and_one _ (shr_rng hin k).1 (shr_rng hin k).2)) ?_
  refine hl_v rfl rfl rfl (rv_index (s := 1) rfl Try.underlying26 (by kernel_rfl) rfl rfl (rd_row 0 rfl) (by omega) (by first | omega | (simp only [List.length_set]; omega))) ?_
  refine hl_storeEl (i := 0) (n' := (zs.set ((1 + (k : Int)).toNat) (inp / 2 ^ k % 2)).length) (xs' := ((zs.set ((1 + (k : Int)).toNat) (inp / 2 ^ k % 2)).map (Value.int .i64))) (l' := [rowE 3 1 (.slice (some ⟨g2, 0, none⟩) ((List.replicate (n.cnt).toNat (0 : Int)).length) ((List.replicate (n.cnt).toNat (0 : Int)).length)) ((zs.set ((1 + (k : Int)).toNat) (inp / 2 ^ k % 2)).length) ((zs.set ((1 + (k : Int)).toNat) (inp / 2 ^ k % 2)).map (Value.int .i64)), boxE b1 #[.int .i64 n.ins, n.sv, n.av, n.ov] 28]) rfl rfl rfl (by kernel_rfl) rfl rfl rfl rfl (by first | omega | (simp only [List.length_set]; omega)) List.length_set.symm (ints_set _ _ _) rfl ?_
  refine hl_less (sx 0 rfl (sx 1 rfl (sx 2 rfl (sx 3 rfl (sx 6 rfl (sx 7 rfl (sx 8 rfl (sx 19 rfl (sub_nil _))))))))) (.refl _) ?_
  refine hl_nil ?_
  refine hq_block_normal ?_
  refine hq_then ?_
  refine hc_region ?_
  refine hl_v rfl rfl rfl (rv_ev rfl) ?_
  refine hl_v rfl rfl rfl (rv_add rfl rfl rfl (by constructor <;> omega)) ?_
  refine hl_v rfl rfl rfl (rv_ev rfl) ?_
  refine hl_less (sx 0 rfl (sx 1 rfl (sx 2 rfl (sx 3 rfl (sx 6 rfl (sx 7 rfl (sx 8 rfl (sx 19 rfl (sub_nil _))))))))) (.refl _) ?_
  refine hl_nil ?_
  exact hq_round2 (k + 1) (zs.set ((1 + (k : Int)).toNat) (inp / 2 ^ k % 2)) ⟨by omega, by rw [hz]; exact (fill_set (by rw [preA_len]; omega) (by rw [preA_len]; omega)).trans (by rw [preA_step])⟩ (by omega) (sx 0 rfl (sx 1 rfl (sx 2 rfl (sx 3 rfl (sx 6 rfl (sx 7 rfl (sx 8 rfl (sub_nil _)))))))) ((.cons_cons _ (.cons_cons _ .slnil)))
 ·
  refine hl_less (sx 0 rfl (sx 1 rfl (sx 2 rfl (sx 3 rfl (sx 6 rfl (sx 7 rfl (sx 8 rfl (sx 19 rfl (sub_nil _))))))))) (.refl _) ?_
  refine hl_nil ?_
  refine hq_then ?_
  refine hc_false rfl ?_
  refine hc_exit ?_
  refine hq_then_exit ?_
  refine hq_then_exit ?_
  refine hq_block_exit ?_
  refine hq_then ?_
  refine hc_seq ?_
  refine hc_seq ?_
  refine hc_region ?_
  refine hl_v rfl rfl rfl (rv_ev rfl) ?_
  refine hl_v rfl rfl rfl (rv_len rfl Try.underlying26 rfl (rd_old hst)) ?_
  refine hl_v rfl rfl rfl (rv_ev rfl) ?_
  refine hl_less (sx 0 rfl (sx 1 rfl (sx 2 rfl (sx 3 rfl (sx 6 rfl (sx 7 rfl (sx 8 rfl (sx 19 rfl (sx 31 rfl (sx 32 rfl (sx 33 rfl (sub_nil _)))))))))))) (.refl _) ?_
  refine hl_nil ?_
  refine hq_then ?_
  refine hc_block ?_
  refine hc_loop2 (α := Nat) (β := List Int) (fun k zs => [rowE 3 1 (.slice (some ⟨g2, 0, none⟩) ((List.replicate (n.cnt).toNat (0 : Int)).length) ((List.replicate (n.cnt).toNat (0 : Int)).length)) zs.length (zs.map (Value.int .i64)), boxE b1 #[.int .i64 n.ins, n.sv, n.av, n.ov] 28]) (fun k zs => [(0, .agg #[.int .i64 n.ins, n.sv, n.av, n.ov]), (1, v), (2, .int .i64 inp), (3, .pointer (some ⟨b1, 0, none⟩)), (6, .slice none 0 0), (7, .slice (some ⟨g2, 0, none⟩) ((List.replicate (n.cnt).toNat (0 : Int)).length) ((List.replicate (n.cnt).toNat (0 : Int)).length)), (19, .bool false), (31, v), (32, .int .i64 (st.length : Int)), (33, .int .i64 (k : Int))]) (fun k zs => (k : Int) ≤ (st.length : Int) ∧ zs = fillZ n.cnt.toNat (preB n st inp k)) (fun k zs => ((st.length : Int)).toNat - k) 0 zs ⟨by omega, by rw [hz, show k = n.ins.toNat by omega, preB_zero n st inp]⟩ (sx 0 rfl (sx 1 rfl (sx 2 rfl (sx 3 rfl (sx 6 rfl (sx 7 rfl (sx 19 rfl (sx 31 rfl (sx 32 rfl (sx 33 rfl (sub_nil _))))))))))) ((.cons_cons _ (.cons_cons _ .slnil))) ?_
  intro k zs hi5
  obtain ⟨hk, hz⟩ := hi5
  have hzl : zs.length = n.cnt.toNat := by rw [hz]; exact fill_len (by rw [preB_len n st inp (by omega)]; omega)
  refine hc_seq ?_
  refine hc_region ?_
  refine hl_lss rfl rfl rfl rfl rfl rfl (fun h6 => ?_) (fun h6 => ?_)
  ·
   refine hl_less (sx 0 rfl (sx 1 rfl (sx 2 rfl (sx 3 rfl (sx 6 rfl (sx 7 rfl (sx 19 rfl (sx 31 rfl (sx 32 rfl (sx 33 rfl (sx 34 rfl (sub_nil _)))))))))))) (.refl _) ?_
   refine hl_nil ?_
   refine hq_then ?_
   refine hc_seq ?_
   refine hc_true rfl ?_
   refine hc_skip ?_
   refine hq_then ?_
   refine hc_seq ?_
   refine hc_block ?_
   refine hc_seq ?_
   refine hc_region ?_
   refine hl_v rfl rfl rfl (rv_ev rfl) ?_
   refine hl_v rfl rfl rfl (rv_index (s := 1) rfl Try.underlying26 (by kernel_rfl) rfl rfl (rd_old hst) (by omega) (by first | omega | (simp only [List.length_set]; omega))) ?_
   refine hl_v rfl rfl rfl (rv_loadEl (u := .int .i64 (st.getD k 0)) rfl (by kernel_rfl) rfl (rd_old hst) (ints_at1 (show _ < st.length by first | omega | (simp only [List.length_set]; omega)))) ?_
   refine hl_v rfl rfl rfl (rv_ev rfl) ?_
   refine hl_v rfl rfl rfl (rv_ev rfl) ?_
   refine hl_less (sx 0 rfl (sx 1 rfl (sx 2 rfl (sx 3 rfl (sx 6 rfl (sx 7 rfl (sx 9 rfl (sx 10 rfl (sx 19 rfl (sx 31 rfl (sx 32 rfl (sx 33 rfl (sx 34 rfl (sub_nil _)))))))))))))) (.refl _) ?_
   refine hl_nil ?_
   refine hq_then ?_
   refine hc_region ?_
   have hsk := hso.rng k (by omega)
   refine hl_v rfl rfl rfl (rv_ev rfl) ?_
   refine hl_v rfl rfl rfl (rv_loadN (cs := [.int .i64 n.ins, n.sv, n.av, n.ov]) rfl (by kernel_rfl) (by kernel_rfl) rfl rfl (box_part 1 rfl 0 rfl)) ?_
   refine hl_callV rfl rfl rfl (rq_call (by kernel_rfl) rfl (fun w hm => ret_ans (firstSeq_yes n w (hr.below hm.bel) hn))) ?_
   refine hl_v rfl rfl rfl (rv_ev rfl) ?_
   refine hl_v rfl rfl rfl (rv_add rfl rfl rfl (by constructor <;> omega)) ?_
   refine hl_v rfl rfl rfl (rv_ev rfl) ?_
   refine hl_v rfl rfl rfl (rv_bits rfl (by decide) rfl rfl (r := (st.getD k 0) % 2) (Bit.and_one _ (by omega) (by omega))) ?_
   refine hl_v rfl rfl rfl (rv_index (s := 1) rfl Try.underlying26 (by kernel_rfl) rfl rfl (rd_row 0 rfl) (by omega) (by first | omega | (simp only [List.length_set]; omega))) ?_
   refine hl_storeEl (i := 0) (n' := (zs.set (((1 + n.ins) + (k : Int)).toNat) ((st.getD k 0) % 2)).length) (xs' := ((zs.set (((1 + n.ins) + (k : Int)).toNat) ((st.getD k 0) % 2)).map (Value.int .i64))) (l' := [rowE 3 1 (.slice (some ⟨g2, 0, none⟩) ((List.replicate (n.cnt).toNat (0 : Int)).length) ((List.replicate (n.cnt).toNat (0 : Int)).length)) ((zs.set (((1 + n.ins) + (k : Int)).toNat) ((st.getD k 0) % 2)).length) ((zs.set (((1 + n.ins) + (k : Int)).toNat) ((st.getD k 0) % 2)).map (Value.int .i64)), boxE b1 #[.int .i64 n.ins, n.sv, n.av, n.ov] 28]) rfl rfl rfl (by kernel_rfl) rfl rfl rfl rfl (by first | omega | (simp only [List.length_set]; omega)) List.length_set.symm (ints_set _ _ _) rfl ?_
   refine hl_less (sx 0 rfl (sx 1 rfl (sx 2 rfl (sx 3 rfl (sx 6 rfl (sx 7 rfl (sx 9 rfl (sx 10 rfl (sx 19 rfl (sx 31 rfl (sx 32 rfl (sx 33 rfl (sx 34 rfl (sub_nil _)))))))))))))) (.refl _) ?_
   refine hl_nil ?_
   refine hq_block_normal ?_
   refine hq_then ?_
   refine hc_region ?_
   refine hl_v rfl rfl rfl (rv_add rfl rfl rfl (by constructor <;> omega)) ?_
   refine hl_v rfl rfl rfl (rv_ev rfl) ?_
   refine hl_less (sx 0 rfl (sx 1 rfl (sx 2 rfl (sx 3 rfl (sx 6 rfl (sx 7 rfl (sx 9 rfl (sx 10 rfl (sx 19 rfl (sx 31 rfl (sx 32 rfl (sx 33 rfl (sx 34 rfl (sub_nil _)))))))))))))) (.refl _) ?_
   refine hl_nil ?_
   exact hq_round2 (k + 1) (zs.set (((1 + n.ins) + (k : Int)).toNat) ((st.getD k 0) % 2)) ⟨by omega, by rw [hz]; exact (fill_set (by rw [preB_len n st inp (by omega)]; omega) (by rw [preB_len n st inp (by omega)]; omega)).trans (by rw [preB_step n st inp (by omega)])⟩ (by omega) (sx 0 rfl (sx 1 rfl (sx 2 rfl (sx 3 rfl (sx 6 rfl (sx 7 rfl (sx 19 rfl (sx 31 rfl (sx 32 rfl (sx 33 rfl (sub_nil _))))))))))) ((.cons_cons _ (.cons_cons _ .slnil)))
  ·
   refine hl_less (sx 0 rfl (sx 1 rfl (sx 2 rfl (sx 3 rfl (sx 6 rfl (sx 7 rfl (sx 19 rfl (sx 31 rfl (sx 32 rfl (sx 33 rfl (sx 34 rfl (sub_nil _)))))))))))) (.refl _) ?_
   refine hl_nil ?_
   refine hq_then ?_
   refine hc_seq ?_
   refine hc_false rfl ?_
   refine hc_exit ?_
   refine hq_then_exit ?_
   refine hq_then_exit ?_
   refine hq_block_exit ?_
   refine hq_then ?_
   refine hc_seq ?_
   refine hc_seq ?_
   refine hc_region ?_
   refine hl_v rfl rfl rfl (rv_field (k0 := 2) rfl (by kernel_rfl) rfl) ?_
   refine hl_v rfl rfl rfl (rv_load rfl (by kernel_rfl) rfl (box_cell 1 rfl rfl)) ?_
   refine hl_v rfl rfl rfl (rv_len rfl Try.underlying25 rfl (rd_old hr.an)) ?_
   refine hl_v rfl rfl rfl (rv_ev rfl) ?_
   refine hl_less (sx 0 rfl (sx 1 rfl (sx 2 rfl (sx 3 rfl (sx 6 rfl (sx 7 rfl (sx 19 rfl (sx 31 rfl (sx 32 rfl (sx 33 rfl (sx 34 rfl (sx 48 rfl (sx 49 rfl (sx 50 rfl (sub_nil _))))))))))))))) (.refl _) ?_
   refine hl_nil ?_
   refine hq_then ?_
   refine hc_block ?_
   refine hc_loop2 (α := Nat) (β := List Int) (fun k zs => [rowE 3 1 (.slice (some ⟨g2, 0, none⟩) ((List.replicate (n.cnt).toNat (0 : Int)).length) ((List.replicate (n.cnt).toNat (0 : Int)).length)) zs.length (zs.map (Value.int .i64)), boxE b1 #[.int .i64 n.ins, n.sv, n.av, n.ov] 28]) (fun k zs => [(0, .agg #[.int .i64 n.ins, n.sv, n.av, n.ov]), (1, v), (2, .int .i64 inp), (3, .pointer (some ⟨b1, 0, none⟩)), (6, .slice none 0 0), (7, .slice (some ⟨g2, 0, none⟩) ((List.replicate (n.cnt).toNat (0 : Int)).length) ((List.replicate (n.cnt).toNat (0 : Int)).length)), (19, .bool false), (31, v), (32, .int .i64 (st.length : Int)), (34, .bool false), (48, n.av), (49, .int .i64 (n.gs.length : Int)), (50, .int .i64 (k : Int))]) (fun k zs => (k : Int) ≤ (n.gs.length : Int) ∧ zs = fillZ n.cnt.toNat (valL n st inp k)) (fun k zs => ((n.gs.length : Int)).toNat - k) 0 zs ⟨by omega, by rw [hz, show k = st.length by omega, preB_end]⟩ (sx 0 rfl (sx 1 rfl (sx 2 rfl (sx 3 rfl (sx 6 rfl (sx 7 rfl (sx 19 rfl (sx 31 rfl (sx 32 rfl (sx 34 rfl (sx 48 rfl (sx 49 rfl (sx 50 rfl (sub_nil _)))))))))))))) ((.cons_cons _ (.cons_cons _ .slnil))) ?_
   intro k zs hi7
   obtain ⟨hk, hz⟩ := hi7
   have hzl : zs.length = n.cnt.toNat := by rw [hz]; exact fill_len (by rw [val_len n st inp k (by omega)]; omega)
   have hvl := val_len n st inp k (by omega)
   have hv01 := val01 hn hsl inp k (by omega)
   refine hc_seq ?_
   refine hc_region ?_
   refine hl_lss rfl rfl rfl rfl rfl rfl (fun h8 => ?_) (fun h8 => ?_)
   ·
    refine hl_less (sx 0 rfl (sx 1 rfl (sx 2 rfl (sx 3 rfl (sx 6 rfl (sx 7 rfl (sx 19 rfl (sx 31 rfl (sx 32 rfl (sx 34 rfl (sx 48 rfl (sx 49 rfl (sx 50 rfl (sx 51 rfl (sub_nil _))))))))))))))) (.refl _) ?_
    refine hl_nil ?_
    refine hq_then ?_
    refine hc_seq ?_
    refine hc_true rfl ?_
    refine hc_skip ?_
    refine hq_then ?_
    refine hc_seq ?_
    refine hc_block ?_
    refine hc_seq ?_
    refine hc_region ?_
    refine hl_v rfl rfl rfl (rv_ev rfl) ?_
    refine hl_v rfl rfl rfl (rv_index (s := 2) rfl Try.underlying25 (by kernel_rfl) rfl rfl (rd_old hr.an) (by omega) (by first | omega | (simp only [List.length_set]; omega))) ?_
    refine hl_v rfl rfl rfl (rv_loadElN (us := [.int .i64 ((n.gs.getD k an0).a), .int .i64 ((n.gs.getD k an0).b)]) rfl (by kernel_rfl) (by kernel_rfl) rfl (rd_old hr.an) (by omega) rfl (flat_atN anC 2 (fun _ => rfl) n.gs an0 (show k < _ by first | omega | (simp only [List.length_set]; omega)) rfl)) ?_
    refine hl_box rfl rfl rfl (rq_alloc (z := .agg #[.int .i64 0, .int .i64 0]) rfl (by kernel_rfl)) ?_
    intro b9
    refine hl_v rfl rfl rfl (rv_ev rfl) ?_
    refine hl_storeBoxN (i := 0) (off := 0) (us := [.int .i64 ((n.gs.getD k an0).a), .int .i64 ((n.gs.getD k an0).b)]) (l' := [boxE b9 #[.int .i64 ((n.gs.getD k an0).a), .int .i64 ((n.gs.getD k an0).b)] 80, rowE 3 1 (.slice (some ⟨g2, 0, none⟩) ((List.replicate (n.cnt).toNat (0 : Int)).length) ((List.replicate (n.cnt).toNat (0 : Int)).length)) zs.length (zs.map (Value.int .i64)), boxE b1 #[.int .i64 n.ins, n.sv, n.av, n.ov] 28]) rfl rfl rfl (by kernel_rfl) rfl rfl rfl (all_cons rfl (all_cons rfl all_nil)) rfl rfl rfl ?_
    refine hl_less (sx 0 rfl (sx 1 rfl (sx 2 rfl (sx 3 rfl (sx 6 rfl (sx 7 rfl (sx 11 rfl (sx 12 rfl (sx 19 rfl (sx 31 rfl (sx 32 rfl (sx 34 rfl (sx 48 rfl (sx 49 rfl (sx 50 rfl (sx 51 rfl (sub_nil _))))))))))))))))) (.refl _) ?_
    refine hl_nil ?_
    refine hq_then ?_
    have hak := hn.an k (by omega)
    obtain ⟨⟨hA0, hA1⟩, hC0, hC1⟩ := id hak
    have hg1 : zs.getD ((n.gs.getD k an0).a / 2).toNat 0 = (valL n st inp k).getD ((n.gs.getD k an0).a / 2).toNat 0 := by rw [hz]; exact fill_get (by omega)
    have hg2 : zs.getD ((n.gs.getD k an0).b / 2).toNat 0 = (valL n st inp k).getD ((n.gs.getD k an0).b / 2).toNat 0 := by rw [hz]; exact fill_get (by omega)
    have hA : zs.getD ((n.gs.getD k an0).a / 2).toNat 0 = 0 ∨ zs.getD ((n.gs.getD k an0).a / 2).toNat 0 = 1 := by rw [hg1]; exact hv01 _ (by omega)
    have hB : zs.getD ((n.gs.getD k an0).b / 2).toNat 0 = 0 ∨ zs.getD ((n.gs.getD k an0).b / 2).toNat 0 = 1 := by rw [hg2]; exact hv01 _ (by omega)
    have hB1 : bitL zs (n.gs.getD k an0).a = bitL (valL n st inp k) (n.gs.getD k an0).a := by unfold bitL; rw [hg1]
    have hB2 : bitL zs (n.gs.getD k an0).b = bitL (valL n st inp k) (n.gs.getD k an0).b := by unfold bitL; rw [hg2]
    have hP1 : bitL zs (n.gs.getD k an0).a = 0 ∨ bitL zs (n.gs.getD k an0).a = 1 := by rw [hB1]; exact bit01 hv01 hA0 (by omega)
    have hP2 : bitL zs (n.gs.getD k an0).b = 0 ∨ bitL zs (n.gs.getD k an0).b = 1 := by rw [hB2]; exact bit01 hv01 hC0 (by omega)
    refine hc_draw (by kernel_rfl) 15 [0, 1, 2, 3, 4, 5, 6, 7, 8, 9, 10, 11, 12, 13, 14] (List.take 15 _) (List.drop 15 _) [[], [], [1], [], [2, 3], [], [], [6], [5, 7], [], [], [10], [9, 11], [8, 12], [0, 4]] [55, 56, 57, 58, 59, 60, 61, 62, 63, 64, 65, 66, 67, 68, 69] (fun i_ vs_ v_ p_ => match i_ with | 0 => v_ = .slice (some ⟨g2, 0, none⟩) ((List.replicate (n.cnt).toNat (0 : Int)).length) ((List.replicate (n.cnt).toNat (0 : Int)).length) ∧ p_ = [] | 1 => v_ = .agg #[.int .i64 n.ins, n.sv, n.av, n.ov] ∧ p_ = [] | 2 => v_ = .int .i64 n.fst ∧ p_ = [] | 3 => v_ = .int .i64 (k : Int) ∧ p_ = [] | 4 => v_ = .int .i64 (n.fst + (k : Int)) ∧ p_ = [] | 5 => v_ = .slice (some ⟨g2, 0, none⟩) ((List.replicate (n.cnt).toNat (0 : Int)).length) ((List.replicate (n.cnt).toNat (0 : Int)).length) ∧ p_ = [] | 6 => v_ = .pointer (some ⟨b9, 0 + 0, none⟩) ∧ p_ = [] | 7 => v_ = .int .i64 ((n.gs.getD k an0).a) ∧ p_ = [] | 8 => v_ = .int .i64 (bitL zs ((n.gs.getD k an0).a)) ∧ p_ = [] | 9 => v_ = .slice (some ⟨g2, 0, none⟩) ((List.replicate (n.cnt).toNat (0 : Int)).length) ((List.replicate (n.cnt).toNat (0 : Int)).length) ∧ p_ = [] | 10 => v_ = .pointer (some ⟨b9, 0 + 1, none⟩) ∧ p_ = [] | 11 => v_ = .int .i64 ((n.gs.getD k an0).b) ∧ p_ = [] | 12 => v_ = .int .i64 (bitL zs ((n.gs.getD k an0).b)) ∧ p_ = [] | 13 => v_ = .int .i64 ((bitL zs ((n.gs.getD k an0).a)) * (bitL zs ((n.gs.getD k an0).b))) ∧ p_ = [] | 14 => v_ = elP (.slice (some ⟨g2, 0, none⟩) ((List.replicate (n.cnt).toNat (0 : Int)).length) ((List.replicate (n.cnt).toNat (0 : Int)).length)) ((n.fst + (k : Int)).toNat * 1) ∧ p_ = [] | _ => True) (List.take_append_drop 15 _).symm (by kernel_rfl) (by kernel_rfl) rfl rfl ?_ ?_
    ·
     refine ⟨?_, ?_, ?_, ?_, ?_, ?_, ?_, ?_, ?_, ?_, ?_, ?_, ?_, ?_, ?_, trivial⟩
     ·
      intro vf pf hR
      refine Or.inl ⟨rfl, ?_⟩
      refine rq_less (sx 7 rfl (sub_nil _)) (List.sublist_append_right _ _) ?_
      exact rq_v (rv_ev rfl)
     ·
      intro vf pf hR
      refine Or.inl ⟨rfl, ?_⟩
      refine rq_less (sx 3 rfl (sub_nil _)) (List.sublist_append_right _ _) ?_
      exact rq_v (rv_loadN (cs := [.int .i64 n.ins, n.sv, n.av, n.ov]) rfl (by kernel_rfl) (by kernel_rfl) rfl rfl (box_part 2 rfl 0 rfl))
     ·
      intro vf pf hR
      have e1 : (vf 1) = .agg #[.int .i64 n.ins, n.sv, n.av, n.ov] ∧ (pf 1) = [] := hR 1 (by decide)
      refine Or.inl ⟨rfl, ?_⟩
      refine rq_less (sx 56 (congrArg some e1.1) (sub_nil _)) (List.sublist_append_right _ _) ?_
      exact (rq_call (by kernel_rfl) rfl (fun w hm => ret_ans (firstAnd_yes n w (hr.below hm.bel) hn)))
     ·
      intro vf pf hR
      refine Or.inl ⟨rfl, ?_⟩
      refine rq_less (sx 11 rfl (sub_nil _)) (List.sublist_append_right _ _) ?_
      exact rq_v (rv_ev rfl)
     ·
      intro vf pf hR
      have e2 : (vf 2) = .int .i64 n.fst ∧ (pf 2) = [] := hR 2 (by decide)
      have e3 : (vf 3) = .int .i64 (k : Int) ∧ (pf 3) = [] := hR 3 (by decide)
      refine Or.inl ⟨rfl, ?_⟩
      refine rq_less (sx 57 (congrArg some e2.1) (sx 58 (congrArg some e3.1) (sub_nil _))) (List.sublist_append_right _ _) ?_
      exact rq_v (rv_add rfl rfl rfl (by constructor <;> omega))
     ·
      intro vf pf hR
      refine Or.inl ⟨rfl, ?_⟩
      refine rq_less (sx 7 rfl (sub_nil _)) (List.sublist_append_right _ _) ?_
      exact rq_v (rv_ev rfl)
     ·
      intro vf pf hR
      refine Or.inl ⟨rfl, ?_⟩
      refine rq_less (sx 12 rfl (sub_nil _)) (List.sublist_append_right _ _) ?_
      exact rq_v (rv_field (k0 := 0) rfl (by kernel_rfl) rfl)
     ·
      intro vf pf hR
      have e6 : (vf 6) = .pointer (some ⟨b9, 0 + 0, none⟩) ∧ (pf 6) = [] := hR 6 (by decide)
      refine Or.inl ⟨rfl, ?_⟩
      refine rq_less (sx 61 (congrArg some e6.1) (sub_nil _)) (List.sublist_append_right _ _) ?_
      exact rq_v (rv_load rfl (by kernel_rfl) rfl (box_cell 0 rfl rfl))
     ·
      intro vf pf hR
      have e5 : (vf 5) = .slice (some ⟨g2, 0, none⟩) ((List.replicate (n.cnt).toNat (0 : Int)).length) ((List.replicate (n.cnt).toNat (0 : Int)).length) ∧ (pf 5) = [] := hR 5 (by decide)
      have e7 : (vf 7) = .int .i64 ((n.gs.getD k an0).a) ∧ (pf 7) = [] := hR 7 (by decide)
      refine Or.inl ⟨rfl, ?_⟩
      refine rq_less (sx 60 (congrArg some e5.1) (sx 62 (congrArg some e7.1) (sub_nil _))) (List.sublist_append_right _ _) ?_
      exact (rq_call (by kernel_rfl) rfl (fun w hm => ret_ans (implitValue_ans zs ((n.gs.getD k an0).a) _ w ((rd_row 1 rfl) w hm) (by omega) (by first | assumption | omega) (by omega))))
     ·
      intro vf pf hR
      refine Or.inl ⟨rfl, ?_⟩
      refine rq_less (sx 7 rfl (sub_nil _)) (List.sublist_append_right _ _) ?_
      exact rq_v (rv_ev rfl)
     ·
      intro vf pf hR
      refine Or.inl ⟨rfl, ?_⟩
      refine rq_less (sx 12 rfl (sub_nil _)) (List.sublist_append_right _ _) ?_
      exact rq_v (rv_field (k0 := 1) rfl (by kernel_rfl) rfl)
     ·
      intro vf pf hR
      have e10 : (vf 10) = .pointer (some ⟨b9, 0 + 1, none⟩) ∧ (pf 10) = [] := hR 10 (by decide)
      refine Or.inl ⟨rfl, ?_⟩
      refine rq_less (sx 65 (congrArg some e10.1) (sub_nil _)) (List.sublist_append_right _ _) ?_
      exact rq_v (rv_load rfl (by kernel_rfl) rfl (box_cell 0 rfl rfl))
     ·
      intro vf pf hR
      have e9 : (vf 9) = .slice (some ⟨g2, 0, none⟩) ((List.replicate (n.cnt).toNat (0 : Int)).length) ((List.replicate (n.cnt).toNat (0 : Int)).length) ∧ (pf 9) = [] := hR 9 (by decide)
      have e11 : (vf 11) = .int .i64 ((n.gs.getD k an0).b) ∧ (pf 11) = [] := hR 11 (by decide)
      refine Or.inl ⟨rfl, ?_⟩
      refine rq_less (sx 64 (congrArg some e9.1) (sx 66 (congrArg some e11.1) (sub_nil _))) (List.sublist_append_right _ _) ?_
      exact (rq_call (by kernel_rfl) rfl (fun w hm => ret_ans (implitValue_ans zs ((n.gs.getD k an0).b) _ w ((rd_row 1 rfl) w hm) (by omega) (by first | assumption | omega) (by omega))))
     ·
      intro vf pf hR
      have e8 : (vf 8) = .int .i64 (bitL zs ((n.gs.getD k an0).a)) ∧ (pf 8) = [] := hR 8 (by decide)
      have e12 : (vf 12) = .int .i64 (bitL zs ((n.gs.getD k an0).b)) ∧ (pf 12) = [] := hR 12 (by decide)
      refine Or.inl ⟨rfl, ?_⟩
      refine rq_less (sx 63 (congrArg some e8.1) (sx 67 (congrArg some e12.1) (sub_nil _))) (List.sublist_append_right _ _) ?_
      exact rq_v (rv_bits rfl (by decide) rfl rfl (r := (bitL zs ((n.gs.getD k an0).a)) * (bitL zs ((n.gs.getD k an0).b))) (and01 hP1 hP2))
     ·
      intro vf pf hR
      have e0 : (vf 0) = .slice (some ⟨g2, 0, none⟩) ((List.replicate (n.cnt).toNat (0 : Int)).length) ((List.replicate (n.cnt).toNat (0 : Int)).length) ∧ (pf 0) = [] := hR 0 (by decide)
      have e4 : (vf 4) = .int .i64 (n.fst + (k : Int)) ∧ (pf 4) = [] := hR 4 (by decide)
      refine Or.inl ⟨rfl, ?_⟩
      refine rq_less (sx 55 (congrArg some e0.1) (sx 59 (congrArg some e4.1) (sub_nil _))) (List.sublist_append_right _ _) ?_
      exact rq_v (rv_index (s := 1) rfl Try.underlying26 (by kernel_rfl) rfl rfl (rd_row 1 rfl) (by omega) (by first | omega | (simp only [List.length_set]; omega)))
    ·
     intro vf pf hR
     have e13 : (vf 13) = .int .i64 ((bitL zs ((n.gs.getD k an0).a)) * (bitL zs ((n.gs.getD k an0).b))) ∧ (pf 13) = [] := hR 13 (by decide)
     have e14 : (vf 14) = elP (.slice (some ⟨g2, 0, none⟩) ((List.replicate (n.cnt).toNat (0 : Int)).length) ((List.replicate (n.cnt).toNat (0 : Int)).length)) ((n.fst + (k : Int)).toNat * 1) ∧ (pf 14) = [] := hR 14 (by decide)
     refine hl_less (l' := [boxE b9 #[.int .i64 ((n.gs.getD k an0).a), .int .i64 ((n.gs.getD k an0).b)] 80, rowE 3 1 (.slice (some ⟨g2, 0, none⟩) ((List.replicate (n.cnt).toNat (0 : Int)).length) ((List.replicate (n.cnt).toNat (0 : Int)).length)) zs.length (zs.map (Value.int .i64)), boxE b1 #[.int .i64 n.ins, n.sv, n.av, n.ov] 28]) (sx 0 rfl (sx 1 rfl (sx 2 rfl (sx 3 rfl (sx 6 rfl (sx 7 rfl (sx 11 rfl (sx 12 rfl (sx 19 rfl (sx 31 rfl (sx 32 rfl (sx 34 rfl (sx 48 rfl (sx 49 rfl (sx 50 rfl (sx 51 rfl (sx 68 (congrArg some e13.1) (sx 69 (congrArg some e14.1) (sub_nil _))))))))))))))))))) (List.sublist_append_right _ _) ?_
     simp only [List.drop_succ_cons, List.drop_zero]
     refine hl_storeEl (i := 1) (n' := (zs.set ((n.fst + (k : Int)).toNat) ((bitL zs ((n.gs.getD k an0).a)) * (bitL zs ((n.gs.getD k an0).b)))).length) (xs' := ((zs.set ((n.fst + (k : Int)).toNat) ((bitL zs ((n.gs.getD k an0).a)) * (bitL zs ((n.gs.getD k an0).b)))).map (Value.int .i64))) (l' := [boxE b9 #[.int .i64 ((n.gs.getD k an0).a), .int .i64 ((n.gs.getD k an0).b)] 80, rowE 3 1 (.slice (some ⟨g2, 0, none⟩) ((List.replicate (n.cnt).toNat (0 : Int)).length) ((List.replicate (n.cnt).toNat (0 : Int)).length)) ((zs.set ((n.fst + (k : Int)).toNat) ((bitL zs ((n.gs.getD k an0).a)) * (bitL zs ((n.gs.getD k an0).b)))).length) ((zs.set ((n.fst + (k : Int)).toNat) ((bitL zs ((n.gs.getD k an0).a)) * (bitL zs ((n.gs.getD k an0).b)))).map (Value.int .i64)), boxE b1 #[.int .i64 n.ins, n.sv, n.av, n.ov] 28]) rfl rfl rfl (by kernel_rfl) rfl rfl rfl rfl (by first | omega | (simp only [List.length_set]; omega)) List.length_set.symm (ints_set _ _ _) rfl ?_
     refine hl_less (sx 0 rfl (sx 1 rfl (sx 2 rfl (sx 3 rfl (sx 6 rfl (sx 7 rfl (sx 11 rfl (sx 12 rfl (sx 19 rfl (sx 31 rfl (sx 32 rfl (sx 34 rfl (sx 48 rfl (sx 49 rfl (sx 50 rfl (sx 51 rfl (sub_nil _))))))))))))))))) (.refl _) ?_
     refine hl_nil ?_
     refine hq_block_normal ?_
     refine hq_then ?_
     refine hc_region ?_
     refine hl_v rfl rfl rfl (rv_add rfl rfl rfl (by constructor <;> omega)) ?_
     refine hl_v rfl rfl rfl (rv_ev rfl) ?_
     refine hl_less (sx 0 rfl (sx 1 rfl (sx 2 rfl (sx 3 rfl (sx 6 rfl (sx 7 rfl (sx 11 rfl (sx 12 rfl (sx 19 rfl (sx 31 rfl (sx 32 rfl (sx 34 rfl (sx 48 rfl (sx 49 rfl (sx 50 rfl (sx 51 rfl (sub_nil _))))))))))))))))) (.refl _) ?_
     refine hl_nil ?_
     exact hq_round2 (k + 1) (zs.set ((n.fst + (k : Int)).toNat) ((bitL zs ((n.gs.getD k an0).a)) * (bitL zs ((n.gs.getD k an0).b)))) ⟨by omega, by rw [hB1, hB2, hz, show (n.fst + (k : Int)).toNat = (valL n st inp k).length by omega, val_step n st inp (by omega)]; exact fill_set rfl (by omega)⟩ (by omega) (sx 0 rfl (sx 1 rfl (sx 2 rfl (sx 3 rfl (sx 6 rfl (sx 7 rfl (sx 19 rfl (sx 31 rfl (sx 32 rfl (sx 34 rfl (sx 48 rfl (sx 49 rfl (sx 50 rfl (sub_nil _)))))))))))))) ((.cons _ (.cons_cons _ (.cons_cons _ .slnil))))
   ·
    refine hl_less (sx 0 rfl (sx 1 rfl (sx 2 rfl (sx 3 rfl (sx 6 rfl (sx 7 rfl (sx 19 rfl (sx 31 rfl (sx 32 rfl (sx 34 rfl (sx 48 rfl (sx 49 rfl (sx 50 rfl (sx 51 rfl (sub_nil _))))))))))))))) (.refl _) ?_
    refine hl_nil ?_
    refine hq_then ?_
    refine hc_seq ?_
    refine hc_false rfl ?_
    refine hc_exit ?_
    refine hq_then_exit ?_
    refine hq_then_exit ?_
    refine hq_block_exit ?_
    refine hq_then ?_
    refine hc_seq ?_
    refine hc_region ?_
    refine hl_v rfl rfl rfl (rv_ev rfl) ?_
    refine hl_v rfl rfl rfl (rv_ev rfl) ?_
    refine hl_less (sx 0 rfl (sx 1 rfl (sx 2 rfl (sx 3 rfl (sx 6 rfl (sx 7 rfl (sx 19 rfl (sx 31 rfl (sx 32 rfl (sx 34 rfl (sx 48 rfl (sx 49 rfl (sx 50 rfl (sx 51 rfl (sub_nil _))))))))))))))) (.refl _) ?_
    refine hl_nil ?_
    refine hq_then ?_
    refine hc_ret ?_
    exact hq_retR (post := [rowE 3 1 (.slice (some ⟨g2, 0, none⟩) ((List.replicate (n.cnt).toNat (0 : Int)).length) ((List.replicate (n.cnt).toNat (0 : Int)).length)) zs.length (zs.map (Value.int .i64))]) rfl rfl ((.cons_cons _ (.cons _ .slnil))) (by rw [hz, show k = n.gs.length by omega, fill_all (by rw [val_len n st inp _ (Nat.le_refl _)]; omega)])
set_option maxHeartbeats 4000000 in
set_option maxRecDepth 100000 in
theorem implNodeValues_ret (n : Nt) (st : List Int) (v : Value) (inp : Int) (w : World) (hr : RdsNt w n) (hn : NtOk n) (hst : RdsW w v 1 st.length (st.map (Value.int .i64))) (hso : StOk n st) (hin : 0 ≤ inp ∧ inp ≤ 4294967295) :
  Calls Try.prog 25 #[.agg #[.int .i64 n.ins, n.sv, n.av, n.ov], v, .int .i64 inp] w (Ret w (fun v' post => post = [rowE 3 1 v' (valsL n st inp).length ((valsL n st inp).map (Value.int .i64))])) := by
 have hi0 := hn.i0
 have hi1 := hn.i1
 have hs1 := hn.s1
 have ha1 := hn.a1
 have ho1 := hn.o1
 have hcnt : n.cnt = 1 + n.ins + n.ss.length + n.gs.length := rfl
 have hfst : n.fst = 1 + n.ins + n.ss.length := rfl
 refine calls_hc (N := 15) (args := [.agg #[.int .i64 n.ins, n.sv, n.av, n.ov], v, .int .i64 inp]) Try.func25 rfl rfl ?_
 refine hc_less _ (sx 0 rfl (sx 1 rfl (sx 2 rfl (sub_nil _)))) (.refl _) ?_
 refine hc_seq ?_
 refine hc_region ?_
 refine hl_box rfl rfl rfl (rq_box rfl rfl) ?_
 intro b1
 refine hl_v rfl rfl rfl (rv_ev rfl) ?_
 refine hl_less (sx 0 rfl (sx 1 rfl (sx 2 rfl (sx 3 rfl (sx 6 rfl (sub_nil _)))))) (.refl _) ?_
 refine hl_nil ?_
 refine hq_then ?_
 refine hc_seq ?_
 refine hc_seq ?_
 refine hc_region ?_
 refine hl_v rfl rfl rfl (rv_loadN (cs := [.int .i64 n.ins, n.sv, n.av, n.ov]) rfl (by kernel_rfl) (by kernel_rfl) rfl rfl (box_part 0 rfl 0 rfl)) ?_
 refine hl_v rfl rfl rfl (rv_ev rfl) ?_
 refine hl_callV rfl rfl rfl (rq_call (by kernel_rfl) rfl (fun w hm => ret_ans (implStateOk_yes n st _ w (hr.below hm.bel) hn (hst.below hm.bel) hso))) ?_
 refine hl_v rfl rfl rfl (rv_ev rfl) ?_
 refine hl_less (sx 0 rfl (sx 1 rfl (sx 2 rfl (sx 3 rfl (sx 6 rfl (sx 10 rfl (sub_nil _))))))) (.refl _) ?_
 refine hl_nil ?_
 refine hq_then ?_
 refine hc_false rfl ?_
 refine hc_skip ?_
 refine hq_then ?_
 refine hc_seq ?_
 refine hc_region ?_
 refine hl_v rfl rfl rfl (rv_loadN (cs := [.int .i64 n.ins, n.sv, n.av, n.ov]) rfl (by kernel_rfl) (by kernel_rfl) rfl rfl (box_part 0 rfl 0 rfl)) ?_
 refine hl_v rfl rfl rfl (rv_ev rfl) ?_
 refine hl_v rfl rfl rfl (rv_ev rfl) ?_
 refine hl_q rfl rfl rfl (rq_call (by kernel_rfl) rfl (fun w hm => implnodeValues_ret n st _ inp w (hr.below hm.bel) hn (hst.below hm.bel) hso hin)) ?_
 intro v2 p3 hR4
 subst hR4
 refine hl_v rfl rfl rfl (rv_ev rfl) ?_
 refine hl_less (sx 0 rfl (sx 1 rfl (sx 2 rfl (sx 3 rfl (sx 6 rfl (sx 10 rfl (sub_nil _))))))) (.refl _) ?_
 refine hl_nil ?_
 refine hq_then ?_
 refine hc_ret ?_
 exact hq_retR (post := [rowE 3 1 v2 ((valsL n st inp).length) ((valsL n st inp).map (Value.int .i64))]) rfl rfl ((.cons_cons _ (.cons _ .slnil))) rfl
def eqA (a b c d : Int) : Bool := a == c && b == d
theorem eqA_yes {a b c d : Int} (h : eqA a b c d = true) : a = c ∧ b = d := by unfold eqA at h; simpa using h
theorem Bit.xor_par (m : Nat) : (m ^^^ 1) % 2 = (m + 1) % 2 := by
  have h : (m ^^^ 1) / 2 ^ 0 % 2 = (m / 2 ^ 0 % 2) ^^^ (1 / 2 ^ 0 % 2) := Bit.bit_xor m 1 0
  simp only [Nat.pow_zero, Nat.div_one] at h
  rw [h]
  rcases Nat.mod_two_eq_zero_or_one m with e | e <;> rw [e] <;> simp <;> omega
theorem xor_xr {a : Int} (h0 : 0 ≤ a) (h1 : a < 4294967296) : bits .xor .i64 a 1 = xr a := by
  rw [Bit.xor_int a 1 h0 h1 (by decide) (by decide)]
  unfold xr
  have h2 : (a.toNat ^^^ (1 : Int).toNat) / 2 = a.toNat / 2 := by
    show (a.toNat ^^^ 1) / 2 = a.toNat / 2
    have := Nat.xor_div_two (a := a.toNat) (b := 1)
    rw [this]; simp
  have h3 : (a.toNat ^^^ (1 : Int).toNat) % 2 = (a.toNat + 1) % 2 := by
    show (a.toNat ^^^ 1) % 2 = (a.toNat + 1) % 2
    have e := Bit.xor_par a.toNat
    exact e
  split <;> omega
theorem nt_like {n : Nt} {gs : List An} {v : Value} (h : NtOk (withG n gs)) : NtOk { n with av := v, gs := gs } := ⟨h.i0, h.i1, h.s1, h.a1, h.o1, h.sq, h.xs, h.an, h.ou⟩
/-- a net whose cells and gates its function may turn -/
def netP (b : Nat) (n : Nt) (v : Value) (gs : List An) : HP := bigE [boxE b #[.int .i64 n.ins, n.sv, v, n.ov] 28, rowE 80 2 v gs.length (gs.flatMap anC)]
section
variable {N : Nat} {w0 : World} {l : List HP} {env : List (Nat × Value)} {o : Oper}
theorem rv_eqAn {x y : Operand} {a b c d : Int} (ho : o.op = .binOp .eql 80 x y 80) (hx : ev env x = some (.agg #[.int .i64 a, .int .i64 b])) (hy : ev env y = some (.agg #[.int .i64 c, .int .i64 d])) :
    RunV Try.prog N w0 l env o (.bool (eqA a b c d)) := fun a1 w st => by
  have hg : (eqGuard .eql 80 x y (.agg #[.int .i64 a, .int .i64 b]) (.agg #[.int .i64 c, .int .i64 d])).run Try.prog w = .ok () w := run_eqGuard_agg _ _ _ _ _ _ _ (by kernel_rfl)
  have h2 : (binOp .eql 80 (.agg #[.int .i64 a, .int .i64 b]) (.agg #[.int .i64 c, .int .i64 d])).run Try.prog w = .ok (.bool (eqA a b c d)) w := by
    rw [run_eql_struct, run_equalIn_struct _ _ _ _ _ (by kernel_rfl) (by kernel_rfl)]
    have e0 : (Try.prog.fieldsOf 80).toList = [(Try.prog.fieldsOf 80)[0]!, (Try.prog.fieldsOf 80)[1]!] := by kernel_rfl
    have n0 : ((Try.prog.fieldsOf 80)[0]!).name = "A" := by kernel_rfl
    have n1 : ((Try.prog.fieldsOf 80)[1]!).name = "B" := by kernel_rfl
    have t0 : ((Try.prog.fieldsOf 80)[0]!).type = 3 := by kernel_rfl
    have t1 : ((Try.prog.fieldsOf 80)[1]!).type = 3 := by kernel_rfl
    have o0 : ((Try.prog.fieldsOf 80)[0]!).offset = 0 := by kernel_rfl
    have o1 : ((Try.prog.fieldsOf 80)[1]!).offset = 1 := by kernel_rfl
    rw [e0]
    generalize (Try.prog.fieldsOf 80)[0]! = f0 at *
    generalize (Try.prog.fieldsOf 80)[1]! = f1 at *
    have m0 : f0.name ≠ "_" := by rw [n0]; decide
    have m1 : f1.name ≠ "_" := by rw [n1]; decide
    have hk : Try.prog.plainKey 3 = true := by kernel_rfl
    have q : ∀ (u v : Int) (w : World), (Op.equalIn 9999 3 (.int .i64 u) (.int .i64 v)).run Try.prog w = .ok (u == v) w := fun u v w => run_equalIn_int w 9998 3 .i64 .i64 u v Try.underlying3
    have pa : ∀ w : World, (part f0.type #[Value.int .i64 a, .int .i64 b] f0.offset).run Try.prog w = .ok (.int .i64 a) w := fun w => by rw [t0, o0]; exact run_part_plain w hk rfl
    have pb : ∀ w : World, (part f1.type #[Value.int .i64 a, .int .i64 b] f1.offset).run Try.prog w = .ok (.int .i64 b) w := fun w => by rw [t1, o1]; exact run_part_plain w hk rfl
    have pc : ∀ w : World, (part f0.type #[Value.int .i64 c, .int .i64 d] f0.offset).run Try.prog w = .ok (.int .i64 c) w := fun w => by rw [t0, o0]; exact run_part_plain w hk rfl
    have pd : ∀ w : World, (part f1.type #[Value.int .i64 c, .int .i64 d] f1.offset).run Try.prog w = .ok (.int .i64 d) w := fun w => by rw [t1, o1]; exact run_part_plain w hk rfl
    have q0 : ∀ (u v : Int) (w : World), (Op.equalIn 9999 f0.type (.int .i64 u) (.int .i64 v)).run Try.prog w = .ok (u == v) w := by rw [t0]; exact q
    have q1 : ∀ (u v : Int) (w : World), (Op.equalIn 9999 f1.type (.int .i64 u) (.int .i64 v)).run Try.prog w = .ok (u == v) w := by rw [t1]; exact q
    simp only [Op.eqFields, m0, m1, ne_eq, not_false_eq_true, if_true, Sem.run_bind, pa, pb, pc, pd, q0, q1, Result.andThen_ok, Sem.run_ite, Sem.run_pure]
    unfold eqA
    cases (a == c) <;> cases (b == d) <;> simp
  simp [execOp, ho, st.eval hx, st.eval hy, hg, h2]
end
set_option maxHeartbeats 4000000 in
set_option maxRecDepth 100000 in
theorem addAnd_mut (b : Nat) (n : Nt) (x y : Int) (w0 : World) (l : List HP) (w : World) (hm0 : Mem w0 (boxE b #[.int .i64 n.ins, n.sv, n.av, n.ov] 28 :: rowE 80 2 n.av n.gs.length (n.gs.flatMap anC) :: l) w) (hn : NtOk (withG n n.gs)) (hx : LtOk x (n.fst + n.gs.length)) (hy : LtOk y (n.fst + n.gs.length)) (hl : n.gs.length < 300) (hso : ∀ w, Mem w0 l w → RdsW w n.sv 3 n.ss.length (n.ss.flatMap sqC) ∧ (∀ s ∈ n.ss, RdsW w s.iv 1 s.xs.length (s.xs.map (Value.int .i64))) ∧ RdsW w n.ov 1 n.os.length (n.os.map (Value.int .i64))) (hone : n.sv.oneCell' = true ∧ n.ov.oneCell' = true) :
  Calls Try.prog 74 #[.pointer (some ⟨b, 0, none⟩), .int .i64 x, .int .i64 y] w (fun e_ w_ => ∃ v_ p_, e_ = .returned v_ ∧ (fun u_ p_ => ∃ z v_ gs_, u_ = .int .i64 z ∧ p_ = netP b n v_ gs_ ∧ AddOk n n.gs gs_ z 1 (fAnd x y)) v_ p_ ∧ Mem w0 (p_ :: l) w_) := by
 have hi0 : 0 ≤ n.ins := hn.i0
 have hi1 : n.ins ≤ 20 := hn.i1
 have hs1 : n.ss.length ≤ 12 := hn.s1
 have hf : n.fst = 1 + n.ins + n.ss.length := rfl
 have hmx : (if x < y then y else x) = max x y := by split <;> omega
 obtain ⟨hx0, hx1⟩ := id hx
 obtain ⟨hy0, hy1⟩ := id hy
 have hnew := add_new hn hx hy hl
 refine calls_hcM (N := 86) (args := [.pointer (some ⟨b, 0, none⟩), .int .i64 x, .int .i64 y]) Try.func74 rfl rfl hm0 ?_
 refine hc_less _ (sx 0 rfl (sx 1 rfl (sx 2 rfl (sub_nil _)))) (.refl _) ?_
 refine hc_seq ?_
 refine hc_region ?_
 refine hl_v rfl rfl rfl (rv_ev rfl) ?_
 refine hl_less (sx 0 rfl (sx 1 rfl (sx 2 rfl (sx 6 rfl (sub_nil _))))) (.refl _) ?_
 refine hl_nil ?_
 refine hq_then ?_
 refine hc_seq ?_
 refine hc_block ?_
 refine hc_seq ?_
 refine hc_region ?_
 refine hl_v rfl rfl rfl (rv_ev rfl) ?_
 refine hl_eql rfl rfl rfl rfl rfl rfl (fun h1 => ?_) (fun h1 => ?_)
 ·
  refine hl_v rfl rfl rfl (rv_ev rfl) ?_
  refine hl_skip rfl rfl rfl ?_
  refine hl_skip rfl rfl rfl ?_
  refine hl_v rfl rfl rfl (rv_ev rfl) ?_
  refine hl_v rfl rfl rfl (rv_ev rfl) ?_
  refine hl_skip rfl rfl rfl ?_
  refine hl_skip rfl rfl rfl ?_
  refine hl_skip rfl rfl rfl ?_
  refine hl_skip rfl rfl rfl ?_
  refine hl_v rfl rfl rfl (rv_ev rfl) ?_
  refine hl_v rfl rfl rfl (rv_ev rfl) ?_
  refine hl_less (sx 0 rfl (sx 1 rfl (sx 2 rfl (sx 6 rfl (sx 10 rfl (sub_nil _)))))) (.refl _) ?_
  refine hl_nil ?_
  refine hq_then ?_
  refine hc_true rfl ?_
  refine hc_seq ?_
  refine hc_region ?_
  refine hl_v rfl rfl rfl (rv_ev rfl) ?_
  refine hl_less (sx 0 rfl (sx 1 rfl (sx 2 rfl (sx 6 rfl (sx 10 rfl (sub_nil _)))))) (.refl _) ?_
  refine hl_nil ?_
  refine hq_then ?_
  refine hc_ret ?_
  refine hq_block_ret ?_
  refine hq_then_ret ?_
  refine hq_conv (boxE b #[.int .i64 n.ins, n.sv, n.av, n.ov] 28 :: rowE 80 2 n.av n.gs.length (n.gs.flatMap anC) :: l) (conv_pick (src := [boxE b #[.int .i64 n.ins, n.sv, n.av, n.ov] 28, rowE 80 2 n.av n.gs.length (n.gs.flatMap anC)]) (dst := [boxE b #[.int .i64 n.ins, n.sv, n.av, n.ov] 28, rowE 80 2 n.av n.gs.length (n.gs.flatMap anC)]) (l := l) [0, 1] (by decide) rfl) ?_
  refine hq_conv (netP b n n.av n.gs :: l) (conv_big (ps := [boxE b #[.int .i64 n.ins, n.sv, n.av, n.ov] 28, rowE 80 2 n.av n.gs.length (n.gs.flatMap anC)])) ?_
  exact hq_ret (rs := [.tmp 6]) (vs := [.int .i64 0]) rfl ⟨rfl, trivial⟩ rfl (fun w hm => ⟨_, netP b n n.av n.gs, rfl, ⟨_, _, _, rfl, rfl, add_zero hn hx hy (by first | exact .inl (by omega) | exact .inr (.inl (by omega)) | exact .inr (.inr (by omega)))⟩, hm.sub ((.cons_cons _ (.refl _)))⟩)
 ·
  refine hl_v rfl rfl rfl (rv_ev rfl) ?_
  refine hl_v rfl rfl rfl (rv_ev rfl) ?_
  refine hl_eql rfl rfl rfl rfl rfl rfl (fun h2 => ?_) (fun h2 => ?_)
  ·
   refine hl_v rfl rfl rfl (rv_ev rfl) ?_
   refine hl_v rfl rfl rfl (rv_ev rfl) ?_
   refine hl_skip rfl rfl rfl ?_
   refine hl_skip rfl rfl rfl ?_
   refine hl_skip rfl rfl rfl ?_
   refine hl_skip rfl rfl rfl ?_
   refine hl_v rfl rfl rfl (rv_ev rfl) ?_
   refine hl_v rfl rfl rfl (rv_ev rfl) ?_
   refine hl_less (sx 0 rfl (sx 1 rfl (sx 2 rfl (sx 6 rfl (sx 10 rfl (sub_nil _)))))) (.refl _) ?_
   refine hl_nil ?_
   refine hq_then ?_
   refine hc_true rfl ?_
   refine hc_seq ?_
   refine hc_region ?_
   refine hl_v rfl rfl rfl (rv_ev rfl) ?_
   refine hl_less (sx 0 rfl (sx 1 rfl (sx 2 rfl (sx 6 rfl (sx 10 rfl (sub_nil _)))))) (.refl _) ?_
   refine hl_nil ?_
   refine hq_then ?_
   refine hc_ret ?_
   refine hq_block_ret ?_
   refine hq_then_ret ?_
   refine hq_conv (boxE b #[.int .i64 n.ins, n.sv, n.av, n.ov] 28 :: rowE 80 2 n.av n.gs.length (n.gs.flatMap anC) :: l) (conv_pick (src := [boxE b #[.int .i64 n.ins, n.sv, n.av, n.ov] 28, rowE 80 2 n.av n.gs.length (n.gs.flatMap anC)]) (dst := [boxE b #[.int .i64 n.ins, n.sv, n.av, n.ov] 28, rowE 80 2 n.av n.gs.length (n.gs.flatMap anC)]) (l := l) [0, 1] (by decide) rfl) ?_
   refine hq_conv (netP b n n.av n.gs :: l) (conv_big (ps := [boxE b #[.int .i64 n.ins, n.sv, n.av, n.ov] 28, rowE 80 2 n.av n.gs.length (n.gs.flatMap anC)])) ?_
   exact hq_ret (rs := [.tmp 6]) (vs := [.int .i64 0]) rfl ⟨rfl, trivial⟩ rfl (fun w hm => ⟨_, netP b n n.av n.gs, rfl, ⟨_, _, _, rfl, rfl, add_zero hn hx hy (by first | exact .inl (by omega) | exact .inr (.inl (by omega)) | exact .inr (.inr (by omega)))⟩, hm.sub ((.cons_cons _ (.refl _)))⟩)
  ·
   refine hl_v rfl rfl rfl (rv_ev rfl) ?_
   refine hl_v rfl rfl rfl (rv_ev rfl) ?_
   refine hl_v rfl rfl rfl (rv_ev rfl) ?_
   refine hl_v rfl rfl rfl (rv_bits rfl (by decide) rfl rfl (r := xr x) (xor_xr hx0 (by omega))) ?_
   refine hl_v rfl rfl rfl (rv_ev rfl) ?_
   refine hl_eql rfl rfl rfl rfl rfl rfl (fun h3 => ?_) (fun h3 => ?_)
   ·
    refine hl_v rfl rfl rfl (rv_ev rfl) ?_
    refine hl_v rfl rfl rfl (rv_ev rfl) ?_
    refine hl_less (sx 0 rfl (sx 1 rfl (sx 2 rfl (sx 6 rfl (sx 10 rfl (sub_nil _)))))) (.refl _) ?_
    refine hl_nil ?_
    refine hq_then ?_
    refine hc_true rfl ?_
    refine hc_seq ?_
    refine hc_region ?_
    refine hl_v rfl rfl rfl (rv_ev rfl) ?_
    refine hl_less (sx 0 rfl (sx 1 rfl (sx 2 rfl (sx 6 rfl (sx 10 rfl (sub_nil _)))))) (.refl _) ?_
    refine hl_nil ?_
    refine hq_then ?_
    refine hc_ret ?_
    refine hq_block_ret ?_
    refine hq_then_ret ?_
    refine hq_conv (boxE b #[.int .i64 n.ins, n.sv, n.av, n.ov] 28 :: rowE 80 2 n.av n.gs.length (n.gs.flatMap anC) :: l) (conv_pick (src := [boxE b #[.int .i64 n.ins, n.sv, n.av, n.ov] 28, rowE 80 2 n.av n.gs.length (n.gs.flatMap anC)]) (dst := [boxE b #[.int .i64 n.ins, n.sv, n.av, n.ov] 28, rowE 80 2 n.av n.gs.length (n.gs.flatMap anC)]) (l := l) [0, 1] (by decide) rfl) ?_
    refine hq_conv (netP b n n.av n.gs :: l) (conv_big (ps := [boxE b #[.int .i64 n.ins, n.sv, n.av, n.ov] 28, rowE 80 2 n.av n.gs.length (n.gs.flatMap anC)])) ?_
    exact hq_ret (rs := [.tmp 6]) (vs := [.int .i64 0]) rfl ⟨rfl, trivial⟩ rfl (fun w hm => ⟨_, netP b n n.av n.gs, rfl, ⟨_, _, _, rfl, rfl, add_zero hn hx hy (by first | exact .inl (by omega) | exact .inr (.inl (by omega)) | exact .inr (.inr (by omega)))⟩, hm.sub ((.cons_cons _ (.refl _)))⟩)
   ·
    refine hl_v rfl rfl rfl (rv_ev rfl) ?_
    refine hl_v rfl rfl rfl (rv_ev rfl) ?_
    refine hl_less (sx 0 rfl (sx 1 rfl (sx 2 rfl (sx 6 rfl (sx 10 rfl (sub_nil _)))))) (.refl _) ?_
    refine hl_nil ?_
    refine hq_then ?_
    refine hc_false rfl ?_
    refine hc_seq ?_
    refine hc_region ?_
    refine hl_v rfl rfl rfl (rv_ev rfl) ?_
    refine hl_eql rfl rfl rfl rfl rfl rfl (fun h4 => ?_) (fun h4 => ?_)
    ·
     refine hl_v rfl rfl rfl (rv_ev rfl) ?_
     refine hl_skip rfl rfl rfl ?_
     refine hl_skip rfl rfl rfl ?_
     refine hl_skip rfl rfl rfl ?_
     refine hl_v rfl rfl rfl (rv_ev rfl) ?_
     refine hl_v rfl rfl rfl (rv_ev rfl) ?_
     refine hl_less (sx 0 rfl (sx 1 rfl (sx 2 rfl (sx 6 rfl (sx 10 rfl (sx 23 rfl (sub_nil _))))))) (.refl _) ?_
     refine hl_nil ?_
     refine hq_then ?_
     refine hc_true rfl ?_
     refine hc_seq ?_
     refine hc_region ?_
     refine hl_v rfl rfl rfl (rv_ev rfl) ?_
     refine hl_v rfl rfl rfl (rv_ev rfl) ?_
     refine hl_less (sx 0 rfl (sx 1 rfl (sx 2 rfl (sx 6 rfl (sx 10 rfl (sx 23 rfl (sub_nil _))))))) (.refl _) ?_
     refine hl_nil ?_
     refine hq_then ?_
     refine hc_ret ?_
     refine hq_block_ret ?_
     refine hq_then_ret ?_
     refine hq_conv (boxE b #[.int .i64 n.ins, n.sv, n.av, n.ov] 28 :: rowE 80 2 n.av n.gs.length (n.gs.flatMap anC) :: l) (conv_pick (src := [boxE b #[.int .i64 n.ins, n.sv, n.av, n.ov] 28, rowE 80 2 n.av n.gs.length (n.gs.flatMap anC)]) (dst := [boxE b #[.int .i64 n.ins, n.sv, n.av, n.ov] 28, rowE 80 2 n.av n.gs.length (n.gs.flatMap anC)]) (l := l) [0, 1] (by decide) rfl) ?_
     refine hq_conv (netP b n n.av n.gs :: l) (conv_big (ps := [boxE b #[.int .i64 n.ins, n.sv, n.av, n.ov] 28, rowE 80 2 n.av n.gs.length (n.gs.flatMap anC)])) ?_
     exact hq_ret (rs := [.tmp 6]) (vs := [.int .i64 y]) rfl ⟨rfl, trivial⟩ rfl (fun w hm => ⟨_, netP b n n.av n.gs, rfl, ⟨_, _, _, rfl, rfl, add_one hn hx hy (by omega)⟩, hm.sub ((.cons_cons _ (.refl _)))⟩)
    ·
     refine hl_v rfl rfl rfl (rv_ev rfl) ?_
     refine hl_v rfl rfl rfl (rv_ev rfl) ?_
     refine hl_v rfl rfl rfl (rv_ev rfl) ?_
     refine hl_eql rfl rfl rfl rfl rfl rfl (fun h5 => ?_) (fun h5 => ?_)
     ·
      refine hl_v rfl rfl rfl (rv_ev rfl) ?_
      refine hl_v rfl rfl rfl (rv_ev rfl) ?_
      refine hl_less (sx 0 rfl (sx 1 rfl (sx 2 rfl (sx 6 rfl (sx 10 rfl (sx 23 rfl (sub_nil _))))))) (.refl _) ?_
      refine hl_nil ?_
      refine hq_then ?_
      refine hc_true rfl ?_
      refine hc_seq ?_
      refine hc_region ?_
      refine hl_v rfl rfl rfl (rv_ev rfl) ?_
      refine hl_v rfl rfl rfl (rv_ev rfl) ?_
      refine hl_less (sx 0 rfl (sx 1 rfl (sx 2 rfl (sx 6 rfl (sx 10 rfl (sx 23 rfl (sub_nil _))))))) (.refl _) ?_
      refine hl_nil ?_
      refine hq_then ?_
      refine hc_ret ?_
      refine hq_block_ret ?_
      refine hq_then_ret ?_
      refine hq_conv (boxE b #[.int .i64 n.ins, n.sv, n.av, n.ov] 28 :: rowE 80 2 n.av n.gs.length (n.gs.flatMap anC) :: l) (conv_pick (src := [boxE b #[.int .i64 n.ins, n.sv, n.av, n.ov] 28, rowE 80 2 n.av n.gs.length (n.gs.flatMap anC)]) (dst := [boxE b #[.int .i64 n.ins, n.sv, n.av, n.ov] 28, rowE 80 2 n.av n.gs.length (n.gs.flatMap anC)]) (l := l) [0, 1] (by decide) rfl) ?_
      refine hq_conv (netP b n n.av n.gs :: l) (conv_big (ps := [boxE b #[.int .i64 n.ins, n.sv, n.av, n.ov] 28, rowE 80 2 n.av n.gs.length (n.gs.flatMap anC)])) ?_
      exact hq_ret (rs := [.tmp 6]) (vs := [.int .i64 y]) rfl ⟨rfl, trivial⟩ rfl (fun w hm => ⟨_, netP b n n.av n.gs, rfl, ⟨_, _, _, rfl, rfl, add_one hn hx hy (by omega)⟩, hm.sub ((.cons_cons _ (.refl _)))⟩)
     ·
      refine hl_v rfl rfl rfl (rv_ev rfl) ?_
      refine hl_v rfl rfl rfl (rv_ev rfl) ?_
      refine hl_less (sx 0 rfl (sx 1 rfl (sx 2 rfl (sx 6 rfl (sx 10 rfl (sx 23 rfl (sub_nil _))))))) (.refl _) ?_
      refine hl_nil ?_
      refine hq_then ?_
      refine hc_false rfl ?_
      refine hc_seq ?_
      refine hc_region ?_
      refine hl_v rfl rfl rfl (rv_ev rfl) ?_
      refine hl_eql rfl rfl rfl rfl rfl rfl (fun h6 => ?_) (fun h6 => ?_)
      ·
       refine hl_v rfl rfl rfl (rv_ev rfl) ?_
       refine hl_less (sx 0 rfl (sx 1 rfl (sx 2 rfl (sx 6 rfl (sx 10 rfl (sx 23 rfl (sx 32 rfl (sub_nil _)))))))) (.refl _) ?_
       refine hl_nil ?_
       refine hq_then ?_
       refine hc_true rfl ?_
       refine hc_seq ?_
       refine hc_region ?_
       refine hl_v rfl rfl rfl (rv_ev rfl) ?_
       refine hl_v rfl rfl rfl (rv_ev rfl) ?_
       refine hl_less (sx 0 rfl (sx 1 rfl (sx 2 rfl (sx 6 rfl (sx 10 rfl (sx 23 rfl (sx 32 rfl (sub_nil _)))))))) (.refl _) ?_
       refine hl_nil ?_
       refine hq_then ?_
       refine hc_ret ?_
       refine hq_block_ret ?_
       refine hq_then_ret ?_
       refine hq_conv (boxE b #[.int .i64 n.ins, n.sv, n.av, n.ov] 28 :: rowE 80 2 n.av n.gs.length (n.gs.flatMap anC) :: l) (conv_pick (src := [boxE b #[.int .i64 n.ins, n.sv, n.av, n.ov] 28, rowE 80 2 n.av n.gs.length (n.gs.flatMap anC)]) (dst := [boxE b #[.int .i64 n.ins, n.sv, n.av, n.ov] 28, rowE 80 2 n.av n.gs.length (n.gs.flatMap anC)]) (l := l) [0, 1] (by decide) rfl) ?_
       refine hq_conv (netP b n n.av n.gs :: l) (conv_big (ps := [boxE b #[.int .i64 n.ins, n.sv, n.av, n.ov] 28, rowE 80 2 n.av n.gs.length (n.gs.flatMap anC)])) ?_
       exact hq_ret (rs := [.tmp 6]) (vs := [.int .i64 x]) rfl ⟨rfl, trivial⟩ rfl (fun w hm => ⟨_, netP b n n.av n.gs, rfl, ⟨_, _, _, rfl, rfl, (add_one hn hy hx (by omega)).swap⟩, hm.sub ((.cons_cons _ (.refl _)))⟩)
      ·
       refine hl_v rfl rfl rfl (rv_ev rfl) ?_
       refine hl_less (sx 0 rfl (sx 1 rfl (sx 2 rfl (sx 6 rfl (sx 10 rfl (sx 23 rfl (sx 32 rfl (sub_nil _)))))))) (.refl _) ?_
       refine hl_nil ?_
       refine hq_then ?_
       refine hc_false rfl ?_
       refine hc_skip ?_
       refine hq_block_normal ?_
       refine hq_then ?_
       refine hc_seq ?_
       refine hc_region ?_
       refine hl_v rfl rfl rfl (rv_ev rfl) ?_
       refine hl_v rfl rfl rfl (rv_ev rfl) ?_
       refine hl_v rfl rfl rfl (rv_min rfl rfl rfl) ?_
       refine hl_v rfl rfl rfl (rv_ev rfl) ?_
       refine hl_v rfl rfl rfl (rv_ev rfl) ?_
       refine hl_v rfl rfl rfl (rv_max rfl rfl rfl) ?_
       refine hl_v rfl rfl rfl (rv_build (cs := #[.int .i64 (min x y), .int .i64 (if x < y then y else x)]) rfl rfl (by kernel_rfl)) ?_
       refine hl_box rfl rfl rfl (rq_alloc (z := .agg #[.int .i64 0, .int .i64 0]) rfl (by kernel_rfl)) ?_
       intro b7
       refine hl_storeBoxN (i := 0) (off := 0) (us := [.int .i64 (min x y), .int .i64 (if x < y then y else x)]) (l' := (boxE b7 #[.int .i64 (min x y), .int .i64 (if x < y then y else x)] 80 :: boxE b #[.int .i64 n.ins, n.sv, n.av, n.ov] 28 :: rowE 80 2 n.av n.gs.length (n.gs.flatMap anC) :: l)) rfl rfl rfl (by kernel_rfl) rfl rfl rfl (all_cons rfl (all_cons rfl all_nil)) rfl rfl rfl ?_
       refine hl_less (sx 0 rfl (sx 1 rfl (sx 2 rfl (sx 6 rfl (sx 7 rfl (sx 10 rfl (sx 23 rfl (sx 32 rfl (sub_nil _))))))))) (.refl _) ?_
       refine hl_nil ?_
       refine hq_then ?_
       refine hc_seq ?_
       refine hc_seq ?_
       refine hc_region ?_
       refine hl_v rfl rfl rfl (rv_ev rfl) ?_
       refine hl_v rfl rfl rfl (rv_nilCheck rfl rfl) ?_
       refine hl_v rfl rfl rfl (rv_field (k0 := 2) rfl (by kernel_rfl) rfl) ?_
       refine hl_v rfl rfl rfl (rv_load rfl (by kernel_rfl) rfl (box_cell 1 rfl rfl)) ?_
       refine hl_v rfl rfl rfl (rv_len rfl Try.underlying25 rfl (rd_row 2 rfl)) ?_
       refine hl_v rfl rfl rfl (rv_ev rfl) ?_
       refine hl_less (sx 0 rfl (sx 1 rfl (sx 2 rfl (sx 6 rfl (sx 7 rfl (sx 10 rfl (sx 23 rfl (sx 32 rfl (sx 46 rfl (sx 47 rfl (sx 48 rfl (sub_nil _)))))))))))) (.refl _) ?_
       refine hl_nil ?_
       refine hq_then ?_
       refine hc_block ?_
       refine hc_loop1 (α := Nat) (fun i => (boxE b7 #[.int .i64 (min x y), .int .i64 (if x < y then y else x)] 80 :: boxE b #[.int .i64 n.ins, n.sv, n.av, n.ov] 28 :: rowE 80 2 n.av n.gs.length (n.gs.flatMap anC) :: l)) (fun i => [(0, .pointer (some ⟨b, 0, none⟩)), (1, .int .i64 x), (2, .int .i64 y), (6, .int .i64 0), (7, .pointer (some ⟨b7, 0, none⟩)), (10, .bool false), (23, .bool false), (32, .bool false), (46, n.av), (47, .int .i64 (n.gs.length : Int)), (48, .int .i64 (i : Int))]) (fun i => i ≤ n.gs.length) (fun i => n.gs.length - i) 0 (Nat.zero_le _) (sx 0 rfl (sx 1 rfl (sx 2 rfl (sx 6 rfl (sx 7 rfl (sx 10 rfl (sx 23 rfl (sx 32 rfl (sx 46 rfl (sx 47 rfl (sx 48 rfl (sub_nil _)))))))))))) ((.cons_cons _ (.cons_cons _ (.cons_cons _ (.refl _))))) ?_
       intro i hi8
       have hi := hi8
       refine hc_seq ?_
       refine hc_region ?_
       refine hl_lss rfl rfl rfl rfl rfl rfl (fun h9 => ?_) (fun h9 => ?_)
       ·
        refine hl_less (sx 0 rfl (sx 1 rfl (sx 2 rfl (sx 6 rfl (sx 7 rfl (sx 10 rfl (sx 23 rfl (sx 32 rfl (sx 46 rfl (sx 47 rfl (sx 48 rfl (sx 49 rfl (sub_nil _))))))))))))) (.refl _) ?_
        refine hl_nil ?_
        refine hq_then ?_
        refine hc_seq ?_
        refine hc_true rfl ?_
        refine hc_skip ?_
        refine hq_then ?_
        refine hc_seq ?_
        refine hc_block ?_
        refine hc_seq ?_
        refine hc_region ?_
        refine hl_v rfl rfl rfl (rv_ev rfl) ?_
        refine hl_v rfl rfl rfl (rv_index (s := 2) rfl Try.underlying25 (by kernel_rfl) rfl rfl (rd_row 2 rfl) (by omega) (by first | omega | (simp only [List.length_set]; omega))) ?_
        refine hl_v rfl rfl rfl (rv_loadElN (us := [.int .i64 ((n.gs.getD i an0).a), .int .i64 ((n.gs.getD i an0).b)]) rfl (by kernel_rfl) (by kernel_rfl) rfl (rd_row 2 rfl) (by omega) rfl (flat_atN anC 2 (fun _ => rfl) n.gs an0 (show i < _ by first | omega | (simp only [List.length_set]; omega)) rfl)) ?_
        refine hl_box rfl rfl rfl (rq_alloc (z := .agg #[.int .i64 0, .int .i64 0]) rfl (by kernel_rfl)) ?_
        intro b10
        refine hl_v rfl rfl rfl (rv_ev rfl) ?_
        refine hl_storeBoxN (i := 0) (off := 0) (us := [.int .i64 ((n.gs.getD i an0).a), .int .i64 ((n.gs.getD i an0).b)]) (l' := (boxE b10 #[.int .i64 ((n.gs.getD i an0).a), .int .i64 ((n.gs.getD i an0).b)] 80 :: boxE b7 #[.int .i64 (min x y), .int .i64 (if x < y then y else x)] 80 :: boxE b #[.int .i64 n.ins, n.sv, n.av, n.ov] 28 :: rowE 80 2 n.av n.gs.length (n.gs.flatMap anC) :: l)) rfl rfl rfl (by kernel_rfl) rfl rfl rfl (all_cons rfl (all_cons rfl all_nil)) rfl rfl rfl ?_
        refine hl_less (sx 0 rfl (sx 1 rfl (sx 2 rfl (sx 6 rfl (sx 7 rfl (sx 8 rfl (sx 9 rfl (sx 10 rfl (sx 23 rfl (sx 32 rfl (sx 46 rfl (sx 47 rfl (sx 48 rfl (sx 49 rfl (sub_nil _))))))))))))))) (.refl _) ?_
        refine hl_nil ?_
        refine hq_then ?_
        refine hc_seq ?_
        refine hc_region ?_
        refine hl_v rfl rfl rfl (rv_loadN (cs := [.int .i64 (min x y), .int .i64 (if x < y then y else x)]) rfl (by kernel_rfl) (by kernel_rfl) rfl rfl (box_part 1 rfl 0 rfl)) ?_
        refine hl_v rfl rfl rfl (rv_loadN (cs := [.int .i64 ((n.gs.getD i an0).a), .int .i64 ((n.gs.getD i an0).b)]) rfl (by kernel_rfl) (by kernel_rfl) rfl rfl (box_part 0 rfl 0 rfl)) ?_
        refine hl_v rfl rfl rfl (rv_eqAn rfl rfl rfl) ?_
        refine hl_bool (fun h11 => ?_) (fun h11 => ?_)
        ·
         obtain ⟨hq1, hq2⟩ := eqA_yes h11
         refine hl_less (sx 0 rfl (sx 1 rfl (sx 2 rfl (sx 6 rfl (sx 7 rfl (sx 8 rfl (sx 9 rfl (sx 10 rfl (sx 23 rfl (sx 32 rfl (sx 46 rfl (sx 47 rfl (sx 48 rfl (sx 49 rfl (sx 55 rfl (sub_nil _)))))))))))))))) (.refl _) ?_
         refine hl_nil ?_
         refine hq_then ?_
         refine hc_true rfl ?_
         refine hc_seq ?_
         refine hc_region ?_
         refine hl_v rfl rfl rfl (rv_ev rfl) ?_
         refine hl_v rfl rfl rfl (rv_nilCheck rfl rfl) ?_
         refine hl_v rfl rfl rfl (rv_loadN (cs := [.int .i64 n.ins, n.sv, n.av, n.ov]) rfl (by kernel_rfl) (by kernel_rfl) rfl rfl (box_part 2 rfl 0 rfl)) ?_
         refine hl_callV rfl rfl rfl (rq_call (by kernel_rfl) rfl (fun w hm => ret_ans (firstAnd_yes ({ n with av := n.av, gs := n.gs } : Nt) w (let h9 := hso w (hm.sub (.cons _ (.cons _ (.cons _ (.cons _ (.refl _)))))); ⟨h9.1, h9.2.1, rd_row 3 rfl w hm, h9.2.2⟩) (nt_like hn)))) ?_
         refine hl_v rfl rfl rfl (rv_ev rfl) ?_
         refine hl_v rfl rfl rfl (rv_add rfl rfl rfl (by constructor <;> omega)) ?_
         refine hl_v rfl rfl rfl (rv_mul rfl rfl rfl (by constructor <;> omega)) ?_
         refine hl_v rfl rfl rfl (rv_ev rfl) ?_
         refine hl_less (sx 0 rfl (sx 1 rfl (sx 2 rfl (sx 6 rfl (sx 7 rfl (sx 8 rfl (sx 9 rfl (sx 10 rfl (sx 23 rfl (sx 32 rfl (sx 46 rfl (sx 47 rfl (sx 48 rfl (sx 49 rfl (sx 55 rfl (sub_nil _)))))))))))))))) (.refl _) ?_
         refine hl_nil ?_
         refine hq_then ?_
         refine hc_ret ?_
         refine hq_block_ret ?_
         refine hq_then_ret ?_
         refine hq_then_ret ?_
         refine hq_block_ret ?_
         refine hq_then_ret ?_
         refine hq_conv (boxE b #[.int .i64 n.ins, n.sv, n.av, n.ov] 28 :: rowE 80 2 n.av n.gs.length (n.gs.flatMap anC) :: l) (conv_pick (src := [boxE b10 #[.int .i64 ((n.gs.getD i an0).a), .int .i64 ((n.gs.getD i an0).b)] 80, boxE b7 #[.int .i64 (min x y), .int .i64 (if x < y then y else x)] 80, boxE b #[.int .i64 n.ins, n.sv, n.av, n.ov] 28, rowE 80 2 n.av n.gs.length (n.gs.flatMap anC)]) (dst := [boxE b #[.int .i64 n.ins, n.sv, n.av, n.ov] 28, rowE 80 2 n.av n.gs.length (n.gs.flatMap anC)]) (l := l) [2, 3] (by decide) rfl) ?_
         refine hq_conv (netP b n n.av n.gs :: l) (conv_big (ps := [boxE b #[.int .i64 n.ins, n.sv, n.av, n.ov] 28, rowE 80 2 n.av n.gs.length (n.gs.flatMap anC)])) ?_
         exact hq_ret (rs := [.tmp 6]) (vs := [.int .i64 (2 * (n.fst + (i : Int)))]) rfl ⟨rfl, trivial⟩ rfl (fun w hm => ⟨_, netP b n n.av n.gs, rfl, ⟨_, _, _, rfl, rfl, add_found hn (by omega) hq1.symm (by rw [← hq2]; exact hmx)⟩, hm.sub ((.cons_cons _ (.refl _)))⟩)
        ·
         refine hl_less (sx 0 rfl (sx 1 rfl (sx 2 rfl (sx 6 rfl (sx 7 rfl (sx 8 rfl (sx 9 rfl (sx 10 rfl (sx 23 rfl (sx 32 rfl (sx 46 rfl (sx 47 rfl (sx 48 rfl (sx 49 rfl (sx 55 rfl (sub_nil _)))))))))))))))) (.refl _) ?_
         refine hl_nil ?_
         refine hq_then ?_
         refine hc_false rfl ?_
         refine hc_skip ?_
         refine hq_block_normal ?_
         refine hq_then ?_
         refine hc_region ?_
         refine hl_v rfl rfl rfl (rv_add rfl rfl rfl (by constructor <;> omega)) ?_
         refine hl_v rfl rfl rfl (rv_ev rfl) ?_
         refine hl_less (sx 0 rfl (sx 1 rfl (sx 2 rfl (sx 6 rfl (sx 7 rfl (sx 8 rfl (sx 9 rfl (sx 10 rfl (sx 23 rfl (sx 32 rfl (sx 46 rfl (sx 47 rfl (sx 48 rfl (sx 49 rfl (sx 55 rfl (sub_nil _)))))))))))))))) (.refl _) ?_
         refine hl_nil ?_
         exact hq_round1 (i + 1) (by omega) (by omega) (sx 0 rfl (sx 1 rfl (sx 2 rfl (sx 6 rfl (sx 7 rfl (sx 10 rfl (sx 23 rfl (sx 32 rfl (sx 46 rfl (sx 47 rfl (sx 48 rfl (sub_nil _)))))))))))) ((.cons _ (.cons_cons _ (.cons_cons _ (.cons_cons _ (.refl _))))))
       ·
        refine hl_less (sx 0 rfl (sx 1 rfl (sx 2 rfl (sx 6 rfl (sx 7 rfl (sx 10 rfl (sx 23 rfl (sx 32 rfl (sx 46 rfl (sx 47 rfl (sx 48 rfl (sx 49 rfl (sub_nil _))))))))))))) (.refl _) ?_
        refine hl_nil ?_
        refine hq_then ?_
        refine hc_seq ?_
        refine hc_false rfl ?_
        refine hc_exit ?_
        refine hq_then_exit ?_
        refine hq_then_exit ?_
        refine hq_block_exit ?_
        refine hq_then ?_
        refine hc_seq ?_
        refine hc_seq ?_
        refine hc_region ?_
        refine hl_v rfl rfl rfl (rv_ev rfl) ?_
        refine hl_v rfl rfl rfl (rv_nilCheck rfl rfl) ?_
        refine hl_v rfl rfl rfl (rv_field (k0 := 2) rfl (by kernel_rfl) rfl) ?_
        refine hl_v rfl rfl rfl (rv_load rfl (by kernel_rfl) rfl (box_cell 1 rfl rfl)) ?_
        refine hl_v rfl rfl rfl (rv_len rfl Try.underlying25 rfl (rd_row 2 rfl)) ?_
        refine hl_geq rfl rfl rfl rfl rfl rfl (fun h12 => absurd h12 (by omega)) (fun h12 => ?_)
        refine hl_less (sx 0 rfl (sx 1 rfl (sx 2 rfl (sx 6 rfl (sx 7 rfl (sx 10 rfl (sx 23 rfl (sx 32 rfl (sx 46 rfl (sx 47 rfl (sx 48 rfl (sx 49 rfl (sx 69 rfl (sub_nil _)))))))))))))) (.refl _) ?_
        refine hl_nil ?_
        refine hq_then ?_
        refine hc_false rfl ?_
        refine hc_skip ?_
        refine hq_then ?_
        refine hc_seq ?_
        refine hc_conv (rowE 80 2 n.av n.gs.length (n.gs.flatMap anC) :: boxE b7 #[.int .i64 (min x y), .int .i64 (if x < y then y else x)] 80 :: boxE b #[.int .i64 n.ins, n.sv, n.av, n.ov] 28 :: l) (conv_pick (src := [boxE b7 #[.int .i64 (min x y), .int .i64 (if x < y then y else x)] 80, boxE b #[.int .i64 n.ins, n.sv, n.av, n.ov] 28, rowE 80 2 n.av n.gs.length (n.gs.flatMap anC)]) (dst := [rowE 80 2 n.av n.gs.length (n.gs.flatMap anC), boxE b7 #[.int .i64 (min x y), .int .i64 (if x < y then y else x)] 80, boxE b #[.int .i64 n.ins, n.sv, n.av, n.ov] 28]) (l := l) [2, 0, 1] (by decide) rfl) ?_
        refine hc_draw3 (l := (boxE b7 #[.int .i64 (min x y), .int .i64 (if x < y then y else x)] 80 :: boxE b #[.int .i64 n.ins, n.sv, n.av, n.ov] 28 :: l)) (by kernel_rfl) 8 [0, 1, 2, 3, 4, 5, 6, 7] (List.take 8 _) (List.drop 8 _) [[], [], [1], [2], [3], [], [5], [4, 6]] [some 70, some 71, some 72, some 73, some 74, some 75, some 76, some 77] (fun i_ vs_ v_ p_ => match i_ with | 0 => v_ = .pointer (some ⟨b, 0, none⟩) ∧ p_ = [] | 1 => v_ = .pointer (some ⟨b, 0, none⟩) ∧ p_ = [] | 2 => v_ = .pointer (some ⟨b, 0, none⟩) ∧ p_ = [] | 3 => v_ = .pointer (some ⟨b, 0 + 2, none⟩) ∧ p_ = [] | 4 => v_ = n.av ∧ p_ = [] | 5 => v_ = .agg #[.int .i64 (min x y), .int .i64 (if x < y then y else x)] ∧ p_ = [] | 6 => IsRow_o 80 2 1 ([min x y, (if x < y then y else x)].map (Value.int .i64)) v_ p_ | 7 => (∃ pm_, p_ = [pm_] ∧ (fun u_ p_ => p_ = rowE 80 2 u_ ((n.gs ++ [An.mk (min x y) (if x < y then y else x)]).length) ((n.gs ++ [An.mk (min x y) (if x < y then y else x)]).flatMap anC)) v_ pm_) | _ => True) [[], [], [1], [2], [3], [], [5], [4, 6]] [none, none, none, none, none, none, none, some 11] [[rowE 80 2 n.av n.gs.length (n.gs.flatMap anC)]] [0, 1, 2, 3, 4, 5, 6, 7] 11 (List.take_append_drop 8 _).symm (by kernel_rfl) (by kernel_rfl) (by kernel_rfl) rfl rfl ?_ ?_
        ·
         refine ⟨?_, ?_, ?_, ?_, ?_, ?_, ?_, ?_, trivial⟩
         ·
          intro vf pf hmu hR
          refine Or.inl ⟨rfl, ?_⟩
          show RunQ _ _ _ (([] : List Nat).flatMap pf ++ _) (envOf3 _ vf [] ++ _) _ _
          refine rq_less (sx 0 rfl (sub_nil _)) (List.sublist_append_right _ _) ?_
          exact rq_v (rv_ev rfl)
         ·
          intro vf pf hmu hR
          refine Or.inl ⟨rfl, ?_⟩
          show RunQ _ _ _ (([] : List Nat).flatMap pf ++ _) (envOf3 _ vf [] ++ _) _ _
          refine rq_less (sx 0 rfl (sub_nil _)) (List.sublist_append_right _ _) ?_
          exact rq_v (rv_ev rfl)
         ·
          intro vf pf hmu hR
          have e1 : (vf 1) = .pointer (some ⟨b, 0, none⟩) ∧ (pf 1) = [] := hR 1 (by decide)
          refine Or.inl ⟨rfl, ?_⟩
          show RunQ _ _ _ (([1] : List Nat).flatMap pf ++ _) (envOf3 _ vf [1] ++ _) _ _
          refine rq_less (sx 71 (congrArg some e1.1) (sub_nil _)) (List.sublist_append_right _ _) ?_
          exact rq_v (rv_nilCheck rfl rfl)
         ·
          intro vf pf hmu hR
          have e2 : (vf 2) = .pointer (some ⟨b, 0, none⟩) ∧ (pf 2) = [] := hR 2 (by decide)
          refine Or.inl ⟨rfl, ?_⟩
          show RunQ _ _ _ (([2] : List Nat).flatMap pf ++ _) (envOf3 _ vf [2] ++ _) _ _
          refine rq_less (sx 72 (congrArg some e2.1) (sub_nil _)) (List.sublist_append_right _ _) ?_
          exact rq_v (rv_field (k0 := 2) rfl (by kernel_rfl) rfl)
         ·
          intro vf pf hmu hR
          have e3 : (vf 3) = .pointer (some ⟨b, 0 + 2, none⟩) ∧ (pf 3) = [] := hR 3 (by decide)
          refine Or.inl ⟨rfl, ?_⟩
          show RunQ _ _ _ (([3] : List Nat).flatMap pf ++ _) (envOf3 _ vf [3] ++ _) _ _
          refine rq_less (sx 73 (congrArg some e3.1) (sub_nil _)) (List.sublist_append_right _ _) ?_
          exact rq_v (rv_load rfl (by kernel_rfl) rfl (box_cell 1 rfl rfl))
         ·
          intro vf pf hmu hR
          refine Or.inl ⟨rfl, ?_⟩
          show RunQ _ _ _ (([] : List Nat).flatMap pf ++ _) (envOf3 _ vf [] ++ _) _ _
          refine rq_less (sx 7 rfl (sub_nil _)) (List.sublist_append_right _ _) ?_
          exact rq_v (rv_loadN (cs := [.int .i64 (min x y), .int .i64 (if x < y then y else x)]) rfl (by kernel_rfl) (by kernel_rfl) rfl rfl (box_part 0 rfl 0 rfl))
         ·
          intro vf pf hmu hR
          have e5 : (vf 5) = .agg #[.int .i64 (min x y), .int .i64 (if x < y then y else x)] ∧ (pf 5) = [] := hR 5 (by decide)
          refine Or.inl ⟨rfl, ?_⟩
          show RunQ _ _ _ (([5] : List Nat).flatMap pf ++ _) (envOf3 _ vf [5] ++ _) _ _
          refine rq_less (sx 75 (congrArg some e5.1) (sub_nil _)) (List.sublist_append_right _ _) ?_
          exact rq_buildSlice (z := .agg #[.int .i64 0, .int .i64 0]) (s := 2) (cs := ([min x y, (if x < y then y else x)].map (Value.int .i64))) rfl Try.underlying25 (by kernel_rfl) (by decide) rfl (by kernel_rfl) rfl
         ·
          intro vf pf hmu hR
          have e4 : (vf 4) = n.av ∧ (pf 4) = [] := hR 4 (by decide)
          have e6 : IsRow_o 80 2 1 ([min x y, (if x < y then y else x)].map (Value.int .i64)) (vf 6) (pf 6) := hR 6 (by decide)
          obtain ⟨g13, v6, p6⟩ := e6
          refine Or.inl ⟨rfl, ?_⟩
          show RunM _ _ _ (pf 11) (([4, 6] : List Nat).flatMap pf ++ _) (envOf3 _ vf [4, 6] ++ _) _ _
          have hmu0 : pf 11 = [rowE 80 2 n.av n.gs.length (n.gs.flatMap anC)] := hmu 0 (show 0 < 1 by omega)
          rw [hmu0]
          refine rm_less (X' := (rowE 80 2 (.slice (some ⟨g13, 0, none⟩) 1 1) 1 ([min x y, (if x < y then y else x)].map (Value.int .i64)) :: boxE b7 #[.int .i64 (min x y), .int .i64 (if x < y then y else x)] 80 :: boxE b #[.int .i64 n.ins, n.sv, n.av, n.ov] 28 :: l)) (sx 74 (congrArg some e4.1) (sx 76 (congrArg some v6) (sub_nil _))) (by first | (simp only [p6, v6, e4.2, List.flatMap_cons, List.flatMap_nil, List.append_nil, List.nil_append, List.cons_append]; exact List.Sublist.refl _) | simp [p6, v6, e4.2]) ?_
          exact rm_append (d := 0) (z := .agg #[.int .i64 0, .int .i64 0]) (bytes := 16) (n' := (n.gs ++ [An.mk (min x y) (if x < y then y else x)]).length) (xs' := ((n.gs ++ [An.mk (min x y) (if x < y then y else x)]).flatMap anC)) rfl Try.underlying25 (by kernel_rfl) (by kernel_rfl) rfl rfl (rd_row 0 rfl) (ints_one _) (by first | omega | (simp only [List.length_append, List.length_cons, List.length_nil]; omega)) (len_app n.gs [An.mk (min x y) (if x < y then y else x)]) (flat_app1 anC n.gs (An.mk (min x y) (if x < y then y else x)) _ rfl)
        ·
         intro vf pf hmu hR
         have e0 : (vf 0) = .pointer (some ⟨b, 0, none⟩) ∧ (pf 0) = [] := hR 0 (by decide)
         have e6 : IsRow_o 80 2 1 ([min x y, (if x < y then y else x)].map (Value.int .i64)) (vf 6) (pf 6) := hR 6 (by decide)
         obtain ⟨g13, v6, p6⟩ := e6
         have e7 : (∃ pm_, (pf 7) = [pm_] ∧ (fun u_ p_ => p_ = rowE 80 2 u_ ((n.gs ++ [An.mk (min x y) (if x < y then y else x)]).length) ((n.gs ++ [An.mk (min x y) (if x < y then y else x)]).flatMap anC)) (vf 7) pm_) := hR 7 (by decide)
         obtain ⟨p15, p7, hR16⟩ := e7
         obtain ⟨v14, v7⟩ : ∃ x, vf 7 = x := ⟨_, rfl⟩
         rw [v7] at hR16
         subst hR16
         have q0 : (vf 0) = .pointer (some ⟨b, 0, none⟩) ∧ (pf 0) = [] := hR 0 (by decide)
         have q1 : (vf 1) = .pointer (some ⟨b, 0, none⟩) ∧ (pf 1) = [] := hR 1 (by decide)
         have q2 : (vf 2) = .pointer (some ⟨b, 0, none⟩) ∧ (pf 2) = [] := hR 2 (by decide)
         have q3 : (vf 3) = .pointer (some ⟨b, 0 + 2, none⟩) ∧ (pf 3) = [] := hR 3 (by decide)
         have q4 : (vf 4) = n.av ∧ (pf 4) = [] := hR 4 (by decide)
         have q5 : (vf 5) = .agg #[.int .i64 (min x y), .int .i64 (if x < y then y else x)] ∧ (pf 5) = [] := hR 5 (by decide)
         refine hl_less (l' := (rowE 80 2 (.slice (some ⟨g13, 0, none⟩) 1 1) 1 ([min x y, (if x < y then y else x)].map (Value.int .i64)) :: rowE 80 2 v14 ((n.gs ++ [An.mk (min x y) (if x < y then y else x)]).length) ((n.gs ++ [An.mk (min x y) (if x < y then y else x)]).flatMap anC) :: boxE b7 #[.int .i64 (min x y), .int .i64 (if x < y then y else x)] 80 :: boxE b #[.int .i64 n.ins, n.sv, n.av, n.ov] 28 :: l)) (sx 0 rfl (sx 1 rfl (sx 2 rfl (sx 6 rfl (sx 7 rfl (sx 10 rfl (sx 23 rfl (sx 32 rfl (sx 46 rfl (sx 47 rfl (sx 48 rfl (sx 49 rfl (sx 69 rfl (sx 70 (congrArg some e0.1) (sx 77 (congrArg some v7) (sub_nil _)))))))))))))))) (by first | (simp only [p6, v6, p7, v7, q0.2, q1.2, q2.2, q3.2, q4.2, q5.2, List.flatMap_cons, List.flatMap_nil, List.append_nil, List.nil_append, List.cons_append]; exact List.Sublist.refl _) | simp [p6, v6, p7, v7, q0.2, q1.2, q2.2, q3.2, q4.2, q5.2]) ?_
         simp only [List.drop_succ_cons, List.drop_zero]
         refine hl_v rfl rfl rfl (rv_nilCheck rfl rfl) ?_
         refine hl_v rfl rfl rfl (rv_field (k0 := 2) rfl (by kernel_rfl) rfl) ?_
         refine hl_one (i := 1) rfl (fun ho17 => ?_)
         refine hl_storeBox (i := 3) (l' := (rowE 80 2 (.slice (some ⟨g13, 0, none⟩) 1 1) 1 ([min x y, (if x < y then y else x)].map (Value.int .i64)) :: rowE 80 2 v14 ((n.gs ++ [An.mk (min x y) (if x < y then y else x)]).length) ((n.gs ++ [An.mk (min x y) (if x < y then y else x)]).flatMap anC) :: boxE b7 #[.int .i64 (min x y), .int .i64 (if x < y then y else x)] 80 :: boxE b #[.int .i64 n.ins, n.sv, v14, n.ov] 28 :: l)) rfl rfl rfl (by kernel_rfl) rfl rfl ho17 rfl rfl rfl ?_
         refine hl_less (sx 0 rfl (sx 1 rfl (sx 2 rfl (sx 6 rfl (sx 7 rfl (sx 10 rfl (sx 23 rfl (sx 32 rfl (sx 46 rfl (sx 47 rfl (sx 48 rfl (sx 49 rfl (sx 69 rfl (sub_nil _)))))))))))))) (.refl _) ?_
         refine hl_nil ?_
         refine hq_then ?_
         refine hc_seq ?_
         refine hc_region ?_
         have hnew2 : AddOk n n.gs (n.gs ++ [An.mk (min x y) (if x < y then y else x)]) (2 * (n.fst + n.gs.length)) 1 (fAnd x y) := by rw [hmx]; exact hnew
         have hlen9 : (n.gs ++ [An.mk (min x y) (if x < y then y else x)]).length = n.gs.length + 1 := by simp
         have hcnt9 : ({ n with av := v14, gs := n.gs ++ [An.mk (min x y) (if x < y then y else x)] } : Nt).cnt = n.fst + (n.gs ++ [An.mk (min x y) (if x < y then y else x)]).length := rfl
         refine hl_v rfl rfl rfl (rv_ev rfl) ?_
         refine hl_v rfl rfl rfl (rv_nilCheck rfl rfl) ?_
         refine hl_v rfl rfl rfl (rv_loadN (cs := [.int .i64 n.ins, n.sv, v14, n.ov]) rfl (by kernel_rfl) (by kernel_rfl) rfl rfl (box_part 3 rfl 0 rfl)) ?_
         refine hl_callV rfl rfl rfl (rq_call (by kernel_rfl) rfl (fun w hm => ret_ans (implnodeCount_yes ({ n with av := v14, gs := n.gs ++ [An.mk (min x y) (if x < y then y else x)] } : Nt) w (let h9 := hso w (hm.sub (.cons _ (.cons _ (.cons _ (.cons _ (.refl _)))))); ⟨h9.1, h9.2.1, rd_row 1 rfl w hm, h9.2.2⟩) (nt_like hnew2.ok)))) ?_
         refine hl_v rfl rfl rfl (rv_sub rfl rfl rfl (by constructor <;> omega)) ?_
         refine hl_v rfl rfl rfl (rv_mul rfl rfl rfl (by constructor <;> omega)) ?_
         refine hl_v rfl rfl rfl (rv_ev rfl) ?_
         refine hl_less (sx 0 rfl (sx 1 rfl (sx 2 rfl (sx 6 rfl (sx 7 rfl (sx 10 rfl (sx 23 rfl (sx 32 rfl (sx 46 rfl (sx 47 rfl (sx 48 rfl (sx 49 rfl (sx 69 rfl (sub_nil _)))))))))))))) (.refl _) ?_
         refine hl_nil ?_
         refine hq_then ?_
         refine hc_ret ?_
         refine hq_conv (boxE b #[.int .i64 n.ins, n.sv, v14, n.ov] 28 :: rowE 80 2 v14 ((n.gs ++ [An.mk (min x y) (if x < y then y else x)]).length) ((n.gs ++ [An.mk (min x y) (if x < y then y else x)]).flatMap anC) :: l) (conv_pick (src := [rowE 80 2 (.slice (some ⟨g13, 0, none⟩) 1 1) 1 ([min x y, (if x < y then y else x)].map (Value.int .i64)), rowE 80 2 v14 ((n.gs ++ [An.mk (min x y) (if x < y then y else x)]).length) ((n.gs ++ [An.mk (min x y) (if x < y then y else x)]).flatMap anC), boxE b7 #[.int .i64 (min x y), .int .i64 (if x < y then y else x)] 80, boxE b #[.int .i64 n.ins, n.sv, v14, n.ov] 28]) (dst := [boxE b #[.int .i64 n.ins, n.sv, v14, n.ov] 28, rowE 80 2 v14 ((n.gs ++ [An.mk (min x y) (if x < y then y else x)]).length) ((n.gs ++ [An.mk (min x y) (if x < y then y else x)]).flatMap anC)]) (l := l) [3, 1] (by decide) rfl) ?_
         refine hq_conv (netP b n v14 (n.gs ++ [An.mk (min x y) (if x < y then y else x)]) :: l) (conv_big (ps := [boxE b #[.int .i64 n.ins, n.sv, v14, n.ov] 28, rowE 80 2 v14 ((n.gs ++ [An.mk (min x y) (if x < y then y else x)]).length) ((n.gs ++ [An.mk (min x y) (if x < y then y else x)]).flatMap anC)])) ?_
         exact hq_ret (rs := [.tmp 6]) (vs := [.int .i64 (2 * ((n.fst + (n.gs ++ [An.mk (min x y) (if x < y then y else x)]).length) - 1))]) rfl ⟨rfl, trivial⟩ rfl (fun w hm => ⟨_, netP b n v14 (n.gs ++ [An.mk (min x y) (if x < y then y else x)]), rfl, ⟨_, _, _, rfl, rfl, (by rw [show (2 * ((n.fst + (n.gs ++ [An.mk (min x y) (if x < y then y else x)]).length) - 1)) = 2 * (n.fst + (n.gs.length : Int)) by omega]; exact hnew2)⟩, hm.sub ((.cons_cons _ (.refl _)))⟩)
open Go.RowKit
theorem AddOk.like {n : Nt} {v : Value} {g0 g g2 : List An} {x : Int} {k : Nat} {f : (Int → Int) → Int} (h : AddOk { n with av := v, gs := g0 } g g2 x k f) : AddOk n g g2 x k f := ⟨h.ext, ⟨h.ok.i0, h.ok.i1, h.ok.s1, h.ok.a1, h.ok.o1, h.ok.sq, h.ok.xs, h.ok.an, h.ok.ou⟩, h.lit, h.val⟩
theorem addAnd_on (b : Nat) (n : Nt) (v : Value) (g : List An) (x y : Int) (w0 : World) (l : List HP) (w : World) (hm0 : Mem w0 (netP b n v g :: l) w) (hn : NtOk (withG n g)) (hx : LtOk x (n.fst + g.length)) (hy : LtOk y (n.fst + g.length)) (hl : g.length < 300) (hso : ∀ w, Mem w0 l w → RdsW w n.sv 3 n.ss.length (n.ss.flatMap sqC) ∧ (∀ s ∈ n.ss, RdsW w s.iv 1 s.xs.length (s.xs.map (Value.int .i64))) ∧ RdsW w n.ov 1 n.os.length (n.os.map (Value.int .i64))) (hone : n.sv.oneCell' = true ∧ n.ov.oneCell' = true) :
    Calls Try.prog 74 #[.pointer (some ⟨b, 0, none⟩), .int .i64 x, .int .i64 y] w (fun e_ w_ => ∃ v_ p_, e_ = .returned v_ ∧ (fun u_ p_ => ∃ z v_ g_, u_ = .int .i64 z ∧ p_ = netP b n v_ g_ ∧ AddOk n g g_ z 1 (fAnd x y)) v_ p_ ∧ Mem w0 (p_ :: l) w_) := by
  refine (addAnd_mut b { n with av := v, gs := g } x y w0 l w hm0.unbig ⟨hn.i0, hn.i1, hn.s1, hn.a1, hn.o1, hn.sq, hn.xs, hn.an, hn.ou⟩ hx hy hl hso hone).mono ?_
  rintro e w' ⟨u, p, rfl, ⟨z, v2, g2, rfl, rfl, ha⟩, hm⟩
  exact ⟨_, _, rfl, ⟨z, v2, g2, rfl, rfl, ha.like⟩, hm⟩
set_option maxHeartbeats 4000000 in
set_option maxRecDepth 100000 in
theorem addOr_mut (b : Nat) (n : Nt) (v : Value) (g : List An) (x y : Int) (w0 : World) (l : List HP) (w : World) (hm0 : Mem w0 (netP b n v g :: l) w) (hn : NtOk (withG n g)) (hx : LtOk x (n.fst + g.length)) (hy : LtOk y (n.fst + g.length)) (hl : g.length + 1 ≤ 300) (hso : ∀ w, Mem w0 l w → RdsW w n.sv 3 n.ss.length (n.ss.flatMap sqC) ∧ (∀ s ∈ n.ss, RdsW w s.iv 1 s.xs.length (s.xs.map (Value.int .i64))) ∧ RdsW w n.ov 1 n.os.length (n.os.map (Value.int .i64))) (hone : n.sv.oneCell' = true ∧ n.ov.oneCell' = true) :
  Calls Try.prog 76 #[.pointer (some ⟨b, 0, none⟩), .int .i64 x, .int .i64 y] w (fun e_ w_ => ∃ v_ p_, e_ = .returned v_ ∧ (fun u_ p_ => ∃ z v_ g_, u_ = .int .i64 z ∧ p_ = netP b n v_ g_ ∧ AddOk n g g_ z 1 (fOr x y)) v_ p_ ∧ Mem w0 (p_ :: l) w_) := by
 have hi0 : 0 ≤ n.ins := hn.i0
 have hi1 : n.ins ≤ 20 := hn.i1
 have hs1 : n.ss.length ≤ 12 := hn.s1
 have hf : n.fst = 1 + n.ins + n.ss.length := rfl
 obtain ⟨hx0, hx1⟩ := id hx
 obtain ⟨hy0, hy1⟩ := id hy
 refine calls_hcM (N := 18) (args := [.pointer (some ⟨b, 0, none⟩), .int .i64 x, .int .i64 y]) Try.func76 rfl rfl hm0 ?_
 refine hc_less _ (sx 0 rfl (sx 1 rfl (sx 2 rfl (sub_nil _)))) (.refl _) ?_
 refine hc_seq ?_
 refine hc_region ?_
 refine hl_v rfl rfl rfl (rv_ev rfl) ?_
 refine hl_less (sx 0 rfl (sx 1 rfl (sx 2 rfl (sx 6 rfl (sub_nil _))))) (.refl _) ?_
 refine hl_nil ?_
 refine hq_then ?_
 refine hc_seq ?_
 refine hc_region ?_
 refine hl_v rfl rfl rfl (rv_ev rfl) ?_
 refine hl_v rfl rfl rfl (rv_ev rfl) ?_
 refine hl_v rfl rfl rfl (rv_bits rfl (by decide) rfl rfl (r := xr x) (xor_xr (by omega) (by omega))) ?_
 refine hl_v rfl rfl rfl (rv_ev rfl) ?_
 refine hl_v rfl rfl rfl (rv_bits rfl (by decide) rfl rfl (r := xr y) (xor_xr (by omega) (by omega))) ?_
 refine hl_callM2 (R := (fun u_ p_ => ∃ z v_ g_, u_ = .int .i64 z ∧ p_ = netP b n v_ g_ ∧ AddOk n g g_ z 1 (fAnd (xr x) (xr y)))) 0 rfl rfl (by kernel_rfl) rfl rfl (fun L w hX hm => addAnd_on b n v g (xr x) (xr y) _ _ _ hm hn (xr_ok hx) (xr_ok hy) (by omega) (fun w hm => hso w (hX w hm)) hone) ?_
 intro v1 p2 hR3
 obtain ⟨zhR3, vhR3, ghR3, rfl, rfl, ahR3⟩ := hR3
 have lhR3 := ahR3.len
 have thR3 := ahR3.lit
 obtain ⟨thR3a, thR3b⟩ := id thR3
 refine hl_eqL (l' := (netP b n vhR3 ghR3 :: l)) rfl ?_
 refine hl_v rfl rfl rfl (rv_ev rfl) ?_
 refine hl_less (sx 0 rfl (sx 1 rfl (sx 2 rfl (sx 6 rfl (sx 7 rfl (sub_nil _)))))) (.refl _) ?_
 refine hl_nil ?_
 refine hq_then ?_
 refine hc_seq ?_
 refine hc_seq ?_
 refine hc_region ?_
 refine hl_v rfl rfl rfl (rv_ev rfl) ?_
 refine hl_lss rfl rfl rfl rfl rfl rfl (fun h4 => absurd h4 (by omega)) (fun h4 => ?_)
 refine hl_less (sx 0 rfl (sx 1 rfl (sx 2 rfl (sx 6 rfl (sx 7 rfl (sx 15 rfl (sub_nil _))))))) (.refl _) ?_
 refine hl_nil ?_
 refine hq_then ?_
 refine hc_false rfl ?_
 refine hc_skip ?_
 refine hq_then ?_
 refine hc_seq ?_
 refine hc_region ?_
 refine hl_v rfl rfl rfl (rv_ev rfl) ?_
 refine hl_v rfl rfl rfl (rv_bits rfl (by decide) rfl rfl (r := xr zhR3) (xor_xr (by omega) (by omega))) ?_
 refine hl_v rfl rfl rfl (rv_ev rfl) ?_
 refine hl_less (sx 0 rfl (sx 1 rfl (sx 2 rfl (sx 6 rfl (sx 7 rfl (sx 15 rfl (sub_nil _))))))) (.refl _) ?_
 refine hl_nil ?_
 refine hq_then ?_
 refine hc_ret ?_
 exact hq_ret (rs := [.tmp 6]) (vs := [.int .i64 (xr zhR3)]) rfl ⟨rfl, trivial⟩ rfl (fun w hm => ⟨_, netP b n vhR3 ghR3, rfl, ⟨_, _, _, rfl, rfl, ahR3.orr hx0 hy0⟩, hm.sub ((.cons_cons _ (.refl _)))⟩)
def Sq.val (s : Sq) : Int × Int × List Int := (s.kd, s.it, s.xs)
/-- a copy -/
structure Like (n n' : Nt) : Prop where
  ins : n'.ins = n.ins
  gs : n'.gs = n.gs
  os : n'.os = n.os
  ss : n'.ss.map Sq.val = n.ss.map Sq.val
theorem vals_len {ss ss' : List Sq} (h : ss'.map Sq.val = ss.map Sq.val) : ss'.length = ss.length := by simpa using congrArg List.length h
theorem vals_at {ss ss' : List Sq} (h : ss'.map Sq.val = ss.map Sq.val) {k : Nat} (hk : k < ss.length) : (ss'.getD k sq0).val = (ss.getD k sq0).val := by
  have hl := vals_len h
  have h1 : (ss'.map Sq.val)[k]? = (ss.map Sq.val)[k]? := by rw [h]
  rw [List.getElem?_map, List.getElem?_map, List.getElem?_eq_getElem (by omega), List.getElem?_eq_getElem hk] at h1
  rw [List.getD_eq_getElem?_getD, List.getD_eq_getElem?_getD, List.getElem?_eq_getElem (by omega), List.getElem?_eq_getElem hk]
  simpa using h1
theorem vals_mem {ss ss' : List Sq} (h : ss'.map Sq.val = ss.map Sq.val) {s : Sq} (hs : s ∈ ss') : ∃ r ∈ ss, r.val = s.val := by
  have h1 : s.val ∈ ss.map Sq.val := h ▸ List.mem_map.2 ⟨s, hs, rfl⟩
  obtain ⟨r, hr, he⟩ := List.mem_map.1 h1
  exact ⟨r, hr, he⟩
theorem Like.fst {n n' : Nt} (h : Like n n') : n'.fst = n.fst := by show 1 + n'.ins + (n'.ss.length : Int) = 1 + n.ins + n.ss.length; rw [h.ins, vals_len h.ss]
theorem Like.cnt {n n' : Nt} (h : Like n n') : n'.cnt = n.cnt := by show n'.fst + (n'.gs.length : Int) = n.fst + n.gs.length; rw [h.fst, h.gs]
theorem Like.ok {n n' : Nt} (h : Like n n') (hn : NtOk n) : NtOk n' := by
  refine ⟨by rw [h.ins]; exact hn.i0, by rw [h.ins]; exact hn.i1, by rw [vals_len h.ss]; exact hn.s1, by rw [h.gs]; exact hn.a1, by rw [h.os]; exact hn.o1, fun s hs => ?_, fun s hs => ?_, by rw [h.gs, h.fst]; exact hn.an, by rw [h.os, h.cnt]; exact hn.ou⟩
  · obtain ⟨r, hr, he⟩ := vals_mem h.ss hs
    simp only [Sq.val, Prod.mk.injEq] at he
    have := hn.sq r hr
    exact ⟨by rw [← he.1, ← he.2.1, ← he.2.2]; exact this.kind⟩
  · obtain ⟨r, hr, he⟩ := vals_mem h.ss hs
    simp only [Sq.val, Prod.mk.injEq] at he
    rw [← he.2.2, h.cnt]; exact hn.xs r hr
/-- a net that has grown by at most k gates; f: what the literal x computes -/
structure Grow (n n' : Nt) (x : Int) (k : Nat) (f : (Int → Int) → Int) : Prop where
  ins : n'.ins = n.ins
  ss : n'.ss.map Sq.val = n.ss.map Sq.val
  ok : NtOk n'
  ext : ∃ t, n'.gs = n.gs ++ t ∧ t.length ≤ k
  lit : LtOk x n'.cnt
  val : ∀ (st : List Int) (inp : Int), st.length = n.ss.length → bitL (valsL n' st inp) x = f (bitL (valsL n st inp))
theorem vals_like {n n' : Nt} (h : n'.ins = n.ins) (st : List Int) (inp : Int) : valsL (withG n' n.gs) st inp = valsL n st inp := by
  unfold valsL valL leafL withG
  rw [h]
theorem vals_self {n : Nt} (v : Value) (g : List An) (st : List Int) (inp : Int) : valsL { n with av := v, gs := g } st inp = valsL (withG n g) st inp := rfl
theorem Grow.make {n n' : Nt} {g : List An} {x : Int} {k : Nat} {f : (Int → Int) → Int} (v : Value) (h : Like n n') (ha : AddOk n' n'.gs g x k f) : Grow n { n' with av := v, gs := g } x k f := by
  refine ⟨h.ins, h.ss, ⟨ha.ok.i0, ha.ok.i1, ha.ok.s1, ha.ok.a1, ha.ok.o1, ha.ok.sq, ha.ok.xs, ha.ok.an, ha.ok.ou⟩, by rw [← h.gs]; exact ha.ext, ha.lit, fun st inp hs => ?_⟩
  have := ha.val st inp (by rw [hs, vals_len h.ss])
  rw [h.gs, vals_like h.ins] at this
  rw [vals_self]
  rw [h.gs] at ha
  exact this
theorem Grow.len {n n' : Nt} {x : Int} {k : Nat} {f : (Int → Int) → Int} (h : Grow n n' x k f) : n.gs.length ≤ n'.gs.length ∧ n'.gs.length ≤ n.gs.length + k := by
  obtain ⟨t, h1, h2⟩ := h.ext; rw [h1, List.length_append]; omega
theorem Grow.fst {n n' : Nt} {x : Int} {k : Nat} {f : (Int → Int) → Int} (h : Grow n n' x k f) : n'.fst = n.fst := by show 1 + n'.ins + (n'.ss.length : Int) = 1 + n.ins + n.ss.length; rw [h.ins, vals_len h.ss]
theorem Grow.cnt {n n' : Nt} {x : Int} {k : Nat} {f : (Int → Int) → Int} (h : Grow n n' x k f) : n.cnt ≤ n'.cnt := by show n.fst + (n.gs.length : Int) ≤ n'.fst + n'.gs.length; have := h.len; rw [h.fst]; omega
theorem Grow.up {n n' : Nt} {x : Int} {k : Nat} {f : (Int → Int) → Int} (h : Grow n n' x k f) {l : Int} (hl : LtOk l n.cnt) : LtOk l n'.cnt := by have := h.cnt; exact ⟨hl.1, by have := hl.2; omega⟩
theorem Grow.pre {n n' : Nt} {x : Int} {k : Nat} {f : (Int → Int) → Int} (h : Grow n n' x k f) (hn : NtOk n) {st : List Int} (hs : st.length = n.ss.length) (inp : Int) : ∀ i, i < n.cnt.toNat → (valsL n' st inp).getD i 0 = (valsL n st inp).getD i 0 := fun i hi => by
  obtain ⟨t, h1, h2⟩ := h.ext
  have hn' : NtOk (withG n n.gs) := hn
  have e1 : valsL n' st inp = valsL (withG n (n.gs ++ t)) st inp := by rw [← h1]; unfold valsL valL leafL withG; rw [h.ins]
  rw [e1]
  exact vals_ext hn' hs inp i hi
theorem Grow.keep {n n' : Nt} {x : Int} {k : Nat} {f : (Int → Int) → Int} (h : Grow n n' x k f) (hn : NtOk n) {st : List Int} (hs : st.length = n.ss.length) (inp : Int) {l : Int} (hl : LtOk l n.cnt) : bitL (valsL n' st inp) l = bitL (valsL n st inp) l := by
  have hc : 0 ≤ n.cnt := by have := hn.i0; show 0 ≤ 1 + n.ins + (n.ss.length : Int) + n.gs.length; omega
  exact bit_pre (m := n.cnt.toNat) (h.pre hn hs inp) hl.1 (by have := hl.2; omega)
theorem Grow.sok {n n' : Nt} {x : Int} {k : Nat} {f : (Int → Int) → Int} (h : Grow n n' x k f) {st : List Int} (hs : StOk n st) : StOk n' st := by
  have hl := vals_len h.ss
  refine ⟨by rw [hl]; exact hs.len, fun k hk => ?_⟩
  have h1 := hs.rng k (by omega)
  have h2 := vals_at h.ss (k := k) (by omega)
  simp only [Sq.val, Prod.mk.injEq] at h2
  rw [h2.1]; exact h1
section
variable {P : Program} {N : Nat} {w0 : World} {l l' : List HP} {env env' : List (Nat × Value)} {Q : Post} {o : Oper}
/-- a call of a function value that turns one part of the caller's memory -/
theorem hl_callMF {ops : Array Oper} {rest : List Oper} {d : Nat} {f : FuncId} {x : Operand} {xs : Array Operand} {ats : Array TypeId} {vs cs : List Value} {p : HP} {R : Value → HP → Prop} {ty : TypeId} {pos : String} {af : Array Edge} {gd : Option (Nat × Bool)} (i : Nat) (hN : Nat.blt d N = true) (hw : want ops env gd = some true)
    (hgo : goesB P f = true) (hx : ev env x = some (.func (.func f) #[] cs.toArray)) (hvs : evs env xs.toList = some vs) (hi : l[i]? = some p)
    (hc : ∀ L w, (∀ w, Mem w0 L w → Mem w0 (l.eraseIdx i) w) → Mem w0 (p :: L) w → Calls P f (vs ++ cs).toArray w fun e w' => ∃ v p', e = .returned v ∧ R v p' ∧ Mem w0 (p' :: L) w') (k : ∀ v p', R v p' → HL P N ops w0 (l.set i p') ((d, v) :: env) rest Q) : HL P N ops w0 l env ({ dst := some d, op := .call { callee := .value x, args := xs, argTypes := ats }, type := ty, pos := pos, after := af, guard := gd } :: rest) Q := fun a w st => wpList_step fun K hK => by
  have h1 := erase_perm l i p hi
  have hil : i < l.length := (List.getElem?_eq_some_iff.1 hi).1
  rw [if_pos (st.wanted hw)]
  unfold Oper.wp
  have h3 := evs_map st _ _ hvs
  have e1 : xs.map a.eval = vs.toArray := by apply Array.toList_inj.1; simpa using h3
  have h2 : (execOp a.eval { dst := some d, op := .call { callee := .value x, args := xs, argTypes := ats }, type := ty, pos := pos, after := af, guard := gd }).run P w = (callFunc f (vs ++ cs).toArray).run P w := by
    simp [execOp, resolve, Deferred.ofValue, invoke, st.eval hx, e1]
  rw [h2, run_go hgo, Oper.upon_enter]
  refine (hc (l.eraseIdx i) w (fun w h => h) (st.mem.perm h1)).mono fun e w' h => ?_
  obtain ⟨v, p', rfl, hR, hm'⟩ := h
  have h4 := erase_perm (l.set i p') i p' (List.getElem?_set_self hil)
  rw [List.eraseIdx_set_eq] at h4
  exact hK _ _ (k v p' hR _ _ (st.put hN (hm'.perm h4.symm)))
end
theorem flat_onesG {α : Type} (f : α → List Value) (xs : List α) (h : ∀ r u, u ∈ f r → u.oneCell' = true) : ∀ q ∈ xs.flatMap f, q.oneCell' = true := fun q hq => by
  obtain ⟨r, -, h2⟩ := List.mem_flatMap.1 hq
  exact h r q h2
theorem rv_buildM {P : Program} {N : Nat} {w0 : World} {l : List HP} {env : List (Nat × Value)} {o : Oper} {t : TypeId} {ps : Array (Nat × Operand)} {vs : List (Nat × Value)} {cs : Array Value} (ho : o.op = .build t ps)
    (hp : ps.toList.mapM (fun p => (ev env p.2).map fun v => (p.1, v)) = some vs) (hb : ∀ w, Mem w0 l w → P.built t vs = some cs) : RunV P N w0 l env o (.agg cs) := fun a w st => rv_build ho hp (hb w st.mem) a w st
theorem box_lt {w0 : World} {l : List HP} {b : Nat} {cs : Array Value} {t : TypeId} (i : Nat) (h : l[i]? = some (boxE b cs t)) {w : World} (hm : Mem w0 l w) : b < w.heap.size := (hm.new _ (mem_at h) b rfl).2
/-- what a function that adds a gate answers -/
def Added (n : Nt) (k : Nat) (f : (Int → Int) → Int) (v : Value) (post : List HP) : Prop := ∃ (n' : Nt) (x : Int), v = .tuple #[n'.agg, .int .i64 x] ∧ post = [ntE n'] ∧ (n'.sv.oneCell' = true ∧ n'.av.oneCell' = true ∧ n'.ov.oneCell' = true) ∧ Grow n n' x k f
/-- the cells of a copy's elements and roots read, whatever comes of its gates -/
theorem sq_reads {w0 : World} {L : List HP} {n : Nt} {i j : Nat} (hi : L[i]? = some (sqsE n.sv n.ss)) (hj : L[j]? = some (rowE 3 1 n.ov n.os.length (n.os.map (Value.int .i64)))) (w : World) (hm : Mem w0 L w) :
    RdsW w n.sv 3 n.ss.length (n.ss.flatMap sqC) ∧ (∀ s ∈ n.ss, RdsW w s.iv 1 s.xs.length (s.xs.map (Value.int .i64))) ∧ RdsW w n.ov 1 n.os.length (n.os.map (Value.int .i64)) := by
  obtain ⟨d1, -⟩ := hm.holds _ (mem_at hi)
  have e1 := (d1 _ (List.mem_cons_self)).2
  have e2 := (d1 _ (List.mem_cons_of_mem _ List.mem_cons_self)).2
  exact ⟨rdsW_own e2, fun s hs => rdsW_own (e1.1 (sqPart s) (List.mem_map.2 ⟨s, hs, rfl⟩)).2, rdsW_own (hm.holds _ (mem_at hj))⟩
/-- the bits of a table -/
def tbN (f : Nat → Bool) : Nat → Nat
  | 0 => 0
  | k + 1 => tbN f k + (if f k then 2 ^ k else 0)
theorem tbN_lt (f : Nat → Bool) : ∀ k, tbN f k < 2 ^ k
  | 0 => by simp [tbN]
  | k + 1 => by
    have := tbN_lt f k
    unfold tbN; rw [Nat.pow_succ]; split <;> omega
theorem tbN_at (f : Nat → Bool) : ∀ k i, i < k → tbN f k / 2 ^ i % 2 = if f i then 1 else 0
  | k + 1, i, h => by
    have hl := tbN_lt f k
    unfold tbN
    by_cases e : i = k
    · subst e
      cases f i
      · simp only [Bool.false_eq_true, if_false, Nat.add_zero]; rw [Nat.div_eq_of_lt hl]
      · simp only [if_true]
        rw [Nat.add_div_right _ (Nat.pow_pos (by decide)), Nat.div_eq_of_lt hl]
    · have hi : i < k := by omega
      have ih := tbN_at f k i hi
      cases f k
      · simp only [Bool.false_eq_true, if_false, Nat.add_zero]; exact ih
      · simp only [if_true]
        have e2 : 2 ^ k = 2 ^ i * (2 * 2 ^ (k - i - 1)) := by rw [← Nat.pow_succ', ← Nat.pow_add]; congr 1; omega
        rw [e2, Nat.add_mul_div_left _ _ (Nat.pow_pos (by decide)), Nat.add_mul_mod_self_left]; exact ih
theorem tbN_ext {f g : Nat → Bool} : ∀ k, (∀ i, i < k → f i = g i) → tbN f k = tbN g k
  | 0, _ => rfl
  | k + 1, h => by unfold tbN; rw [tbN_ext k (fun i hi => h i (by omega)), h k (by omega)]
theorem tbN_self (m : Nat) : ∀ k, tbN (fun i => decide (m / 2 ^ i % 2 = 1)) k = m % 2 ^ k
  | 0 => by simp [tbN, Nat.mod_one]
  | k + 1 => by
    unfold tbN
    rw [tbN_self m k, Nat.mod_pow_succ]
    have := Nat.mod_lt (m / 2 ^ k) (show 2 > 0 by decide)
    by_cases h : m / 2 ^ k % 2 = 1
    · simp [h]
    · have h0 : m / 2 ^ k % 2 = 0 := by omega
      simp [h0]
theorem nat_bit_o (m i : Nat) : ((m : Nat) : Int) / 2 ^ i % 2 = ((m / 2 ^ i % 2 : Nat) : Int) := by simp
theorem tabB_nat {t : Tab} (h : TabOk t) (i : Nat) : tabB t i = decide (t.B.toNat / 2 ^ i % 2 = 1) := by
  unfold tabB
  obtain ⟨-, h0, -⟩ := h
  have e : t.B = ((t.B.toNat : Nat) : Int) := by omega
  rw [Int.toNat_natCast, e, nat_bit_o, Int.toNat_natCast]
  rw [Bool.eq_iff_iff, decide_eq_true_iff, decide_eq_true_iff]; omega
theorem tab_eq {t : Tab} (h : TabOk t) {f : Nat → Bool} : (tbN f (pn t.N) : Int) = t.B ↔ ∀ i, i < pn t.N → f i = tabB t i := by
  have hq : qn t.N = ((2 ^ pn t.N : Nat) : Int) := by rw [qn_pn]; simp
  have hlt := tbN_lt f (pn t.N)
  constructor
  · intro he i hi
    have := tbN_at f _ i hi
    rw [tabB_nat h, ← he, Int.toNat_natCast, this]
    cases f i <;> simp
  · intro he
    have h1 : tbN f (pn t.N) = tbN (fun i => decide (t.B.toNat / 2 ^ i % 2 = 1)) (pn t.N) := tbN_ext _ (fun i hi => by rw [he i hi, tabB_nat h])
    rw [h1, tbN_self]
    obtain ⟨hn, h0, h2⟩ := h
    rw [hq] at h2
    rw [Nat.mod_eq_of_lt (by omega)]; omega
theorem or_high {a i : Nat} (h : a < 2 ^ i) (hi : i < 16) : bits .or .i64 (a : Int) ((2 : Int) ^ i) = ((a + 2 ^ i : Nat) : Int) := by
  have hp : 2 ^ i < 2 ^ 16 := Nat.pow_lt_pow_right (by decide) hi
  have e : (2 : Int) ^ i = ((2 ^ i : Nat) : Int) := by simp
  have h1 : (2 : Nat) ^ 16 = 65536 := by decide
  rw [e, Bit.or_nat _ _ (by omega) (by omega)]
  have := Bit.or_join a 1 i h
  rw [Nat.one_mul] at this
  rw [this]
theorem shl_1 {i : Nat} (h : i ≤ 16) : IntKind.i64.wrap (1 * 2 ^ ((i : Int)).toNat) = (2 : Int) ^ i := by
  have := shl_i (b := 1) h (by omega)
  rw [this, Int.one_mul]
theorem bitI {m k : Nat} (h : m < 65536) : bits .and .i64 ((m : Int) / 2 ^ ((k : Int)).toNat) 1 = ((m / 2 ^ k % 2 : Nat) : Int) := by
  rw [Int.toNat_natCast]
  have h1 : (0 : Int) ≤ (m : Int) / 2 ^ k := Int.ediv_nonneg (by omega) (Int.le_of_lt (Int.pow_pos (by decide)))
  have h2 : (m : Int) / 2 ^ k ≤ m := Int.ediv_le_self _ (by omega)
  rw [Bit.and_one _ h1 (by omega), nat_bit_o]
theorem flat_take {α : Type} {f : α → List Value} {s : Nat} (hf : ∀ a, (f a).length = s) : ∀ (xs : List α) (k : Nat), (xs.flatMap f).take (k * s) = (xs.take k).flatMap f
  | [], k => by simp
  | x :: xs, 0 => by simp
  | x :: xs, k + 1 => by
    rw [List.flatMap_cons, List.take_succ_cons, List.flatMap_cons, List.take_append, hf x, Nat.succ_mul, Nat.add_sub_cancel, flat_take hf xs k, List.take_of_length_le (by rw [hf x]; omega)]
theorem flat_drop {α : Type} {f : α → List Value} {s : Nat} (hf : ∀ a, (f a).length = s) : ∀ (xs : List α) (k : Nat), (xs.flatMap f).drop (k * s) = (xs.drop k).flatMap f
  | [], k => by simp
  | x :: xs, 0 => by simp
  | x :: xs, k + 1 => by
    rw [List.flatMap_cons, List.drop_succ_cons, List.drop_append, hf x, Nat.succ_mul, Nat.add_sub_cancel, flat_drop hf xs k, List.drop_of_length_le (by rw [hf x]; omega), List.nil_append]
theorem flat_app {α : Type} (f : α → List Value) (xs ys : List α) : xs.flatMap f ++ ys.flatMap f = (xs ++ ys).flatMap f := List.flatMap_append.symm
theorem rd_slHs {w0 : World} {l : List HP} {α : Type} {f : α → List Value} {s : Nat} (hf : ∀ a, (f a).length = s) {v : Value} {xs : List α} (h : Rd w0 l v s xs.length (xs.flatMap f)) {k : Nat} (hk : k ≤ xs.length) : Rd w0 l (slV v 0 k s) s (xs.take k).length ((xs.take k).flatMap f) := fun w hm => by
  have := rdW_sl (h w hm) (Nat.zero_le k) hk
  simp only [Nat.sub_zero, Nat.zero_mul, List.drop_zero] at this
  rw [flat_take hf] at this
  rw [List.length_take, Nat.min_eq_left hk]; exact this
theorem rd_slLs {w0 : World} {l : List HP} {α : Type} {f : α → List Value} {s : Nat} (hf : ∀ a, (f a).length = s) {v : Value} {xs : List α} (h : Rd w0 l v s xs.length (xs.flatMap f)) {k : Nat} (hk : k ≤ xs.length) : Rd w0 l (slV v k xs.length s) s (xs.drop k).length ((xs.drop k).flatMap f) := fun w hm => by
  have := rdW_sl (h w hm) hk (Nat.le_refl _)
  rw [flat_drop hf, List.take_of_length_le (by
    have h2 : ∀ (ys : List α), (ys.flatMap f).length = ys.length * s := fun ys => by induction ys with | nil => simp | cons y ys ih => rw [List.flatMap_cons, List.length_append, ih, hf, List.length_cons, Nat.succ_mul]; omega
    rw [h2, List.length_drop]; exact Nat.le_refl _)] at this
  rw [List.length_drop]; exact this
def blkOf (v : Value) : Nat := match v with | .pointer (some ⟨b, _, _⟩) => b | _ => 0
theorem rq_box1 {P : Program} {N : Nat} {w0 : World} {l : List HP} {env : List (Nat × Value)} {o : Oper} {t : TypeId} {x : Operand} {v : Value} (ho : o.op = .box t x) (hx : ev env x = some v) (h1 : v.oneCell' = true) : RunQ P N w0 l env o (IsBox #[v] t) := by
  have hcs : v.cells = #[v] := by cases v <;> first | rfl | (cases h1; done)
  rw [← hcs]; exact rq_box ho hx
theorem cellW {w0 w : World} {l : List HP} (hm : Mem w0 l w) (i : Nat) {b : Nat} {cs : Array Value} {t : TypeId} (h : l[i]? = some (boxE b cs t)) {o : Nat} {v : Value} (hc : cs[o]? = some v) : w.cell? ⟨b, o, none⟩ = some v := box_cell i h hc w hm
def cntC (c : Nat) : Nat := ((List.range (c + 1)).filter (fun v => v &&& c == v)).length
def sumC : Nat → Nat
  | 0 => 0
  | k + 1 => sumC k + cntC k
theorem rowA_len2 (T : Nat → Bool) (n c : Nat) : (rowA T n c (c + 1)).length ≤ cntC c := by
  unfold rowA cntC
  rw [List.length_map]
  have e : (List.range (c + 1)).filter (fun v => (v &&& c == v) && impN T c v n) = ((List.range (c + 1)).filter (fun v => v &&& c == v)).filter (fun v => impN T c v n) := by
    rw [List.filter_filter]; congr 1; funext v; exact Bool.and_comm _ _
  rw [e]; exact List.length_filter_le _ _
theorem allA_len2 (T : Nat → Bool) (n : Nat) : ∀ k, (allA T n k).length ≤ sumC k
  | 0 => by simp [allA, sumC]
  | k + 1 => by
    rw [allA_succ, List.length_append]
    have h1 := allA_len2 T n k
    have h2 := rowA_len2 T n k
    unfold sumC; omega
theorem sumC_le : ∀ k, k < 17 → sumC k ≤ 81 := by decide
theorem primes_len (t : Tab) (hn : 0 ≤ t.N ∧ t.N ≤ 4) : (primesN t).length ≤ 81 := by
  have hp := pn_rng hn
  have h1 := outN_len (allA (tabB t) (pn t.N) (pn t.N)) (allA (tabB t) (pn t.N) (pn t.N)).length
  have h2 := allA_len2 (tabB t) (pn t.N) (pn t.N)
  have h3 := sumC_le (pn t.N) (by omega)
  unfold primesN; omega
/-- a cube holds an index; a cover does -/
def cvr (d : Nat × Nat) (i : Nat) : Bool := i &&& d.1 == d.2
def covB (cs : List (Nat × Nat)) (i : Nat) : Bool := cs.any (fun d => cvr d i)
def CubsOk (n : Nat) (cs : List (Nat × Nat)) : Prop := ∀ d ∈ cs, d.1 < n ∧ d.2 < n ∧ d.2 &&& d.1 = d.2
theorem covB_iff {cs : List (Nat × Nat)} {i : Nat} : covB cs i = true ↔ ∃ r, r < cs.length ∧ cvr (cs.getD r c0_o) i = true := by
  unfold covB
  rw [List.any_eq_true]
  constructor
  · rintro ⟨d, hd, h⟩
    obtain ⟨r, hr, rfl⟩ := List.mem_iff_getElem.1 hd
    exact ⟨r, hr, by rw [List.getD_eq_getElem?_getD, List.getElem?_eq_getElem hr]; exact h⟩
  · rintro ⟨r, hr, h⟩
    exact ⟨_, getD_memX hr, h⟩
theorem covB_no {cs : List (Nat × Nat)} {i : Nat} (h : ∀ r, r < cs.length → cvr (cs.getD r c0_o) i = false) : covB cs i = false := by
  cases hx : covB cs i with
  | false => rfl
  | true => obtain ⟨r, hr, h2⟩ := covB_iff.1 hx; rw [h r hr] at h2; cases h2
theorem primes_ok {t : Tab} : CubsOk (pn t.N) (primesN t) := fun d hd => by
  obtain ⟨h1, h2, h3, -⟩ := mem_allA.1 (primes_mem hd)
  exact ⟨h1, by omega, h3⟩
theorem primes_cov {t : Tab} (i : Nat) (hi : i < pn t.N) : covB (primesN t) i = tabB t i := by
  rw [Bool.eq_iff_iff]
  unfold covB
  rw [List.any_eq_true]
  constructor
  · rintro ⟨d, hd, h⟩
    have hm := (mem_allA.1 (primes_mem hd)).2.2.2
    rw [impN_iff] at hm
    exact hm i hi (by unfold cvr at h; simpa using h)
  · intro h
    have hand : ∀ k, k < pn t.N → k &&& (pn t.N - 1) = k := fun k hk => by unfold pn at *; rw [Nat.and_two_pow_sub_one_eq_mod, Nat.mod_eq_of_lt hk]
    have hc : ((pn t.N - 1, i) : Nat × Nat) ∈ allA (tabB t) (pn t.N) (pn t.N) := mem_allA.2 ⟨by show pn t.N - 1 < pn t.N; omega, by show i ≤ pn t.N - 1; omega, hand i hi, by
      rw [impN_iff]; intro k hk he; rw [hand k hk] at he; subst he; exact h⟩
    obtain ⟨p, hp, h2⟩ := prime_over (pn t.N - 1) _ (Nat.le_refl _) hc
    refine ⟨p, hp, ?_⟩
    unfold cov1 at h2
    simp only [Bool.and_eq_true, beq_iff_eq] at h2
    unfold cvr
    simpa using h2.2
/-- without its k-th cube -/
def lft (cs : List (Nat × Nat)) (k : Nat) : List (Nat × Nat) := cs.take k ++ cs.drop (k + 1)
theorem lft_len {cs : List (Nat × Nat)} {k : Nat} (h : k < cs.length) : (lft cs k).length = cs.length - 1 := by
  unfold lft; rw [List.length_append, List.length_take, List.length_drop]; omega
theorem lft_lo {cs : List (Nat × Nat)} {k r : Nat} (h : k < cs.length) (hr : r < k) : (lft cs k).getD r c0_o = cs.getD r c0_o := by
  unfold lft
  rw [getD_left (by rw [List.length_take]; omega), List.getD_eq_getElem?_getD, List.getElem?_take, if_pos hr, ← List.getD_eq_getElem?_getD]
theorem lft_hi {cs : List (Nat × Nat)} {k r : Nat} (h : k < cs.length) (hr : k ≤ r) : (lft cs k).getD r c0_o = cs.getD (r + 1) c0_o := by
  unfold lft
  rw [getD_right (by rw [List.length_take]; omega), List.length_take, List.getD_eq_getElem?_getD, List.getElem?_drop, ← List.getD_eq_getElem?_getD]
  congr 1; omega
theorem lft_mem {cs : List (Nat × Nat)} {k : Nat} {d : Nat × Nat} (h : d ∈ lft cs k) : d ∈ cs := by
  unfold lft at h
  rcases List.mem_append.1 h with h | h
  · exact List.mem_of_mem_take h
  · exact List.mem_of_mem_drop h
/-- cubes from k on that no other one makes needless -/
def Priv (n k : Nat) (cs : List (Nat × Nat)) : Prop := ∀ q, k ≤ q → q < cs.length → ∃ i, i < n ∧ cvr (cs.getD q c0_o) i = true ∧ ∀ r, r < cs.length → r ≠ q → cvr (cs.getD r c0_o) i = false
structure MinOk (t : Tab) (k : Nat) (cs : List (Nat × Nat)) : Prop where
  ok : CubsOk (pn t.N) cs
  cov : ∀ i, i < pn t.N → covB cs i = tabB t i
  priv : Priv (pn t.N) k cs
theorem min_start {t : Tab} : MinOk t (primesN t).length (primesN t) := ⟨primes_ok, primes_cov, fun q h1 h2 => by omega⟩
theorem min_drop {t : Tab} {k : Nat} {cs : List (Nat × Nat)} (h : MinOk t (k + 1) cs) (hk : k < cs.length) (hc : ∀ i, i < pn t.N → covB (lft cs k) i = tabB t i) : MinOk t k (lft cs k) := by
  have hl := lft_len hk
  refine ⟨fun d hd => h.ok d (lft_mem hd), hc, fun q h1 h2 => ?_⟩
  obtain ⟨i, hi, c1, c2⟩ := h.priv (q + 1) (by omega) (by omega)
  refine ⟨i, hi, by rw [lft_hi hk h1]; exact c1, fun r hr hne => ?_⟩
  by_cases hrk : r < k
  · rw [lft_lo hk hrk]; exact c2 r (by omega) (by omega)
  · rw [lft_hi hk (by omega)]; exact c2 (r + 1) (by omega) (by omega)
theorem min_keep {t : Tab} (ht : TabOk t) {k : Nat} {cs : List (Nat × Nat)} (h : MinOk t (k + 1) cs) (hk : k < cs.length) (hc : ¬ ∀ i, i < pn t.N → covB (lft cs k) i = tabB t i) : MinOk t k cs := by
  refine ⟨h.ok, h.cov, fun q h1 h2 => ?_⟩
  by_cases hq : q = k
  · subst hq
    obtain ⟨i, hi⟩ := Classical.not_forall.1 hc
    obtain ⟨hi1, hi2⟩ := Classical.not_imp.1 hi
    have hcov := h.cov i hi1
    have hl := lft_len hk
    have hsub : covB (lft cs q) i = true → covB cs i = true := fun hh => by
      unfold covB at *
      rw [List.any_eq_true] at *
      obtain ⟨d, hd, hd2⟩ := hh
      exact ⟨d, lft_mem hd, hd2⟩
    have hf : covB (lft cs q) i = false := by
      cases hx : covB (lft cs q) i with
      | false => rfl
      | true => exact absurd (by rw [hx, ← hcov, hsub hx]) hi2
    have ht : covB cs i = true := by
      cases hx : covB cs i with
      | true => rfl
      | false => exact absurd (by rw [hf, ← hcov, hx]) hi2
    have hno : ∀ r, r < (lft cs q).length → cvr ((lft cs q).getD r c0_o) i = false := fun r hr => by
      cases hx : cvr ((lft cs q).getD r c0_o) i with
      | false => rfl
      | true => rw [covB_iff.2 ⟨r, hr, hx⟩] at hf; cases hf
    have hoth : ∀ r, r < cs.length → r ≠ q → cvr (cs.getD r c0_o) i = false := fun r hr hne => by
      by_cases hlt : r < q
      · rw [← lft_lo hk hlt]; exact hno r (by omega)
      · have := hno (r - 1) (by omega)
        rw [lft_hi hk (by omega), show r - 1 + 1 = r by omega] at this; exact this
    refine ⟨i, hi1, ?_, hoth⟩
    obtain ⟨r, hr, hr2⟩ := covB_iff.1 ht
    by_cases e : r = q
    · subst e; exact hr2
    · rw [hoth r hr e] at hr2; cases hr2
  · exact h.priv q (by omega) h2
theorem pigeon : ∀ (n m : Nat) (f : Nat → Nat), (∀ q, q < m → f q < n) → (∀ q r, q < m → r < m → f q = f r → q = r) → m ≤ n
  | 0, m, f, h, _ => by
    cases m with
    | zero => omega
    | succ m => have := h 0 (by omega); omega
  | n + 1, 0, f, _, _ => by omega
  | n + 1, m + 1, f, h, hi => by
    have := pigeon n m (fun q => if f q = n then f m else f q) (fun q hq => by
      show (if f q = n then f m else f q) < n
      have h1 := h q (by omega); have h2 := h m (by omega)
      split
      · rename_i e
        have : f m ≠ n := fun e2 => by have := hi q m (by omega) (by omega) (by omega); omega
        omega
      · omega) (fun q r hq hr he => by
      have he : (if f q = n then f m else f q) = (if f r = n then f m else f r) := he
      split at he <;> split at he
      · exact hi q r (by omega) (by omega) (by omega)
      · have := hi m r (by omega) (by omega) he; omega
      · have := hi q m (by omega) (by omega) he; omega
      · exact hi q r (by omega) (by omega) he)
    omega
theorem MinOk.len {t : Tab} {cs : List (Nat × Nat)} (hn : 0 ≤ t.N ∧ t.N ≤ 4) (h : MinOk t 0 cs) : cs.length ≤ 16 := by
  have hp := pn_rng hn
  have hx : ∀ q, ∃ i, q < cs.length → i < pn t.N ∧ cvr (cs.getD q c0_o) i = true ∧ ∀ r, r < cs.length → r ≠ q → cvr (cs.getD r c0_o) i = false := fun q => by
    by_cases hq : q < cs.length
    · obtain ⟨i, hi⟩ := h.priv q (by omega) hq
      exact ⟨i, fun _ => hi⟩
    · exact ⟨0, fun h => absurd h hq⟩
  have := pigeon (pn t.N) cs.length (fun q => Classical.choose (hx q)) (fun q hq => (Classical.choose_spec (hx q) hq).1) (fun q r hq hr he => by
    apply Classical.byContradiction
    intro hne
    have h1 := (Classical.choose_spec (hx q) hq).2.1
    have h2 := (Classical.choose_spec (hx r) hr).2.2 q hq hne
    have he : Classical.choose (hx q) = Classical.choose (hx r) := he
    rw [he] at h1
    rw [h1] at h2; cases h2)
  omega
def litF (ls : List Int) (d : Nat × Nat) (k : Nat) : Int := if d.2 / 2 ^ k % 2 = 0 then xr (ls.getD k 0) else ls.getD k 0
def cubF (ls : List Int) (d : Nat × Nat) : Nat → (Int → Int) → Int
  | 0, _ => 1
  | k + 1, ev => if d.1 / 2 ^ k % 2 = 0 then cubF ls d k ev else cubF ls d k ev * ev (litF ls d k)
def covF (ls : List Int) (cs : List (Nat × Nat)) : Nat → (Int → Int) → Int
  | 0, _ => 0
  | j + 1, ev => 1 - (1 - covF ls cs j ev) * (1 - cubF ls (cs.getD j c0_o) ls.length ev)
theorem AddOk.zero {n : Nt} {g : List An} (h : NtOk (withG n g)) : AddOk n g g 0 0 (fun _ => 0) := by
  have hi0 : 0 ≤ n.ins := h.i0
  have hf : n.fst = 1 + n.ins + n.ss.length := rfl
  refine ⟨⟨[], by simp, by simp⟩, h, ⟨by omega, by omega⟩, fun st inp hs => ?_⟩
  unfold bitL; rw [if_pos (by decide)]; exact val0 (n := withG n g) st inp
theorem AddOk.one {n : Nt} {g : List An} (h : NtOk (withG n g)) : AddOk n g g 1 0 (fun _ => 1) := by
  have hi0 : 0 ≤ n.ins := h.i0
  have hf : n.fst = 1 + n.ins + n.ss.length := rfl
  refine ⟨⟨[], by simp, by simp⟩, h, ⟨by omega, by omega⟩, fun st inp hs => ?_⟩
  have h1 := bit_xr (valsL (withG n g) st inp) (a := 0) (Int.le_refl _)
  rw [show xr 0 = 1 by decide] at h1
  rw [h1, (AddOk.zero h).val st inp hs]; rfl
theorem AddOk.more {n : Nt} {g0 g1 g2 : List An} {s q : Int} {K k : Nat} {f f2 : (Int → Int) → Int} (h1 : AddOk n g0 g1 s K f) (h2 : AddOk n g1 g2 q k f2) : AddOk n g0 g2 s (K + k) f := by
  obtain ⟨t1, e1, l1⟩ := h1.ext
  obtain ⟨t2, e2, l2⟩ := h2.ext
  refine ⟨⟨t1 ++ t2, by rw [e2, e1, List.append_assoc], by rw [List.length_append]; omega⟩, h2.ok, h2.lits h1.lit, fun st inp hs => ?_⟩
  rw [h2.keep h1.ok hs inp h1.lit, h1.val st inp hs]
theorem AddOk.gand {n : Nt} {g0 g1 g2 : List An} {p q l : Int} {K : Nat} {f : (Int → Int) → Int} (h0 : NtOk (withG n g0)) (h1 : AddOk n g0 g1 p K f) (hl : LtOk l (n.fst + g0.length)) (h2 : AddOk n g1 g2 q 1 (fAnd p l)) : AddOk n g0 g2 q (K + 1) (fun ev => f ev * ev l) := by
  obtain ⟨t1, e1, l1⟩ := h1.ext
  obtain ⟨t2, e2, l2⟩ := h2.ext
  refine ⟨⟨t1 ++ t2, by rw [e2, e1, List.append_assoc], by rw [List.length_append]; omega⟩, h2.ok, h2.lit, fun st inp hs => ?_⟩
  rw [h2.val st inp hs]
  show bitL _ p * bitL _ l = _
  rw [h1.val st inp hs, h1.keep h0 hs inp hl]
theorem AddOk.gor {n : Nt} {g0 g1 g2 : List An} {s p x : Int} {K : Nat} {f f' : (Int → Int) → Int} (h1 : AddOk n g0 g1 s K f) (h1' : AddOk n g0 g1 p K f') (h2 : AddOk n g1 g2 x 1 (fOr s p)) : AddOk n g0 g2 x (K + 1) (fun ev => 1 - (1 - f ev) * (1 - f' ev)) := by
  obtain ⟨t1, e1, l1⟩ := h1.ext
  obtain ⟨t2, e2, l2⟩ := h2.ext
  refine ⟨⟨t1 ++ t2, by rw [e2, e1, List.append_assoc], by rw [List.length_append]; omega⟩, h2.ok, h2.lit, fun st inp hs => ?_⟩
  rw [h2.val st inp hs]
  show 1 - (1 - bitL _ s) * (1 - bitL _ p) = _
  rw [h1.val st inp hs, h1'.val st inp hs]
theorem AddOk.le {n : Nt} {g0 g1 : List An} {x : Int} {k k' : Nat} {f : (Int → Int) → Int} (h : AddOk n g0 g1 x k f) (hk : k ≤ k') : AddOk n g0 g1 x k' f := by
  obtain ⟨t1, e1, l1⟩ := h.ext
  exact ⟨⟨t1, e1, by omega⟩, h.ok, h.lit, h.val⟩
theorem AddOk.one' {n : Nt} {g0 g1 : List An} {s : Int} {K : Nat} {f : (Int → Int) → Int} (h : AddOk n g0 g1 s K f) : AddOk n g0 g1 1 K (fun _ => 1) := by
  have h1 := AddOk.one h.ok
  exact ⟨h.ext, h.ok, h1.lit, fun st inp hs => h1.val st inp hs⟩
theorem cub_skip {ls : List Int} {d : Nat × Nat} {k : Nat} (h : ((d.1 / 2 ^ k % 2 : Nat) : Int) = 0) : cubF ls d (k + 1) = cubF ls d k := by
  funext ev; show (if d.1 / 2 ^ k % 2 = 0 then _ else _) = _; rw [if_pos (by omega)]
theorem cub_and {ls : List Int} {d : Nat × Nat} {k : Nat} (h : ((d.1 / 2 ^ k % 2 : Nat) : Int) ≠ 0) : cubF ls d (k + 1) = fun ev => cubF ls d k ev * ev (litF ls d k) := by
  funext ev; show (if d.1 / 2 ^ k % 2 = 0 then _ else _) = _; rw [if_neg (by omega)]
theorem lit_no {ls : List Int} {d : Nat × Nat} {k : Nat} (h : ((d.2 / 2 ^ k % 2 : Nat) : Int) = 0) : litF ls d k = xr (ls.getD k 0) := if_pos (by omega)
theorem lit_yes {ls : List Int} {d : Nat × Nat} {k : Nat} (h : ((d.2 / 2 ^ k % 2 : Nat) : Int) ≠ 0) : litF ls d k = ls.getD k 0 := if_neg (by omega)
/-- what a cube computes -/
def cb (d : Nat × Nat) (i : Nat) : Nat → Bool
  | 0 => true
  | k + 1 => cb d i k && (d.1 / 2 ^ k % 2 == 0 || d.2 / 2 ^ k % 2 == i / 2 ^ k % 2)
theorem cb_four : ∀ i, i < 16 → ∀ a, a < 16 → ∀ b, b < 16 → b &&& a = b → cb (a, b) i 4 = (i &&& a == b) := by decide +kernel
theorem cb_up (d : Nat × Nat) (i n : Nat) (h : d.1 < 2 ^ n) : ∀ k, cb d i (n + k) = cb d i n
  | 0 => rfl
  | k + 1 => by
    show (cb d i (n + k) && (d.1 / 2 ^ (n + k) % 2 == 0 || d.2 / 2 ^ (n + k) % 2 == i / 2 ^ (n + k) % 2)) = _
    have e : d.1 / 2 ^ (n + k) = 0 := Nat.div_eq_of_lt (Nat.lt_of_lt_of_le h (Nat.pow_le_pow_right (by decide) (by omega)))
    rw [cb_up d i n h k, e]; simp
theorem cb_eq {d : Nat × Nat} {i n : Nat} (hn : n ≤ 4) (hd : d.1 < 2 ^ n) (hd2 : d.2 < 2 ^ n) (ha : d.2 &&& d.1 = d.2) (hi : i < 2 ^ n) : cb d i n = cvr d i := by
  have hp : 2 ^ n ≤ 2 ^ 4 := Nat.pow_le_pow_right (by decide) hn
  have h1 : (2 : Nat) ^ 4 = 16 := by decide
  have h2 := cb_up d i n hd (4 - n)
  rw [show n + (4 - n) = 4 by omega] at h2
  rw [← h2]
  exact cb_four i (by omega) d.1 (by omega) d.2 (by omega) ha
theorem cubF_val {ls : List Int} {d : Nat × Nat} {ev : Int → Int} {i : Nat} (hx : ∀ k, k < ls.length → ev (xr (ls.getD k 0)) = 1 - ev (ls.getD k 0)) (hv : ∀ k, k < ls.length → ev (ls.getD k 0) = ((i / 2 ^ k % 2 : Nat) : Int)) :
    ∀ k, k ≤ ls.length → cubF ls d k ev = if cb d i k then 1 else 0
  | 0, _ => rfl
  | k + 1, hk => by
    have ih := cubF_val (d := d) hx hv k (by omega)
    have h1 := hx k (by omega)
    have h2 := hv k (by omega)
    have b1 := Nat.mod_lt (i / 2 ^ k) (show 2 > 0 by decide)
    have b2 := Nat.mod_lt (d.2 / 2 ^ k) (show 2 > 0 by decide)
    unfold cubF cb litF
    rw [ih]
    by_cases hc : d.1 / 2 ^ k % 2 = 0
    · simp [hc]
    · rw [if_neg hc]
      have hc' : (d.1 / 2 ^ k % 2 == 0) = false := by simpa using hc
      rw [hc', Bool.false_or]
      generalize ls.getD k 0 = a at h1 h2 ⊢
      rcases (show i / 2 ^ k % 2 = 0 ∨ i / 2 ^ k % 2 = 1 by omega) with e | e <;> rcases (show d.2 / 2 ^ k % 2 = 0 ∨ d.2 / 2 ^ k % 2 = 1 by omega) with e' | e' <;> rw [e] at h2 <;> rw [e, e'] <;> cases cb d i k <;> simp [h1, h2]
theorem covF_val {n : Nat} {ls : List Int} {cs : List (Nat × Nat)} {ev : Int → Int} {i : Nat} (hn : n ≤ 4) (hl : ls.length = n) (hi : i < 2 ^ n) (hok : CubsOk (2 ^ n) cs) (hx : ∀ k, k < ls.length → ev (xr (ls.getD k 0)) = 1 - ev (ls.getD k 0)) (hv : ∀ k, k < ls.length → ev (ls.getD k 0) = ((i / 2 ^ k % 2 : Nat) : Int)) :
    ∀ j, j ≤ cs.length → covF ls cs j ev = if covB (cs.take j) i then 1 else 0
  | 0, _ => by simp [covF, covB]
  | j + 1, hj => by
    have ih := covF_val hn hl hi hok hx hv j (by omega)
    have hd := hok _ (getD_memX (d := c0_o) (show j < cs.length by omega))
    unfold covF
    rw [ih, cubF_val hx hv _ (Nat.le_refl _), hl, cb_eq hn hd.1 hd.2.1 hd.2.2 hi, take_snocG c0_o (by omega)]
    unfold covB
    rw [List.any_append]
    simp only [List.any_cons, List.any_nil, Bool.or_false]
    cases List.any (cs.take j) (fun d => cvr d i) <;> cases cvr (cs.getD j c0_o) i <;> simp
section
variable {N : Nat} {w0 : World} {l : List HP} {env : List (Nat × Value)} {o : Oper}
theorem rv_eqT {x y : Operand} {a b c d : Int} (ho : o.op = .binOp .eql 55 x y 55) (hx : ev env x = some (.agg #[.int .i64 a, .int .i64 b])) (hy : ev env y = some (.agg #[.int .i64 c, .int .i64 d])) :
    RunV Try.prog N w0 l env o (.bool (eqA a b c d)) := fun a1 w st => by
  have hg : (eqGuard .eql 55 x y (.agg #[.int .i64 a, .int .i64 b]) (.agg #[.int .i64 c, .int .i64 d])).run Try.prog w = .ok () w := run_eqGuard_agg _ _ _ _ _ _ _ (by kernel_rfl)
  have h2 : (binOp .eql 55 (.agg #[.int .i64 a, .int .i64 b]) (.agg #[.int .i64 c, .int .i64 d])).run Try.prog w = .ok (.bool (eqA a b c d)) w := by
    rw [run_eql_struct, run_equalIn_struct _ _ _ _ _ (by kernel_rfl) (by kernel_rfl)]
    have e0 : (Try.prog.fieldsOf 55).toList = [(Try.prog.fieldsOf 55)[0]!, (Try.prog.fieldsOf 55)[1]!] := by kernel_rfl
    have n0 : ((Try.prog.fieldsOf 55)[0]!).name = "N" := by kernel_rfl
    have n1 : ((Try.prog.fieldsOf 55)[1]!).name = "Bits" := by kernel_rfl
    have t0 : ((Try.prog.fieldsOf 55)[0]!).type = 3 := by kernel_rfl
    have t1 : ((Try.prog.fieldsOf 55)[1]!).type = 3 := by kernel_rfl
    have o0 : ((Try.prog.fieldsOf 55)[0]!).offset = 0 := by kernel_rfl
    have o1 : ((Try.prog.fieldsOf 55)[1]!).offset = 1 := by kernel_rfl
    rw [e0]
    generalize (Try.prog.fieldsOf 55)[0]! = f0 at *
    generalize (Try.prog.fieldsOf 55)[1]! = f1 at *
    have m0 : f0.name ≠ "_" := by rw [n0]; decide
    have m1 : f1.name ≠ "_" := by rw [n1]; decide
    have hk : Try.prog.plainKey 3 = true := by kernel_rfl
    have q : ∀ (u v : Int) (w : World), (Op.equalIn 9999 3 (.int .i64 u) (.int .i64 v)).run Try.prog w = .ok (u == v) w := fun u v w => run_equalIn_int w 9998 3 .i64 .i64 u v Try.underlying3
    have pa : ∀ w : World, (part f0.type #[Value.int .i64 a, .int .i64 b] f0.offset).run Try.prog w = .ok (.int .i64 a) w := fun w => by rw [t0, o0]; exact run_part_plain w hk rfl
    have pb : ∀ w : World, (part f1.type #[Value.int .i64 a, .int .i64 b] f1.offset).run Try.prog w = .ok (.int .i64 b) w := fun w => by rw [t1, o1]; exact run_part_plain w hk rfl
    have pc : ∀ w : World, (part f0.type #[Value.int .i64 c, .int .i64 d] f0.offset).run Try.prog w = .ok (.int .i64 c) w := fun w => by rw [t0, o0]; exact run_part_plain w hk rfl
    have pd : ∀ w : World, (part f1.type #[Value.int .i64 c, .int .i64 d] f1.offset).run Try.prog w = .ok (.int .i64 d) w := fun w => by rw [t1, o1]; exact run_part_plain w hk rfl
    have q0 : ∀ (u v : Int) (w : World), (Op.equalIn 9999 f0.type (.int .i64 u) (.int .i64 v)).run Try.prog w = .ok (u == v) w := by rw [t0]; exact q
    have q1 : ∀ (u v : Int) (w : World), (Op.equalIn 9999 f1.type (.int .i64 u) (.int .i64 v)).run Try.prog w = .ok (u == v) w := by rw [t1]; exact q
    simp only [Op.eqFields, m0, m1, ne_eq, not_false_eq_true, if_true, Sem.run_bind, pa, pb, pc, pd, q0, q1, Result.andThen_ok, Sem.run_ite, Sem.run_pure]
    unfold eqA
    cases (a == c) <;> cases (b == d) <;> simp
  simp [execOp, ho, st.eval hx, st.eval hy, hg, h2]
end
end Go.Proofs.Ytakbbebpimlnpaa
