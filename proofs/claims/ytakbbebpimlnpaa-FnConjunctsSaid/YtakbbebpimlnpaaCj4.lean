/- Texts of the law FnConjuncts, part 4: what it uses. -/
import Derived.Test.YtakbbebpimlnpaaCj3
set_option linter.unusedVariables false
set_option linter.unusedSimpArgs false
namespace Go.Proofs.Ytakbbebpimlnpaa
open Go.RowKit Go.ChangeShapes
open Go.RowKit
set_option maxHeartbeats 4000000 in
set_option maxRecDepth 100000 in
theorem walk_FnConjuncts (a0 : Option Addr) (len0 cap0 : Nat) (z0 : List Int) (w : World) (hbr : BRow .u8 w a0 len0 cap0 z0) :
  Calls Try.prog 3 #[.slice a0 len0 cap0] w (Ans w (.bool true)) := by
 have hcd0 := cod_le hbr 0
 refine calls_hc (N := 105) (args := [.slice a0 len0 cap0]) Try.func3 rfl rfl ?_
 refine hc_less _ (sx 0 rfl (sub_nil _)) (.refl _) ?_
 refine hc_seq ?_
 refine hc_region ?_
 refine hl_v rfl rfl rfl (rv_ev rfl) ?_
 refine hl_less (sx 0 rfl (sx 2 rfl (sub_nil _))) (.refl _) ?_
 refine hl_nil ?_
 refine hq_then ?_
 refine hc_seq ?_
 refine hc_seq ?_
 refine hc_region ?_
 refine hl_v rfl rfl rfl (rv_ev rfl) ?_
 refine hl_callV rfl rfl rfl (rq_call (by kernel_rfl) rfl (fun w hm => ret_ans (ans_of (big_any a0 len0 cap0 w (hbr.len_le))))) ?_
 refine hl_bool (fun h1 => ?_) (fun h1 => ?_)
 ·
  have h1p := of_decide_eq_true h1
  refine hl_less (sx 0 rfl (sx 2 rfl (sx 11 rfl (sub_nil _)))) (.refl _) ?_
  refine hl_nil ?_
  refine hq_then ?_
  refine hc_true rfl ?_
  refine hc_seq ?_
  refine hc_region ?_
  refine hl_v rfl rfl rfl (rv_ev rfl) ?_
  refine hl_less (sx 0 rfl (sx 2 rfl (sx 11 rfl (sub_nil _)))) (.refl _) ?_
  refine hl_nil ?_
  refine hq_then ?_
  refine hc_ret ?_
  refine hq_then_ret ?_
  exact hq_ans rfl rfl rfl
 ·
  have h1p := of_decide_eq_false h1
  refine hl_less (sx 0 rfl (sx 2 rfl (sx 11 rfl (sub_nil _)))) (.refl _) ?_
  refine hl_nil ?_
  refine hq_then ?_
  refine hc_false rfl ?_
  refine hc_skip ?_
  refine hq_then ?_
  refine hc_seq ?_
  refine hc_region ?_
  refine hl_v rfl rfl rfl (rv_ev rfl) ?_
  refine hl_q rfl rfl rfl (rq_call (by kernel_rfl) rfl (fun w hm => DrawDeep_ret _ _ _ z0 w (hbr.below hm.bel) (by omega))) ?_
  intro v2 p3 hR4
  obtain ⟨n, rfl, rfl, ⟨o1n, o2n, o3n⟩, hn, hnq1, hnq2, hnq3⟩ := hR4
  have hi0 := hn.i0
  have hi1 := hn.i1
  have hs1 := hn.s1
  have ha1 := hn.a1
  have ho1 := hn.o1
  have hcnt : n.cnt = 1 + n.ins + n.ss.length + n.gs.length := rfl
  have hfst : n.fst = 1 + n.ins + n.ss.length := rfl
  refine hl_box rfl rfl rfl (rq_alloc (z := .agg #[.int .i64 0, .slice none 0 0, .slice none 0 0, .slice none 0 0]) rfl (by kernel_rfl)) ?_
  intro b5
  refine hl_storeBoxN (i := 0) (off := 0) (us := [.int .i64 n.ins, n.sv, n.av, n.ov]) (l' := [boxE b5 #[.int .i64 n.ins, n.sv, n.av, n.ov] 28, ntE n]) rfl rfl rfl (by kernel_rfl) rfl rfl rfl (all_cons rfl (all_cons o1n (all_cons o2n (all_cons o3n all_nil)))) rfl rfl rfl ?_
  refine hl_less (sx 0 rfl (sx 2 rfl (sx 3 rfl (sx 11 rfl (sub_nil _))))) (.refl _) ?_
  refine hl_nil ?_
  refine hq_then ?_
  refine hc_seq ?_
  refine hc_draw (by kernel_rfl) 6 [0, 1, 2, 3, 4, 5] (List.take 6 _) (List.drop 6 _) [[], [0], [], [2], [3], [1, 4]] [14, 15, 16, 17, 18, 19] (fun i_ vs_ v_ p_ => match i_ with | 0 => v_ = .agg #[.int .i64 n.ins, n.sv, n.av, n.ov] ∧ p_ = [] | 1 => v_ = .int .i64 n.cnt ∧ p_ = [] | 2 => v_ = .pointer (some ⟨b5, 0 + 2, none⟩) ∧ p_ = [] | 3 => v_ = n.av ∧ p_ = [] | 4 => v_ = .int .i64 (n.gs.length : Int) ∧ p_ = [] | 5 => v_ = .int .i64 (n.cnt - (n.gs.length : Int)) ∧ p_ = [] | _ => True) (List.take_append_drop 6 _).symm (by kernel_rfl) (by kernel_rfl) rfl rfl ?_ ?_
  ·
   refine ⟨?_, ?_, ?_, ?_, ?_, ?_, trivial⟩
   ·
    intro vf pf hR
    refine Or.inl ⟨rfl, ?_⟩
    refine rq_less (sx 3 rfl (sub_nil _)) (List.sublist_append_right _ _) ?_
    exact rq_v (rv_loadN (cs := [.int .i64 n.ins, n.sv, n.av, n.ov]) rfl (by kernel_rfl) (by kernel_rfl) rfl rfl (box_part 0 rfl 0 rfl))
   ·
    intro vf pf hR
    have e0 : (vf 0) = .agg #[.int .i64 n.ins, n.sv, n.av, n.ov] ∧ (pf 0) = [] := hR 0 (by decide)
    refine Or.inl ⟨rfl, ?_⟩
    refine rq_less (sx 14 (congrArg some e0.1) (sub_nil _)) (List.sublist_append_right _ _) ?_
    exact (rq_call (by kernel_rfl) rfl (fun w hm => ret_ans (specNodeCount_yes n w (nt_rds 1 rfl w hm) hn)))
   ·
    intro vf pf hR
    refine Or.inl ⟨rfl, ?_⟩
    refine rq_less (sx 3 rfl (sub_nil _)) (List.sublist_append_right _ _) ?_
    exact rq_v (rv_field (k0 := 2) rfl (by kernel_rfl) rfl)
   ·
    intro vf pf hR
    have e2 : (vf 2) = .pointer (some ⟨b5, 0 + 2, none⟩) ∧ (pf 2) = [] := hR 2 (by decide)
    refine Or.inl ⟨rfl, ?_⟩
    refine rq_less (sx 16 (congrArg some e2.1) (sub_nil _)) (List.sublist_append_right _ _) ?_
    exact rq_v (rv_load rfl (by kernel_rfl) rfl (box_cell 0 rfl rfl))
   ·
    intro vf pf hR
    have e3 : (vf 3) = n.av ∧ (pf 3) = [] := hR 3 (by decide)
    refine Or.inl ⟨rfl, ?_⟩
    refine rq_less (sx 17 (congrArg some e3.1) (sub_nil _)) (List.sublist_append_right _ _) ?_
    exact rq_v (rv_len rfl Try.underlying25 rfl (fun w hm => (nt_rds 1 rfl w hm).an))
   ·
    intro vf pf hR
    have e1 : (vf 1) = .int .i64 n.cnt ∧ (pf 1) = [] := hR 1 (by decide)
    have e4 : (vf 4) = .int .i64 (n.gs.length : Int) ∧ (pf 4) = [] := hR 4 (by decide)
    refine Or.inl ⟨rfl, ?_⟩
    refine rq_less (sx 15 (congrArg some e1.1) (sx 18 (congrArg some e4.1) (sub_nil _))) (List.sublist_append_right _ _) ?_
    exact rq_v (rv_sub rfl rfl rfl (by constructor <;> omega))
  ·
   intro vf pf hR
   have e5 : (vf 5) = .int .i64 (n.cnt - (n.gs.length : Int)) ∧ (pf 5) = [] := hR 5 (by decide)
   refine hl_less (l' := [boxE b5 #[.int .i64 n.ins, n.sv, n.av, n.ov] 28, ntE n]) (sx 0 rfl (sx 2 rfl (sx 3 rfl (sx 11 rfl (sx 19 (congrArg some e5.1) (sub_nil _)))))) (List.sublist_append_right _ _) ?_
   simp only [List.drop_succ_cons, List.drop_zero]
   refine hl_v rfl rfl rfl (rv_ev rfl) ?_
   rw [show (n.cnt - (n.gs.length : Int) : Int) = n.fst by omega]
   refine hl_less (sx 0 rfl (sx 2 rfl (sx 3 rfl (sx 4 rfl (sx 11 rfl (sub_nil _)))))) (.refl _) ?_
   refine hl_nil ?_
   refine hq_then ?_
   refine hc_seq ?_
   refine hc_draw (by kernel_rfl) 6 [0, 1, 2, 3, 4, 5] (List.take 6 _) (List.drop 6 _) [[], [], [1], [], [3], [0, 2, 4]] [20, 21, 22, 23, 24, 25] (fun i_ vs_ v_ p_ => match i_ with | 0 => v_ = .agg #[.int .i64 n.ins, n.sv, n.av, n.ov] ∧ p_ = [] | 1 => v_ = .agg #[.int .i64 n.ins, n.sv, n.av, n.ov] ∧ p_ = [] | 2 => (fun v' post => post = [rowE 3 1 v' (stL n).length ((stL n).map (Value.int .i64))]) v_ p_ | 3 => v_ = .slice a0 len0 cap0 ∧ p_ = [] | 4 => v_ = .int .i64 (cod z0 len0 0 : Int) ∧ p_ = [] | 5 => (fun v' post => post = [rowE 3 1 v' (valsL n (stL n) (cod z0 len0 0 : Int)).length ((valsL n (stL n) (cod z0 len0 0 : Int)).map (Value.int .i64))]) v_ p_ | _ => True) (List.take_append_drop 6 _).symm (by kernel_rfl) (by kernel_rfl) rfl rfl ?_ ?_
   ·
    refine ⟨?_, ?_, ?_, ?_, ?_, ?_, trivial⟩
    ·
     intro vf pf hR
     refine Or.inl ⟨rfl, ?_⟩
     refine rq_less (sx 3 rfl (sub_nil _)) (List.sublist_append_right _ _) ?_
     exact rq_v (rv_loadN (cs := [.int .i64 n.ins, n.sv, n.av, n.ov]) rfl (by kernel_rfl) (by kernel_rfl) rfl rfl (box_part 0 rfl 0 rfl))
    ·
     intro vf pf hR
     refine Or.inl ⟨rfl, ?_⟩
     refine rq_less (sx 3 rfl (sub_nil _)) (List.sublist_append_right _ _) ?_
     exact rq_v (rv_loadN (cs := [.int .i64 n.ins, n.sv, n.av, n.ov]) rfl (by kernel_rfl) (by kernel_rfl) rfl rfl (box_part 0 rfl 0 rfl))
    ·
     intro vf pf hR
     have e1 : (vf 1) = .agg #[.int .i64 n.ins, n.sv, n.av, n.ov] ∧ (pf 1) = [] := hR 1 (by decide)
     refine Or.inl ⟨rfl, ?_⟩
     refine rq_less (sx 21 (congrArg some e1.1) (sub_nil _)) (List.sublist_append_right _ _) ?_
     exact rq_call (by kernel_rfl) rfl (fun w hm => NetStart_ret n w (nt_rds 1 rfl w hm) hn)
    ·
     intro vf pf hR
     refine Or.inl ⟨rfl, ?_⟩
     refine rq_less (sx 0 rfl (sub_nil _)) (List.sublist_append_right _ _) ?_
     exact rq_v (rv_ev rfl)
    ·
     intro vf pf hR
     have e3 : (vf 3) = .slice a0 len0 cap0 ∧ (pf 3) = [] := hR 3 (by decide)
     refine Or.inl ⟨rfl, ?_⟩
     refine rq_less (sx 23 (congrArg some e3.1) (sub_nil _)) (List.sublist_append_right _ _) ?_
     exact (rq_call (by kernel_rfl) rfl (fun w hm => ret_ans (at_ans hbr 0 (by omega) w hm)))
    ·
     intro vf pf hR
     have e0 : (vf 0) = .agg #[.int .i64 n.ins, n.sv, n.av, n.ov] ∧ (pf 0) = [] := hR 0 (by decide)
     have e2 : (fun v' post => post = [rowE 3 1 v' (stL n).length ((stL n).map (Value.int .i64))]) (vf 2) (pf 2) := hR 2 (by decide)
     obtain ⟨v6, v2⟩ : ∃ x, vf 2 = x := ⟨_, rfl⟩
     obtain ⟨p7, p2⟩ : ∃ x, pf 2 = x := ⟨_, rfl⟩
     have hR8 := e2
     rw [v2, p2] at hR8
     subst hR8
     have e4 : (vf 4) = .int .i64 (cod z0 len0 0 : Int) ∧ (pf 4) = [] := hR 4 (by decide)
     refine Or.inl ⟨rfl, ?_⟩
     refine rq_less (l' := [rowE 3 1 v6 ((stL n).length) ((stL n).map (Value.int .i64)), boxE b5 #[.int .i64 n.ins, n.sv, n.av, n.ov] 28, ntE n]) (sx 20 (congrArg some e0.1) (sx 22 (congrArg some v2) (sx 24 (congrArg some e4.1) (sub_nil _)))) (by first | (simp only [p2, v2, e0.2, e4.2, List.flatMap_cons, List.flatMap_nil, List.append_nil, List.nil_append, List.cons_append]; exact List.Sublist.refl _) | simp [p2, v2, e0.2, e4.2]) ?_
     exact rq_call (by kernel_rfl) rfl (fun w hm => specNodeValues_ret n (stL n) _ (cod z0 len0 0 : Int) w (nt_rds 2 rfl w hm) hn ((rd_row 0 rfl) w hm) (start_ok hn) (by omega))
   ·
    intro vf pf hR
    have e2 : (fun v' post => post = [rowE 3 1 v' (stL n).length ((stL n).map (Value.int .i64))]) (vf 2) (pf 2) := hR 2 (by decide)
    obtain ⟨v6, v2⟩ : ∃ x, vf 2 = x := ⟨_, rfl⟩
    obtain ⟨p7, p2⟩ : ∃ x, pf 2 = x := ⟨_, rfl⟩
    have hR8 := e2
    rw [v2, p2] at hR8
    subst hR8
    have e5 : (fun v' post => post = [rowE 3 1 v' (valsL n (stL n) (cod z0 len0 0 : Int)).length ((valsL n (stL n) (cod z0 len0 0 : Int)).map (Value.int .i64))]) (vf 5) (pf 5) := hR 5 (by decide)
    obtain ⟨v9, v5⟩ : ∃ x, vf 5 = x := ⟨_, rfl⟩
    obtain ⟨p10, p5⟩ : ∃ x, pf 5 = x := ⟨_, rfl⟩
    have hR11 := e5
    rw [v5, p5] at hR11
    subst hR11
    have q0 : (vf 0) = .agg #[.int .i64 n.ins, n.sv, n.av, n.ov] ∧ (pf 0) = [] := hR 0 (by decide)
    have q1 : (vf 1) = .agg #[.int .i64 n.ins, n.sv, n.av, n.ov] ∧ (pf 1) = [] := hR 1 (by decide)
    have q3 : (vf 3) = .slice a0 len0 cap0 ∧ (pf 3) = [] := hR 3 (by decide)
    have q4 : (vf 4) = .int .i64 (cod z0 len0 0 : Int) ∧ (pf 4) = [] := hR 4 (by decide)
    refine hl_less (l' := [rowE 3 1 v6 ((stL n).length) ((stL n).map (Value.int .i64)), rowE 3 1 v9 ((valsL n (stL n) (cod z0 len0 0 : Int)).length) ((valsL n (stL n) (cod z0 len0 0 : Int)).map (Value.int .i64)), boxE b5 #[.int .i64 n.ins, n.sv, n.av, n.ov] 28, ntE n]) (sx 0 rfl (sx 2 rfl (sx 3 rfl (sx 4 rfl (sx 11 rfl (sx 25 (congrArg some v5) (sub_nil _))))))) (by first | (simp only [p2, v2, p5, v5, q0.2, q1.2, q3.2, q4.2, List.flatMap_cons, List.flatMap_nil, List.append_nil, List.nil_append, List.cons_append]; exact List.Sublist.refl _) | simp [p2, v2, p5, v5, q0.2, q1.2, q3.2, q4.2]) ?_
    simp only [List.drop_succ_cons, List.drop_zero]
    refine hl_v rfl rfl rfl (rv_ev rfl) ?_
    refine hl_less (sx 0 rfl (sx 2 rfl (sx 3 rfl (sx 4 rfl (sx 5 rfl (sx 11 rfl (sub_nil _))))))) (.refl _) ?_
    refine hl_nil ?_
    refine hq_then ?_
    refine hc_seq ?_
    refine hc_seq ?_
    refine hc_region ?_
    have hv := vals_and hn (str_len n (Nat.le_refl _)) (cod z0 len0 0 : Int)
    have hvl := hv.len
    have hv01 := hv.b01
    have hvl2 : ((valsL n (stL n) (cod z0 len0 0 : Int)).length : Int) = n.cnt := hvl
    refine hl_v rfl rfl rfl (rv_ev rfl) ?_
    refine hl_less (sx 0 rfl (sx 2 rfl (sx 3 rfl (sx 4 rfl (sx 5 rfl (sx 6 rfl (sx 11 rfl (sub_nil _)))))))) (.refl _) ?_
    refine hl_nil ?_
    refine hq_then ?_
    refine hc_block ?_
    refine hc_loop1 (α := Nat) (fun i => [rowE 3 1 v9 ((valsL n (stL n) (cod z0 len0 0 : Int)).length) ((valsL n (stL n) (cod z0 len0 0 : Int)).map (Value.int .i64)), boxE b5 #[.int .i64 n.ins, n.sv, n.av, n.ov] 28, ntE n]) (fun i => [(0, .slice a0 len0 cap0), (2, .bool false), (3, .pointer (some ⟨b5, 0, none⟩)), (4, .int .i64 n.fst), (5, v9), (6, .int .i64 (i : Int)), (11, .bool false)]) (fun i => i ≤ n.gs.length) (fun i => n.gs.length - i) 0 (by omega) (sx 0 rfl (sx 2 rfl (sx 3 rfl (sx 4 rfl (sx 5 rfl (sx 6 rfl (sx 11 rfl (sub_nil _)))))))) ((.cons _ (.cons_cons _ (.cons_cons _ (.cons_cons _ .slnil))))) ?_
    intro i hi12
    have hi := hi12
    refine hc_seq ?_
    refine hc_seq ?_
    refine hc_region ?_
    refine hl_v rfl rfl rfl (rv_ev rfl) ?_
    refine hl_v rfl rfl rfl (rv_field (k0 := 2) rfl (by kernel_rfl) rfl) ?_
    refine hl_v rfl rfl rfl (rv_load rfl (by kernel_rfl) rfl (box_cell 1 rfl rfl)) ?_
    refine hl_v rfl rfl rfl (rv_len rfl Try.underlying25 rfl (fun w hm => (nt_rds 2 rfl w hm).an)) ?_
    refine hl_lss rfl rfl rfl rfl rfl rfl (fun h13 => ?_) (fun h13 => ?_)
    ·
     refine hl_less (sx 0 rfl (sx 2 rfl (sx 3 rfl (sx 4 rfl (sx 5 rfl (sx 6 rfl (sx 11 rfl (sx 30 rfl (sub_nil _))))))))) (.refl _) ?_
     refine hl_nil ?_
     refine hq_then ?_
     refine hc_true rfl ?_
     refine hc_skip ?_
     refine hq_then ?_
     refine hc_seq ?_
     refine hc_block ?_
     refine hc_seq ?_
     refine hc_region ?_
     refine hl_v rfl rfl rfl (rv_loadN (cs := [.int .i64 n.ins, n.sv, n.av, n.ov]) rfl (by kernel_rfl) (by kernel_rfl) rfl rfl (box_part 1 rfl 0 rfl)) ?_
     refine hl_v rfl rfl rfl (rv_ev rfl) ?_
     refine hl_v rfl rfl rfl (rv_ev rfl) ?_
     refine hl_v rfl rfl rfl (rv_add rfl rfl rfl (by constructor <;> omega)) ?_
     refine hl_q rfl rfl rfl (rq_call (by kernel_rfl) rfl (fun w hm => Conjuncts_ret n (n.fst + (i : Int)) w (nt_rds 2 rfl w hm) hn (by omega))) ?_
     intro v14 p15 hR16
     obtain ⟨xs, rfl, hcj, hcn⟩ := hR16
     have hxl := hcj.len hn
     have hxn := hcj.ne
     refine hl_v rfl rfl rfl (rv_ev rfl) ?_
     refine hl_less (sx 0 rfl (sx 2 rfl (sx 3 rfl (sx 4 rfl (sx 5 rfl (sx 6 rfl (sx 7 rfl (sx 11 rfl (sx 30 rfl (sub_nil _)))))))))) (.refl _) ?_
     refine hl_nil ?_
     refine hq_then ?_
     refine hc_seq ?_
     refine hc_region ?_
     refine hl_v rfl rfl rfl (rv_ev rfl) ?_
     refine hl_less (sx 0 rfl (sx 2 rfl (sx 3 rfl (sx 4 rfl (sx 5 rfl (sx 6 rfl (sx 7 rfl (sx 8 rfl (sx 11 rfl (sx 30 rfl (sub_nil _))))))))))) (.refl _) ?_
     refine hl_nil ?_
     refine hq_then ?_
     refine hc_seq ?_
     refine hc_seq ?_
     refine hc_region ?_
     refine hl_v rfl rfl rfl (rv_ev rfl) ?_
     refine hl_less (sx 0 rfl (sx 2 rfl (sx 3 rfl (sx 4 rfl (sx 5 rfl (sx 6 rfl (sx 7 rfl (sx 8 rfl (sx 9 rfl (sx 11 rfl (sx 30 rfl (sub_nil _)))))))))))) (.refl _) ?_
     refine hl_nil ?_
     refine hq_then ?_
     refine hc_block ?_
     refine hc_loop1 (α := Nat) (fun k => [rowE 3 1 v14 xs.length (xs.map (Value.int .i64)), rowE 3 1 v9 ((valsL n (stL n) (cod z0 len0 0 : Int)).length) ((valsL n (stL n) (cod z0 len0 0 : Int)).map (Value.int .i64)), boxE b5 #[.int .i64 n.ins, n.sv, n.av, n.ov] 28, ntE n]) (fun k => [(0, .slice a0 len0 cap0), (2, .bool false), (3, .pointer (some ⟨b5, 0, none⟩)), (4, .int .i64 n.fst), (5, v9), (6, .int .i64 (i : Int)), (7, v14), (8, .int .i64 (prL (valsL n (stL n) (cod z0 len0 0 : Int)) xs k)), (9, .int .i64 (k : Int)), (11, .bool false), (30, .bool true)]) (fun k => k ≤ xs.length) (fun k => xs.length - k) 0 (by omega) (sx 0 rfl (sx 2 rfl (sx 3 rfl (sx 4 rfl (sx 5 rfl (sx 6 rfl (sx 7 rfl (sx 8 rfl (sx 9 rfl (sx 11 rfl (sx 30 rfl (sub_nil _)))))))))))) ((.cons_cons _ (.cons_cons _ (.cons_cons _ (.cons_cons _ .slnil))))) ?_
     intro k hi17
     have hk := hi17
     refine hc_seq ?_
     refine hc_seq ?_
     refine hc_region ?_
     refine hl_v rfl rfl rfl (rv_ev rfl) ?_
     refine hl_v rfl rfl rfl (rv_ev rfl) ?_
     refine hl_v rfl rfl rfl (rv_len rfl Try.underlying26 rfl (rd_row 0 rfl)) ?_
     refine hl_lss rfl rfl rfl rfl rfl rfl (fun h18 => ?_) (fun h18 => ?_)
     ·
      refine hl_less (sx 0 rfl (sx 2 rfl (sx 3 rfl (sx 4 rfl (sx 5 rfl (sx 6 rfl (sx 7 rfl (sx 8 rfl (sx 9 rfl (sx 11 rfl (sx 30 rfl (sx 41 rfl (sub_nil _))))))))))))) (.refl _) ?_
      refine hl_nil ?_
      refine hq_then ?_
      refine hc_true rfl ?_
      refine hc_skip ?_
      refine hq_then ?_
      refine hc_seq ?_
      refine hc_block ?_
      refine hc_seq ?_
      refine hc_seq ?_
      have hcr := hcj.rng _ (getD_memX (d := (0 : Int)) (show k < xs.length by omega))
      have hcnk := hcn k (by omega)
      have hsrt : 0 < k → xs.getD (k - 1) 0 < xs.getD k 0 := fun h0 => srt_at hcj.srt (by omega) (by omega)
      have hk1 : ((k : Int) - 1).toNat = k - 1 := by omega
      rw [← hk1] at hsrt
      rcases Bool.eq_false_or_eq_true (decide (2 * n.fst ≤ xs.getD k 0)) with hb19 | hb19
      ·
       have hb19p : 2 * n.fst ≤ xs.getD k 0 := of_decide_eq_true hb19
       have hcr := hcj.rng _ (getD_memX (d := (0 : Int)) (show k < xs.length by omega))
       have hcnk := hcn k (by omega)
       have hsrt : 0 < k → xs.getD (k - 1) 0 < xs.getD k 0 := fun h0 => srt_at hcj.srt (by omega) (by omega)
       have hk1 : ((k : Int) - 1).toNat = k - 1 := by omega
       rw [← hk1] at hsrt
       rcases Bool.eq_false_or_eq_true (((xs.getD k 0) % 2) == 0) with hb20 | hb20
       ·
        have hb20p : (xs.getD k 0) % 2 = 0 := beq_iff_eq.1 hb20
        have hcr := hcj.rng _ (getD_memX (d := (0 : Int)) (show k < xs.length by omega))
        have hcnk := hcn k (by omega)
        have hsrt : 0 < k → xs.getD (k - 1) 0 < xs.getD k 0 := fun h0 => srt_at hcj.srt (by omega) (by omega)
        have hk1 : ((k : Int) - 1).toNat = k - 1 := by omega
        rw [← hk1] at hsrt
        refine hc_draw (by kernel_rfl) 31 [0, 1, 2, 3, 4, 5, 6, 7, 8, 9, 10, 11, 12, 13, 14, 15, 16, 17, 18, 19, 20, 21, 22, 23, 24, 25, 26, 27, 28, 29, 30] (List.take 31 _) (List.drop 31 _) [[], [], [0, 1], [2], [], [4], [3, 5], [6], [7], [7], [7, 8, 9], [7, 10], [7, 11], [7, 12], [7, 13], [14], [15], [15], [15], [18], [18], [18], [18], [18], [18], [18], [18], [18], [18], [15], [15, 29]] [44, 45, 46, 47, 48, 49, 50, 51, 52, 53, 54, 55, 56, 57, 58, 59, 60, 61, 62, 63, 64, 65, 66, 67, 68, 69, 70, 71, 72, 73, 74] (fun i_ vs_ v_ p_ => match i_ with | 0 => v_ = v14 ∧ p_ = [] | 1 => v_ = .int .i64 (k : Int) ∧ p_ = [] | 2 => v_ = elP v14 (((k : Int)).toNat * 1) ∧ p_ = [] | 3 => v_ = .int .i64 (xs.getD k 0) ∧ p_ = [] | 4 => v_ = .int .i64 n.fst ∧ p_ = [] | 5 => v_ = .int .i64 (2 * n.fst) ∧ p_ = [] | 6 => v_ = .bool true ∧ p_ = [] | 7 => v_ = .bool true ∧ p_ = [] | 8 => v_ = v14 ∧ p_ = [] | 9 => v_ = .int .i64 (k : Int) ∧ p_ = [] | 10 => v_ = elP v14 (((k : Int)).toNat * 1) ∧ p_ = [] | 11 => v_ = .int .i64 (xs.getD k 0) ∧ p_ = [] | 12 => v_ = .int .i64 ((xs.getD k 0) % 2) ∧ p_ = [] | 13 => v_ = .bool true ∧ p_ = [] | 14 => v_ = .bool true ∧ p_ = [] | 15 => v_ = .bool true ∧ p_ = [] | 16 => v_ = undef ∧ p_ = [] | 17 => v_ = undef ∧ p_ = [] | 18 => v_ = undef ∧ p_ = [] | 19 => v_ = undef ∧ p_ = [] | 20 => v_ = undef ∧ p_ = [] | 21 => v_ = undef ∧ p_ = [] | 22 => v_ = undef ∧ p_ = [] | 23 => v_ = undef ∧ p_ = [] | 24 => v_ = undef ∧ p_ = [] | 25 => v_ = undef ∧ p_ = [] | 26 => v_ = undef ∧ p_ = [] | 27 => v_ = undef ∧ p_ = [] | 28 => v_ = undef ∧ p_ = [] | 29 => v_ = undef ∧ p_ = [] | 30 => v_ = .bool true ∧ p_ = [] | _ => True) (List.take_append_drop 31 _).symm (by kernel_rfl) (by kernel_rfl) rfl rfl ?_ ?_
        ·
         refine ⟨?_, ?_, ?_, ?_, ?_, ?_, ?_, ?_, ?_, ?_, ?_, ?_, ?_, ?_, ?_, ?_, ?_, ?_, ?_, ?_, ?_, ?_, ?_, ?_, ?_, ?_, ?_, ?_, ?_, ?_, ?_, trivial⟩
         ·
          intro vf pf hR
          refine Or.inl ⟨rfl, ?_⟩
          refine rq_less (sx 7 rfl (sub_nil _)) (List.sublist_append_right _ _) ?_
          exact rq_v (rv_ev rfl)
         ·
          intro vf pf hR
          refine Or.inl ⟨rfl, ?_⟩
          refine rq_less (sx 9 rfl (sub_nil _)) (List.sublist_append_right _ _) ?_
          exact rq_v (rv_ev rfl)
         ·
          intro vf pf hR
          have e0 : (vf 0) = v14 ∧ (pf 0) = [] := hR 0 (by decide)
          have e1 : (vf 1) = .int .i64 (k : Int) ∧ (pf 1) = [] := hR 1 (by decide)
          refine Or.inl ⟨rfl, ?_⟩
          refine rq_less (sx 44 (congrArg some e0.1) (sx 45 (congrArg some e1.1) (sub_nil _))) (List.sublist_append_right _ _) ?_
          exact rq_v (rv_index (s := 1) rfl Try.underlying26 (by kernel_rfl) rfl rfl (rd_row 0 rfl) (by omega) (by first | omega | (simp only [List.length_set]; omega)))
         ·
          intro vf pf hR
          have e2 : (vf 2) = elP v14 (((k : Int)).toNat * 1) ∧ (pf 2) = [] := hR 2 (by decide)
          refine Or.inl ⟨rfl, ?_⟩
          refine rq_less (sx 46 (congrArg some e2.1) (sub_nil _)) (List.sublist_append_right _ _) ?_
          exact rq_v (rv_loadEl (u := .int .i64 (xs.getD k 0)) rfl (by kernel_rfl) rfl (rd_row 0 rfl) (ints_at1 (show _ < xs.length by first | omega | (simp only [List.length_set]; omega))))
         ·
          intro vf pf hR
          refine Or.inl ⟨rfl, ?_⟩
          refine rq_less (sx 4 rfl (sub_nil _)) (List.sublist_append_right _ _) ?_
          exact rq_v (rv_ev rfl)
         ·
          intro vf pf hR
          have e4 : (vf 4) = .int .i64 n.fst ∧ (pf 4) = [] := hR 4 (by decide)
          refine Or.inl ⟨rfl, ?_⟩
          refine rq_less (sx 48 (congrArg some e4.1) (sub_nil _)) (List.sublist_append_right _ _) ?_
          exact rq_v (rv_mul rfl rfl rfl (by constructor <;> omega))
         ·
          intro vf pf hR
          have e3 : (vf 3) = .int .i64 (xs.getD k 0) ∧ (pf 3) = [] := hR 3 (by decide)
          have e5 : (vf 5) = .int .i64 (2 * n.fst) ∧ (pf 5) = [] := hR 5 (by decide)
          refine Or.inl ⟨rfl, ?_⟩
          refine rq_less (sx 47 (congrArg some e3.1) (sx 49 (congrArg some e5.1) (sub_nil _))) (List.sublist_append_right _ _) ?_
          exact rq_mono (rq_v (rv_cmp rfl rfl rfl rfl)) (fun _ _ h => ⟨h.1.trans (congrArg Value.bool hb19), h.2⟩)
         ·
          intro vf pf hR
          have e6 : (vf 6) = .bool true ∧ (pf 6) = [] := hR 6 (by decide)
          refine Or.inl ⟨rfl, ?_⟩
          refine rq_less (sx 50 (congrArg some e6.1) (sub_nil _)) (List.sublist_append_right _ _) ?_
          exact rq_v (rv_ev rfl)
         ·
          intro vf pf hR
          have e7 : (vf 7) = .bool true ∧ (pf 7) = [] := hR 7 (by decide)
          refine Or.inl ⟨want_of (congrArg some e7.1) rfl, ?_⟩
          refine rq_less (sx 7 rfl (sub_nil _)) (List.sublist_append_right _ _) ?_
          exact rq_v (rv_ev rfl)
         ·
          intro vf pf hR
          have e7 : (vf 7) = .bool true ∧ (pf 7) = [] := hR 7 (by decide)
          refine Or.inl ⟨want_of (congrArg some e7.1) rfl, ?_⟩
          refine rq_less (sx 9 rfl (sub_nil _)) (List.sublist_append_right _ _) ?_
          exact rq_v (rv_ev rfl)
         ·
          intro vf pf hR
          have e7 : (vf 7) = .bool true ∧ (pf 7) = [] := hR 7 (by decide)
          have e8 : (vf 8) = v14 ∧ (pf 8) = [] := hR 8 (by decide)
          have e9 : (vf 9) = .int .i64 (k : Int) ∧ (pf 9) = [] := hR 9 (by decide)
          refine Or.inl ⟨want_of (congrArg some e7.1) rfl, ?_⟩
          refine rq_less (sx 52 (congrArg some e8.1) (sx 53 (congrArg some e9.1) (sub_nil _))) (List.sublist_append_right _ _) ?_
          exact rq_v (rv_index (s := 1) rfl Try.underlying26 (by kernel_rfl) rfl rfl (rd_row 0 rfl) (by omega) (by first | omega | (simp only [List.length_set]; omega)))
         ·
          intro vf pf hR
          have e7 : (vf 7) = .bool true ∧ (pf 7) = [] := hR 7 (by decide)
          have e10 : (vf 10) = elP v14 (((k : Int)).toNat * 1) ∧ (pf 10) = [] := hR 10 (by decide)
          refine Or.inl ⟨want_of (congrArg some e7.1) rfl, ?_⟩
          refine rq_less (sx 54 (congrArg some e10.1) (sub_nil _)) (List.sublist_append_right _ _) ?_
          exact rq_v (rv_loadEl (u := .int .i64 (xs.getD k 0)) rfl (by kernel_rfl) rfl (rd_row 0 rfl) (ints_at1 (show _ < xs.length by first | omega | (simp only [List.length_set]; omega))))
         ·
          intro vf pf hR
          have e7 : (vf 7) = .bool true ∧ (pf 7) = [] := hR 7 (by decide)
          have e11 : (vf 11) = .int .i64 (xs.getD k 0) ∧ (pf 11) = [] := hR 11 (by decide)
          refine Or.inl ⟨want_of (congrArg some e7.1) rfl, ?_⟩
          refine rq_less (sx 55 (congrArg some e11.1) (sub_nil _)) (List.sublist_append_right _ _) ?_
          exact rq_v (rv_rem rfl rfl rfl (by constructor <;> omega))
         ·
          intro vf pf hR
          have e7 : (vf 7) = .bool true ∧ (pf 7) = [] := hR 7 (by decide)
          have e12 : (vf 12) = .int .i64 ((xs.getD k 0) % 2) ∧ (pf 12) = [] := hR 12 (by decide)
          refine Or.inl ⟨want_of (congrArg some e7.1) rfl, ?_⟩
          refine rq_less (sx 56 (congrArg some e12.1) (sub_nil _)) (List.sublist_append_right _ _) ?_
          exact rq_mono (rq_v (rv_cmp rfl rfl rfl rfl)) (fun _ _ h => ⟨h.1.trans (congrArg Value.bool hb20), h.2⟩)
         ·
          intro vf pf hR
          have e7 : (vf 7) = .bool true ∧ (pf 7) = [] := hR 7 (by decide)
          have e13 : (vf 13) = .bool true ∧ (pf 13) = [] := hR 13 (by decide)
          refine Or.inl ⟨rfl, ?_⟩
          refine rq_less (sx 51 (congrArg some e7.1) (sx 57 (congrArg some e13.1) (sub_nil _))) (List.sublist_append_right _ _) ?_
          exact rq_v (rv_ev rfl)
         ·
          intro vf pf hR
          have e14 : (vf 14) = .bool true ∧ (pf 14) = [] := hR 14 (by decide)
          refine Or.inl ⟨rfl, ?_⟩
          refine rq_less (sx 58 (congrArg some e14.1) (sub_nil _)) (List.sublist_append_right _ _) ?_
          exact rq_v (rv_ev rfl)
         ·
          intro vf pf hR
          have e15 : (vf 15) = .bool true ∧ (pf 15) = [] := hR 15 (by decide)
          exact Or.inr ⟨want_of (congrArg some e15.1) rfl, rfl, rfl⟩
         ·
          intro vf pf hR
          have e15 : (vf 15) = .bool true ∧ (pf 15) = [] := hR 15 (by decide)
          exact Or.inr ⟨want_of (congrArg some e15.1) rfl, rfl, rfl⟩
         ·
          intro vf pf hR
          have e15 : (vf 15) = .bool true ∧ (pf 15) = [] := hR 15 (by decide)
          exact Or.inr ⟨want_of (congrArg some e15.1) rfl, rfl, rfl⟩
         ·
          intro vf pf hR
          have e18 : (vf 18) = undef ∧ (pf 18) = [] := hR 18 (by decide)
          exact Or.inr ⟨want_un (congrArg some e18.1), rfl, rfl⟩
         ·
          intro vf pf hR
          have e18 : (vf 18) = undef ∧ (pf 18) = [] := hR 18 (by decide)
          exact Or.inr ⟨want_un (congrArg some e18.1), rfl, rfl⟩
         ·
          intro vf pf hR
          have e18 : (vf 18) = undef ∧ (pf 18) = [] := hR 18 (by decide)
          exact Or.inr ⟨want_un (congrArg some e18.1), rfl, rfl⟩
         ·
          intro vf pf hR
          have e18 : (vf 18) = undef ∧ (pf 18) = [] := hR 18 (by decide)
          exact Or.inr ⟨want_un (congrArg some e18.1), rfl, rfl⟩
         ·
          intro vf pf hR
          have e18 : (vf 18) = undef ∧ (pf 18) = [] := hR 18 (by decide)
          exact Or.inr ⟨want_un (congrArg some e18.1), rfl, rfl⟩
         ·
          intro vf pf hR
          have e18 : (vf 18) = undef ∧ (pf 18) = [] := hR 18 (by decide)
          exact Or.inr ⟨want_un (congrArg some e18.1), rfl, rfl⟩
         ·
          intro vf pf hR
          have e18 : (vf 18) = undef ∧ (pf 18) = [] := hR 18 (by decide)
          exact Or.inr ⟨want_un (congrArg some e18.1), rfl, rfl⟩
         ·
          intro vf pf hR
          have e18 : (vf 18) = undef ∧ (pf 18) = [] := hR 18 (by decide)
          exact Or.inr ⟨want_un (congrArg some e18.1), rfl, rfl⟩
         ·
          intro vf pf hR
          have e18 : (vf 18) = undef ∧ (pf 18) = [] := hR 18 (by decide)
          exact Or.inr ⟨want_un (congrArg some e18.1), rfl, rfl⟩
         ·
          intro vf pf hR
          have e18 : (vf 18) = undef ∧ (pf 18) = [] := hR 18 (by decide)
          exact Or.inr ⟨want_un (congrArg some e18.1), rfl, rfl⟩
         ·
          intro vf pf hR
          have e15 : (vf 15) = .bool true ∧ (pf 15) = [] := hR 15 (by decide)
          exact Or.inr ⟨want_of (congrArg some e15.1) rfl, rfl, rfl⟩
         ·
          intro vf pf hR
          have e15 : (vf 15) = .bool true ∧ (pf 15) = [] := hR 15 (by decide)
          have e29 : (vf 29) = undef ∧ (pf 29) = [] := hR 29 (by decide)
          refine Or.inl ⟨rfl, ?_⟩
          refine rq_less (sx 59 (congrArg some e15.1) (sx 73 (congrArg some e29.1) (sub_nil _))) (List.sublist_append_right _ _) ?_
          exact rq_v (rv_ev rfl)
        ·
         intro vf pf hR
         have e30 : (vf 30) = .bool true ∧ (pf 30) = [] := hR 30 (by decide)
         refine hl_less (l' := [rowE 3 1 v14 xs.length (xs.map (Value.int .i64)), rowE 3 1 v9 ((valsL n (stL n) (cod z0 len0 0 : Int)).length) ((valsL n (stL n) (cod z0 len0 0 : Int)).map (Value.int .i64)), boxE b5 #[.int .i64 n.ins, n.sv, n.av, n.ov] 28, ntE n]) (sx 0 rfl (sx 2 rfl (sx 3 rfl (sx 4 rfl (sx 5 rfl (sx 6 rfl (sx 7 rfl (sx 8 rfl (sx 9 rfl (sx 11 rfl (sx 30 rfl (sx 41 rfl (sx 74 (congrArg some e30.1) (sub_nil _)))))))))))))) (List.sublist_append_right _ _) ?_
         simp only [List.drop_succ_cons, List.drop_zero]
         refine hl_less (sx 0 rfl (sx 2 rfl (sx 3 rfl (sx 4 rfl (sx 5 rfl (sx 6 rfl (sx 7 rfl (sx 8 rfl (sx 9 rfl (sx 11 rfl (sx 30 rfl (sx 41 rfl (sx 74 rfl (sub_nil _)))))))))))))) (.refl _) ?_
         refine hl_nil ?_
         refine hq_then ?_
         refine hc_true rfl ?_
         refine hc_seq ?_
         refine hc_region ?_
         refine hl_v rfl rfl rfl (rv_ev rfl) ?_
         refine hl_less (sx 0 rfl (sx 2 rfl (sx 3 rfl (sx 4 rfl (sx 5 rfl (sx 6 rfl (sx 7 rfl (sx 8 rfl (sx 9 rfl (sx 11 rfl (sx 30 rfl (sx 41 rfl (sx 74 rfl (sub_nil _)))))))))))))) (.refl _) ?_
         refine hl_nil ?_
         refine hq_then ?_
         refine hc_ret ?_
         refine hq_then_ret ?_
         refine hq_block_ret ?_
         refine hq_then_ret ?_
         refine hq_then_ret ?_
         refine hq_block_ret ?_
         refine hq_then_ret ?_
         refine hq_block_ret ?_
         refine hq_then_ret ?_
         refine hq_then_ret ?_
         refine hq_block_ret ?_
         refine hq_then_ret ?_
         exfalso
         omega
       ·
        have hb20p : (xs.getD k 0) % 2 ≠ 0 := beq_eq_false_iff_ne.1 hb20
        have hcr := hcj.rng _ (getD_memX (d := (0 : Int)) (show k < xs.length by omega))
        have hcnk := hcn k (by omega)
        have hsrt : 0 < k → xs.getD (k - 1) 0 < xs.getD k 0 := fun h0 => srt_at hcj.srt (by omega) (by omega)
        have hk1 : ((k : Int) - 1).toNat = k - 1 := by omega
        rw [← hk1] at hsrt
        rcases Bool.eq_false_or_eq_true (decide (0 < (k : Int))) with hb21 | hb21
        ·
         have hb21p : 0 < (k : Int) := of_decide_eq_true hb21
         have hcr := hcj.rng _ (getD_memX (d := (0 : Int)) (show k < xs.length by omega))
         have hcnk := hcn k (by omega)
         have hsrt : 0 < k → xs.getD (k - 1) 0 < xs.getD k 0 := fun h0 => srt_at hcj.srt (by omega) (by omega)
         have hk1 : ((k : Int) - 1).toNat = k - 1 := by omega
         rw [← hk1] at hsrt
         rcases Bool.eq_false_or_eq_true (decide (xs.getD k 0 ≤ xs.getD (((k : Int) - 1).toNat) 0)) with hb22 | hb22
         ·
          have hb22p : xs.getD k 0 ≤ xs.getD (((k : Int) - 1).toNat) 0 := of_decide_eq_true hb22
          have hcr := hcj.rng _ (getD_memX (d := (0 : Int)) (show k < xs.length by omega))
          have hcnk := hcn k (by omega)
          have hsrt : 0 < k → xs.getD (k - 1) 0 < xs.getD k 0 := fun h0 => srt_at hcj.srt (by omega) (by omega)
          have hk1 : ((k : Int) - 1).toNat = k - 1 := by omega
          rw [← hk1] at hsrt
          refine hc_draw (by kernel_rfl) 31 [0, 1, 2, 3, 4, 5, 6, 7, 8, 9, 10, 11, 12, 13, 14, 15, 16, 17, 18, 19, 20, 21, 22, 23, 24, 25, 26, 27, 28, 29, 30] (List.take 31 _) (List.drop 31 _) [[], [], [0, 1], [2], [], [4], [3, 5], [6], [7], [7], [7, 8, 9], [7, 10], [7, 11], [7, 12], [7, 13], [14], [15], [15, 16], [15, 17], [18], [18], [18, 19, 20], [18, 21], [18], [18], [18, 24], [18, 23, 25], [18, 26], [18, 22, 27], [15, 18, 28], [15, 29]] [44, 45, 46, 47, 48, 49, 50, 51, 52, 53, 54, 55, 56, 57, 58, 59, 60, 61, 62, 63, 64, 65, 66, 67, 68, 69, 70, 71, 72, 73, 74] (fun i_ vs_ v_ p_ => match i_ with | 0 => v_ = v14 ∧ p_ = [] | 1 => v_ = .int .i64 (k : Int) ∧ p_ = [] | 2 => v_ = elP v14 (((k : Int)).toNat * 1) ∧ p_ = [] | 3 => v_ = .int .i64 (xs.getD k 0) ∧ p_ = [] | 4 => v_ = .int .i64 n.fst ∧ p_ = [] | 5 => v_ = .int .i64 (2 * n.fst) ∧ p_ = [] | 6 => v_ = .bool true ∧ p_ = [] | 7 => v_ = .bool true ∧ p_ = [] | 8 => v_ = v14 ∧ p_ = [] | 9 => v_ = .int .i64 (k : Int) ∧ p_ = [] | 10 => v_ = elP v14 (((k : Int)).toNat * 1) ∧ p_ = [] | 11 => v_ = .int .i64 (xs.getD k 0) ∧ p_ = [] | 12 => v_ = .int .i64 ((xs.getD k 0) % 2) ∧ p_ = [] | 13 => v_ = .bool false ∧ p_ = [] | 14 => v_ = .bool false ∧ p_ = [] | 15 => v_ = .bool false ∧ p_ = [] | 16 => v_ = .int .i64 (k : Int) ∧ p_ = [] | 17 => v_ = .bool true ∧ p_ = [] | 18 => v_ = .bool true ∧ p_ = [] | 19 => v_ = v14 ∧ p_ = [] | 20 => v_ = .int .i64 (k : Int) ∧ p_ = [] | 21 => v_ = elP v14 (((k : Int)).toNat * 1) ∧ p_ = [] | 22 => v_ = .int .i64 (xs.getD k 0) ∧ p_ = [] | 23 => v_ = v14 ∧ p_ = [] | 24 => v_ = .int .i64 (k : Int) ∧ p_ = [] | 25 => v_ = .int .i64 ((k : Int) - 1) ∧ p_ = [] | 26 => v_ = elP v14 (((k : Int) - 1).toNat * 1) ∧ p_ = [] | 27 => v_ = .int .i64 (xs.getD (((k : Int) - 1).toNat) 0) ∧ p_ = [] | 28 => v_ = .bool true ∧ p_ = [] | 29 => v_ = .bool true ∧ p_ = [] | 30 => v_ = .bool true ∧ p_ = [] | _ => True) (List.take_append_drop 31 _).symm (by kernel_rfl) (by kernel_rfl) rfl rfl ?_ ?_
          ·
           refine ⟨?_, ?_, ?_, ?_, ?_, ?_, ?_, ?_, ?_, ?_, ?_, ?_, ?_, ?_, ?_, ?_, ?_, ?_, ?_, ?_, ?_, ?_, ?_, ?_, ?_, ?_, ?_, ?_, ?_, ?_, ?_, trivial⟩
           ·
            intro vf pf hR
            refine Or.inl ⟨rfl, ?_⟩
            refine rq_less (sx 7 rfl (sub_nil _)) (List.sublist_append_right _ _) ?_
            exact rq_v (rv_ev rfl)
           ·
            intro vf pf hR
            refine Or.inl ⟨rfl, ?_⟩
            refine rq_less (sx 9 rfl (sub_nil _)) (List.sublist_append_right _ _) ?_
            exact rq_v (rv_ev rfl)
           ·
            intro vf pf hR
            have e0 : (vf 0) = v14 ∧ (pf 0) = [] := hR 0 (by decide)
            have e1 : (vf 1) = .int .i64 (k : Int) ∧ (pf 1) = [] := hR 1 (by decide)
            refine Or.inl ⟨rfl, ?_⟩
            refine rq_less (sx 44 (congrArg some e0.1) (sx 45 (congrArg some e1.1) (sub_nil _))) (List.sublist_append_right _ _) ?_
            exact rq_v (rv_index (s := 1) rfl Try.underlying26 (by kernel_rfl) rfl rfl (rd_row 0 rfl) (by omega) (by first | omega | (simp only [List.length_set]; omega)))
           ·
            intro vf pf hR
            have e2 : (vf 2) = elP v14 (((k : Int)).toNat * 1) ∧ (pf 2) = [] := hR 2 (by decide)
            refine Or.inl ⟨rfl, ?_⟩
            refine rq_less (sx 46 (congrArg some e2.1) (sub_nil _)) (List.sublist_append_right _ _) ?_
            exact rq_v (rv_loadEl (u := .int .i64 (xs.getD k 0)) rfl (by kernel_rfl) rfl (rd_row 0 rfl) (ints_at1 (show _ < xs.length by first | omega | (simp only [List.length_set]; omega))))
           ·
            intro vf pf hR
            refine Or.inl ⟨rfl, ?_⟩
            refine rq_less (sx 4 rfl (sub_nil _)) (List.sublist_append_right _ _) ?_
            exact rq_v (rv_ev rfl)
           ·
            intro vf pf hR
            have e4 : (vf 4) = .int .i64 n.fst ∧ (pf 4) = [] := hR 4 (by decide)
            refine Or.inl ⟨rfl, ?_⟩
            refine rq_less (sx 48 (congrArg some e4.1) (sub_nil _)) (List.sublist_append_right _ _) ?_
            exact rq_v (rv_mul rfl rfl rfl (by constructor <;> omega))
           ·
            intro vf pf hR
            have e3 : (vf 3) = .int .i64 (xs.getD k 0) ∧ (pf 3) = [] := hR 3 (by decide)
            have e5 : (vf 5) = .int .i64 (2 * n.fst) ∧ (pf 5) = [] := hR 5 (by decide)
            refine Or.inl ⟨rfl, ?_⟩
            refine rq_less (sx 47 (congrArg some e3.1) (sx 49 (congrArg some e5.1) (sub_nil _))) (List.sublist_append_right _ _) ?_
            exact rq_mono (rq_v (rv_cmp rfl rfl rfl rfl)) (fun _ _ h => ⟨h.1.trans (congrArg Value.bool hb19), h.2⟩)
           ·
            intro vf pf hR
            have e6 : (vf 6) = .bool true ∧ (pf 6) = [] := hR 6 (by decide)
            refine Or.inl ⟨rfl, ?_⟩
            refine rq_less (sx 50 (congrArg some e6.1) (sub_nil _)) (List.sublist_append_right _ _) ?_
            exact rq_v (rv_ev rfl)
           ·
            intro vf pf hR
            have e7 : (vf 7) = .bool true ∧ (pf 7) = [] := hR 7 (by decide)
            refine Or.inl ⟨want_of (congrArg some e7.1) rfl, ?_⟩
            refine rq_less (sx 7 rfl (sub_nil _)) (List.sublist_append_right _ _) ?_
            exact rq_v (rv_ev rfl)
           ·
            intro vf pf hR
            have e7 : (vf 7) = .bool true ∧ (pf 7) = [] := hR 7 (by decide)
            refine Or.inl ⟨want_of (congrArg some e7.1) rfl, ?_⟩
            refine rq_less (sx 9 rfl (sub_nil _)) (List.sublist_append_right _ _) ?_
            exact rq_v (rv_ev rfl)
           ·
            intro vf pf hR
            have e7 : (vf 7) = .bool true ∧ (pf 7) = [] := hR 7 (by decide)
            have e8 : (vf 8) = v14 ∧ (pf 8) = [] := hR 8 (by decide)
            have e9 : (vf 9) = .int .i64 (k : Int) ∧ (pf 9) = [] := hR 9 (by decide)
            refine Or.inl ⟨want_of (congrArg some e7.1) rfl, ?_⟩
            refine rq_less (sx 52 (congrArg some e8.1) (sx 53 (congrArg some e9.1) (sub_nil _))) (List.sublist_append_right _ _) ?_
            exact rq_v (rv_index (s := 1) rfl Try.underlying26 (by kernel_rfl) rfl rfl (rd_row 0 rfl) (by omega) (by first | omega | (simp only [List.length_set]; omega)))
           ·
            intro vf pf hR
            have e7 : (vf 7) = .bool true ∧ (pf 7) = [] := hR 7 (by decide)
            have e10 : (vf 10) = elP v14 (((k : Int)).toNat * 1) ∧ (pf 10) = [] := hR 10 (by decide)
            refine Or.inl ⟨want_of (congrArg some e7.1) rfl, ?_⟩
            refine rq_less (sx 54 (congrArg some e10.1) (sub_nil _)) (List.sublist_append_right _ _) ?_
            exact rq_v (rv_loadEl (u := .int .i64 (xs.getD k 0)) rfl (by kernel_rfl) rfl (rd_row 0 rfl) (ints_at1 (show _ < xs.length by first | omega | (simp only [List.length_set]; omega))))
           ·
            intro vf pf hR
            have e7 : (vf 7) = .bool true ∧ (pf 7) = [] := hR 7 (by decide)
            have e11 : (vf 11) = .int .i64 (xs.getD k 0) ∧ (pf 11) = [] := hR 11 (by decide)
            refine Or.inl ⟨want_of (congrArg some e7.1) rfl, ?_⟩
            refine rq_less (sx 55 (congrArg some e11.1) (sub_nil _)) (List.sublist_append_right _ _) ?_
            exact rq_v (rv_rem rfl rfl rfl (by constructor <;> omega))
           ·
            intro vf pf hR
            have e7 : (vf 7) = .bool true ∧ (pf 7) = [] := hR 7 (by decide)
            have e12 : (vf 12) = .int .i64 ((xs.getD k 0) % 2) ∧ (pf 12) = [] := hR 12 (by decide)
            refine Or.inl ⟨want_of (congrArg some e7.1) rfl, ?_⟩
            refine rq_less (sx 56 (congrArg some e12.1) (sub_nil _)) (List.sublist_append_right _ _) ?_
            exact rq_mono (rq_v (rv_cmp rfl rfl rfl rfl)) (fun _ _ h => ⟨h.1.trans (congrArg Value.bool hb20), h.2⟩)
           ·
            intro vf pf hR
            have e7 : (vf 7) = .bool true ∧ (pf 7) = [] := hR 7 (by decide)
            have e13 : (vf 13) = .bool false ∧ (pf 13) = [] := hR 13 (by decide)
            refine Or.inl ⟨rfl, ?_⟩
            refine rq_less (sx 51 (congrArg some e7.1) (sx 57 (congrArg some e13.1) (sub_nil _))) (List.sublist_append_right _ _) ?_
            exact rq_v (rv_ev rfl)
           ·
            intro vf pf hR
            have e14 : (vf 14) = .bool false ∧ (pf 14) = [] := hR 14 (by decide)
            refine Or.inl ⟨rfl, ?_⟩
            refine rq_less (sx 58 (congrArg some e14.1) (sub_nil _)) (List.sublist_append_right _ _) ?_
            exact rq_v (rv_ev rfl)
           ·
            intro vf pf hR
            have e15 : (vf 15) = .bool false ∧ (pf 15) = [] := hR 15 (by decide)
            refine Or.inl ⟨want_of (congrArg some e15.1) rfl, ?_⟩
            refine rq_less (sx 9 rfl (sub_nil _)) (List.sublist_append_right _ _) ?_
            exact rq_v (rv_ev rfl)
           ·
            intro vf pf hR
            have e15 : (vf 15) = .bool false ∧ (pf 15) = [] := hR 15 (by decide)
            have e16 : (vf 16) = .int .i64 (k : Int) ∧ (pf 16) = [] := hR 16 (by decide)
            refine Or.inl ⟨want_of (congrArg some e15.1) rfl, ?_⟩
            refine rq_less (sx 60 (congrArg some e16.1) (sub_nil _)) (List.sublist_append_right _ _) ?_
            exact rq_mono (rq_v (rv_cmp rfl rfl rfl rfl)) (fun _ _ h => ⟨h.1.trans (congrArg Value.bool hb21), h.2⟩)
           ·
            intro vf pf hR
            have e15 : (vf 15) = .bool false ∧ (pf 15) = [] := hR 15 (by decide)
            have e17 : (vf 17) = .bool true ∧ (pf 17) = [] := hR 17 (by decide)
            refine Or.inl ⟨want_of (congrArg some e15.1) rfl, ?_⟩
            refine rq_less (sx 61 (congrArg some e17.1) (sub_nil _)) (List.sublist_append_right _ _) ?_
            exact rq_v (rv_ev rfl)
           ·
            intro vf pf hR
            have e18 : (vf 18) = .bool true ∧ (pf 18) = [] := hR 18 (by decide)
            refine Or.inl ⟨want_of (congrArg some e18.1) rfl, ?_⟩
            refine rq_less (sx 7 rfl (sub_nil _)) (List.sublist_append_right _ _) ?_
            exact rq_v (rv_ev rfl)
           ·
            intro vf pf hR
            have e18 : (vf 18) = .bool true ∧ (pf 18) = [] := hR 18 (by decide)
            refine Or.inl ⟨want_of (congrArg some e18.1) rfl, ?_⟩
            refine rq_less (sx 9 rfl (sub_nil _)) (List.sublist_append_right _ _) ?_
            exact rq_v (rv_ev rfl)
           ·
            intro vf pf hR
            have e18 : (vf 18) = .bool true ∧ (pf 18) = [] := hR 18 (by decide)
            have e19 : (vf 19) = v14 ∧ (pf 19) = [] := hR 19 (by decide)
            have e20 : (vf 20) = .int .i64 (k : Int) ∧ (pf 20) = [] := hR 20 (by decide)
            refine Or.inl ⟨want_of (congrArg some e18.1) rfl, ?_⟩
            refine rq_less (sx 63 (congrArg some e19.1) (sx 64 (congrArg some e20.1) (sub_nil _))) (List.sublist_append_right _ _) ?_
            exact rq_v (rv_index (s := 1) rfl Try.underlying26 (by kernel_rfl) rfl rfl (rd_row 0 rfl) (by omega) (by first | omega | (simp only [List.length_set]; omega)))
           ·
            intro vf pf hR
            have e18 : (vf 18) = .bool true ∧ (pf 18) = [] := hR 18 (by decide)
            have e21 : (vf 21) = elP v14 (((k : Int)).toNat * 1) ∧ (pf 21) = [] := hR 21 (by decide)
            refine Or.inl ⟨want_of (congrArg some e18.1) rfl, ?_⟩
            refine rq_less (sx 65 (congrArg some e21.1) (sub_nil _)) (List.sublist_append_right _ _) ?_
            exact rq_v (rv_loadEl (u := .int .i64 (xs.getD k 0)) rfl (by kernel_rfl) rfl (rd_row 0 rfl) (ints_at1 (show _ < xs.length by first | omega | (simp only [List.length_set]; omega))))
           ·
            intro vf pf hR
            have e18 : (vf 18) = .bool true ∧ (pf 18) = [] := hR 18 (by decide)
            refine Or.inl ⟨want_of (congrArg some e18.1) rfl, ?_⟩
            refine rq_less (sx 7 rfl (sub_nil _)) (List.sublist_append_right _ _) ?_
            exact rq_v (rv_ev rfl)
           ·
            intro vf pf hR
            have e18 : (vf 18) = .bool true ∧ (pf 18) = [] := hR 18 (by decide)
            refine Or.inl ⟨want_of (congrArg some e18.1) rfl, ?_⟩
            refine rq_less (sx 9 rfl (sub_nil _)) (List.sublist_append_right _ _) ?_
            exact rq_v (rv_ev rfl)
           ·
            intro vf pf hR
            have e18 : (vf 18) = .bool true ∧ (pf 18) = [] := hR 18 (by decide)
            have e24 : (vf 24) = .int .i64 (k : Int) ∧ (pf 24) = [] := hR 24 (by decide)
            refine Or.inl ⟨want_of (congrArg some e18.1) rfl, ?_⟩
            refine rq_less (sx 68 (congrArg some e24.1) (sub_nil _)) (List.sublist_append_right _ _) ?_
            exact rq_v (rv_sub rfl rfl rfl (by constructor <;> omega))
           ·
            intro vf pf hR
            have e18 : (vf 18) = .bool true ∧ (pf 18) = [] := hR 18 (by decide)
            have e23 : (vf 23) = v14 ∧ (pf 23) = [] := hR 23 (by decide)
            have e25 : (vf 25) = .int .i64 ((k : Int) - 1) ∧ (pf 25) = [] := hR 25 (by decide)
            refine Or.inl ⟨want_of (congrArg some e18.1) rfl, ?_⟩
            refine rq_less (sx 67 (congrArg some e23.1) (sx 69 (congrArg some e25.1) (sub_nil _))) (List.sublist_append_right _ _) ?_
            exact rq_v (rv_index (s := 1) rfl Try.underlying26 (by kernel_rfl) rfl rfl (rd_row 0 rfl) (by omega) (by first | omega | (simp only [List.length_set]; omega)))
           ·
            intro vf pf hR
            have e18 : (vf 18) = .bool true ∧ (pf 18) = [] := hR 18 (by decide)
            have e26 : (vf 26) = elP v14 (((k : Int) - 1).toNat * 1) ∧ (pf 26) = [] := hR 26 (by decide)
            refine Or.inl ⟨want_of (congrArg some e18.1) rfl, ?_⟩
            refine rq_less (sx 70 (congrArg some e26.1) (sub_nil _)) (List.sublist_append_right _ _) ?_
            exact rq_v (rv_loadEl (u := .int .i64 (xs.getD (((k : Int) - 1).toNat) 0)) rfl (by kernel_rfl) rfl (rd_row 0 rfl) (ints_at1 (show _ < xs.length by first | omega | (simp only [List.length_set]; omega))))
           ·
            intro vf pf hR
            have e18 : (vf 18) = .bool true ∧ (pf 18) = [] := hR 18 (by decide)
            have e22 : (vf 22) = .int .i64 (xs.getD k 0) ∧ (pf 22) = [] := hR 22 (by decide)
            have e27 : (vf 27) = .int .i64 (xs.getD (((k : Int) - 1).toNat) 0) ∧ (pf 27) = [] := hR 27 (by decide)
            refine Or.inl ⟨want_of (congrArg some e18.1) rfl, ?_⟩
            refine rq_less (sx 66 (congrArg some e22.1) (sx 71 (congrArg some e27.1) (sub_nil _))) (List.sublist_append_right _ _) ?_
            exact rq_mono (rq_v (rv_cmp rfl rfl rfl rfl)) (fun _ _ h => ⟨h.1.trans (congrArg Value.bool hb22), h.2⟩)
           ·
            intro vf pf hR
            have e15 : (vf 15) = .bool false ∧ (pf 15) = [] := hR 15 (by decide)
            have e18 : (vf 18) = .bool true ∧ (pf 18) = [] := hR 18 (by decide)
            have e28 : (vf 28) = .bool true ∧ (pf 28) = [] := hR 28 (by decide)
            refine Or.inl ⟨want_of (congrArg some e15.1) rfl, ?_⟩
            refine rq_less (sx 62 (congrArg some e18.1) (sx 72 (congrArg some e28.1) (sub_nil _))) (List.sublist_append_right _ _) ?_
            exact rq_v (rv_ev rfl)
           ·
            intro vf pf hR
            have e15 : (vf 15) = .bool false ∧ (pf 15) = [] := hR 15 (by decide)
            have e29 : (vf 29) = .bool true ∧ (pf 29) = [] := hR 29 (by decide)
            refine Or.inl ⟨rfl, ?_⟩
            refine rq_less (sx 59 (congrArg some e15.1) (sx 73 (congrArg some e29.1) (sub_nil _))) (List.sublist_append_right _ _) ?_
            exact rq_v (rv_ev rfl)
          ·
           intro vf pf hR
           have e30 : (vf 30) = .bool true ∧ (pf 30) = [] := hR 30 (by decide)
           refine hl_less (l' := [rowE 3 1 v14 xs.length (xs.map (Value.int .i64)), rowE 3 1 v9 ((valsL n (stL n) (cod z0 len0 0 : Int)).length) ((valsL n (stL n) (cod z0 len0 0 : Int)).map (Value.int .i64)), boxE b5 #[.int .i64 n.ins, n.sv, n.av, n.ov] 28, ntE n]) (sx 0 rfl (sx 2 rfl (sx 3 rfl (sx 4 rfl (sx 5 rfl (sx 6 rfl (sx 7 rfl (sx 8 rfl (sx 9 rfl (sx 11 rfl (sx 30 rfl (sx 41 rfl (sx 74 (congrArg some e30.1) (sub_nil _)))))))))))))) (List.sublist_append_right _ _) ?_
           simp only [List.drop_succ_cons, List.drop_zero]
           refine hl_less (sx 0 rfl (sx 2 rfl (sx 3 rfl (sx 4 rfl (sx 5 rfl (sx 6 rfl (sx 7 rfl (sx 8 rfl (sx 9 rfl (sx 11 rfl (sx 30 rfl (sx 41 rfl (sx 74 rfl (sub_nil _)))))))))))))) (.refl _) ?_
           refine hl_nil ?_
           refine hq_then ?_
           refine hc_true rfl ?_
           refine hc_seq ?_
           refine hc_region ?_
           refine hl_v rfl rfl rfl (rv_ev rfl) ?_
           refine hl_less (sx 0 rfl (sx 2 rfl (sx 3 rfl (sx 4 rfl (sx 5 rfl (sx 6 rfl (sx 7 rfl (sx 8 rfl (sx 9 rfl (sx 11 rfl (sx 30 rfl (sx 41 rfl (sx 74 rfl (sub_nil _)))))))))))))) (.refl _) ?_
           refine hl_nil ?_
           refine hq_then ?_
           refine hc_ret ?_
           refine hq_then_ret ?_
           refine hq_block_ret ?_
           refine hq_then_ret ?_
           refine hq_then_ret ?_
           refine hq_block_ret ?_
           refine hq_then_ret ?_
           refine hq_block_ret ?_
           refine hq_then_ret ?_
           refine hq_then_ret ?_
           refine hq_block_ret ?_
           refine hq_then_ret ?_
           exfalso
           omega
         ·
          have hb22p : ¬ (xs.getD k 0 ≤ xs.getD (((k : Int) - 1).toNat) 0) := of_decide_eq_false hb22
          have hcr := hcj.rng _ (getD_memX (d := (0 : Int)) (show k < xs.length by omega))
          have hcnk := hcn k (by omega)
          have hsrt : 0 < k → xs.getD (k - 1) 0 < xs.getD k 0 := fun h0 => srt_at hcj.srt (by omega) (by omega)
          have hk1 : ((k : Int) - 1).toNat = k - 1 := by omega
          rw [← hk1] at hsrt
          refine hc_draw (by kernel_rfl) 31 [0, 1, 2, 3, 4, 5, 6, 7, 8, 9, 10, 11, 12, 13, 14, 15, 16, 17, 18, 19, 20, 21, 22, 23, 24, 25, 26, 27, 28, 29, 30] (List.take 31 _) (List.drop 31 _) [[], [], [0, 1], [2], [], [4], [3, 5], [6], [7], [7], [7, 8, 9], [7, 10], [7, 11], [7, 12], [7, 13], [14], [15], [15, 16], [15, 17], [18], [18], [18, 19, 20], [18, 21], [18], [18], [18, 24], [18, 23, 25], [18, 26], [18, 22, 27], [15, 18, 28], [15, 29]] [44, 45, 46, 47, 48, 49, 50, 51, 52, 53, 54, 55, 56, 57, 58, 59, 60, 61, 62, 63, 64, 65, 66, 67, 68, 69, 70, 71, 72, 73, 74] (fun i_ vs_ v_ p_ => match i_ with | 0 => v_ = v14 ∧ p_ = [] | 1 => v_ = .int .i64 (k : Int) ∧ p_ = [] | 2 => v_ = elP v14 (((k : Int)).toNat * 1) ∧ p_ = [] | 3 => v_ = .int .i64 (xs.getD k 0) ∧ p_ = [] | 4 => v_ = .int .i64 n.fst ∧ p_ = [] | 5 => v_ = .int .i64 (2 * n.fst) ∧ p_ = [] | 6 => v_ = .bool true ∧ p_ = [] | 7 => v_ = .bool true ∧ p_ = [] | 8 => v_ = v14 ∧ p_ = [] | 9 => v_ = .int .i64 (k : Int) ∧ p_ = [] | 10 => v_ = elP v14 (((k : Int)).toNat * 1) ∧ p_ = [] | 11 => v_ = .int .i64 (xs.getD k 0) ∧ p_ = [] | 12 => v_ = .int .i64 ((xs.getD k 0) % 2) ∧ p_ = [] | 13 => v_ = .bool false ∧ p_ = [] | 14 => v_ = .bool false ∧ p_ = [] | 15 => v_ = .bool false ∧ p_ = [] | 16 => v_ = .int .i64 (k : Int) ∧ p_ = [] | 17 => v_ = .bool true ∧ p_ = [] | 18 => v_ = .bool true ∧ p_ = [] | 19 => v_ = v14 ∧ p_ = [] | 20 => v_ = .int .i64 (k : Int) ∧ p_ = [] | 21 => v_ = elP v14 (((k : Int)).toNat * 1) ∧ p_ = [] | 22 => v_ = .int .i64 (xs.getD k 0) ∧ p_ = [] | 23 => v_ = v14 ∧ p_ = [] | 24 => v_ = .int .i64 (k : Int) ∧ p_ = [] | 25 => v_ = .int .i64 ((k : Int) - 1) ∧ p_ = [] | 26 => v_ = elP v14 (((k : Int) - 1).toNat * 1) ∧ p_ = [] | 27 => v_ = .int .i64 (xs.getD (((k : Int) - 1).toNat) 0) ∧ p_ = [] | 28 => v_ = .bool false ∧ p_ = [] | 29 => v_ = .bool false ∧ p_ = [] | 30 => v_ = .bool false ∧ p_ = [] | _ => True) (List.take_append_drop 31 _).symm (by kernel_rfl) (by kernel_rfl) rfl rfl ?_ ?_
          ·
           refine ⟨?_, ?_, ?_, ?_, ?_, ?_, ?_, ?_, ?_, ?_, ?_, ?_, ?_, ?_, ?_, ?_, ?_, ?_, ?_, ?_, ?_, ?_, ?_, ?_, ?_, ?_, ?_, ?_, ?_, ?_, ?_, trivial⟩
           ·
            intro vf pf hR
            refine Or.inl ⟨rfl, ?_⟩
            refine rq_less (sx 7 rfl (sub_nil _)) (List.sublist_append_right _ _) ?_
            exact rq_v (rv_ev rfl)
           ·
            intro vf pf hR
            refine Or.inl ⟨rfl, ?_⟩
            refine rq_less (sx 9 rfl (sub_nil _)) (List.sublist_append_right _ _) ?_
            exact rq_v (rv_ev rfl)
           ·
            intro vf pf hR
            have e0 : (vf 0) = v14 ∧ (pf 0) = [] := hR 0 (by decide)
            have e1 : (vf 1) = .int .i64 (k : Int) ∧ (pf 1) = [] := hR 1 (by decide)
            refine Or.inl ⟨rfl, ?_⟩
            refine rq_less (sx 44 (congrArg some e0.1) (sx 45 (congrArg some e1.1) (sub_nil _))) (List.sublist_append_right _ _) ?_
            exact rq_v (rv_index (s := 1) rfl Try.underlying26 (by kernel_rfl) rfl rfl (rd_row 0 rfl) (by omega) (by first | omega | (simp only [List.length_set]; omega)))
           ·
            intro vf pf hR
            have e2 : (vf 2) = elP v14 (((k : Int)).toNat * 1) ∧ (pf 2) = [] := hR 2 (by decide)
            refine Or.inl ⟨rfl, ?_⟩
            refine rq_less (sx 46 (congrArg some e2.1) (sub_nil _)) (List.sublist_append_right _ _) ?_
            exact rq_v (rv_loadEl (u := .int .i64 (xs.getD k 0)) rfl (by kernel_rfl) rfl (rd_row 0 rfl) (ints_at1 (show _ < xs.length by first | omega | (simp only [List.length_set]; omega))))
           ·
            intro vf pf hR
            refine Or.inl ⟨rfl, ?_⟩
            refine rq_less (sx 4 rfl (sub_nil _)) (List.sublist_append_right _ _) ?_
            exact rq_v (rv_ev rfl)
           ·
            intro vf pf hR
            have e4 : (vf 4) = .int .i64 n.fst ∧ (pf 4) = [] := hR 4 (by decide)
            refine Or.inl ⟨rfl, ?_⟩
            refine rq_less (sx 48 (congrArg some e4.1) (sub_nil _)) (List.sublist_append_right _ _) ?_
            exact rq_v (rv_mul rfl rfl rfl (by constructor <;> omega))
           ·
            intro vf pf hR
            have e3 : (vf 3) = .int .i64 (xs.getD k 0) ∧ (pf 3) = [] := hR 3 (by decide)
            have e5 : (vf 5) = .int .i64 (2 * n.fst) ∧ (pf 5) = [] := hR 5 (by decide)
            refine Or.inl ⟨rfl, ?_⟩
            refine rq_less (sx 47 (congrArg some e3.1) (sx 49 (congrArg some e5.1) (sub_nil _))) (List.sublist_append_right _ _) ?_
            exact rq_mono (rq_v (rv_cmp rfl rfl rfl rfl)) (fun _ _ h => ⟨h.1.trans (congrArg Value.bool hb19), h.2⟩)
           ·
            intro vf pf hR
            have e6 : (vf 6) = .bool true ∧ (pf 6) = [] := hR 6 (by decide)
            refine Or.inl ⟨rfl, ?_⟩
            refine rq_less (sx 50 (congrArg some e6.1) (sub_nil _)) (List.sublist_append_right _ _) ?_
            exact rq_v (rv_ev rfl)
           ·
            intro vf pf hR
            have e7 : (vf 7) = .bool true ∧ (pf 7) = [] := hR 7 (by decide)
            refine Or.inl ⟨want_of (congrArg some e7.1) rfl, ?_⟩
            refine rq_less (sx 7 rfl (sub_nil _)) (List.sublist_append_right _ _) ?_
            exact rq_v (rv_ev rfl)
           ·
            intro vf pf hR
            have e7 : (vf 7) = .bool true ∧ (pf 7) = [] := hR 7 (by decide)
            refine Or.inl ⟨want_of (congrArg some e7.1) rfl, ?_⟩
            refine rq_less (sx 9 rfl (sub_nil _)) (List.sublist_append_right _ _) ?_
            exact rq_v (rv_ev rfl)
           ·
            intro vf pf hR
            have e7 : (vf 7) = .bool true ∧ (pf 7) = [] := hR 7 (by decide)
            have e8 : (vf 8) = v14 ∧ (pf 8) = [] := hR 8 (by decide)
            have e9 : (vf 9) = .int .i64 (k : Int) ∧ (pf 9) = [] := hR 9 (by decide)
            refine Or.inl ⟨want_of (congrArg some e7.1) rfl, ?_⟩
            refine rq_less (sx 52 (congrArg some e8.1) (sx 53 (congrArg some e9.1) (sub_nil _))) (List.sublist_append_right _ _) ?_
            exact rq_v (rv_index (s := 1) rfl Try.underlying26 (by kernel_rfl) rfl rfl (rd_row 0 rfl) (by omega) (by first | omega | (simp only [List.length_set]; omega)))
           ·
            intro vf pf hR
            have e7 : (vf 7) = .bool true ∧ (pf 7) = [] := hR 7 (by decide)
            have e10 : (vf 10) = elP v14 (((k : Int)).toNat * 1) ∧ (pf 10) = [] := hR 10 (by decide)
            refine Or.inl ⟨want_of (congrArg some e7.1) rfl, ?_⟩
            refine rq_less (sx 54 (congrArg some e10.1) (sub_nil _)) (List.sublist_append_right _ _) ?_
            exact rq_v (rv_loadEl (u := .int .i64 (xs.getD k 0)) rfl (by kernel_rfl) rfl (rd_row 0 rfl) (ints_at1 (show _ < xs.length by first | omega | (simp only [List.length_set]; omega))))
           ·
            intro vf pf hR
            have e7 : (vf 7) = .bool true ∧ (pf 7) = [] := hR 7 (by decide)
            have e11 : (vf 11) = .int .i64 (xs.getD k 0) ∧ (pf 11) = [] := hR 11 (by decide)
            refine Or.inl ⟨want_of (congrArg some e7.1) rfl, ?_⟩
            refine rq_less (sx 55 (congrArg some e11.1) (sub_nil _)) (List.sublist_append_right _ _) ?_
            exact rq_v (rv_rem rfl rfl rfl (by constructor <;> omega))
           ·
            intro vf pf hR
            have e7 : (vf 7) = .bool true ∧ (pf 7) = [] := hR 7 (by decide)
            have e12 : (vf 12) = .int .i64 ((xs.getD k 0) % 2) ∧ (pf 12) = [] := hR 12 (by decide)
            refine Or.inl ⟨want_of (congrArg some e7.1) rfl, ?_⟩
            refine rq_less (sx 56 (congrArg some e12.1) (sub_nil _)) (List.sublist_append_right _ _) ?_
            exact rq_mono (rq_v (rv_cmp rfl rfl rfl rfl)) (fun _ _ h => ⟨h.1.trans (congrArg Value.bool hb20), h.2⟩)
           ·
            intro vf pf hR
            have e7 : (vf 7) = .bool true ∧ (pf 7) = [] := hR 7 (by decide)
            have e13 : (vf 13) = .bool false ∧ (pf 13) = [] := hR 13 (by decide)
            refine Or.inl ⟨rfl, ?_⟩
            refine rq_less (sx 51 (congrArg some e7.1) (sx 57 (congrArg some e13.1) (sub_nil _))) (List.sublist_append_right _ _) ?_
            exact rq_v (rv_ev rfl)
           ·
            intro vf pf hR
            have e14 : (vf 14) = .bool false ∧ (pf 14) = [] := hR 14 (by decide)
            refine Or.inl ⟨rfl, ?_⟩
            refine rq_less (sx 58 (congrArg some e14.1) (sub_nil _)) (List.sublist_append_right _ _) ?_
            exact rq_v (rv_ev rfl)
           ·
            intro vf pf hR
            have e15 : (vf 15) = .bool false ∧ (pf 15) = [] := hR 15 (by decide)
            refine Or.inl ⟨want_of (congrArg some e15.1) rfl, ?_⟩
            refine rq_less (sx 9 rfl (sub_nil _)) (List.sublist_append_right _ _) ?_
            exact rq_v (rv_ev rfl)
           ·
            intro vf pf hR
            have e15 : (vf 15) = .bool false ∧ (pf 15) = [] := hR 15 (by decide)
            have e16 : (vf 16) = .int .i64 (k : Int) ∧ (pf 16) = [] := hR 16 (by decide)
            refine Or.inl ⟨want_of (congrArg some e15.1) rfl, ?_⟩
            refine rq_less (sx 60 (congrArg some e16.1) (sub_nil _)) (List.sublist_append_right _ _) ?_
            exact rq_mono (rq_v (rv_cmp rfl rfl rfl rfl)) (fun _ _ h => ⟨h.1.trans (congrArg Value.bool hb21), h.2⟩)
           ·
            intro vf pf hR
            have e15 : (vf 15) = .bool false ∧ (pf 15) = [] := hR 15 (by decide)
            have e17 : (vf 17) = .bool true ∧ (pf 17) = [] := hR 17 (by decide)
            refine Or.inl ⟨want_of (congrArg some e15.1) rfl, ?_⟩
            refine rq_less (sx 61 (congrArg some e17.1) (sub_nil _)) (List.sublist_append_right _ _) ?_
            exact rq_v (rv_ev rfl)
           ·
            intro vf pf hR
            have e18 : (vf 18) = .bool true ∧ (pf 18) = [] := hR 18 (by decide)
            refine Or.inl ⟨want_of (congrArg some e18.1) rfl, ?_⟩
            refine rq_less (sx 7 rfl (sub_nil _)) (List.sublist_append_right _ _) ?_
            exact rq_v (rv_ev rfl)
           ·
            intro vf pf hR
            have e18 : (vf 18) = .bool true ∧ (pf 18) = [] := hR 18 (by decide)
            refine Or.inl ⟨want_of (congrArg some e18.1) rfl, ?_⟩
            refine rq_less (sx 9 rfl (sub_nil _)) (List.sublist_append_right _ _) ?_
            exact rq_v (rv_ev rfl)
           ·
            intro vf pf hR
            have e18 : (vf 18) = .bool true ∧ (pf 18) = [] := hR 18 (by decide)
            have e19 : (vf 19) = v14 ∧ (pf 19) = [] := hR 19 (by decide)
            have e20 : (vf 20) = .int .i64 (k : Int) ∧ (pf 20) = [] := hR 20 (by decide)
            refine Or.inl ⟨want_of (congrArg some e18.1) rfl, ?_⟩
            refine rq_less (sx 63 (congrArg some e19.1) (sx 64 (congrArg some e20.1) (sub_nil _))) (List.sublist_append_right _ _) ?_
            exact rq_v (rv_index (s := 1) rfl Try.underlying26 (by kernel_rfl) rfl rfl (rd_row 0 rfl) (by omega) (by first | omega | (simp only [List.length_set]; omega)))
           ·
            intro vf pf hR
            have e18 : (vf 18) = .bool true ∧ (pf 18) = [] := hR 18 (by decide)
            have e21 : (vf 21) = elP v14 (((k : Int)).toNat * 1) ∧ (pf 21) = [] := hR 21 (by decide)
            refine Or.inl ⟨want_of (congrArg some e18.1) rfl, ?_⟩
            refine rq_less (sx 65 (congrArg some e21.1) (sub_nil _)) (List.sublist_append_right _ _) ?_
            exact rq_v (rv_loadEl (u := .int .i64 (xs.getD k 0)) rfl (by kernel_rfl) rfl (rd_row 0 rfl) (ints_at1 (show _ < xs.length by first | omega | (simp only [List.length_set]; omega))))
           ·
            intro vf pf hR
            have e18 : (vf 18) = .bool true ∧ (pf 18) = [] := hR 18 (by decide)
            refine Or.inl ⟨want_of (congrArg some e18.1) rfl, ?_⟩
            refine rq_less (sx 7 rfl (sub_nil _)) (List.sublist_append_right _ _) ?_
            exact rq_v (rv_ev rfl)
           ·
            intro vf pf hR
            have e18 : (vf 18) = .bool true ∧ (pf 18) = [] := hR 18 (by decide)
            refine Or.inl ⟨want_of (congrArg some e18.1) rfl, ?_⟩
            refine rq_less (sx 9 rfl (sub_nil _)) (List.sublist_append_right _ _) ?_
            exact rq_v (rv_ev rfl)
           ·
            intro vf pf hR
            have e18 : (vf 18) = .bool true ∧ (pf 18) = [] := hR 18 (by decide)
            have e24 : (vf 24) = .int .i64 (k : Int) ∧ (pf 24) = [] := hR 24 (by decide)
            refine Or.inl ⟨want_of (congrArg some e18.1) rfl, ?_⟩
            refine rq_less (sx 68 (congrArg some e24.1) (sub_nil _)) (List.sublist_append_right _ _) ?_
            exact rq_v (rv_sub rfl rfl rfl (by constructor <;> omega))
           ·
            intro vf pf hR
            have e18 : (vf 18) = .bool true ∧ (pf 18) = [] := hR 18 (by decide)
            have e23 : (vf 23) = v14 ∧ (pf 23) = [] := hR 23 (by decide)
            have e25 : (vf 25) = .int .i64 ((k : Int) - 1) ∧ (pf 25) = [] := hR 25 (by decide)
            refine Or.inl ⟨want_of (congrArg some e18.1) rfl, ?_⟩
            refine rq_less (sx 67 (congrArg some e23.1) (sx 69 (congrArg some e25.1) (sub_nil _))) (List.sublist_append_right _ _) ?_
            exact rq_v (rv_index (s := 1) rfl Try.underlying26 (by kernel_rfl) rfl rfl (rd_row 0 rfl) (by omega) (by first | omega | (simp only [List.length_set]; omega)))
           ·
            intro vf pf hR
            have e18 : (vf 18) = .bool true ∧ (pf 18) = [] := hR 18 (by decide)
            have e26 : (vf 26) = elP v14 (((k : Int) - 1).toNat * 1) ∧ (pf 26) = [] := hR 26 (by decide)
            refine Or.inl ⟨want_of (congrArg some e18.1) rfl, ?_⟩
            refine rq_less (sx 70 (congrArg some e26.1) (sub_nil _)) (List.sublist_append_right _ _) ?_
            exact rq_v (rv_loadEl (u := .int .i64 (xs.getD (((k : Int) - 1).toNat) 0)) rfl (by kernel_rfl) rfl (rd_row 0 rfl) (ints_at1 (show _ < xs.length by first | omega | (simp only [List.length_set]; omega))))
           ·
            intro vf pf hR
            have e18 : (vf 18) = .bool true ∧ (pf 18) = [] := hR 18 (by decide)
            have e22 : (vf 22) = .int .i64 (xs.getD k 0) ∧ (pf 22) = [] := hR 22 (by decide)
            have e27 : (vf 27) = .int .i64 (xs.getD (((k : Int) - 1).toNat) 0) ∧ (pf 27) = [] := hR 27 (by decide)
            refine Or.inl ⟨want_of (congrArg some e18.1) rfl, ?_⟩
            refine rq_less (sx 66 (congrArg some e22.1) (sx 71 (congrArg some e27.1) (sub_nil _))) (List.sublist_append_right _ _) ?_
            exact rq_mono (rq_v (rv_cmp rfl rfl rfl rfl)) (fun _ _ h => ⟨h.1.trans (congrArg Value.bool hb22), h.2⟩)
           ·
            intro vf pf hR
            have e15 : (vf 15) = .bool false ∧ (pf 15) = [] := hR 15 (by decide)
            have e18 : (vf 18) = .bool true ∧ (pf 18) = [] := hR 18 (by decide)
            have e28 : (vf 28) = .bool false ∧ (pf 28) = [] := hR 28 (by decide)
            refine Or.inl ⟨want_of (congrArg some e15.1) rfl, ?_⟩
            refine rq_less (sx 62 (congrArg some e18.1) (sx 72 (congrArg some e28.1) (sub_nil _))) (List.sublist_append_right _ _) ?_
            exact rq_v (rv_ev rfl)
           ·
            intro vf pf hR
            have e15 : (vf 15) = .bool false ∧ (pf 15) = [] := hR 15 (by decide)
            have e29 : (vf 29) = .bool false ∧ (pf 29) = [] := hR 29 (by decide)
            refine Or.inl ⟨rfl, ?_⟩
            refine rq_less (sx 59 (congrArg some e15.1) (sx 73 (congrArg some e29.1) (sub_nil _))) (List.sublist_append_right _ _) ?_
            exact rq_v (rv_ev rfl)
          ·
           intro vf pf hR
           have e30 : (vf 30) = .bool false ∧ (pf 30) = [] := hR 30 (by decide)
           refine hl_less (l' := [rowE 3 1 v14 xs.length (xs.map (Value.int .i64)), rowE 3 1 v9 ((valsL n (stL n) (cod z0 len0 0 : Int)).length) ((valsL n (stL n) (cod z0 len0 0 : Int)).map (Value.int .i64)), boxE b5 #[.int .i64 n.ins, n.sv, n.av, n.ov] 28, ntE n]) (sx 0 rfl (sx 2 rfl (sx 3 rfl (sx 4 rfl (sx 5 rfl (sx 6 rfl (sx 7 rfl (sx 8 rfl (sx 9 rfl (sx 11 rfl (sx 30 rfl (sx 41 rfl (sx 74 (congrArg some e30.1) (sub_nil _)))))))))))))) (List.sublist_append_right _ _) ?_
           simp only [List.drop_succ_cons, List.drop_zero]
           refine hl_less (sx 0 rfl (sx 2 rfl (sx 3 rfl (sx 4 rfl (sx 5 rfl (sx 6 rfl (sx 7 rfl (sx 8 rfl (sx 9 rfl (sx 11 rfl (sx 30 rfl (sx 41 rfl (sx 74 rfl (sub_nil _)))))))))))))) (.refl _) ?_
           refine hl_nil ?_
           refine hq_then ?_
           refine hc_false rfl ?_
           refine hc_skip ?_
           refine hq_then ?_
           refine hc_region ?_
           have hcr := hcj.rng _ (getD_memX (d := (0 : Int)) (show k < xs.length by omega))
           have hbk := bit01 hv01 hcr.1 (by omega)
           have hpk := (pr01 hv hcj k (by omega)).1
           refine hl_v rfl rfl rfl (rv_ev rfl) ?_
           refine hl_v rfl rfl rfl (rv_ev rfl) ?_
           refine hl_v rfl rfl rfl (rv_ev rfl) ?_
           refine hl_v rfl rfl rfl (rv_ev rfl) ?_
           refine hl_v rfl rfl rfl (rv_index (s := 1) rfl Try.underlying26 (by kernel_rfl) rfl rfl (rd_row 0 rfl) (by omega) (by first | omega | (simp only [List.length_set]; omega))) ?_
           refine hl_v rfl rfl rfl (rv_loadEl (u := .int .i64 (xs.getD k 0)) rfl (by kernel_rfl) rfl (rd_row 0 rfl) (ints_at1 (show _ < xs.length by first | omega | (simp only [List.length_set]; omega)))) ?_
           refine hl_callV rfl rfl rfl (rq_call (by kernel_rfl) rfl (fun w hm => ret_ans (impLitValue_ans (valsL n (stL n) (cod z0 len0 0 : Int)) (xs.getD k 0) _ w ((rd_row 1 rfl) w hm) (by omega) (hv01 _ (by omega)) (by omega)))) ?_
           refine hl_v rfl rfl rfl (rv_bits rfl (by decide) rfl rfl (r := prL (valsL n (stL n) (cod z0 len0 0 : Int)) xs (k + 1)) (and01 hpk hbk)) ?_
           refine hl_v rfl rfl rfl (rv_ev rfl) ?_
           refine hl_less (sx 0 rfl (sx 2 rfl (sx 3 rfl (sx 4 rfl (sx 5 rfl (sx 6 rfl (sx 7 rfl (sx 8 rfl (sx 9 rfl (sx 11 rfl (sx 30 rfl (sx 41 rfl (sx 74 rfl (sub_nil _)))))))))))))) (.refl _) ?_
           refine hl_nil ?_
           refine hq_block_normal ?_
           refine hq_then ?_
           refine hc_region ?_
           refine hl_v rfl rfl rfl (rv_ev rfl) ?_
           refine hl_v rfl rfl rfl (rv_add rfl rfl rfl (by constructor <;> omega)) ?_
           refine hl_v rfl rfl rfl (rv_ev rfl) ?_
           refine hl_less (sx 0 rfl (sx 2 rfl (sx 3 rfl (sx 4 rfl (sx 5 rfl (sx 6 rfl (sx 7 rfl (sx 8 rfl (sx 9 rfl (sx 11 rfl (sx 30 rfl (sx 41 rfl (sx 74 rfl (sub_nil _)))))))))))))) (.refl _) ?_
           refine hl_nil ?_
           exact hq_round1 (k + 1) (by omega) (by omega) (sx 0 rfl (sx 2 rfl (sx 3 rfl (sx 4 rfl (sx 5 rfl (sx 6 rfl (sx 7 rfl (sx 8 rfl (sx 9 rfl (sx 11 rfl (sx 30 rfl (sub_nil _)))))))))))) ((.cons_cons _ (.cons_cons _ (.cons_cons _ (.cons_cons _ .slnil)))))
        ·
         have hb21p : ¬ (0 < (k : Int)) := of_decide_eq_false hb21
         have hcr := hcj.rng _ (getD_memX (d := (0 : Int)) (show k < xs.length by omega))
         have hcnk := hcn k (by omega)
         have hsrt : 0 < k → xs.getD (k - 1) 0 < xs.getD k 0 := fun h0 => srt_at hcj.srt (by omega) (by omega)
         have hk1 : ((k : Int) - 1).toNat = k - 1 := by omega
         rw [← hk1] at hsrt
         refine hc_draw (by kernel_rfl) 31 [0, 1, 2, 3, 4, 5, 6, 7, 8, 9, 10, 11, 12, 13, 14, 15, 16, 17, 18, 19, 20, 21, 22, 23, 24, 25, 26, 27, 28, 29, 30] (List.take 31 _) (List.drop 31 _) [[], [], [0, 1], [2], [], [4], [3, 5], [6], [7], [7], [7, 8, 9], [7, 10], [7, 11], [7, 12], [7, 13], [14], [15], [15, 16], [15, 17], [18], [18], [18], [18], [18], [18], [18], [18], [18], [18], [15, 18, 28], [15, 29]] [44, 45, 46, 47, 48, 49, 50, 51, 52, 53, 54, 55, 56, 57, 58, 59, 60, 61, 62, 63, 64, 65, 66, 67, 68, 69, 70, 71, 72, 73, 74] (fun i_ vs_ v_ p_ => match i_ with | 0 => v_ = v14 ∧ p_ = [] | 1 => v_ = .int .i64 (k : Int) ∧ p_ = [] | 2 => v_ = elP v14 (((k : Int)).toNat * 1) ∧ p_ = [] | 3 => v_ = .int .i64 (xs.getD k 0) ∧ p_ = [] | 4 => v_ = .int .i64 n.fst ∧ p_ = [] | 5 => v_ = .int .i64 (2 * n.fst) ∧ p_ = [] | 6 => v_ = .bool true ∧ p_ = [] | 7 => v_ = .bool true ∧ p_ = [] | 8 => v_ = v14 ∧ p_ = [] | 9 => v_ = .int .i64 (k : Int) ∧ p_ = [] | 10 => v_ = elP v14 (((k : Int)).toNat * 1) ∧ p_ = [] | 11 => v_ = .int .i64 (xs.getD k 0) ∧ p_ = [] | 12 => v_ = .int .i64 ((xs.getD k 0) % 2) ∧ p_ = [] | 13 => v_ = .bool false ∧ p_ = [] | 14 => v_ = .bool false ∧ p_ = [] | 15 => v_ = .bool false ∧ p_ = [] | 16 => v_ = .int .i64 (k : Int) ∧ p_ = [] | 17 => v_ = .bool false ∧ p_ = [] | 18 => v_ = .bool false ∧ p_ = [] | 19 => v_ = undef ∧ p_ = [] | 20 => v_ = undef ∧ p_ = [] | 21 => v_ = undef ∧ p_ = [] | 22 => v_ = undef ∧ p_ = [] | 23 => v_ = undef ∧ p_ = [] | 24 => v_ = undef ∧ p_ = [] | 25 => v_ = undef ∧ p_ = [] | 26 => v_ = undef ∧ p_ = [] | 27 => v_ = undef ∧ p_ = [] | 28 => v_ = undef ∧ p_ = [] | 29 => v_ = .bool false ∧ p_ = [] | 30 => v_ = .bool false ∧ p_ = [] | _ => True) (List.take_append_drop 31 _).symm (by kernel_rfl) (by kernel_rfl) rfl rfl ?_ ?_
         ·
          refine ⟨?_, ?_, ?_, ?_, ?_, ?_, ?_, ?_, ?_, ?_, ?_, ?_, ?_, ?_, ?_, ?_, ?_, ?_, ?_, ?_, ?_, ?_, ?_, ?_, ?_, ?_, ?_, ?_, ?_, ?_, ?_, trivial⟩
          ·
           intro vf pf hR
           refine Or.inl ⟨rfl, ?_⟩
           refine rq_less (sx 7 rfl (sub_nil _)) (List.sublist_append_right _ _) ?_
           exact rq_v (rv_ev rfl)
          ·
           intro vf pf hR
           refine Or.inl ⟨rfl, ?_⟩
           refine rq_less (sx 9 rfl (sub_nil _)) (List.sublist_append_right _ _) ?_
           exact rq_v (rv_ev rfl)
          ·
           intro vf pf hR
           have e0 : (vf 0) = v14 ∧ (pf 0) = [] := hR 0 (by decide)
           have e1 : (vf 1) = .int .i64 (k : Int) ∧ (pf 1) = [] := hR 1 (by decide)
           refine Or.inl ⟨rfl, ?_⟩
           refine rq_less (sx 44 (congrArg some e0.1) (sx 45 (congrArg some e1.1) (sub_nil _))) (List.sublist_append_right _ _) ?_
           exact rq_v (rv_index (s := 1) rfl Try.underlying26 (by kernel_rfl) rfl rfl (rd_row 0 rfl) (by omega) (by first | omega | (simp only [List.length_set]; omega)))
          ·
           intro vf pf hR
           have e2 : (vf 2) = elP v14 (((k : Int)).toNat * 1) ∧ (pf 2) = [] := hR 2 (by decide)
           refine Or.inl ⟨rfl, ?_⟩
           refine rq_less (sx 46 (congrArg some e2.1) (sub_nil _)) (List.sublist_append_right _ _) ?_
           exact rq_v (rv_loadEl (u := .int .i64 (xs.getD k 0)) rfl (by kernel_rfl) rfl (rd_row 0 rfl) (ints_at1 (show _ < xs.length by first | omega | (simp only [List.length_set]; omega))))
          ·
           intro vf pf hR
           refine Or.inl ⟨rfl, ?_⟩
           refine rq_less (sx 4 rfl (sub_nil _)) (List.sublist_append_right _ _) ?_
           exact rq_v (rv_ev rfl)
          ·
           intro vf pf hR
           have e4 : (vf 4) = .int .i64 n.fst ∧ (pf 4) = [] := hR 4 (by decide)
           refine Or.inl ⟨rfl, ?_⟩
           refine rq_less (sx 48 (congrArg some e4.1) (sub_nil _)) (List.sublist_append_right _ _) ?_
           exact rq_v (rv_mul rfl rfl rfl (by constructor <;> omega))
          ·
           intro vf pf hR
           have e3 : (vf 3) = .int .i64 (xs.getD k 0) ∧ (pf 3) = [] := hR 3 (by decide)
           have e5 : (vf 5) = .int .i64 (2 * n.fst) ∧ (pf 5) = [] := hR 5 (by decide)
           refine Or.inl ⟨rfl, ?_⟩
           refine rq_less (sx 47 (congrArg some e3.1) (sx 49 (congrArg some e5.1) (sub_nil _))) (List.sublist_append_right _ _) ?_
           exact rq_mono (rq_v (rv_cmp rfl rfl rfl rfl)) (fun _ _ h => ⟨h.1.trans (congrArg Value.bool hb19), h.2⟩)
          ·
           intro vf pf hR
           have e6 : (vf 6) = .bool true ∧ (pf 6) = [] := hR 6 (by decide)
           refine Or.inl ⟨rfl, ?_⟩
           refine rq_less (sx 50 (congrArg some e6.1) (sub_nil _)) (List.sublist_append_right _ _) ?_
           exact rq_v (rv_ev rfl)
          ·
           intro vf pf hR
           have e7 : (vf 7) = .bool true ∧ (pf 7) = [] := hR 7 (by decide)
           refine Or.inl ⟨want_of (congrArg some e7.1) rfl, ?_⟩
           refine rq_less (sx 7 rfl (sub_nil _)) (List.sublist_append_right _ _) ?_
           exact rq_v (rv_ev rfl)
          ·
           intro vf pf hR
           have e7 : (vf 7) = .bool true ∧ (pf 7) = [] := hR 7 (by decide)
           refine Or.inl ⟨want_of (congrArg some e7.1) rfl, ?_⟩
           refine rq_less (sx 9 rfl (sub_nil _)) (List.sublist_append_right _ _) ?_
           exact rq_v (rv_ev rfl)
          ·
           intro vf pf hR
           have e7 : (vf 7) = .bool true ∧ (pf 7) = [] := hR 7 (by decide)
           have e8 : (vf 8) = v14 ∧ (pf 8) = [] := hR 8 (by decide)
           have e9 : (vf 9) = .int .i64 (k : Int) ∧ (pf 9) = [] := hR 9 (by decide)
           refine Or.inl ⟨want_of (congrArg some e7.1) rfl, ?_⟩
           refine rq_less (sx 52 (congrArg some e8.1) (sx 53 (congrArg some e9.1) (sub_nil _))) (List.sublist_append_right _ _) ?_
           exact rq_v (rv_index (s := 1) rfl Try.underlying26 (by kernel_rfl) rfl rfl (rd_row 0 rfl) (by omega) (by first | omega | (simp only [List.length_set]; omega)))
          ·
           intro vf pf hR
           have e7 : (vf 7) = .bool true ∧ (pf 7) = [] := hR 7 (by decide)
           have e10 : (vf 10) = elP v14 (((k : Int)).toNat * 1) ∧ (pf 10) = [] := hR 10 (by decide)
           refine Or.inl ⟨want_of (congrArg some e7.1) rfl, ?_⟩
           refine rq_less (sx 54 (congrArg some e10.1) (sub_nil _)) (List.sublist_append_right _ _) ?_
           exact rq_v (rv_loadEl (u := .int .i64 (xs.getD k 0)) rfl (by kernel_rfl) rfl (rd_row 0 rfl) (ints_at1 (show _ < xs.length by first | omega | (simp only [List.length_set]; omega))))
          ·
           intro vf pf hR
           have e7 : (vf 7) = .bool true ∧ (pf 7) = [] := hR 7 (by decide)
           have e11 : (vf 11) = .int .i64 (xs.getD k 0) ∧ (pf 11) = [] := hR 11 (by decide)
           refine Or.inl ⟨want_of (congrArg some e7.1) rfl, ?_⟩
           refine rq_less (sx 55 (congrArg some e11.1) (sub_nil _)) (List.sublist_append_right _ _) ?_
           exact rq_v (rv_rem rfl rfl rfl (by constructor <;> omega))
          ·
           intro vf pf hR
           have e7 : (vf 7) = .bool true ∧ (pf 7) = [] := hR 7 (by decide)
           have e12 : (vf 12) = .int .i64 ((xs.getD k 0) % 2) ∧ (pf 12) = [] := hR 12 (by decide)
           refine Or.inl ⟨want_of (congrArg some e7.1) rfl, ?_⟩
           refine rq_less (sx 56 (congrArg some e12.1) (sub_nil _)) (List.sublist_append_right _ _) ?_
           exact rq_mono (rq_v (rv_cmp rfl rfl rfl rfl)) (fun _ _ h => ⟨h.1.trans (congrArg Value.bool hb20), h.2⟩)
          ·
           intro vf pf hR
           have e7 : (vf 7) = .bool true ∧ (pf 7) = [] := hR 7 (by decide)
           have e13 : (vf 13) = .bool false ∧ (pf 13) = [] := hR 13 (by decide)
           refine Or.inl ⟨rfl, ?_⟩
           refine rq_less (sx 51 (congrArg some e7.1) (sx 57 (congrArg some e13.1) (sub_nil _))) (List.sublist_append_right _ _) ?_
           exact rq_v (rv_ev rfl)
          ·
           intro vf pf hR
           have e14 : (vf 14) = .bool false ∧ (pf 14) = [] := hR 14 (by decide)
           refine Or.inl ⟨rfl, ?_⟩
           refine rq_less (sx 58 (congrArg some e14.1) (sub_nil _)) (List.sublist_append_right _ _) ?_
           exact rq_v (rv_ev rfl)
          ·
           intro vf pf hR
           have e15 : (vf 15) = .bool false ∧ (pf 15) = [] := hR 15 (by decide)
           refine Or.inl ⟨want_of (congrArg some e15.1) rfl, ?_⟩
           refine rq_less (sx 9 rfl (sub_nil _)) (List.sublist_append_right _ _) ?_
           exact rq_v (rv_ev rfl)
          ·
           intro vf pf hR
           have e15 : (vf 15) = .bool false ∧ (pf 15) = [] := hR 15 (by decide)
           have e16 : (vf 16) = .int .i64 (k : Int) ∧ (pf 16) = [] := hR 16 (by decide)
           refine Or.inl ⟨want_of (congrArg some e15.1) rfl, ?_⟩
           refine rq_less (sx 60 (congrArg some e16.1) (sub_nil _)) (List.sublist_append_right _ _) ?_
           exact rq_mono (rq_v (rv_cmp rfl rfl rfl rfl)) (fun _ _ h => ⟨h.1.trans (congrArg Value.bool hb21), h.2⟩)
          ·
           intro vf pf hR
           have e15 : (vf 15) = .bool false ∧ (pf 15) = [] := hR 15 (by decide)
           have e17 : (vf 17) = .bool false ∧ (pf 17) = [] := hR 17 (by decide)
           refine Or.inl ⟨want_of (congrArg some e15.1) rfl, ?_⟩
           refine rq_less (sx 61 (congrArg some e17.1) (sub_nil _)) (List.sublist_append_right _ _) ?_
           exact rq_v (rv_ev rfl)
          ·
           intro vf pf hR
           have e18 : (vf 18) = .bool false ∧ (pf 18) = [] := hR 18 (by decide)
           exact Or.inr ⟨want_of (congrArg some e18.1) rfl, rfl, rfl⟩
          ·
           intro vf pf hR
           have e18 : (vf 18) = .bool false ∧ (pf 18) = [] := hR 18 (by decide)
           exact Or.inr ⟨want_of (congrArg some e18.1) rfl, rfl, rfl⟩
          ·
           intro vf pf hR
           have e18 : (vf 18) = .bool false ∧ (pf 18) = [] := hR 18 (by decide)
           exact Or.inr ⟨want_of (congrArg some e18.1) rfl, rfl, rfl⟩
          ·
           intro vf pf hR
           have e18 : (vf 18) = .bool false ∧ (pf 18) = [] := hR 18 (by decide)
           exact Or.inr ⟨want_of (congrArg some e18.1) rfl, rfl, rfl⟩
          ·
           intro vf pf hR
           have e18 : (vf 18) = .bool false ∧ (pf 18) = [] := hR 18 (by decide)
           exact Or.inr ⟨want_of (congrArg some e18.1) rfl, rfl, rfl⟩
          ·
           intro vf pf hR
           have e18 : (vf 18) = .bool false ∧ (pf 18) = [] := hR 18 (by decide)
           exact Or.inr ⟨want_of (congrArg some e18.1) rfl, rfl, rfl⟩
          ·
           intro vf pf hR
           have e18 : (vf 18) = .bool false ∧ (pf 18) = [] := hR 18 (by decide)
           exact Or.inr ⟨want_of (congrArg some e18.1) rfl, rfl, rfl⟩
          ·
           intro vf pf hR
           have e18 : (vf 18) = .bool false ∧ (pf 18) = [] := hR 18 (by decide)
           exact Or.inr ⟨want_of (congrArg some e18.1) rfl, rfl, rfl⟩
          ·
           intro vf pf hR
           have e18 : (vf 18) = .bool false ∧ (pf 18) = [] := hR 18 (by decide)
           exact Or.inr ⟨want_of (congrArg some e18.1) rfl, rfl, rfl⟩
          ·
           intro vf pf hR
           have e18 : (vf 18) = .bool false ∧ (pf 18) = [] := hR 18 (by decide)
           exact Or.inr ⟨want_of (congrArg some e18.1) rfl, rfl, rfl⟩
          ·
           intro vf pf hR
           have e15 : (vf 15) = .bool false ∧ (pf 15) = [] := hR 15 (by decide)
           have e18 : (vf 18) = .bool false ∧ (pf 18) = [] := hR 18 (by decide)
           have e28 : (vf 28) = undef ∧ (pf 28) = [] := hR 28 (by decide)
           refine Or.inl ⟨want_of (congrArg some e15.1) rfl, ?_⟩
           refine rq_less (sx 62 (congrArg some e18.1) (sx 72 (congrArg some e28.1) (sub_nil _))) (List.sublist_append_right _ _) ?_
           exact rq_v (rv_ev rfl)
          ·
           intro vf pf hR
           have e15 : (vf 15) = .bool false ∧ (pf 15) = [] := hR 15 (by decide)
           have e29 : (vf 29) = .bool false ∧ (pf 29) = [] := hR 29 (by decide)
           refine Or.inl ⟨rfl, ?_⟩
           refine rq_less (sx 59 (congrArg some e15.1) (sx 73 (congrArg some e29.1) (sub_nil _))) (List.sublist_append_right _ _) ?_
           exact rq_v (rv_ev rfl)
         ·
          intro vf pf hR
          have e30 : (vf 30) = .bool false ∧ (pf 30) = [] := hR 30 (by decide)
          refine hl_less (l' := [rowE 3 1 v14 xs.length (xs.map (Value.int .i64)), rowE 3 1 v9 ((valsL n (stL n) (cod z0 len0 0 : Int)).length) ((valsL n (stL n) (cod z0 len0 0 : Int)).map (Value.int .i64)), boxE b5 #[.int .i64 n.ins, n.sv, n.av, n.ov] 28, ntE n]) (sx 0 rfl (sx 2 rfl (sx 3 rfl (sx 4 rfl (sx 5 rfl (sx 6 rfl (sx 7 rfl (sx 8 rfl (sx 9 rfl (sx 11 rfl (sx 30 rfl (sx 41 rfl (sx 74 (congrArg some e30.1) (sub_nil _)))))))))))))) (List.sublist_append_right _ _) ?_
          simp only [List.drop_succ_cons, List.drop_zero]
          refine hl_less (sx 0 rfl (sx 2 rfl (sx 3 rfl (sx 4 rfl (sx 5 rfl (sx 6 rfl (sx 7 rfl (sx 8 rfl (sx 9 rfl (sx 11 rfl (sx 30 rfl (sx 41 rfl (sx 74 rfl (sub_nil _)))))))))))))) (.refl _) ?_
          refine hl_nil ?_
          refine hq_then ?_
          refine hc_false rfl ?_
          refine hc_skip ?_
          refine hq_then ?_
          refine hc_region ?_
          have hcr := hcj.rng _ (getD_memX (d := (0 : Int)) (show k < xs.length by omega))
          have hbk := bit01 hv01 hcr.1 (by omega)
          have hpk := (pr01 hv hcj k (by omega)).1
          refine hl_v rfl rfl rfl (rv_ev rfl) ?_
          refine hl_v rfl rfl rfl (rv_ev rfl) ?_
          refine hl_v rfl rfl rfl (rv_ev rfl) ?_
          refine hl_v rfl rfl rfl (rv_ev rfl) ?_
          refine hl_v rfl rfl rfl (rv_index (s := 1) rfl Try.underlying26 (by kernel_rfl) rfl rfl (rd_row 0 rfl) (by omega) (by first | omega | (simp only [List.length_set]; omega))) ?_
          refine hl_v rfl rfl rfl (rv_loadEl (u := .int .i64 (xs.getD k 0)) rfl (by kernel_rfl) rfl (rd_row 0 rfl) (ints_at1 (show _ < xs.length by first | omega | (simp only [List.length_set]; omega)))) ?_
          refine hl_callV rfl rfl rfl (rq_call (by kernel_rfl) rfl (fun w hm => ret_ans (impLitValue_ans (valsL n (stL n) (cod z0 len0 0 : Int)) (xs.getD k 0) _ w ((rd_row 1 rfl) w hm) (by omega) (hv01 _ (by omega)) (by omega)))) ?_
          refine hl_v rfl rfl rfl (rv_bits rfl (by decide) rfl rfl (r := prL (valsL n (stL n) (cod z0 len0 0 : Int)) xs (k + 1)) (and01 hpk hbk)) ?_
          refine hl_v rfl rfl rfl (rv_ev rfl) ?_
          refine hl_less (sx 0 rfl (sx 2 rfl (sx 3 rfl (sx 4 rfl (sx 5 rfl (sx 6 rfl (sx 7 rfl (sx 8 rfl (sx 9 rfl (sx 11 rfl (sx 30 rfl (sx 41 rfl (sx 74 rfl (sub_nil _)))))))))))))) (.refl _) ?_
          refine hl_nil ?_
          refine hq_block_normal ?_
          refine hq_then ?_
          refine hc_region ?_
          refine hl_v rfl rfl rfl (rv_ev rfl) ?_
          refine hl_v rfl rfl rfl (rv_add rfl rfl rfl (by constructor <;> omega)) ?_
          refine hl_v rfl rfl rfl (rv_ev rfl) ?_
          refine hl_less (sx 0 rfl (sx 2 rfl (sx 3 rfl (sx 4 rfl (sx 5 rfl (sx 6 rfl (sx 7 rfl (sx 8 rfl (sx 9 rfl (sx 11 rfl (sx 30 rfl (sx 41 rfl (sx 74 rfl (sub_nil _)))))))))))))) (.refl _) ?_
          refine hl_nil ?_
          exact hq_round1 (k + 1) (by omega) (by omega) (sx 0 rfl (sx 2 rfl (sx 3 rfl (sx 4 rfl (sx 5 rfl (sx 6 rfl (sx 7 rfl (sx 8 rfl (sx 9 rfl (sx 11 rfl (sx 30 rfl (sub_nil _)))))))))))) ((.cons_cons _ (.cons_cons _ (.cons_cons _ (.cons_cons _ .slnil)))))
      ·
       have hb19p : ¬ (2 * n.fst ≤ xs.getD k 0) := of_decide_eq_false hb19
       have hcr := hcj.rng _ (getD_memX (d := (0 : Int)) (show k < xs.length by omega))
       have hcnk := hcn k (by omega)
       have hsrt : 0 < k → xs.getD (k - 1) 0 < xs.getD k 0 := fun h0 => srt_at hcj.srt (by omega) (by omega)
       have hk1 : ((k : Int) - 1).toNat = k - 1 := by omega
       rw [← hk1] at hsrt
       rcases Bool.eq_false_or_eq_true (decide (0 < (k : Int))) with hb23 | hb23
       ·
        have hb23p : 0 < (k : Int) := of_decide_eq_true hb23
        have hcr := hcj.rng _ (getD_memX (d := (0 : Int)) (show k < xs.length by omega))
        have hcnk := hcn k (by omega)
        have hsrt : 0 < k → xs.getD (k - 1) 0 < xs.getD k 0 := fun h0 => srt_at hcj.srt (by omega) (by omega)
        have hk1 : ((k : Int) - 1).toNat = k - 1 := by omega
        rw [← hk1] at hsrt
        rcases Bool.eq_false_or_eq_true (decide (xs.getD k 0 ≤ xs.getD (((k : Int) - 1).toNat) 0)) with hb24 | hb24
        ·
         have hb24p : xs.getD k 0 ≤ xs.getD (((k : Int) - 1).toNat) 0 := of_decide_eq_true hb24
         have hcr := hcj.rng _ (getD_memX (d := (0 : Int)) (show k < xs.length by omega))
         have hcnk := hcn k (by omega)
         have hsrt : 0 < k → xs.getD (k - 1) 0 < xs.getD k 0 := fun h0 => srt_at hcj.srt (by omega) (by omega)
         have hk1 : ((k : Int) - 1).toNat = k - 1 := by omega
         rw [← hk1] at hsrt
         refine hc_draw (by kernel_rfl) 31 [0, 1, 2, 3, 4, 5, 6, 7, 8, 9, 10, 11, 12, 13, 14, 15, 16, 17, 18, 19, 20, 21, 22, 23, 24, 25, 26, 27, 28, 29, 30] (List.take 31 _) (List.drop 31 _) [[], [], [0, 1], [2], [], [4], [3, 5], [6], [7], [7], [7], [7], [7], [7], [7, 13], [14], [15], [15, 16], [15, 17], [18], [18], [18, 19, 20], [18, 21], [18], [18], [18, 24], [18, 23, 25], [18, 26], [18, 22, 27], [15, 18, 28], [15, 29]] [44, 45, 46, 47, 48, 49, 50, 51, 52, 53, 54, 55, 56, 57, 58, 59, 60, 61, 62, 63, 64, 65, 66, 67, 68, 69, 70, 71, 72, 73, 74] (fun i_ vs_ v_ p_ => match i_ with | 0 => v_ = v14 ∧ p_ = [] | 1 => v_ = .int .i64 (k : Int) ∧ p_ = [] | 2 => v_ = elP v14 (((k : Int)).toNat * 1) ∧ p_ = [] | 3 => v_ = .int .i64 (xs.getD k 0) ∧ p_ = [] | 4 => v_ = .int .i64 n.fst ∧ p_ = [] | 5 => v_ = .int .i64 (2 * n.fst) ∧ p_ = [] | 6 => v_ = .bool false ∧ p_ = [] | 7 => v_ = .bool false ∧ p_ = [] | 8 => v_ = undef ∧ p_ = [] | 9 => v_ = undef ∧ p_ = [] | 10 => v_ = undef ∧ p_ = [] | 11 => v_ = undef ∧ p_ = [] | 12 => v_ = undef ∧ p_ = [] | 13 => v_ = undef ∧ p_ = [] | 14 => v_ = .bool false ∧ p_ = [] | 15 => v_ = .bool false ∧ p_ = [] | 16 => v_ = .int .i64 (k : Int) ∧ p_ = [] | 17 => v_ = .bool true ∧ p_ = [] | 18 => v_ = .bool true ∧ p_ = [] | 19 => v_ = v14 ∧ p_ = [] | 20 => v_ = .int .i64 (k : Int) ∧ p_ = [] | 21 => v_ = elP v14 (((k : Int)).toNat * 1) ∧ p_ = [] | 22 => v_ = .int .i64 (xs.getD k 0) ∧ p_ = [] | 23 => v_ = v14 ∧ p_ = [] | 24 => v_ = .int .i64 (k : Int) ∧ p_ = [] | 25 => v_ = .int .i64 ((k : Int) - 1) ∧ p_ = [] | 26 => v_ = elP v14 (((k : Int) - 1).toNat * 1) ∧ p_ = [] | 27 => v_ = .int .i64 (xs.getD (((k : Int) - 1).toNat) 0) ∧ p_ = [] | 28 => v_ = .bool true ∧ p_ = [] | 29 => v_ = .bool true ∧ p_ = [] | 30 => v_ = .bool true ∧ p_ = [] | _ => True) (List.take_append_drop 31 _).symm (by kernel_rfl) (by kernel_rfl) rfl rfl ?_ ?_
         ·
          refine ⟨?_, ?_, ?_, ?_, ?_, ?_, ?_, ?_, ?_, ?_, ?_, ?_, ?_, ?_, ?_, ?_, ?_, ?_, ?_, ?_, ?_, ?_, ?_, ?_, ?_, ?_, ?_, ?_, ?_, ?_, ?_, trivial⟩
          ·
           intro vf pf hR
           refine Or.inl ⟨rfl, ?_⟩
           refine rq_less (sx 7 rfl (sub_nil _)) (List.sublist_append_right _ _) ?_
           exact rq_v (rv_ev rfl)
          ·
           intro vf pf hR
           refine Or.inl ⟨rfl, ?_⟩
           refine rq_less (sx 9 rfl (sub_nil _)) (List.sublist_append_right _ _) ?_
           exact rq_v (rv_ev rfl)
          ·
           intro vf pf hR
           have e0 : (vf 0) = v14 ∧ (pf 0) = [] := hR 0 (by decide)
           have e1 : (vf 1) = .int .i64 (k : Int) ∧ (pf 1) = [] := hR 1 (by decide)
           refine Or.inl ⟨rfl, ?_⟩
           refine rq_less (sx 44 (congrArg some e0.1) (sx 45 (congrArg some e1.1) (sub_nil _))) (List.sublist_append_right _ _) ?_
           exact rq_v (rv_index (s := 1) rfl Try.underlying26 (by kernel_rfl) rfl rfl (rd_row 0 rfl) (by omega) (by first | omega | (simp only [List.length_set]; omega)))
          ·
           intro vf pf hR
           have e2 : (vf 2) = elP v14 (((k : Int)).toNat * 1) ∧ (pf 2) = [] := hR 2 (by decide)
           refine Or.inl ⟨rfl, ?_⟩
           refine rq_less (sx 46 (congrArg some e2.1) (sub_nil _)) (List.sublist_append_right _ _) ?_
           exact rq_v (rv_loadEl (u := .int .i64 (xs.getD k 0)) rfl (by kernel_rfl) rfl (rd_row 0 rfl) (ints_at1 (show _ < xs.length by first | omega | (simp only [List.length_set]; omega))))
          ·
           intro vf pf hR
           refine Or.inl ⟨rfl, ?_⟩
           refine rq_less (sx 4 rfl (sub_nil _)) (List.sublist_append_right _ _) ?_
           exact rq_v (rv_ev rfl)
          ·
           intro vf pf hR
           have e4 : (vf 4) = .int .i64 n.fst ∧ (pf 4) = [] := hR 4 (by decide)
           refine Or.inl ⟨rfl, ?_⟩
           refine rq_less (sx 48 (congrArg some e4.1) (sub_nil _)) (List.sublist_append_right _ _) ?_
           exact rq_v (rv_mul rfl rfl rfl (by constructor <;> omega))
          ·
           intro vf pf hR
           have e3 : (vf 3) = .int .i64 (xs.getD k 0) ∧ (pf 3) = [] := hR 3 (by decide)
           have e5 : (vf 5) = .int .i64 (2 * n.fst) ∧ (pf 5) = [] := hR 5 (by decide)
           refine Or.inl ⟨rfl, ?_⟩
           refine rq_less (sx 47 (congrArg some e3.1) (sx 49 (congrArg some e5.1) (sub_nil _))) (List.sublist_append_right _ _) ?_
           exact rq_mono (rq_v (rv_cmp rfl rfl rfl rfl)) (fun _ _ h => ⟨h.1.trans (congrArg Value.bool hb19), h.2⟩)
          ·
           intro vf pf hR
           have e6 : (vf 6) = .bool false ∧ (pf 6) = [] := hR 6 (by decide)
           refine Or.inl ⟨rfl, ?_⟩
           refine rq_less (sx 50 (congrArg some e6.1) (sub_nil _)) (List.sublist_append_right _ _) ?_
           exact rq_v (rv_ev rfl)
          ·
           intro vf pf hR
           have e7 : (vf 7) = .bool false ∧ (pf 7) = [] := hR 7 (by decide)
           exact Or.inr ⟨want_of (congrArg some e7.1) rfl, rfl, rfl⟩
          ·
           intro vf pf hR
           have e7 : (vf 7) = .bool false ∧ (pf 7) = [] := hR 7 (by decide)
           exact Or.inr ⟨want_of (congrArg some e7.1) rfl, rfl, rfl⟩
          ·
           intro vf pf hR
           have e7 : (vf 7) = .bool false ∧ (pf 7) = [] := hR 7 (by decide)
           exact Or.inr ⟨want_of (congrArg some e7.1) rfl, rfl, rfl⟩
          ·
           intro vf pf hR
           have e7 : (vf 7) = .bool false ∧ (pf 7) = [] := hR 7 (by decide)
           exact Or.inr ⟨want_of (congrArg some e7.1) rfl, rfl, rfl⟩
          ·
           intro vf pf hR
           have e7 : (vf 7) = .bool false ∧ (pf 7) = [] := hR 7 (by decide)
           exact Or.inr ⟨want_of (congrArg some e7.1) rfl, rfl, rfl⟩
          ·
           intro vf pf hR
           have e7 : (vf 7) = .bool false ∧ (pf 7) = [] := hR 7 (by decide)
           exact Or.inr ⟨want_of (congrArg some e7.1) rfl, rfl, rfl⟩
          ·
           intro vf pf hR
           have e7 : (vf 7) = .bool false ∧ (pf 7) = [] := hR 7 (by decide)
           have e13 : (vf 13) = undef ∧ (pf 13) = [] := hR 13 (by decide)
           refine Or.inl ⟨rfl, ?_⟩
           refine rq_less (sx 51 (congrArg some e7.1) (sx 57 (congrArg some e13.1) (sub_nil _))) (List.sublist_append_right _ _) ?_
           exact rq_v (rv_ev rfl)
          ·
           intro vf pf hR
           have e14 : (vf 14) = .bool false ∧ (pf 14) = [] := hR 14 (by decide)
           refine Or.inl ⟨rfl, ?_⟩
           refine rq_less (sx 58 (congrArg some e14.1) (sub_nil _)) (List.sublist_append_right _ _) ?_
           exact rq_v (rv_ev rfl)
          ·
           intro vf pf hR
           have e15 : (vf 15) = .bool false ∧ (pf 15) = [] := hR 15 (by decide)
           refine Or.inl ⟨want_of (congrArg some e15.1) rfl, ?_⟩
           refine rq_less (sx 9 rfl (sub_nil _)) (List.sublist_append_right _ _) ?_
           exact rq_v (rv_ev rfl)
          ·
           intro vf pf hR
           have e15 : (vf 15) = .bool false ∧ (pf 15) = [] := hR 15 (by decide)
           have e16 : (vf 16) = .int .i64 (k : Int) ∧ (pf 16) = [] := hR 16 (by decide)
           refine Or.inl ⟨want_of (congrArg some e15.1) rfl, ?_⟩
           refine rq_less (sx 60 (congrArg some e16.1) (sub_nil _)) (List.sublist_append_right _ _) ?_
           exact rq_mono (rq_v (rv_cmp rfl rfl rfl rfl)) (fun _ _ h => ⟨h.1.trans (congrArg Value.bool hb23), h.2⟩)
          ·
           intro vf pf hR
           have e15 : (vf 15) = .bool false ∧ (pf 15) = [] := hR 15 (by decide)
           have e17 : (vf 17) = .bool true ∧ (pf 17) = [] := hR 17 (by decide)
           refine Or.inl ⟨want_of (congrArg some e15.1) rfl, ?_⟩
           refine rq_less (sx 61 (congrArg some e17.1) (sub_nil _)) (List.sublist_append_right _ _) ?_
           exact rq_v (rv_ev rfl)
          ·
           intro vf pf hR
           have e18 : (vf 18) = .bool true ∧ (pf 18) = [] := hR 18 (by decide)
           refine Or.inl ⟨want_of (congrArg some e18.1) rfl, ?_⟩
           refine rq_less (sx 7 rfl (sub_nil _)) (List.sublist_append_right _ _) ?_
           exact rq_v (rv_ev rfl)
          ·
           intro vf pf hR
           have e18 : (vf 18) = .bool true ∧ (pf 18) = [] := hR 18 (by decide)
           refine Or.inl ⟨want_of (congrArg some e18.1) rfl, ?_⟩
           refine rq_less (sx 9 rfl (sub_nil _)) (List.sublist_append_right _ _) ?_
           exact rq_v (rv_ev rfl)
          ·
           intro vf pf hR
           have e18 : (vf 18) = .bool true ∧ (pf 18) = [] := hR 18 (by decide)
           have e19 : (vf 19) = v14 ∧ (pf 19) = [] := hR 19 (by decide)
           have e20 : (vf 20) = .int .i64 (k : Int) ∧ (pf 20) = [] := hR 20 (by decide)
           refine Or.inl ⟨want_of (congrArg some e18.1) rfl, ?_⟩
           refine rq_less (sx 63 (congrArg some e19.1) (sx 64 (congrArg some e20.1) (sub_nil _))) (List.sublist_append_right _ _) ?_
           exact rq_v (rv_index (s := 1) rfl Try.underlying26 (by kernel_rfl) rfl rfl (rd_row 0 rfl) (by omega) (by first | omega | (simp only [List.length_set]; omega)))
          ·
           intro vf pf hR
           have e18 : (vf 18) = .bool true ∧ (pf 18) = [] := hR 18 (by decide)
           have e21 : (vf 21) = elP v14 (((k : Int)).toNat * 1) ∧ (pf 21) = [] := hR 21 (by decide)
           refine Or.inl ⟨want_of (congrArg some e18.1) rfl, ?_⟩
           refine rq_less (sx 65 (congrArg some e21.1) (sub_nil _)) (List.sublist_append_right _ _) ?_
           exact rq_v (rv_loadEl (u := .int .i64 (xs.getD k 0)) rfl (by kernel_rfl) rfl (rd_row 0 rfl) (ints_at1 (show _ < xs.length by first | omega | (simp only [List.length_set]; omega))))
          ·
           intro vf pf hR
           have e18 : (vf 18) = .bool true ∧ (pf 18) = [] := hR 18 (by decide)
           refine Or.inl ⟨want_of (congrArg some e18.1) rfl, ?_⟩
           refine rq_less (sx 7 rfl (sub_nil _)) (List.sublist_append_right _ _) ?_
           exact rq_v (rv_ev rfl)
          ·
           intro vf pf hR
           have e18 : (vf 18) = .bool true ∧ (pf 18) = [] := hR 18 (by decide)
           refine Or.inl ⟨want_of (congrArg some e18.1) rfl, ?_⟩
           refine rq_less (sx 9 rfl (sub_nil _)) (List.sublist_append_right _ _) ?_
           exact rq_v (rv_ev rfl)
          ·
           intro vf pf hR
           have e18 : (vf 18) = .bool true ∧ (pf 18) = [] := hR 18 (by decide)
           have e24 : (vf 24) = .int .i64 (k : Int) ∧ (pf 24) = [] := hR 24 (by decide)
           refine Or.inl ⟨want_of (congrArg some e18.1) rfl, ?_⟩
           refine rq_less (sx 68 (congrArg some e24.1) (sub_nil _)) (List.sublist_append_right _ _) ?_
           exact rq_v (rv_sub rfl rfl rfl (by constructor <;> omega))
          ·
           intro vf pf hR
           have e18 : (vf 18) = .bool true ∧ (pf 18) = [] := hR 18 (by decide)
           have e23 : (vf 23) = v14 ∧ (pf 23) = [] := hR 23 (by decide)
           have e25 : (vf 25) = .int .i64 ((k : Int) - 1) ∧ (pf 25) = [] := hR 25 (by decide)
           refine Or.inl ⟨want_of (congrArg some e18.1) rfl, ?_⟩
           refine rq_less (sx 67 (congrArg some e23.1) (sx 69 (congrArg some e25.1) (sub_nil _))) (List.sublist_append_right _ _) ?_
           exact rq_v (rv_index (s := 1) rfl Try.underlying26 (by kernel_rfl) rfl rfl (rd_row 0 rfl) (by omega) (by first | omega | (simp only [List.length_set]; omega)))
          ·
           intro vf pf hR
           have e18 : (vf 18) = .bool true ∧ (pf 18) = [] := hR 18 (by decide)
           have e26 : (vf 26) = elP v14 (((k : Int) - 1).toNat * 1) ∧ (pf 26) = [] := hR 26 (by decide)
           refine Or.inl ⟨want_of (congrArg some e18.1) rfl, ?_⟩
           refine rq_less (sx 70 (congrArg some e26.1) (sub_nil _)) (List.sublist_append_right _ _) ?_
           exact rq_v (rv_loadEl (u := .int .i64 (xs.getD (((k : Int) - 1).toNat) 0)) rfl (by kernel_rfl) rfl (rd_row 0 rfl) (ints_at1 (show _ < xs.length by first | omega | (simp only [List.length_set]; omega))))
          ·
           intro vf pf hR
           have e18 : (vf 18) = .bool true ∧ (pf 18) = [] := hR 18 (by decide)
           have e22 : (vf 22) = .int .i64 (xs.getD k 0) ∧ (pf 22) = [] := hR 22 (by decide)
           have e27 : (vf 27) = .int .i64 (xs.getD (((k : Int) - 1).toNat) 0) ∧ (pf 27) = [] := hR 27 (by decide)
           refine Or.inl ⟨want_of (congrArg some e18.1) rfl, ?_⟩
           refine rq_less (sx 66 (congrArg some e22.1) (sx 71 (congrArg some e27.1) (sub_nil _))) (List.sublist_append_right _ _) ?_
           exact rq_mono (rq_v (rv_cmp rfl rfl rfl rfl)) (fun _ _ h => ⟨h.1.trans (congrArg Value.bool hb24), h.2⟩)
          ·
           intro vf pf hR
           have e15 : (vf 15) = .bool false ∧ (pf 15) = [] := hR 15 (by decide)
           have e18 : (vf 18) = .bool true ∧ (pf 18) = [] := hR 18 (by decide)
           have e28 : (vf 28) = .bool true ∧ (pf 28) = [] := hR 28 (by decide)
           refine Or.inl ⟨want_of (congrArg some e15.1) rfl, ?_⟩
           refine rq_less (sx 62 (congrArg some e18.1) (sx 72 (congrArg some e28.1) (sub_nil _))) (List.sublist_append_right _ _) ?_
           exact rq_v (rv_ev rfl)
          ·
           intro vf pf hR
           have e15 : (vf 15) = .bool false ∧ (pf 15) = [] := hR 15 (by decide)
           have e29 : (vf 29) = .bool true ∧ (pf 29) = [] := hR 29 (by decide)
           refine Or.inl ⟨rfl, ?_⟩
           refine rq_less (sx 59 (congrArg some e15.1) (sx 73 (congrArg some e29.1) (sub_nil _))) (List.sublist_append_right _ _) ?_
           exact rq_v (rv_ev rfl)
         ·
          intro vf pf hR
          have e30 : (vf 30) = .bool true ∧ (pf 30) = [] := hR 30 (by decide)
          refine hl_less (l' := [rowE 3 1 v14 xs.length (xs.map (Value.int .i64)), rowE 3 1 v9 ((valsL n (stL n) (cod z0 len0 0 : Int)).length) ((valsL n (stL n) (cod z0 len0 0 : Int)).map (Value.int .i64)), boxE b5 #[.int .i64 n.ins, n.sv, n.av, n.ov] 28, ntE n]) (sx 0 rfl (sx 2 rfl (sx 3 rfl (sx 4 rfl (sx 5 rfl (sx 6 rfl (sx 7 rfl (sx 8 rfl (sx 9 rfl (sx 11 rfl (sx 30 rfl (sx 41 rfl (sx 74 (congrArg some e30.1) (sub_nil _)))))))))))))) (List.sublist_append_right _ _) ?_
          simp only [List.drop_succ_cons, List.drop_zero]
          refine hl_less (sx 0 rfl (sx 2 rfl (sx 3 rfl (sx 4 rfl (sx 5 rfl (sx 6 rfl (sx 7 rfl (sx 8 rfl (sx 9 rfl (sx 11 rfl (sx 30 rfl (sx 41 rfl (sx 74 rfl (sub_nil _)))))))))))))) (.refl _) ?_
          refine hl_nil ?_
          refine hq_then ?_
          refine hc_true rfl ?_
          refine hc_seq ?_
          refine hc_region ?_
          refine hl_v rfl rfl rfl (rv_ev rfl) ?_
          refine hl_less (sx 0 rfl (sx 2 rfl (sx 3 rfl (sx 4 rfl (sx 5 rfl (sx 6 rfl (sx 7 rfl (sx 8 rfl (sx 9 rfl (sx 11 rfl (sx 30 rfl (sx 41 rfl (sx 74 rfl (sub_nil _)))))))))))))) (.refl _) ?_
          refine hl_nil ?_
          refine hq_then ?_
          refine hc_ret ?_
          refine hq_then_ret ?_
          refine hq_block_ret ?_
          refine hq_then_ret ?_
          refine hq_then_ret ?_
          refine hq_block_ret ?_
          refine hq_then_ret ?_
          refine hq_block_ret ?_
          refine hq_then_ret ?_
          refine hq_then_ret ?_
          refine hq_block_ret ?_
          refine hq_then_ret ?_
          exfalso
          omega
        ·
         have hb24p : ¬ (xs.getD k 0 ≤ xs.getD (((k : Int) - 1).toNat) 0) := of_decide_eq_false hb24
         have hcr := hcj.rng _ (getD_memX (d := (0 : Int)) (show k < xs.length by omega))
         have hcnk := hcn k (by omega)
         have hsrt : 0 < k → xs.getD (k - 1) 0 < xs.getD k 0 := fun h0 => srt_at hcj.srt (by omega) (by omega)
         have hk1 : ((k : Int) - 1).toNat = k - 1 := by omega
         rw [← hk1] at hsrt
         refine hc_draw (by kernel_rfl) 31 [0, 1, 2, 3, 4, 5, 6, 7, 8, 9, 10, 11, 12, 13, 14, 15, 16, 17, 18, 19, 20, 21, 22, 23, 24, 25, 26, 27, 28, 29, 30] (List.take 31 _) (List.drop 31 _) [[], [], [0, 1], [2], [], [4], [3, 5], [6], [7], [7], [7], [7], [7], [7], [7, 13], [14], [15], [15, 16], [15, 17], [18], [18], [18, 19, 20], [18, 21], [18], [18], [18, 24], [18, 23, 25], [18, 26], [18, 22, 27], [15, 18, 28], [15, 29]] [44, 45, 46, 47, 48, 49, 50, 51, 52, 53, 54, 55, 56, 57, 58, 59, 60, 61, 62, 63, 64, 65, 66, 67, 68, 69, 70, 71, 72, 73, 74] (fun i_ vs_ v_ p_ => match i_ with | 0 => v_ = v14 ∧ p_ = [] | 1 => v_ = .int .i64 (k : Int) ∧ p_ = [] | 2 => v_ = elP v14 (((k : Int)).toNat * 1) ∧ p_ = [] | 3 => v_ = .int .i64 (xs.getD k 0) ∧ p_ = [] | 4 => v_ = .int .i64 n.fst ∧ p_ = [] | 5 => v_ = .int .i64 (2 * n.fst) ∧ p_ = [] | 6 => v_ = .bool false ∧ p_ = [] | 7 => v_ = .bool false ∧ p_ = [] | 8 => v_ = undef ∧ p_ = [] | 9 => v_ = undef ∧ p_ = [] | 10 => v_ = undef ∧ p_ = [] | 11 => v_ = undef ∧ p_ = [] | 12 => v_ = undef ∧ p_ = [] | 13 => v_ = undef ∧ p_ = [] | 14 => v_ = .bool false ∧ p_ = [] | 15 => v_ = .bool false ∧ p_ = [] | 16 => v_ = .int .i64 (k : Int) ∧ p_ = [] | 17 => v_ = .bool true ∧ p_ = [] | 18 => v_ = .bool true ∧ p_ = [] | 19 => v_ = v14 ∧ p_ = [] | 20 => v_ = .int .i64 (k : Int) ∧ p_ = [] | 21 => v_ = elP v14 (((k : Int)).toNat * 1) ∧ p_ = [] | 22 => v_ = .int .i64 (xs.getD k 0) ∧ p_ = [] | 23 => v_ = v14 ∧ p_ = [] | 24 => v_ = .int .i64 (k : Int) ∧ p_ = [] | 25 => v_ = .int .i64 ((k : Int) - 1) ∧ p_ = [] | 26 => v_ = elP v14 (((k : Int) - 1).toNat * 1) ∧ p_ = [] | 27 => v_ = .int .i64 (xs.getD (((k : Int) - 1).toNat) 0) ∧ p_ = [] | 28 => v_ = .bool false ∧ p_ = [] | 29 => v_ = .bool false ∧ p_ = [] | 30 => v_ = .bool false ∧ p_ = [] | _ => True) (List.take_append_drop 31 _).symm (by kernel_rfl) (by kernel_rfl) rfl rfl ?_ ?_
         ·
          refine ⟨?_, ?_, ?_, ?_, ?_, ?_, ?_, ?_, ?_, ?_, ?_, ?_, ?_, ?_, ?_, ?_, ?_, ?_, ?_, ?_, ?_, ?_, ?_, ?_, ?_, ?_, ?_, ?_, ?_, ?_, ?_, trivial⟩
          ·
           intro vf pf hR
           refine Or.inl ⟨rfl, ?_⟩
           refine rq_less (sx 7 rfl (sub_nil _)) (List.sublist_append_right _ _) ?_
           exact rq_v (rv_ev rfl)
          ·
           intro vf pf hR
           refine Or.inl ⟨rfl, ?_⟩
           refine rq_less (sx 9 rfl (sub_nil _)) (List.sublist_append_right _ _) ?_
           exact rq_v (rv_ev rfl)
          ·
           intro vf pf hR
           have e0 : (vf 0) = v14 ∧ (pf 0) = [] := hR 0 (by decide)
           have e1 : (vf 1) = .int .i64 (k : Int) ∧ (pf 1) = [] := hR 1 (by decide)
           refine Or.inl ⟨rfl, ?_⟩
           refine rq_less (sx 44 (congrArg some e0.1) (sx 45 (congrArg some e1.1) (sub_nil _))) (List.sublist_append_right _ _) ?_
           exact rq_v (rv_index (s := 1) rfl Try.underlying26 (by kernel_rfl) rfl rfl (rd_row 0 rfl) (by omega) (by first | omega | (simp only [List.length_set]; omega)))
          ·
           intro vf pf hR
           have e2 : (vf 2) = elP v14 (((k : Int)).toNat * 1) ∧ (pf 2) = [] := hR 2 (by decide)
           refine Or.inl ⟨rfl, ?_⟩
           refine rq_less (sx 46 (congrArg some e2.1) (sub_nil _)) (List.sublist_append_right _ _) ?_
           exact rq_v (rv_loadEl (u := .int .i64 (xs.getD k 0)) rfl (by kernel_rfl) rfl (rd_row 0 rfl) (ints_at1 (show _ < xs.length by first | omega | (simp only [List.length_set]; omega))))
          ·
           intro vf pf hR
           refine Or.inl ⟨rfl, ?_⟩
           refine rq_less (sx 4 rfl (sub_nil _)) (List.sublist_append_right _ _) ?_
           exact rq_v (rv_ev rfl)
          ·
           intro vf pf hR
           have e4 : (vf 4) = .int .i64 n.fst ∧ (pf 4) = [] := hR 4 (by decide)
           refine Or.inl ⟨rfl, ?_⟩
           refine rq_less (sx 48 (congrArg some e4.1) (sub_nil _)) (List.sublist_append_right _ _) ?_
           exact rq_v (rv_mul rfl rfl rfl (by constructor <;> omega))
          ·
           intro vf pf hR
           have e3 : (vf 3) = .int .i64 (xs.getD k 0) ∧ (pf 3) = [] := hR 3 (by decide)
           have e5 : (vf 5) = .int .i64 (2 * n.fst) ∧ (pf 5) = [] := hR 5 (by decide)
           refine Or.inl ⟨rfl, ?_⟩
           refine rq_less (sx 47 (congrArg some e3.1) (sx 49 (congrArg some e5.1) (sub_nil _))) (List.sublist_append_right _ _) ?_
           exact rq_mono (rq_v (rv_cmp rfl rfl rfl rfl)) (fun _ _ h => ⟨h.1.trans (congrArg Value.bool hb19), h.2⟩)
          ·
           intro vf pf hR
           have e6 : (vf 6) = .bool false ∧ (pf 6) = [] := hR 6 (by decide)
           refine Or.inl ⟨rfl, ?_⟩
           refine rq_less (sx 50 (congrArg some e6.1) (sub_nil _)) (List.sublist_append_right _ _) ?_
           exact rq_v (rv_ev rfl)
          ·
           intro vf pf hR
           have e7 : (vf 7) = .bool false ∧ (pf 7) = [] := hR 7 (by decide)
           exact Or.inr ⟨want_of (congrArg some e7.1) rfl, rfl, rfl⟩
          ·
           intro vf pf hR
           have e7 : (vf 7) = .bool false ∧ (pf 7) = [] := hR 7 (by decide)
           exact Or.inr ⟨want_of (congrArg some e7.1) rfl, rfl, rfl⟩
          ·
           intro vf pf hR
           have e7 : (vf 7) = .bool false ∧ (pf 7) = [] := hR 7 (by decide)
           exact Or.inr ⟨want_of (congrArg some e7.1) rfl, rfl, rfl⟩
          ·
           intro vf pf hR
           have e7 : (vf 7) = .bool false ∧ (pf 7) = [] := hR 7 (by decide)
           exact Or.inr ⟨want_of (congrArg some e7.1) rfl, rfl, rfl⟩
          ·
           intro vf pf hR
           have e7 : (vf 7) = .bool false ∧ (pf 7) = [] := hR 7 (by decide)
           exact Or.inr ⟨want_of (congrArg some e7.1) rfl, rfl, rfl⟩
          ·
           intro vf pf hR
           have e7 : (vf 7) = .bool false ∧ (pf 7) = [] := hR 7 (by decide)
           exact Or.inr ⟨want_of (congrArg some e7.1) rfl, rfl, rfl⟩
          ·
           intro vf pf hR
           have e7 : (vf 7) = .bool false ∧ (pf 7) = [] := hR 7 (by decide)
           have e13 : (vf 13) = undef ∧ (pf 13) = [] := hR 13 (by decide)
           refine Or.inl ⟨rfl, ?_⟩
           refine rq_less (sx 51 (congrArg some e7.1) (sx 57 (congrArg some e13.1) (sub_nil _))) (List.sublist_append_right _ _) ?_
           exact rq_v (rv_ev rfl)
          ·
           intro vf pf hR
           have e14 : (vf 14) = .bool false ∧ (pf 14) = [] := hR 14 (by decide)
           refine Or.inl ⟨rfl, ?_⟩
           refine rq_less (sx 58 (congrArg some e14.1) (sub_nil _)) (List.sublist_append_right _ _) ?_
           exact rq_v (rv_ev rfl)
          ·
           intro vf pf hR
           have e15 : (vf 15) = .bool false ∧ (pf 15) = [] := hR 15 (by decide)
           refine Or.inl ⟨want_of (congrArg some e15.1) rfl, ?_⟩
           refine rq_less (sx 9 rfl (sub_nil _)) (List.sublist_append_right _ _) ?_
           exact rq_v (rv_ev rfl)
          ·
           intro vf pf hR
           have e15 : (vf 15) = .bool false ∧ (pf 15) = [] := hR 15 (by decide)
           have e16 : (vf 16) = .int .i64 (k : Int) ∧ (pf 16) = [] := hR 16 (by decide)
           refine Or.inl ⟨want_of (congrArg some e15.1) rfl, ?_⟩
           refine rq_less (sx 60 (congrArg some e16.1) (sub_nil _)) (List.sublist_append_right _ _) ?_
           exact rq_mono (rq_v (rv_cmp rfl rfl rfl rfl)) (fun _ _ h => ⟨h.1.trans (congrArg Value.bool hb23), h.2⟩)
          ·
           intro vf pf hR
           have e15 : (vf 15) = .bool false ∧ (pf 15) = [] := hR 15 (by decide)
           have e17 : (vf 17) = .bool true ∧ (pf 17) = [] := hR 17 (by decide)
           refine Or.inl ⟨want_of (congrArg some e15.1) rfl, ?_⟩
           refine rq_less (sx 61 (congrArg some e17.1) (sub_nil _)) (List.sublist_append_right _ _) ?_
           exact rq_v (rv_ev rfl)
          ·
           intro vf pf hR
           have e18 : (vf 18) = .bool true ∧ (pf 18) = [] := hR 18 (by decide)
           refine Or.inl ⟨want_of (congrArg some e18.1) rfl, ?_⟩
           refine rq_less (sx 7 rfl (sub_nil _)) (List.sublist_append_right _ _) ?_
           exact rq_v (rv_ev rfl)
          ·
           intro vf pf hR
           have e18 : (vf 18) = .bool true ∧ (pf 18) = [] := hR 18 (by decide)
           refine Or.inl ⟨want_of (congrArg some e18.1) rfl, ?_⟩
           refine rq_less (sx 9 rfl (sub_nil _)) (List.sublist_append_right _ _) ?_
           exact rq_v (rv_ev rfl)
          ·
           intro vf pf hR
           have e18 : (vf 18) = .bool true ∧ (pf 18) = [] := hR 18 (by decide)
           have e19 : (vf 19) = v14 ∧ (pf 19) = [] := hR 19 (by decide)
           have e20 : (vf 20) = .int .i64 (k : Int) ∧ (pf 20) = [] := hR 20 (by decide)
           refine Or.inl ⟨want_of (congrArg some e18.1) rfl, ?_⟩
           refine rq_less (sx 63 (congrArg some e19.1) (sx 64 (congrArg some e20.1) (sub_nil _))) (List.sublist_append_right _ _) ?_
           exact rq_v (rv_index (s := 1) rfl Try.underlying26 (by kernel_rfl) rfl rfl (rd_row 0 rfl) (by omega) (by first | omega | (simp only [List.length_set]; omega)))
          ·
           intro vf pf hR
           have e18 : (vf 18) = .bool true ∧ (pf 18) = [] := hR 18 (by decide)
           have e21 : (vf 21) = elP v14 (((k : Int)).toNat * 1) ∧ (pf 21) = [] := hR 21 (by decide)
           refine Or.inl ⟨want_of (congrArg some e18.1) rfl, ?_⟩
           refine rq_less (sx 65 (congrArg some e21.1) (sub_nil _)) (List.sublist_append_right _ _) ?_
           exact rq_v (rv_loadEl (u := .int .i64 (xs.getD k 0)) rfl (by kernel_rfl) rfl (rd_row 0 rfl) (ints_at1 (show _ < xs.length by first | omega | (simp only [List.length_set]; omega))))
          ·
           intro vf pf hR
           have e18 : (vf 18) = .bool true ∧ (pf 18) = [] := hR 18 (by decide)
           refine Or.inl ⟨want_of (congrArg some e18.1) rfl, ?_⟩
           refine rq_less (sx 7 rfl (sub_nil _)) (List.sublist_append_right _ _) ?_
           exact rq_v (rv_ev rfl)
          ·
           intro vf pf hR
           have e18 : (vf 18) = .bool true ∧ (pf 18) = [] := hR 18 (by decide)
           refine Or.inl ⟨want_of (congrArg some e18.1) rfl, ?_⟩
           refine rq_less (sx 9 rfl (sub_nil _)) (List.sublist_append_right _ _) ?_
           exact rq_v (rv_ev rfl)
          ·
           intro vf pf hR
           have e18 : (vf 18) = .bool true ∧ (pf 18) = [] := hR 18 (by decide)
           have e24 : (vf 24) = .int .i64 (k : Int) ∧ (pf 24) = [] := hR 24 (by decide)
           refine Or.inl ⟨want_of (congrArg some e18.1) rfl, ?_⟩
           refine rq_less (sx 68 (congrArg some e24.1) (sub_nil _)) (List.sublist_append_right _ _) ?_
           exact rq_v (rv_sub rfl rfl rfl (by constructor <;> omega))
          ·
           intro vf pf hR
           have e18 : (vf 18) = .bool true ∧ (pf 18) = [] := hR 18 (by decide)
           have e23 : (vf 23) = v14 ∧ (pf 23) = [] := hR 23 (by decide)
           have e25 : (vf 25) = .int .i64 ((k : Int) - 1) ∧ (pf 25) = [] := hR 25 (by decide)
           refine Or.inl ⟨want_of (congrArg some e18.1) rfl, ?_⟩
           refine rq_less (sx 67 (congrArg some e23.1) (sx 69 (congrArg some e25.1) (sub_nil _))) (List.sublist_append_right _ _) ?_
           exact rq_v (rv_index (s := 1) rfl Try.underlying26 (by kernel_rfl) rfl rfl (rd_row 0 rfl) (by omega) (by first | omega | (simp only [List.length_set]; omega)))
          ·
           intro vf pf hR
           have e18 : (vf 18) = .bool true ∧ (pf 18) = [] := hR 18 (by decide)
           have e26 : (vf 26) = elP v14 (((k : Int) - 1).toNat * 1) ∧ (pf 26) = [] := hR 26 (by decide)
           refine Or.inl ⟨want_of (congrArg some e18.1) rfl, ?_⟩
           refine rq_less (sx 70 (congrArg some e26.1) (sub_nil _)) (List.sublist_append_right _ _) ?_
           exact rq_v (rv_loadEl (u := .int .i64 (xs.getD (((k : Int) - 1).toNat) 0)) rfl (by kernel_rfl) rfl (rd_row 0 rfl) (ints_at1 (show _ < xs.length by first | omega | (simp only [List.length_set]; omega))))
          ·
           intro vf pf hR
           have e18 : (vf 18) = .bool true ∧ (pf 18) = [] := hR 18 (by decide)
           have e22 : (vf 22) = .int .i64 (xs.getD k 0) ∧ (pf 22) = [] := hR 22 (by decide)
           have e27 : (vf 27) = .int .i64 (xs.getD (((k : Int) - 1).toNat) 0) ∧ (pf 27) = [] := hR 27 (by decide)
           refine Or.inl ⟨want_of (congrArg some e18.1) rfl, ?_⟩
           refine rq_less (sx 66 (congrArg some e22.1) (sx 71 (congrArg some e27.1) (sub_nil _))) (List.sublist_append_right _ _) ?_
           exact rq_mono (rq_v (rv_cmp rfl rfl rfl rfl)) (fun _ _ h => ⟨h.1.trans (congrArg Value.bool hb24), h.2⟩)
          ·
           intro vf pf hR
           have e15 : (vf 15) = .bool false ∧ (pf 15) = [] := hR 15 (by decide)
           have e18 : (vf 18) = .bool true ∧ (pf 18) = [] := hR 18 (by decide)
           have e28 : (vf 28) = .bool false ∧ (pf 28) = [] := hR 28 (by decide)
           refine Or.inl ⟨want_of (congrArg some e15.1) rfl, ?_⟩
           refine rq_less (sx 62 (congrArg some e18.1) (sx 72 (congrArg some e28.1) (sub_nil _))) (List.sublist_append_right _ _) ?_
           exact rq_v (rv_ev rfl)
          ·
           intro vf pf hR
           have e15 : (vf 15) = .bool false ∧ (pf 15) = [] := hR 15 (by decide)
           have e29 : (vf 29) = .bool false ∧ (pf 29) = [] := hR 29 (by decide)
           refine Or.inl ⟨rfl, ?_⟩
           refine rq_less (sx 59 (congrArg some e15.1) (sx 73 (congrArg some e29.1) (sub_nil _))) (List.sublist_append_right _ _) ?_
           exact rq_v (rv_ev rfl)
         ·
          intro vf pf hR
          have e30 : (vf 30) = .bool false ∧ (pf 30) = [] := hR 30 (by decide)
          refine hl_less (l' := [rowE 3 1 v14 xs.length (xs.map (Value.int .i64)), rowE 3 1 v9 ((valsL n (stL n) (cod z0 len0 0 : Int)).length) ((valsL n (stL n) (cod z0 len0 0 : Int)).map (Value.int .i64)), boxE b5 #[.int .i64 n.ins, n.sv, n.av, n.ov] 28, ntE n]) (sx 0 rfl (sx 2 rfl (sx 3 rfl (sx 4 rfl (sx 5 rfl (sx 6 rfl (sx 7 rfl (sx 8 rfl (sx 9 rfl (sx 11 rfl (sx 30 rfl (sx 41 rfl (sx 74 (congrArg some e30.1) (sub_nil _)))))))))))))) (List.sublist_append_right _ _) ?_
          simp only [List.drop_succ_cons, List.drop_zero]
          refine hl_less (sx 0 rfl (sx 2 rfl (sx 3 rfl (sx 4 rfl (sx 5 rfl (sx 6 rfl (sx 7 rfl (sx 8 rfl (sx 9 rfl (sx 11 rfl (sx 30 rfl (sx 41 rfl (sx 74 rfl (sub_nil _)))))))))))))) (.refl _) ?_
          refine hl_nil ?_
          refine hq_then ?_
          refine hc_false rfl ?_
          refine hc_skip ?_
          refine hq_then ?_
          refine hc_region ?_
          have hcr := hcj.rng _ (getD_memX (d := (0 : Int)) (show k < xs.length by omega))
          have hbk := bit01 hv01 hcr.1 (by omega)
          have hpk := (pr01 hv hcj k (by omega)).1
          refine hl_v rfl rfl rfl (rv_ev rfl) ?_
          refine hl_v rfl rfl rfl (rv_ev rfl) ?_
          refine hl_v rfl rfl rfl (rv_ev rfl) ?_
          refine hl_v rfl rfl rfl (rv_ev rfl) ?_
          refine hl_v rfl rfl rfl (rv_index (s := 1) rfl Try.underlying26 (by kernel_rfl) rfl rfl (rd_row 0 rfl) (by omega) (by first | omega | (simp only [List.length_set]; omega))) ?_
          refine hl_v rfl rfl rfl (rv_loadEl (u := .int .i64 (xs.getD k 0)) rfl (by kernel_rfl) rfl (rd_row 0 rfl) (ints_at1 (show _ < xs.length by first | omega | (simp only [List.length_set]; omega)))) ?_
          refine hl_callV rfl rfl rfl (rq_call (by kernel_rfl) rfl (fun w hm => ret_ans (impLitValue_ans (valsL n (stL n) (cod z0 len0 0 : Int)) (xs.getD k 0) _ w ((rd_row 1 rfl) w hm) (by omega) (hv01 _ (by omega)) (by omega)))) ?_
          refine hl_v rfl rfl rfl (rv_bits rfl (by decide) rfl rfl (r := prL (valsL n (stL n) (cod z0 len0 0 : Int)) xs (k + 1)) (and01 hpk hbk)) ?_
          refine hl_v rfl rfl rfl (rv_ev rfl) ?_
          refine hl_less (sx 0 rfl (sx 2 rfl (sx 3 rfl (sx 4 rfl (sx 5 rfl (sx 6 rfl (sx 7 rfl (sx 8 rfl (sx 9 rfl (sx 11 rfl (sx 30 rfl (sx 41 rfl (sx 74 rfl (sub_nil _)))))))))))))) (.refl _) ?_
          refine hl_nil ?_
          refine hq_block_normal ?_
          refine hq_then ?_
          refine hc_region ?_
          refine hl_v rfl rfl rfl (rv_ev rfl) ?_
          refine hl_v rfl rfl rfl (rv_add rfl rfl rfl (by constructor <;> omega)) ?_
          refine hl_v rfl rfl rfl (rv_ev rfl) ?_
          refine hl_less (sx 0 rfl (sx 2 rfl (sx 3 rfl (sx 4 rfl (sx 5 rfl (sx 6 rfl (sx 7 rfl (sx 8 rfl (sx 9 rfl (sx 11 rfl (sx 30 rfl (sx 41 rfl (sx 74 rfl (sub_nil _)))))))))))))) (.refl _) ?_
          refine hl_nil ?_
          exact hq_round1 (k + 1) (by omega) (by omega) (sx 0 rfl (sx 2 rfl (sx 3 rfl (sx 4 rfl (sx 5 rfl (sx 6 rfl (sx 7 rfl (sx 8 rfl (sx 9 rfl (sx 11 rfl (sx 30 rfl (sub_nil _)))))))))))) ((.cons_cons _ (.cons_cons _ (.cons_cons _ (.cons_cons _ .slnil)))))
       ·
        have hb23p : ¬ (0 < (k : Int)) := of_decide_eq_false hb23
        have hcr := hcj.rng _ (getD_memX (d := (0 : Int)) (show k < xs.length by omega))
        have hcnk := hcn k (by omega)
        have hsrt : 0 < k → xs.getD (k - 1) 0 < xs.getD k 0 := fun h0 => srt_at hcj.srt (by omega) (by omega)
        have hk1 : ((k : Int) - 1).toNat = k - 1 := by omega
        rw [← hk1] at hsrt
        refine hc_draw (by kernel_rfl) 31 [0, 1, 2, 3, 4, 5, 6, 7, 8, 9, 10, 11, 12, 13, 14, 15, 16, 17, 18, 19, 20, 21, 22, 23, 24, 25, 26, 27, 28, 29, 30] (List.take 31 _) (List.drop 31 _) [[], [], [0, 1], [2], [], [4], [3, 5], [6], [7], [7], [7], [7], [7], [7], [7, 13], [14], [15], [15, 16], [15, 17], [18], [18], [18], [18], [18], [18], [18], [18], [18], [18], [15, 18, 28], [15, 29]] [44, 45, 46, 47, 48, 49, 50, 51, 52, 53, 54, 55, 56, 57, 58, 59, 60, 61, 62, 63, 64, 65, 66, 67, 68, 69, 70, 71, 72, 73, 74] (fun i_ vs_ v_ p_ => match i_ with | 0 => v_ = v14 ∧ p_ = [] | 1 => v_ = .int .i64 (k : Int) ∧ p_ = [] | 2 => v_ = elP v14 (((k : Int)).toNat * 1) ∧ p_ = [] | 3 => v_ = .int .i64 (xs.getD k 0) ∧ p_ = [] | 4 => v_ = .int .i64 n.fst ∧ p_ = [] | 5 => v_ = .int .i64 (2 * n.fst) ∧ p_ = [] | 6 => v_ = .bool false ∧ p_ = [] | 7 => v_ = .bool false ∧ p_ = [] | 8 => v_ = undef ∧ p_ = [] | 9 => v_ = undef ∧ p_ = [] | 10 => v_ = undef ∧ p_ = [] | 11 => v_ = undef ∧ p_ = [] | 12 => v_ = undef ∧ p_ = [] | 13 => v_ = undef ∧ p_ = [] | 14 => v_ = .bool false ∧ p_ = [] | 15 => v_ = .bool false ∧ p_ = [] | 16 => v_ = .int .i64 (k : Int) ∧ p_ = [] | 17 => v_ = .bool false ∧ p_ = [] | 18 => v_ = .bool false ∧ p_ = [] | 19 => v_ = undef ∧ p_ = [] | 20 => v_ = undef ∧ p_ = [] | 21 => v_ = undef ∧ p_ = [] | 22 => v_ = undef ∧ p_ = [] | 23 => v_ = undef ∧ p_ = [] | 24 => v_ = undef ∧ p_ = [] | 25 => v_ = undef ∧ p_ = [] | 26 => v_ = undef ∧ p_ = [] | 27 => v_ = undef ∧ p_ = [] | 28 => v_ = undef ∧ p_ = [] | 29 => v_ = .bool false ∧ p_ = [] | 30 => v_ = .bool false ∧ p_ = [] | _ => True) (List.take_append_drop 31 _).symm (by kernel_rfl) (by kernel_rfl) rfl rfl ?_ ?_
        ·
         refine ⟨?_, ?_, ?_, ?_, ?_, ?_, ?_, ?_, ?_, ?_, ?_, ?_, ?_, ?_, ?_, ?_, ?_, ?_, ?_, ?_, ?_, ?_, ?_, ?_, ?_, ?_, ?_, ?_, ?_, ?_, ?_, trivial⟩
         ·
          intro vf pf hR
          refine Or.inl ⟨rfl, ?_⟩
          refine rq_less (sx 7 rfl (sub_nil _)) (List.sublist_append_right _ _) ?_
          exact rq_v (rv_ev rfl)
         ·
          intro vf pf hR
          refine Or.inl ⟨rfl, ?_⟩
          refine rq_less (sx 9 rfl (sub_nil _)) (List.sublist_append_right _ _) ?_
          exact rq_v (rv_ev rfl)
         ·
          intro vf pf hR
          have e0 : (vf 0) = v14 ∧ (pf 0) = [] := hR 0 (by decide)
          have e1 : (vf 1) = .int .i64 (k : Int) ∧ (pf 1) = [] := hR 1 (by decide)
          refine Or.inl ⟨rfl, ?_⟩
          refine rq_less (sx 44 (congrArg some e0.1) (sx 45 (congrArg some e1.1) (sub_nil _))) (List.sublist_append_right _ _) ?_
          exact rq_v (rv_index (s := 1) rfl Try.underlying26 (by kernel_rfl) rfl rfl (rd_row 0 rfl) (by omega) (by first | omega | (simp only [List.length_set]; omega)))
         ·
          intro vf pf hR
          have e2 : (vf 2) = elP v14 (((k : Int)).toNat * 1) ∧ (pf 2) = [] := hR 2 (by decide)
          refine Or.inl ⟨rfl, ?_⟩
          refine rq_less (sx 46 (congrArg some e2.1) (sub_nil _)) (List.sublist_append_right _ _) ?_
          exact rq_v (rv_loadEl (u := .int .i64 (xs.getD k 0)) rfl (by kernel_rfl) rfl (rd_row 0 rfl) (ints_at1 (show _ < xs.length by first | omega | (simp only [List.length_set]; omega))))
         ·
          intro vf pf hR
          refine Or.inl ⟨rfl, ?_⟩
          refine rq_less (sx 4 rfl (sub_nil _)) (List.sublist_append_right _ _) ?_
          exact rq_v (rv_ev rfl)
         ·
          intro vf pf hR
          have e4 : (vf 4) = .int .i64 n.fst ∧ (pf 4) = [] := hR 4 (by decide)
          refine Or.inl ⟨rfl, ?_⟩
          refine rq_less (sx 48 (congrArg some e4.1) (sub_nil _)) (List.sublist_append_right _ _) ?_
          exact rq_v (rv_mul rfl rfl rfl (by constructor <;> omega))
         ·
          intro vf pf hR
          have e3 : (vf 3) = .int .i64 (xs.getD k 0) ∧ (pf 3) = [] := hR 3 (by decide)
          have e5 : (vf 5) = .int .i64 (2 * n.fst) ∧ (pf 5) = [] := hR 5 (by decide)
          refine Or.inl ⟨rfl, ?_⟩
          refine rq_less (sx 47 (congrArg some e3.1) (sx 49 (congrArg some e5.1) (sub_nil _))) (List.sublist_append_right _ _) ?_
          exact rq_mono (rq_v (rv_cmp rfl rfl rfl rfl)) (fun _ _ h => ⟨h.1.trans (congrArg Value.bool hb19), h.2⟩)
         ·
          intro vf pf hR
          have e6 : (vf 6) = .bool false ∧ (pf 6) = [] := hR 6 (by decide)
          refine Or.inl ⟨rfl, ?_⟩
          refine rq_less (sx 50 (congrArg some e6.1) (sub_nil _)) (List.sublist_append_right _ _) ?_
          exact rq_v (rv_ev rfl)
         ·
          intro vf pf hR
          have e7 : (vf 7) = .bool false ∧ (pf 7) = [] := hR 7 (by decide)
          exact Or.inr ⟨want_of (congrArg some e7.1) rfl, rfl, rfl⟩
         ·
          intro vf pf hR
          have e7 : (vf 7) = .bool false ∧ (pf 7) = [] := hR 7 (by decide)
          exact Or.inr ⟨want_of (congrArg some e7.1) rfl, rfl, rfl⟩
         ·
          intro vf pf hR
          have e7 : (vf 7) = .bool false ∧ (pf 7) = [] := hR 7 (by decide)
          exact Or.inr ⟨want_of (congrArg some e7.1) rfl, rfl, rfl⟩
         ·
          intro vf pf hR
          have e7 : (vf 7) = .bool false ∧ (pf 7) = [] := hR 7 (by decide)
          exact Or.inr ⟨want_of (congrArg some e7.1) rfl, rfl, rfl⟩
         ·
          intro vf pf hR
          have e7 : (vf 7) = .bool false ∧ (pf 7) = [] := hR 7 (by decide)
          exact Or.inr ⟨want_of (congrArg some e7.1) rfl, rfl, rfl⟩
         ·
          intro vf pf hR
          have e7 : (vf 7) = .bool false ∧ (pf 7) = [] := hR 7 (by decide)
          exact Or.inr ⟨want_of (congrArg some e7.1) rfl, rfl, rfl⟩
         ·
          intro vf pf hR
          have e7 : (vf 7) = .bool false ∧ (pf 7) = [] := hR 7 (by decide)
          have e13 : (vf 13) = undef ∧ (pf 13) = [] := hR 13 (by decide)
          refine Or.inl ⟨rfl, ?_⟩
          refine rq_less (sx 51 (congrArg some e7.1) (sx 57 (congrArg some e13.1) (sub_nil _))) (List.sublist_append_right _ _) ?_
          exact rq_v (rv_ev rfl)
         ·
          intro vf pf hR
          have e14 : (vf 14) = .bool false ∧ (pf 14) = [] := hR 14 (by decide)
          refine Or.inl ⟨rfl, ?_⟩
          refine rq_less (sx 58 (congrArg some e14.1) (sub_nil _)) (List.sublist_append_right _ _) ?_
          exact rq_v (rv_ev rfl)
         ·
          intro vf pf hR
          have e15 : (vf 15) = .bool false ∧ (pf 15) = [] := hR 15 (by decide)
          refine Or.inl ⟨want_of (congrArg some e15.1) rfl, ?_⟩
          refine rq_less (sx 9 rfl (sub_nil _)) (List.sublist_append_right _ _) ?_
          exact rq_v (rv_ev rfl)
         ·
          intro vf pf hR
          have e15 : (vf 15) = .bool false ∧ (pf 15) = [] := hR 15 (by decide)
          have e16 : (vf 16) = .int .i64 (k : Int) ∧ (pf 16) = [] := hR 16 (by decide)
          refine Or.inl ⟨want_of (congrArg some e15.1) rfl, ?_⟩
          refine rq_less (sx 60 (congrArg some e16.1) (sub_nil _)) (List.sublist_append_right _ _) ?_
          exact rq_mono (rq_v (rv_cmp rfl rfl rfl rfl)) (fun _ _ h => ⟨h.1.trans (congrArg Value.bool hb23), h.2⟩)
         ·
          intro vf pf hR
          have e15 : (vf 15) = .bool false ∧ (pf 15) = [] := hR 15 (by decide)
          have e17 : (vf 17) = .bool false ∧ (pf 17) = [] := hR 17 (by decide)
          refine Or.inl ⟨want_of (congrArg some e15.1) rfl, ?_⟩
          refine rq_less (sx 61 (congrArg some e17.1) (sub_nil _)) (List.sublist_append_right _ _) ?_
          exact rq_v (rv_ev rfl)
         ·
          intro vf pf hR
          have e18 : (vf 18) = .bool false ∧ (pf 18) = [] := hR 18 (by decide)
          exact Or.inr ⟨want_of (congrArg some e18.1) rfl, rfl, rfl⟩
         ·
          intro vf pf hR
          have e18 : (vf 18) = .bool false ∧ (pf 18) = [] := hR 18 (by decide)
          exact Or.inr ⟨want_of (congrArg some e18.1) rfl, rfl, rfl⟩
         ·
          intro vf pf hR
          have e18 : (vf 18) = .bool false ∧ (pf 18) = [] := hR 18 (by decide)
          exact Or.inr ⟨want_of (congrArg some e18.1) rfl, rfl, rfl⟩
         ·
          intro vf pf hR
          have e18 : (vf 18) = .bool false ∧ (pf 18) = [] := hR 18 (by decide)
          exact Or.inr ⟨want_of (congrArg some e18.1) rfl, rfl, rfl⟩
         ·
          intro vf pf hR
          have e18 : (vf 18) = .bool false ∧ (pf 18) = [] := hR 18 (by decide)
          exact Or.inr ⟨want_of (congrArg some e18.1) rfl, rfl, rfl⟩
         ·
          intro vf pf hR
          have e18 : (vf 18) = .bool false ∧ (pf 18) = [] := hR 18 (by decide)
          exact Or.inr ⟨want_of (congrArg some e18.1) rfl, rfl, rfl⟩
         ·
          intro vf pf hR
          have e18 : (vf 18) = .bool false ∧ (pf 18) = [] := hR 18 (by decide)
          exact Or.inr ⟨want_of (congrArg some e18.1) rfl, rfl, rfl⟩
         ·
          intro vf pf hR
          have e18 : (vf 18) = .bool false ∧ (pf 18) = [] := hR 18 (by decide)
          exact Or.inr ⟨want_of (congrArg some e18.1) rfl, rfl, rfl⟩
         ·
          intro vf pf hR
          have e18 : (vf 18) = .bool false ∧ (pf 18) = [] := hR 18 (by decide)
          exact Or.inr ⟨want_of (congrArg some e18.1) rfl, rfl, rfl⟩
         ·
          intro vf pf hR
          have e18 : (vf 18) = .bool false ∧ (pf 18) = [] := hR 18 (by decide)
          exact Or.inr ⟨want_of (congrArg some e18.1) rfl, rfl, rfl⟩
         ·
          intro vf pf hR
          have e15 : (vf 15) = .bool false ∧ (pf 15) = [] := hR 15 (by decide)
          have e18 : (vf 18) = .bool false ∧ (pf 18) = [] := hR 18 (by decide)
          have e28 : (vf 28) = undef ∧ (pf 28) = [] := hR 28 (by decide)
          refine Or.inl ⟨want_of (congrArg some e15.1) rfl, ?_⟩
          refine rq_less (sx 62 (congrArg some e18.1) (sx 72 (congrArg some e28.1) (sub_nil _))) (List.sublist_append_right _ _) ?_
          exact rq_v (rv_ev rfl)
         ·
          intro vf pf hR
          have e15 : (vf 15) = .bool false ∧ (pf 15) = [] := hR 15 (by decide)
          have e29 : (vf 29) = .bool false ∧ (pf 29) = [] := hR 29 (by decide)
          refine Or.inl ⟨rfl, ?_⟩
          refine rq_less (sx 59 (congrArg some e15.1) (sx 73 (congrArg some e29.1) (sub_nil _))) (List.sublist_append_right _ _) ?_
          exact rq_v (rv_ev rfl)
        ·
         intro vf pf hR
         have e30 : (vf 30) = .bool false ∧ (pf 30) = [] := hR 30 (by decide)
         refine hl_less (l' := [rowE 3 1 v14 xs.length (xs.map (Value.int .i64)), rowE 3 1 v9 ((valsL n (stL n) (cod z0 len0 0 : Int)).length) ((valsL n (stL n) (cod z0 len0 0 : Int)).map (Value.int .i64)), boxE b5 #[.int .i64 n.ins, n.sv, n.av, n.ov] 28, ntE n]) (sx 0 rfl (sx 2 rfl (sx 3 rfl (sx 4 rfl (sx 5 rfl (sx 6 rfl (sx 7 rfl (sx 8 rfl (sx 9 rfl (sx 11 rfl (sx 30 rfl (sx 41 rfl (sx 74 (congrArg some e30.1) (sub_nil _)))))))))))))) (List.sublist_append_right _ _) ?_
         simp only [List.drop_succ_cons, List.drop_zero]
         refine hl_less (sx 0 rfl (sx 2 rfl (sx 3 rfl (sx 4 rfl (sx 5 rfl (sx 6 rfl (sx 7 rfl (sx 8 rfl (sx 9 rfl (sx 11 rfl (sx 30 rfl (sx 41 rfl (sx 74 rfl (sub_nil _)))))))))))))) (.refl _) ?_
         refine hl_nil ?_
         refine hq_then ?_
         refine hc_false rfl ?_
         refine hc_skip ?_
         refine hq_then ?_
         refine hc_region ?_
         have hcr := hcj.rng _ (getD_memX (d := (0 : Int)) (show k < xs.length by omega))
         have hbk := bit01 hv01 hcr.1 (by omega)
         have hpk := (pr01 hv hcj k (by omega)).1
         refine hl_v rfl rfl rfl (rv_ev rfl) ?_
         refine hl_v rfl rfl rfl (rv_ev rfl) ?_
         refine hl_v rfl rfl rfl (rv_ev rfl) ?_
         refine hl_v rfl rfl rfl (rv_ev rfl) ?_
         refine hl_v rfl rfl rfl (rv_index (s := 1) rfl Try.underlying26 (by kernel_rfl) rfl rfl (rd_row 0 rfl) (by omega) (by first | omega | (simp only [List.length_set]; omega))) ?_
         refine hl_v rfl rfl rfl (rv_loadEl (u := .int .i64 (xs.getD k 0)) rfl (by kernel_rfl) rfl (rd_row 0 rfl) (ints_at1 (show _ < xs.length by first | omega | (simp only [List.length_set]; omega)))) ?_
         refine hl_callV rfl rfl rfl (rq_call (by kernel_rfl) rfl (fun w hm => ret_ans (impLitValue_ans (valsL n (stL n) (cod z0 len0 0 : Int)) (xs.getD k 0) _ w ((rd_row 1 rfl) w hm) (by omega) (hv01 _ (by omega)) (by omega)))) ?_
         refine hl_v rfl rfl rfl (rv_bits rfl (by decide) rfl rfl (r := prL (valsL n (stL n) (cod z0 len0 0 : Int)) xs (k + 1)) (and01 hpk hbk)) ?_
         refine hl_v rfl rfl rfl (rv_ev rfl) ?_
         refine hl_less (sx 0 rfl (sx 2 rfl (sx 3 rfl (sx 4 rfl (sx 5 rfl (sx 6 rfl (sx 7 rfl (sx 8 rfl (sx 9 rfl (sx 11 rfl (sx 30 rfl (sx 41 rfl (sx 74 rfl (sub_nil _)))))))))))))) (.refl _) ?_
         refine hl_nil ?_
         refine hq_block_normal ?_
         refine hq_then ?_
         refine hc_region ?_
         refine hl_v rfl rfl rfl (rv_ev rfl) ?_
         refine hl_v rfl rfl rfl (rv_add rfl rfl rfl (by constructor <;> omega)) ?_
         refine hl_v rfl rfl rfl (rv_ev rfl) ?_
         refine hl_less (sx 0 rfl (sx 2 rfl (sx 3 rfl (sx 4 rfl (sx 5 rfl (sx 6 rfl (sx 7 rfl (sx 8 rfl (sx 9 rfl (sx 11 rfl (sx 30 rfl (sx 41 rfl (sx 74 rfl (sub_nil _)))))))))))))) (.refl _) ?_
         refine hl_nil ?_
         exact hq_round1 (k + 1) (by omega) (by omega) (sx 0 rfl (sx 2 rfl (sx 3 rfl (sx 4 rfl (sx 5 rfl (sx 6 rfl (sx 7 rfl (sx 8 rfl (sx 9 rfl (sx 11 rfl (sx 30 rfl (sub_nil _)))))))))))) ((.cons_cons _ (.cons_cons _ (.cons_cons _ (.cons_cons _ .slnil)))))
     ·
      refine hl_less (sx 0 rfl (sx 2 rfl (sx 3 rfl (sx 4 rfl (sx 5 rfl (sx 6 rfl (sx 7 rfl (sx 8 rfl (sx 9 rfl (sx 11 rfl (sx 30 rfl (sx 41 rfl (sub_nil _))))))))))))) (.refl _) ?_
      refine hl_nil ?_
      refine hq_then ?_
      refine hc_false rfl ?_
      refine hc_exit ?_
      refine hq_then_exit ?_
      refine hq_then_exit ?_
      refine hq_block_exit ?_
      refine hq_then ?_
      refine hc_seq ?_
      refine hc_region ?_
      have hpn : prL (valsL n (stL n) (cod z0 len0 0 : Int)) xs k = (valsL n (stL n) (cod z0 len0 0 : Int)).getD (n.fst + (i : Int)).toNat 0 := by rw [show k = xs.length by omega]; exact pr_node hv hcj (by omega) (by omega)
      refine hl_v rfl rfl rfl (rv_ev rfl) ?_
      refine hl_v rfl rfl rfl (rv_len rfl Try.underlying26 rfl (rd_row 0 rfl)) ?_
      refine hl_eql rfl rfl rfl rfl rfl rfl (fun h25 => absurd h25 (by omega)) (fun h25 => ?_)
      refine hl_v rfl rfl rfl (rv_ev rfl) ?_
      refine hl_v rfl rfl rfl (rv_ev rfl) ?_
      refine hl_v rfl rfl rfl (rv_ev rfl) ?_
      refine hl_v rfl rfl rfl (rv_ev rfl) ?_
      refine hl_v rfl rfl rfl (rv_ev rfl) ?_
      refine hl_v rfl rfl rfl (rv_add rfl rfl rfl (by constructor <;> omega)) ?_
      refine hl_v rfl rfl rfl (rv_index (s := 1) rfl Try.underlying26 (by kernel_rfl) rfl rfl (rd_row 1 rfl) (by omega) (by first | omega | (simp only [List.length_set]; omega))) ?_
      refine hl_v rfl rfl rfl (rv_loadEl (u := .int .i64 ((valsL n (stL n) (cod z0 len0 0 : Int)).getD ((n.fst + (i : Int)).toNat) 0)) rfl (by kernel_rfl) rfl (rd_row 1 rfl) (ints_at1 (show _ < (valsL n (stL n) (cod z0 len0 0 : Int)).length by first | omega | (simp only [List.length_set]; omega)))) ?_
      refine hl_neq rfl rfl rfl rfl rfl rfl (fun h26 => absurd h26 (by omega)) (fun h26 => ?_)
      refine hl_v rfl rfl rfl (rv_ev rfl) ?_
      refine hl_less (sx 0 rfl (sx 2 rfl (sx 3 rfl (sx 4 rfl (sx 5 rfl (sx 6 rfl (sx 7 rfl (sx 8 rfl (sx 9 rfl (sx 11 rfl (sx 30 rfl (sx 41 rfl (sx 95 rfl (sub_nil _)))))))))))))) (.refl _) ?_
      refine hl_nil ?_
      refine hq_then ?_
      refine hc_false rfl ?_
      refine hc_skip ?_
      refine hq_block_normal ?_
      refine hq_then ?_
      refine hc_region ?_
      refine hl_v rfl rfl rfl (rv_ev rfl) ?_
      refine hl_v rfl rfl rfl (rv_add rfl rfl rfl (by constructor <;> omega)) ?_
      have hv := vals_and hn (str_len n (Nat.le_refl _)) (cod z0 len0 0 : Int)
      have hvl := hv.len
      have hv01 := hv.b01
      have hvl2 : ((valsL n (stL n) (cod z0 len0 0 : Int)).length : Int) = n.cnt := hvl
      refine hl_v rfl rfl rfl (rv_ev rfl) ?_
      refine hl_less (sx 0 rfl (sx 2 rfl (sx 3 rfl (sx 4 rfl (sx 5 rfl (sx 6 rfl (sx 7 rfl (sx 8 rfl (sx 9 rfl (sx 11 rfl (sx 30 rfl (sx 41 rfl (sx 95 rfl (sub_nil _)))))))))))))) (.refl _) ?_
      refine hl_nil ?_
      exact hq_round1 (i + 1) (by omega) (by omega) (sx 0 rfl (sx 2 rfl (sx 3 rfl (sx 4 rfl (sx 5 rfl (sx 6 rfl (sx 11 rfl (sub_nil _)))))))) ((.cons _ (.cons_cons _ (.cons_cons _ (.cons_cons _ .slnil)))))
    ·
     refine hl_less (sx 0 rfl (sx 2 rfl (sx 3 rfl (sx 4 rfl (sx 5 rfl (sx 6 rfl (sx 11 rfl (sx 30 rfl (sub_nil _))))))))) (.refl _) ?_
     refine hl_nil ?_
     refine hq_then ?_
     refine hc_false rfl ?_
     refine hc_exit ?_
     refine hq_then_exit ?_
     refine hq_then_exit ?_
     refine hq_block_exit ?_
     refine hq_then ?_
     refine hc_seq ?_
     refine hc_region ?_
     have hb1 : bitL (valsL n (stL n) (cod z0 len0 0 : Int)) 1 = 1 := by unfold bitL; rw [if_neg (by decide)]; show 1 - (valsL n (stL n) (cod z0 len0 0 : Int)).getD 0 0 = 1; rw [val0]; rfl
     have hnil : (([] : List Int).length : Int) = 0 := rfl
     refine hl_v rfl rfl rfl (rv_loadN (cs := [.int .i64 n.ins, n.sv, n.av, n.ov]) rfl (by kernel_rfl) (by kernel_rfl) rfl rfl (box_part 1 rfl 0 rfl)) ?_
     refine hl_q rfl rfl rfl (rq_call (by kernel_rfl) rfl (fun w hm => Conjuncts_nil n w (nt_rds 2 rfl w hm) hn)) ?_
     intro v27 p28 hR29
     obtain ⟨rfl, rfl⟩ := hR29
     refine hl_v rfl rfl rfl (rv_len rfl Try.underlying26 rfl (rd_nil (s := 1))) ?_
     refine hl_eql rfl rfl rfl rfl rfl rfl (fun h30 => ?_) (fun h30 => absurd h30 (by omega))
     refine hl_v rfl rfl rfl (rv_ev rfl) ?_
     refine hl_v rfl rfl rfl (rv_ev rfl) ?_
     refine hl_callV rfl rfl rfl (rq_call (by kernel_rfl) rfl (fun w hm => ret_ans (impLitValue_ans (valsL n (stL n) (cod z0 len0 0 : Int)) 1 _ w ((rd_row 0 rfl) w hm) (by omega) (hv01 _ (by omega)) (by omega)))) ?_
     refine hl_eql rfl rfl rfl rfl rfl rfl (fun h31 => ?_) (fun h31 => absurd h31 (by omega))
     refine hl_v rfl rfl rfl (rv_ev rfl) ?_
     refine hl_v rfl rfl rfl (rv_ev rfl) ?_
     refine hl_less (sx 0 rfl (sx 2 rfl (sx 3 rfl (sx 4 rfl (sx 5 rfl (sx 6 rfl (sx 11 rfl (sx 30 rfl (sub_nil _))))))))) (.refl _) ?_
     refine hl_nil ?_
     refine hq_then ?_
     refine hc_ret ?_
     exact hq_ans rfl rfl rfl
end Go.Proofs.Ytakbbebpimlnpaa
