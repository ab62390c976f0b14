/- Texts of the law FnCutMeans, part 4: what it uses. -/
import Derived.Test.YtakbbebpimlnpaaCt3
set_option linter.unusedVariables false
set_option linter.unusedSimpArgs false
namespace Go.Proofs.Ytakbbebpimlnpaa
open Go.RowKit Go.ChangeShapes
open Go.RowKit
set_option maxHeartbeats 4000000 in
set_option maxRecDepth 100000 in
theorem cutOk_yes (n : Nt) (node : Int) (cut : List Int) (cv : Value) (w : World) (hr : RdsNt w n) (hn : NtOk n) (hcr : RdsW w cv 1 cut.length (cut.map (Value.int .i64))) (hcut : IsCut n node cut) (hnd : 0 ≤ node ∧ node < n.cnt) :
  Calls Try.prog 93 #[.agg #[.int .i64 n.ins, n.sv, n.av, n.ov], .int .i64 node, cv] w (Ans w (.bool true)) := by
 have hi0 := hn.i0
 have hi1 := hn.i1
 have hs1 := hn.s1
 have ha1 := hn.a1
 have ho1 := hn.o1
 have hcnt : n.cnt = 1 + n.ins + n.ss.length + n.gs.length := rfl
 have hfst : n.fst = 1 + n.ins + n.ss.length := rfl
 have hcl4 := hcut.len
 refine calls_hc (N := 40) (args := [.agg #[.int .i64 n.ins, n.sv, n.av, n.ov], .int .i64 node, cv]) Try.func93 rfl rfl ?_
 refine hc_less _ (sx 0 rfl (sx 1 rfl (sx 2 rfl (sub_nil _)))) (.refl _) ?_
 refine hc_seq ?_
 refine hc_region ?_
 refine hl_box rfl rfl rfl (rq_box rfl rfl) ?_
 intro b1
 refine hl_v rfl rfl rfl (rv_ev rfl) ?_
 refine hl_less (sx 0 rfl (sx 1 rfl (sx 2 rfl (sx 3 rfl (sx 6 rfl (sub_nil _)))))) (.refl _) ?_
 refine hl_nil ?_
 refine hq_then ?_
 refine hc_seq ?_
 refine hc_seq ?_
 refine hc_region ?_
 refine hl_v rfl rfl rfl (rv_ev rfl) ?_
 refine hl_v rfl rfl rfl (rv_len rfl Try.underlying26 rfl (rd_old hcr)) ?_
 refine hl_gtr rfl rfl rfl rfl rfl rfl (fun h2 => absurd h2 (by omega)) (fun h2 => ?_)
 refine hl_v rfl rfl rfl (rv_ev rfl) ?_
 refine hl_v rfl rfl rfl (rv_ev rfl) ?_
 refine hl_callV rfl rfl rfl (rq_call (by kernel_rfl) rfl (fun w hm => ret_ans (strAsc_ans cut _ w ((rd_old hcr) w hm) (by omega)))) ?_
 refine hl_bool (fun h3 => ?_) (fun h3 => absurd (((pBc_yes (asc_pair.2 hcut.asc))).symm.trans h3) (by decide))
 refine hl_v rfl rfl rfl (rv_ev rfl) ?_
 refine hl_v rfl rfl rfl (rv_ev rfl) ?_
 refine hl_less (sx 0 rfl (sx 1 rfl (sx 2 rfl (sx 3 rfl (sx 6 rfl (sx 17 rfl (sub_nil _))))))) (.refl _) ?_
 refine hl_nil ?_
 refine hq_then ?_
 refine hc_false rfl ?_
 refine hc_skip ?_
 refine hq_then ?_
 refine hc_seq ?_
 refine hc_region ?_
 refine hl_v rfl rfl rfl (rv_loadN (cs := [.int .i64 n.ins, n.sv, n.av, n.ov]) rfl (by kernel_rfl) (by kernel_rfl) rfl rfl (box_part 0 rfl 0 rfl)) ?_
 refine hl_v rfl rfl rfl (rv_ev rfl) ?_
 refine hl_q rfl rfl rfl (rq_call (by kernel_rfl) rfl (fun w hm => cone_ret n node w (hr.below hm.bel) hn hnd)) ?_
 intro v4 p5 hR6
 obtain ⟨xs, rfl, hco⟩ := hR6
 have hxl := hco.len
 refine hl_v rfl rfl rfl (rv_ev rfl) ?_
 refine hl_less (sx 0 rfl (sx 1 rfl (sx 2 rfl (sx 3 rfl (sx 6 rfl (sx 7 rfl (sx 17 rfl (sub_nil _)))))))) (.refl _) ?_
 refine hl_nil ?_
 refine hq_then ?_
 refine hc_seq ?_
 refine hc_seq ?_
 refine hc_region ?_
 refine hl_v rfl rfl rfl (rv_ev rfl) ?_
 refine hl_v rfl rfl rfl (rv_len rfl Try.underlying26 rfl (rd_old hcr)) ?_
 refine hl_v rfl rfl rfl (rv_ev rfl) ?_
 refine hl_less (sx 0 rfl (sx 1 rfl (sx 2 rfl (sx 3 rfl (sx 6 rfl (sx 7 rfl (sx 17 rfl (sx 21 rfl (sx 22 rfl (sx 23 rfl (sub_nil _))))))))))) (.refl _) ?_
 refine hl_nil ?_
 refine hq_then ?_
 refine hc_block ?_
 refine hc_loop1 (α := Nat) (fun j => [rowE 3 1 v4 xs.length (xs.map (Value.int .i64)), boxE b1 #[.int .i64 n.ins, n.sv, n.av, n.ov] 28]) (fun j => [(0, .agg #[.int .i64 n.ins, n.sv, n.av, n.ov]), (1, .int .i64 node), (2, cv), (3, .pointer (some ⟨b1, 0, none⟩)), (6, .bool false), (7, v4), (17, .bool false), (21, cv), (22, .int .i64 (cut.length : Int)), (23, .int .i64 (j : Int))]) (fun j => j ≤ cut.length) (fun j => cut.length - j) 0 (Nat.zero_le _) (sx 0 rfl (sx 1 rfl (sx 2 rfl (sx 3 rfl (sx 6 rfl (sx 7 rfl (sx 17 rfl (sx 21 rfl (sx 22 rfl (sx 23 rfl (sub_nil _))))))))))) ((.cons_cons _ (.cons_cons _ .slnil))) ?_
 intro j hi7
 have hj := hi7
 refine hc_seq ?_
 refine hc_region ?_
 refine hl_lss rfl rfl rfl rfl rfl rfl (fun h8 => ?_) (fun h8 => ?_)
 ·
  refine hl_less (sx 0 rfl (sx 1 rfl (sx 2 rfl (sx 3 rfl (sx 6 rfl (sx 7 rfl (sx 17 rfl (sx 21 rfl (sx 22 rfl (sx 23 rfl (sx 24 rfl (sub_nil _)))))))))))) (.refl _) ?_
  refine hl_nil ?_
  refine hq_then ?_
  refine hc_seq ?_
  refine hc_true rfl ?_
  refine hc_skip ?_
  refine hq_then ?_
  refine hc_seq ?_
  refine hc_block ?_
  refine hc_seq ?_
  refine hc_region ?_
  refine hl_v rfl rfl rfl (rv_index (s := 1) rfl Try.underlying26 (by kernel_rfl) rfl rfl (rd_old hcr) (by omega) (by first | omega | (simp only [List.length_set]; omega))) ?_
  refine hl_v rfl rfl rfl (rv_loadEl (u := .int .i64 (cut.getD j 0)) rfl (by kernel_rfl) rfl (rd_old hcr) (ints_at1 (show _ < cut.length by first | omega | (simp only [List.length_set]; omega)))) ?_
  refine hl_v rfl rfl rfl (rv_ev rfl) ?_
  refine hl_less (sx 0 rfl (sx 1 rfl (sx 2 rfl (sx 3 rfl (sx 6 rfl (sx 7 rfl (sx 9 rfl (sx 17 rfl (sx 21 rfl (sx 22 rfl (sx 23 rfl (sx 24 rfl (sub_nil _))))))))))))) (.refl _) ?_
  refine hl_nil ?_
  refine hq_then ?_
  refine hc_seq ?_
  refine hc_region ?_
  refine hl_v rfl rfl rfl (rv_ev rfl) ?_
  refine hl_v rfl rfl rfl (rv_ev rfl) ?_
  refine hl_callV rfl rfl rfl (rq_call (by kernel_rfl) rfl (fun w hm => ret_ans (hasIntC_ans xs (cut.getD j 0) _ w ((rd_row 0 rfl) w hm) (by omega)))) ?_
  refine hl_bool (fun h9 => ?_) (fun h9 => absurd (((hasBC_mem.2 (cone_rch hco (hcut.rch _ (getD_memX (by omega)))))).symm.trans h9) (by decide))
  refine hl_v rfl rfl rfl (rv_ev rfl) ?_
  refine hl_less (sx 0 rfl (sx 1 rfl (sx 2 rfl (sx 3 rfl (sx 6 rfl (sx 7 rfl (sx 9 rfl (sx 17 rfl (sx 21 rfl (sx 22 rfl (sx 23 rfl (sx 24 rfl (sx 30 rfl (sub_nil _)))))))))))))) (.refl _) ?_
  refine hl_nil ?_
  refine hq_then ?_
  refine hc_false rfl ?_
  refine hc_skip ?_
  refine hq_block_normal ?_
  refine hq_then ?_
  refine hc_region ?_
  refine hl_v rfl rfl rfl (rv_add rfl rfl rfl (by constructor <;> omega)) ?_
  refine hl_v rfl rfl rfl (rv_ev rfl) ?_
  refine hl_less (sx 0 rfl (sx 1 rfl (sx 2 rfl (sx 3 rfl (sx 6 rfl (sx 7 rfl (sx 9 rfl (sx 17 rfl (sx 21 rfl (sx 22 rfl (sx 23 rfl (sx 24 rfl (sx 30 rfl (sub_nil _)))))))))))))) (.refl _) ?_
  refine hl_nil ?_
  exact hq_round1 (j + 1) (by omega) (by omega) (sx 0 rfl (sx 1 rfl (sx 2 rfl (sx 3 rfl (sx 6 rfl (sx 7 rfl (sx 17 rfl (sx 21 rfl (sx 22 rfl (sx 23 rfl (sub_nil _))))))))))) ((.cons_cons _ (.cons_cons _ .slnil)))
 ·
  refine hl_less (sx 0 rfl (sx 1 rfl (sx 2 rfl (sx 3 rfl (sx 6 rfl (sx 7 rfl (sx 17 rfl (sx 21 rfl (sx 22 rfl (sx 23 rfl (sx 24 rfl (sub_nil _)))))))))))) (.refl _) ?_
  refine hl_nil ?_
  refine hq_then ?_
  refine hc_seq ?_
  refine hc_false rfl ?_
  refine hc_exit ?_
  refine hq_then_exit ?_
  refine hq_then_exit ?_
  refine hq_block_exit ?_
  refine hq_then ?_
  refine hc_seq ?_
  refine hc_draw3 (l := [rowE 3 1 v4 xs.length (xs.map (Value.int .i64)), boxE b1 #[.int .i64 n.ins, n.sv, n.av, n.ov] 28]) (by kernel_rfl) 8 [0, 1, 2, 3, 4, 5, 6, 7] (List.take 8 _) (List.drop 8 _) [[], [], [], [], [3], [4], [0, 1, 2, 5], [5, 6]] [some 32, some 33, some 34, some 35, some 36, some 37, some 38, some 39] (fun i_ vs_ v_ p_ => match i_ with | 0 => v_ = .agg #[.int .i64 n.ins, n.sv, n.av, n.ov] ∧ p_ = [] | 1 => v_ = .int .i64 node ∧ p_ = [] | 2 => v_ = cv ∧ p_ = [] | 3 => v_ = .agg #[.int .i64 n.ins, n.sv, n.av, n.ov] ∧ p_ = [] | 4 => v_ = .int .i64 n.cnt ∧ p_ = [] | 5 => IsRow_o 4 1 ((List.replicate (n.cnt).toNat bl0).length) ((List.replicate (n.cnt).toNat bl0).flatMap blC) v_ p_ | 6 => (∃ pm_, p_ = [pm_] ∧ (fun v_ p_ => v_ = .bool false ∧ ∃ bs' : List Bl, p_ = rowE 4 1 ((List.getD vs_ 3 undef)) (bs').length ((bs').flatMap blC) ∧ bs'.length = (List.replicate (n.cnt).toNat bl0).length) v_ pm_) | 7 => v_ = .bool true ∧ p_ = [] | _ => True) [[], [], [], [], [3], [4], [0, 1, 2], [6]] [none, none, none, none, none, none, some 5, none] [] [0, 1, 2, 3, 4, 6, 7] 9 (List.take_append_drop 8 _).symm (by kernel_rfl) (by kernel_rfl) (by kernel_rfl) rfl rfl ?_ ?_
  ·
   refine ⟨?_, ?_, ?_, ?_, ?_, ?_, ?_, ?_, trivial⟩
   ·
    intro vf pf hmu hR
    refine Or.inl ⟨rfl, ?_⟩
    show RunQ _ _ _ (([] : List Nat).flatMap pf ++ _) (envOf3 _ vf [] ++ _) _ _
    refine rq_less (sx 3 rfl (sub_nil _)) (List.sublist_append_right _ _) ?_
    exact rq_v (rv_loadN (cs := [.int .i64 n.ins, n.sv, n.av, n.ov]) rfl (by kernel_rfl) (by kernel_rfl) rfl rfl (box_part 1 rfl 0 rfl))
   ·
    intro vf pf hmu hR
    refine Or.inl ⟨rfl, ?_⟩
    show RunQ _ _ _ (([] : List Nat).flatMap pf ++ _) (envOf3 _ vf [] ++ _) _ _
    refine rq_less (sx 1 rfl (sub_nil _)) (List.sublist_append_right _ _) ?_
    exact rq_v (rv_ev rfl)
   ·
    intro vf pf hmu hR
    refine Or.inl ⟨rfl, ?_⟩
    show RunQ _ _ _ (([] : List Nat).flatMap pf ++ _) (envOf3 _ vf [] ++ _) _ _
    refine rq_less (sx 2 rfl (sub_nil _)) (List.sublist_append_right _ _) ?_
    exact rq_v (rv_ev rfl)
   ·
    intro vf pf hmu hR
    refine Or.inl ⟨rfl, ?_⟩
    show RunQ _ _ _ (([] : List Nat).flatMap pf ++ _) (envOf3 _ vf [] ++ _) _ _
    refine rq_less (sx 3 rfl (sub_nil _)) (List.sublist_append_right _ _) ?_
    exact rq_v (rv_loadN (cs := [.int .i64 n.ins, n.sv, n.av, n.ov]) rfl (by kernel_rfl) (by kernel_rfl) rfl rfl (box_part 1 rfl 0 rfl))
   ·
    intro vf pf hmu hR
    have e3 : (vf 3) = .agg #[.int .i64 n.ins, n.sv, n.av, n.ov] ∧ (pf 3) = [] := hR 3 (by decide)
    refine Or.inl ⟨rfl, ?_⟩
    show RunQ _ _ _ (([3] : List Nat).flatMap pf ++ _) (envOf3 _ vf [3] ++ _) _ _
    refine rq_less (sx 35 (congrArg some e3.1) (sub_nil _)) (List.sublist_append_right _ _) ?_
    exact (rq_call (by kernel_rfl) rfl (fun w hm => ret_ans (implnodeCount_yes n w (hr.below hm.bel) hn)))
   ·
    intro vf pf hmu hR
    have e4 : (vf 4) = .int .i64 n.cnt ∧ (pf 4) = [] := hR 4 (by decide)
    refine Or.inl ⟨rfl, ?_⟩
    show RunQ _ _ _ (([4] : List Nat).flatMap pf ++ _) (envOf3 _ vf [4] ++ _) _ _
    refine rq_less (sx 36 (congrArg some e4.1) (sub_nil _)) (List.sublist_append_right _ _) ?_
    exact rq_make (z := .bool false) (s := 1) (bytes := 1) (n := (List.replicate (n.cnt).toNat bl0).length) (cs := ((List.replicate (n.cnt).toNat bl0).flatMap blC)) rfl Try.underlying45 (by kernel_rfl) (by decide) rfl rfl (by first | (rw [List.length_replicate]; done) | (rw [List.length_replicate]; omega)) (by first | (rw [List.length_replicate]; done) | (rw [List.length_replicate]; omega)) (by rw [List.length_replicate]; omega) (made_flat blC 1 (fun _ => rfl) bl0 _ rfl (n.cnt).toNat)
   ·
    intro vf pf hmu hR
    have e0 : (vf 0) = .agg #[.int .i64 n.ins, n.sv, n.av, n.ov] ∧ (pf 0) = [] := hR 0 (by decide)
    have e1 : (vf 1) = .int .i64 node ∧ (pf 1) = [] := hR 1 (by decide)
    have e2 : (vf 2) = cv ∧ (pf 2) = [] := hR 2 (by decide)
    have e5 : IsRow_o 4 1 ((List.replicate (n.cnt).toNat bl0).length) ((List.replicate (n.cnt).toNat bl0).flatMap blC) (vf 5) (pf 5) := hR 5 (by decide)
    obtain ⟨g10, v5, p5⟩ := e5
    refine Or.inl ⟨rfl, ?_⟩
    show RunM _ _ _ (pf 5) (([0, 1, 2] : List Nat).flatMap pf ++ _) (envOf3 _ vf [0, 1, 2, 5] ++ _) _ _
    rw [p5]; rw [v5]
    refine rm_less (X' := [rowE 3 1 v4 xs.length (xs.map (Value.int .i64)), boxE b1 #[.int .i64 n.ins, n.sv, n.av, n.ov] 28]) (sx 32 (congrArg some e0.1) (sx 33 (congrArg some e1.1) (sx 34 (congrArg some e2.1) (sx 37 (congrArg some v5) (sub_nil _))))) (by first | (simp only [e0.2, e1.2, e2.2, List.flatMap_cons, List.flatMap_nil, List.append_nil, List.nil_append, List.cons_append]; exact List.Sublist.refl _) | simp [e0.2, e1.2, e2.2]) ?_
    exact rm_mono (rq_callM (R := (fun v_ p_ => v_ = .bool false ∧ ∃ bs' : List Bl, p_ = rowE 4 1 (.slice (some ⟨g10, 0, none⟩) ((List.replicate (n.cnt).toNat bl0).length) ((List.replicate (n.cnt).toNat bl0).length)) (bs').length ((bs').flatMap blC) ∧ bs'.length = (List.replicate (n.cnt).toNat bl0).length)) (by kernel_rfl) rfl (fun L w hX hm => escapes_mut n cut cv _ _ hr hn hcr hcut.len (node.toNat + 1) node (List.replicate (n.cnt).toNat bl0) _ _ (by omega) hnd.1 hnd.2 (by rw [List.length_replicate]; omega) hcut.cov hm)) (fun v_ p_ h => by show (∃ pm_, p_ = [pm_] ∧ (fun v_ p_ => v_ = .bool false ∧ ∃ bs' : List Bl, p_ = rowE 4 1 ((vf 5)) (bs').length ((bs').flatMap blC) ∧ bs'.length = (List.replicate (n.cnt).toNat bl0).length) v_ pm_); rw [v5]; exact h)
   ·
    intro vf pf hmu hR
    have e5 : IsRow_o 4 1 ((List.replicate (n.cnt).toNat bl0).length) ((List.replicate (n.cnt).toNat bl0).flatMap blC) (vf 5) (pf 5) := hR 5 (by decide)
    obtain ⟨g10, v5, p5⟩ := e5
    have e6 : (∃ pm_, (pf 6) = [pm_] ∧ (fun v_ p_ => v_ = .bool false ∧ ∃ bs' : List Bl, p_ = rowE 4 1 ((vf 5)) (bs').length ((bs').flatMap blC) ∧ bs'.length = (List.replicate (n.cnt).toNat bl0).length) (vf 6) pm_) := hR 6 (by decide)
    rw [v5] at e6
    obtain ⟨p12, p6, hR13⟩ := e6
    obtain ⟨v11, v6⟩ : ∃ x, vf 6 = x := ⟨_, rfl⟩
    rw [v6] at hR13
    obtain ⟨rfl, bs, rfl, hbl⟩ := hR13
    refine Or.inl ⟨rfl, ?_⟩
    show RunQ _ _ _ (([6] : List Nat).flatMap pf ++ _) (envOf3 _ vf [5, 6] ++ _) _ _
    refine rq_less (l' := [rowE 4 1 (.slice (some ⟨g10, 0, none⟩) ((List.replicate (n.cnt).toNat bl0).length) ((List.replicate (n.cnt).toNat bl0).length)) bs.length (bs.flatMap blC), rowE 3 1 v4 xs.length (xs.map (Value.int .i64)), boxE b1 #[.int .i64 n.ins, n.sv, n.av, n.ov] 28]) (sx 38 (congrArg some v6) (sub_nil _)) (by first | (simp only [p6, v6, List.flatMap_cons, List.flatMap_nil, List.append_nil, List.nil_append, List.cons_append]; exact List.Sublist.refl _) | simp [p6, v6]) ?_
    exact rq_v (rv_ev rfl)
  ·
   intro vf pf hmu hR
   have e5 : IsRow_o 4 1 ((List.replicate (n.cnt).toNat bl0).length) ((List.replicate (n.cnt).toNat bl0).flatMap blC) (vf 5) (pf 5) := hR 5 (by decide)
   obtain ⟨g10, v5, p5⟩ := e5
   have e6 : (∃ pm_, (pf 6) = [pm_] ∧ (fun v_ p_ => v_ = .bool false ∧ ∃ bs' : List Bl, p_ = rowE 4 1 ((vf 5)) (bs').length ((bs').flatMap blC) ∧ bs'.length = (List.replicate (n.cnt).toNat bl0).length) (vf 6) pm_) := hR 6 (by decide)
   rw [v5] at e6
   obtain ⟨p12, p6, hR13⟩ := e6
   obtain ⟨v11, v6⟩ : ∃ x, vf 6 = x := ⟨_, rfl⟩
   rw [v6] at hR13
   obtain ⟨rfl, bs, rfl, hbl⟩ := hR13
   have e7 : (vf 7) = .bool true ∧ (pf 7) = [] := hR 7 (by decide)
   have q0 : (vf 0) = .agg #[.int .i64 n.ins, n.sv, n.av, n.ov] ∧ (pf 0) = [] := hR 0 (by decide)
   have q1 : (vf 1) = .int .i64 node ∧ (pf 1) = [] := hR 1 (by decide)
   have q2 : (vf 2) = cv ∧ (pf 2) = [] := hR 2 (by decide)
   have q3 : (vf 3) = .agg #[.int .i64 n.ins, n.sv, n.av, n.ov] ∧ (pf 3) = [] := hR 3 (by decide)
   have q4 : (vf 4) = .int .i64 n.cnt ∧ (pf 4) = [] := hR 4 (by decide)
   have q7 : (vf 7) = .bool true ∧ (pf 7) = [] := hR 7 (by decide)
   refine hl_less (l' := [rowE 4 1 (.slice (some ⟨g10, 0, none⟩) ((List.replicate (n.cnt).toNat bl0).length) ((List.replicate (n.cnt).toNat bl0).length)) bs.length (bs.flatMap blC), rowE 3 1 v4 xs.length (xs.map (Value.int .i64)), boxE b1 #[.int .i64 n.ins, n.sv, n.av, n.ov] 28]) (sx 0 rfl (sx 1 rfl (sx 2 rfl (sx 3 rfl (sx 6 rfl (sx 7 rfl (sx 17 rfl (sx 21 rfl (sx 22 rfl (sx 23 rfl (sx 24 rfl (sx 39 (congrArg some e7.1) (sub_nil _))))))))))))) (by first | (simp only [p6, v6, q0.2, q1.2, q2.2, q3.2, q4.2, q7.2, List.flatMap_cons, List.flatMap_nil, List.append_nil, List.nil_append, List.cons_append]; exact List.Sublist.refl _) | simp [p6, v6, q0.2, q1.2, q2.2, q3.2, q4.2, q7.2]) ?_
   simp only [List.drop_succ_cons, List.drop_zero]
   refine hl_v rfl rfl rfl (rv_ev rfl) ?_
   refine hl_less (sx 0 rfl (sx 1 rfl (sx 2 rfl (sx 3 rfl (sx 6 rfl (sx 7 rfl (sx 17 rfl (sx 21 rfl (sx 22 rfl (sx 23 rfl (sx 24 rfl (sub_nil _)))))))))))) (.refl _) ?_
   refine hl_nil ?_
   refine hq_then ?_
   refine hc_ret ?_
   exact hq_ans rfl rfl rfl
set_option maxHeartbeats 4000000 in
set_option maxRecDepth 100000 in
theorem implCutOk_yes (n : Nt) (node : Int) (cut : List Int) (cv : Value) (w : World) (hr : RdsNt w n) (hn : NtOk n) (hcr : RdsW w cv 1 cut.length (cut.map (Value.int .i64))) (hcut : IsCut n node cut) (hnd : 0 ≤ node ∧ node < n.cnt) :
  Calls Try.prog 36 #[.agg #[.int .i64 n.ins, n.sv, n.av, n.ov], .int .i64 node, cv] w (Ans w (.bool true)) := by
 have hi0 := hn.i0
 have hi1 := hn.i1
 have hs1 := hn.s1
 have ha1 := hn.a1
 have ho1 := hn.o1
 have hcnt : n.cnt = 1 + n.ins + n.ss.length + n.gs.length := rfl
 have hfst : n.fst = 1 + n.ins + n.ss.length := rfl
 have hcl4 := hcut.len
 refine calls_hc (N := 22) (args := [.agg #[.int .i64 n.ins, n.sv, n.av, n.ov], .int .i64 node, cv]) Try.func36 rfl rfl ?_
 refine hc_less _ (sx 0 rfl (sx 1 rfl (sx 2 rfl (sub_nil _)))) (.refl _) ?_
 refine hc_seq ?_
 refine hc_region ?_
 refine hl_box rfl rfl rfl (rq_box rfl rfl) ?_
 intro b1
 refine hl_v rfl rfl rfl (rv_ev rfl) ?_
 refine hl_less (sx 0 rfl (sx 1 rfl (sx 2 rfl (sx 3 rfl (sx 6 rfl (sub_nil _)))))) (.refl _) ?_
 refine hl_nil ?_
 refine hq_then ?_
 refine hc_seq ?_
 refine hc_region ?_
 refine hl_v rfl rfl rfl (rv_loadN (cs := [.int .i64 n.ins, n.sv, n.av, n.ov]) rfl (by kernel_rfl) (by kernel_rfl) rfl rfl (box_part 0 rfl 0 rfl)) ?_
 refine hl_callV rfl rfl rfl (rq_call (by kernel_rfl) rfl (fun w hm => ret_ans (implNetOk_yes n w (hr.below hm.bel) hn))) ?_
 refine hl_v rfl rfl rfl (rv_ev rfl) ?_
 refine hl_v rfl rfl rfl (rv_ev rfl) ?_
 refine hl_v rfl rfl rfl (rv_loadN (cs := [.int .i64 n.ins, n.sv, n.av, n.ov]) rfl (by kernel_rfl) (by kernel_rfl) rfl rfl (box_part 0 rfl 0 rfl)) ?_
 refine hl_callV rfl rfl rfl (rq_call (by kernel_rfl) rfl (fun w hm => ret_ans (implnodeCount_yes n w (hr.below hm.bel) hn))) ?_
 refine hl_v rfl rfl rfl (rv_sub rfl rfl rfl (by constructor <;> omega)) ?_
 refine hl_callV rfl rfl rfl (rq_call (by kernel_rfl) rfl (fun w hm => ret_ans (ans_of (inRange_any _ _ _ w)))) ?_
 refine hl_bool (fun h2 => ?_) (fun h2 => absurd ((((inR_iff _ _ _).2 (by omega))).symm.trans h2) (by decide))
 refine hl_v rfl rfl rfl (rv_ev rfl) ?_
 refine hl_v rfl rfl rfl (rv_ev rfl) ?_
 refine hl_v rfl rfl rfl (rv_loadN (cs := [.int .i64 n.ins, n.sv, n.av, n.ov]) rfl (by kernel_rfl) (by kernel_rfl) rfl rfl (box_part 0 rfl 0 rfl)) ?_
 refine hl_v rfl rfl rfl (rv_ev rfl) ?_
 refine hl_v rfl rfl rfl (rv_ev rfl) ?_
 refine hl_callV rfl rfl rfl (rq_call (by kernel_rfl) rfl (fun w hm => ret_ans (cutOk_yes n node cut cv w (hr.below hm.bel) hn (hcr.below hm.bel) hcut hnd))) ?_
 refine hl_v rfl rfl rfl (rv_ev rfl) ?_
 refine hl_v rfl rfl rfl (rv_ev rfl) ?_
 refine hl_less (sx 0 rfl (sx 1 rfl (sx 2 rfl (sx 3 rfl (sx 6 rfl (sub_nil _)))))) (.refl _) ?_
 refine hl_nil ?_
 refine hq_then ?_
 refine hc_ret ?_
 exact hq_ans rfl rfl rfl
set_option maxHeartbeats 4000000 in
set_option maxRecDepth 100000 in
theorem valueAbove_step (n : Nt) (node : Int) (cut : List Int) (x : Int) (ms : List Int) (cv mv : Value) (w0 : World) (l : List HP) (w : World) (hm0 : Mem w0 (rowE 3 1 mv ms.length (ms.map (Value.int .i64)) :: l) w) (hr : RdsNt w0 n) (hn : NtOk n) (hcr : RdsW w0 cv 1 cut.length (cut.map (Value.int .i64))) (hcl : cut.length ≤ 4) (hnd : 0 ≤ node ∧ node < n.cnt) (hx : 0 ≤ x ∧ x ≤ 65535) (hms : MemoOk n cut x ms) (IH : ∀ (m : Int) (ms2 : List Int) (l2 : List HP) (w2 : World), 0 ≤ m → m < node → MemoOk n cut x ms2 → Mem w0 (rowE 3 1 mv (ms2).length ((ms2).map (Value.int .i64)) :: l2) w2 → Calls Try.prog 141 #[n.agg, .int .i64 m, cv, .int .i64 x, mv] w2 (fun e_ w_ => ∃ v_ p_, e_ = .returned v_ ∧ (v_ = .int .i64 (va n cut x m) ∧ ∃ ms' : List Int, p_ = rowE 3 1 mv (ms').length ((ms').map (Value.int .i64)) ∧ MemoOk n cut x ms') ∧ Mem w0 (p_ :: l2) w_)) :
  Calls Try.prog 141 #[.agg #[.int .i64 n.ins, n.sv, n.av, n.ov], .int .i64 node, cv, .int .i64 x, mv] w (fun e_ w_ => ∃ v_ p_, e_ = .returned v_ ∧ (fun v_ p_ => v_ = .int .i64 (va n cut x node) ∧ ∃ ms' : List Int, p_ = rowE 3 1 mv (ms').length ((ms').map (Value.int .i64)) ∧ MemoOk n cut x ms') v_ p_ ∧ Mem w0 (p_ :: l) w_) := by
 have hi0 := hn.i0
 have hi1 := hn.i1
 have hs1 := hn.s1
 have ha1 := hn.a1
 have ho1 := hn.o1
 have hcnt : n.cnt = 1 + n.ins + n.ss.length + n.gs.length := rfl
 have hfst : n.fst = 1 + n.ins + n.ss.length := rfl
 have hml := hms.len
 have hva := va01 n cut x node
 refine calls_hcM (N := 85) (args := [.agg #[.int .i64 n.ins, n.sv, n.av, n.ov], .int .i64 node, cv, .int .i64 x, mv]) Try.func141 rfl rfl hm0 ?_
 refine hc_less _ (sx 0 rfl (sx 1 rfl (sx 2 rfl (sx 3 rfl (sx 4 rfl (sub_nil _)))))) (.refl _) ?_
 refine hc_seq ?_
 refine hc_region ?_
 refine hl_box rfl rfl rfl (rq_box rfl rfl) ?_
 intro b1
 refine hl_v rfl rfl rfl (rv_ev rfl) ?_
 refine hl_less (sx 0 rfl (sx 1 rfl (sx 2 rfl (sx 3 rfl (sx 4 rfl (sx 5 rfl (sx 10 rfl (sub_nil _)))))))) (.refl _) ?_
 refine hl_nil ?_
 refine hq_then ?_
 refine hc_seq ?_
 refine hc_seq ?_
 refine hc_region ?_
 refine hl_v rfl rfl rfl (rv_ev rfl) ?_
 refine hl_v rfl rfl rfl (rv_len rfl Try.underlying26 rfl (rd_old hcr)) ?_
 refine hl_v rfl rfl rfl (rv_ev rfl) ?_
 refine hl_less (sx 0 rfl (sx 1 rfl (sx 2 rfl (sx 3 rfl (sx 4 rfl (sx 5 rfl (sx 10 rfl (sx 16 rfl (sx 17 rfl (sx 18 rfl (sub_nil _))))))))))) (.refl _) ?_
 refine hl_nil ?_
 refine hq_then ?_
 refine hc_block ?_
 refine hc_loop1 (α := Nat) (fun j => (boxE b1 #[.int .i64 n.ins, n.sv, n.av, n.ov] 28 :: rowE 3 1 mv ms.length (ms.map (Value.int .i64)) :: l)) (fun j => [(0, .agg #[.int .i64 n.ins, n.sv, n.av, n.ov]), (1, .int .i64 node), (2, cv), (3, .int .i64 x), (4, mv), (5, .pointer (some ⟨b1, 0, none⟩)), (10, .int .i64 0), (16, cv), (17, .int .i64 (cut.length : Int)), (18, .int .i64 (j : Int))]) (fun j => j ≤ cut.length ∧ ∀ i, i < j → cut.getD i 0 ≠ node) (fun j => cut.length - j) 0 ⟨by omega, fun i hi => absurd hi (by omega)⟩ (sx 0 rfl (sx 1 rfl (sx 2 rfl (sx 3 rfl (sx 4 rfl (sx 5 rfl (sx 10 rfl (sx 16 rfl (sx 17 rfl (sx 18 rfl (sub_nil _))))))))))) ((.cons_cons _ (.cons_cons _ (.refl _)))) ?_
 intro j hi2
 obtain ⟨hk1, hk2⟩ := hi2
 refine hc_seq ?_
 refine hc_region ?_
 refine hl_lss rfl rfl rfl rfl rfl rfl (fun h3 => ?_) (fun h3 => ?_)
 ·
  refine hl_less (sx 0 rfl (sx 1 rfl (sx 2 rfl (sx 3 rfl (sx 4 rfl (sx 5 rfl (sx 10 rfl (sx 16 rfl (sx 17 rfl (sx 18 rfl (sx 19 rfl (sub_nil _)))))))))))) (.refl _) ?_
  refine hl_nil ?_
  refine hq_then ?_
  refine hc_seq ?_
  refine hc_true rfl ?_
  refine hc_skip ?_
  refine hq_then ?_
  refine hc_seq ?_
  refine hc_block ?_
  refine hc_seq ?_
  refine hc_region ?_
  refine hl_v rfl rfl rfl (rv_ev rfl) ?_
  refine hl_v rfl rfl rfl (rv_index (s := 1) rfl Try.underlying26 (by kernel_rfl) rfl rfl (rd_old hcr) (by omega) (by first | omega | (simp only [List.length_set]; omega))) ?_
  refine hl_v rfl rfl rfl (rv_loadEl (u := .int .i64 (cut.getD j 0)) rfl (by kernel_rfl) rfl (rd_old hcr) (ints_at1 (show _ < cut.length by first | omega | (simp only [List.length_set]; omega)))) ?_
  refine hl_v rfl rfl rfl (rv_ev rfl) ?_
  refine hl_v rfl rfl rfl (rv_ev rfl) ?_
  refine hl_less (sx 0 rfl (sx 1 rfl (sx 2 rfl (sx 3 rfl (sx 4 rfl (sx 5 rfl (sx 10 rfl (sx 11 rfl (sx 12 rfl (sx 16 rfl (sx 17 rfl (sx 18 rfl (sx 19 rfl (sub_nil _)))))))))))))) (.refl _) ?_
  refine hl_nil ?_
  refine hq_then ?_
  refine hc_seq ?_
  refine hc_region ?_
  refine hl_v rfl rfl rfl (rv_ev rfl) ?_
  refine hl_v rfl rfl rfl (rv_ev rfl) ?_
  refine hl_eql rfl rfl rfl rfl rfl rfl (fun h4 => ?_) (fun h4 => ?_)
  ·
   refine hl_less (sx 0 rfl (sx 1 rfl (sx 2 rfl (sx 3 rfl (sx 4 rfl (sx 5 rfl (sx 10 rfl (sx 11 rfl (sx 12 rfl (sx 16 rfl (sx 17 rfl (sx 18 rfl (sx 19 rfl (sx 25 rfl (sub_nil _))))))))))))))) (.refl _) ?_
   refine hl_nil ?_
   refine hq_then ?_
   refine hc_true rfl ?_
   refine hc_seq ?_
   refine hc_region ?_
   refine hl_v rfl rfl rfl (rv_ev rfl) ?_
   refine hl_v rfl rfl rfl (rv_ev rfl) ?_
   refine hl_v rfl rfl rfl (rv_conv rfl Try.underlying3 Try.underlying98 rfl (IntWalk.u64_in _ (by omega))) ?_
   refine hl_v rfl rfl rfl (rv_shr rfl rfl rfl (by omega)) ?_
   refine hl_v rfl rfl rfl (rv_bits rfl (by decide) rfl rfl (r := va n cut x node) (va_here (by omega) (by assumption) hk2 hx.1 hx.2)) ?_
   refine hl_v rfl rfl rfl (rv_ev rfl) ?_
   refine hl_less (sx 0 rfl (sx 1 rfl (sx 2 rfl (sx 3 rfl (sx 4 rfl (sx 5 rfl (sx 10 rfl (sx 11 rfl (sx 12 rfl (sx 16 rfl (sx 17 rfl (sx 18 rfl (sx 19 rfl (sx 25 rfl (sub_nil _))))))))))))))) (.refl _) ?_
   refine hl_nil ?_
   refine hq_then ?_
   refine hc_ret ?_
   refine hq_block_ret ?_
   refine hq_then_ret ?_
   refine hq_then_ret ?_
   refine hq_block_ret ?_
   refine hq_then_ret ?_
   exact hq_ret (rs := [.tmp 10]) (vs := [.int .i64 (va n cut x node)]) rfl ⟨rfl, trivial⟩ rfl (fun w hm => ⟨_, rowE 3 1 mv ms.length (ms.map (Value.int .i64)), rfl, ⟨congrArg (Value.int .i64) rfl, _, rfl, hms⟩, hm.sub ((.cons _ (.cons_cons _ (.refl _))))⟩)
  ·
   refine hl_less (sx 0 rfl (sx 1 rfl (sx 2 rfl (sx 3 rfl (sx 4 rfl (sx 5 rfl (sx 10 rfl (sx 11 rfl (sx 12 rfl (sx 16 rfl (sx 17 rfl (sx 18 rfl (sx 19 rfl (sx 25 rfl (sub_nil _))))))))))))))) (.refl _) ?_
   refine hl_nil ?_
   refine hq_then ?_
   refine hc_false rfl ?_
   refine hc_skip ?_
   refine hq_block_normal ?_
   refine hq_then ?_
   refine hc_region ?_
   refine hl_v rfl rfl rfl (rv_add rfl rfl rfl (by constructor <;> omega)) ?_
   refine hl_v rfl rfl rfl (rv_ev rfl) ?_
   refine hl_less (sx 0 rfl (sx 1 rfl (sx 2 rfl (sx 3 rfl (sx 4 rfl (sx 5 rfl (sx 10 rfl (sx 11 rfl (sx 12 rfl (sx 16 rfl (sx 17 rfl (sx 18 rfl (sx 19 rfl (sx 25 rfl (sub_nil _))))))))))))))) (.refl _) ?_
   refine hl_nil ?_
   exact hq_round1 (j + 1) ⟨by omega, fun i hi => by by_cases hij : i = j; (subst hij; assumption); exact hk2 i (by omega)⟩ (by omega) (sx 0 rfl (sx 1 rfl (sx 2 rfl (sx 3 rfl (sx 4 rfl (sx 5 rfl (sx 10 rfl (sx 16 rfl (sx 17 rfl (sx 18 rfl (sub_nil _))))))))))) ((.cons_cons _ (.cons_cons _ (.refl _))))
 ·
  refine hl_less (sx 0 rfl (sx 1 rfl (sx 2 rfl (sx 3 rfl (sx 4 rfl (sx 5 rfl (sx 10 rfl (sx 16 rfl (sx 17 rfl (sx 18 rfl (sx 19 rfl (sub_nil _)))))))))))) (.refl _) ?_
  refine hl_nil ?_
  refine hq_then ?_
  refine hc_seq ?_
  refine hc_false rfl ?_
  refine hc_exit ?_
  refine hq_then_exit ?_
  refine hq_then_exit ?_
  refine hq_block_exit ?_
  refine hq_then ?_
  refine hc_seq ?_
  refine hc_seq ?_
  refine hc_region ?_
  refine hl_v rfl rfl rfl (rv_loadN (cs := [.int .i64 n.ins, n.sv, n.av, n.ov]) rfl (by kernel_rfl) (by kernel_rfl) rfl rfl (box_part 0 rfl 0 rfl)) ?_
  refine hl_v rfl rfl rfl (rv_ev rfl) ?_
  have hno : ∀ i, i < cut.length → cut.getD i 0 ≠ node := fun i hi => hk2 i (by omega)
  refine hl_callV rfl rfl rfl (rq_call (by kernel_rfl) rfl (fun w hm => ret_ans (isAnd_yes n node w (hr.below hm.bel) hn))) ?_
  refine hl_bool (fun h5 => ?_) (fun h5 => ?_)
  ·
   refine hl_v rfl rfl rfl (rv_ev rfl) ?_
   refine hl_less (sx 0 rfl (sx 1 rfl (sx 2 rfl (sx 3 rfl (sx 4 rfl (sx 5 rfl (sx 10 rfl (sx 16 rfl (sx 17 rfl (sx 18 rfl (sx 19 rfl (sx 35 rfl (sub_nil _))))))))))))) (.refl _) ?_
   refine hl_nil ?_
   refine hq_then ?_
   refine hc_false rfl ?_
   refine hc_skip ?_
   refine hq_then ?_
   refine hc_seq ?_
   refine hc_seq ?_
   refine hc_region ?_
   refine hl_v rfl rfl rfl (rv_ev rfl) ?_
   obtain ⟨hc1, hc2⟩ := isAnd_iff.1 (show isAndB n node = true by assumption)
   obtain ⟨o1, o2, o3, o4, o5, o6⟩ := nd_ok hn hc1 hc2
   have ea : ndA n node = (n.gs.getD ((node - n.fst).toNat) an0).a := rfl
   have eb : ndB n node = (n.gs.getD ((node - n.fst).toNat) an0).b := rfl
   rw [ea] at o3 o4
   rw [eb] at o5 o6
   refine hl_v rfl rfl rfl (rv_ev rfl) ?_
   refine hl_v rfl rfl rfl (rv_index (s := 1) rfl Try.underlying26 (by kernel_rfl) rfl rfl (rd_row 1 rfl) (by omega) (by first | omega | (simp only [List.length_set]; omega))) ?_
   refine hl_v rfl rfl rfl (rv_loadEl (u := .int .i64 (ms.getD ((node).toNat) 0)) rfl (by kernel_rfl) rfl (rd_row 1 rfl) (ints_at1 (show _ < ms.length by first | omega | (simp only [List.length_set]; omega)))) ?_
   refine hl_eql rfl rfl rfl rfl rfl rfl (fun h6 => ?_) (fun h6 => ?_)
   ·
    refine hl_less (sx 0 rfl (sx 1 rfl (sx 2 rfl (sx 3 rfl (sx 4 rfl (sx 5 rfl (sx 10 rfl (sx 16 rfl (sx 17 rfl (sx 18 rfl (sx 19 rfl (sx 35 rfl (sx 40 rfl (sub_nil _)))))))))))))) (.refl _) ?_
    refine hl_nil ?_
    refine hq_then ?_
    refine hc_true rfl ?_
    refine hc_seq ?_
    refine hc_draw (by kernel_rfl) 9 [0, 1, 2, 3, 4, 5, 6, 7, 8] (List.take 9 _) (List.drop 9 _) [[], [0], [], [], [3], [2, 4], [1, 5], [6], []] [41, 42, 43, 44, 45, 46, 47, 48, 13] (fun i_ vs_ v_ p_ => match i_ with | 0 => v_ = .pointer (some ⟨b1, 0 + 2, none⟩) ∧ p_ = [] | 1 => v_ = n.av ∧ p_ = [] | 2 => v_ = .int .i64 node ∧ p_ = [] | 3 => v_ = .agg #[.int .i64 n.ins, n.sv, n.av, n.ov] ∧ p_ = [] | 4 => v_ = .int .i64 n.fst ∧ p_ = [] | 5 => v_ = .int .i64 (node - n.fst) ∧ p_ = [] | 6 => v_ = elP n.av ((node - n.fst).toNat * 2) ∧ p_ = [] | 7 => v_ = .agg #[.int .i64 ((n.gs.getD ((node - n.fst).toNat) an0).a), .int .i64 ((n.gs.getD ((node - n.fst).toNat) an0).b)] ∧ p_ = [] | 8 => IsBox #[.int .i64 0, .int .i64 0] 80 v_ p_ | _ => True) (List.take_append_drop 9 _).symm (by kernel_rfl) (by kernel_rfl) rfl rfl ?_ ?_
    ·
     refine ⟨?_, ?_, ?_, ?_, ?_, ?_, ?_, ?_, ?_, trivial⟩
     ·
      intro vf pf hR
      refine Or.inl ⟨rfl, ?_⟩
      refine rq_less (sx 5 rfl (sub_nil _)) (List.sublist_append_right _ _) ?_
      exact rq_v (rv_field (k0 := 2) rfl (by kernel_rfl) rfl)
     ·
      intro vf pf hR
      have e0 : (vf 0) = .pointer (some ⟨b1, 0 + 2, none⟩) ∧ (pf 0) = [] := hR 0 (by decide)
      refine Or.inl ⟨rfl, ?_⟩
      refine rq_less (sx 41 (congrArg some e0.1) (sub_nil _)) (List.sublist_append_right _ _) ?_
      exact rq_v (rv_load rfl (by kernel_rfl) rfl (box_cell 0 rfl rfl))
     ·
      intro vf pf hR
      refine Or.inl ⟨rfl, ?_⟩
      refine rq_less (sx 1 rfl (sub_nil _)) (List.sublist_append_right _ _) ?_
      exact rq_v (rv_ev rfl)
     ·
      intro vf pf hR
      refine Or.inl ⟨rfl, ?_⟩
      refine rq_less (sx 5 rfl (sub_nil _)) (List.sublist_append_right _ _) ?_
      exact rq_v (rv_loadN (cs := [.int .i64 n.ins, n.sv, n.av, n.ov]) rfl (by kernel_rfl) (by kernel_rfl) rfl rfl (box_part 0 rfl 0 rfl))
     ·
      intro vf pf hR
      have e3 : (vf 3) = .agg #[.int .i64 n.ins, n.sv, n.av, n.ov] ∧ (pf 3) = [] := hR 3 (by decide)
      refine Or.inl ⟨rfl, ?_⟩
      refine rq_less (sx 44 (congrArg some e3.1) (sub_nil _)) (List.sublist_append_right _ _) ?_
      exact (rq_call (by kernel_rfl) rfl (fun w hm => ret_ans (firstAnd_yes n w (hr.below hm.bel) hn)))
     ·
      intro vf pf hR
      have e2 : (vf 2) = .int .i64 node ∧ (pf 2) = [] := hR 2 (by decide)
      have e4 : (vf 4) = .int .i64 n.fst ∧ (pf 4) = [] := hR 4 (by decide)
      refine Or.inl ⟨rfl, ?_⟩
      refine rq_less (sx 43 (congrArg some e2.1) (sx 45 (congrArg some e4.1) (sub_nil _))) (List.sublist_append_right _ _) ?_
      exact rq_v (rv_sub rfl rfl rfl (by constructor <;> omega))
     ·
      intro vf pf hR
      have e1 : (vf 1) = n.av ∧ (pf 1) = [] := hR 1 (by decide)
      have e5 : (vf 5) = .int .i64 (node - n.fst) ∧ (pf 5) = [] := hR 5 (by decide)
      refine Or.inl ⟨rfl, ?_⟩
      refine rq_less (sx 42 (congrArg some e1.1) (sx 46 (congrArg some e5.1) (sub_nil _))) (List.sublist_append_right _ _) ?_
      exact rq_v (rv_index (s := 2) rfl Try.underlying25 (by kernel_rfl) rfl rfl (rd_old hr.an) (by omega) (by first | omega | (simp only [List.length_set]; omega)))
     ·
      intro vf pf hR
      have e6 : (vf 6) = elP n.av ((node - n.fst).toNat * 2) ∧ (pf 6) = [] := hR 6 (by decide)
      refine Or.inl ⟨rfl, ?_⟩
      refine rq_less (sx 47 (congrArg some e6.1) (sub_nil _)) (List.sublist_append_right _ _) ?_
      exact rq_v (rv_loadElN (us := [.int .i64 ((n.gs.getD ((node - n.fst).toNat) an0).a), .int .i64 ((n.gs.getD ((node - n.fst).toNat) an0).b)]) rfl (by kernel_rfl) (by kernel_rfl) rfl (rd_old hr.an) (by omega) rfl (flat_atN anC 2 (fun _ => rfl) n.gs an0 (show (node - n.fst).toNat < _ by first | omega | (simp only [List.length_set]; omega)) rfl))
     ·
      intro vf pf hR
      refine Or.inl ⟨rfl, ?_⟩
      refine rq_less (sub_nil _) (List.sublist_append_right _ _) ?_
      exact rq_alloc (z := .agg #[.int .i64 0, .int .i64 0]) rfl (by kernel_rfl)
    ·
     intro vf pf hR
     have e7 : (vf 7) = .agg #[.int .i64 ((n.gs.getD ((node - n.fst).toNat) an0).a), .int .i64 ((n.gs.getD ((node - n.fst).toNat) an0).b)] ∧ (pf 7) = [] := hR 7 (by decide)
     have e8 : IsBox #[.int .i64 0, .int .i64 0] 80 (vf 8) (pf 8) := hR 8 (by decide)
     obtain ⟨b7, v8, p8⟩ := e8
     have q0 : (vf 0) = .pointer (some ⟨b1, 0 + 2, none⟩) ∧ (pf 0) = [] := hR 0 (by decide)
     have q1 : (vf 1) = n.av ∧ (pf 1) = [] := hR 1 (by decide)
     have q2 : (vf 2) = .int .i64 node ∧ (pf 2) = [] := hR 2 (by decide)
     have q3 : (vf 3) = .agg #[.int .i64 n.ins, n.sv, n.av, n.ov] ∧ (pf 3) = [] := hR 3 (by decide)
     have q4 : (vf 4) = .int .i64 n.fst ∧ (pf 4) = [] := hR 4 (by decide)
     have q5 : (vf 5) = .int .i64 (node - n.fst) ∧ (pf 5) = [] := hR 5 (by decide)
     have q6 : (vf 6) = elP n.av ((node - n.fst).toNat * 2) ∧ (pf 6) = [] := hR 6 (by decide)
     have q7 : (vf 7) = .agg #[.int .i64 ((n.gs.getD ((node - n.fst).toNat) an0).a), .int .i64 ((n.gs.getD ((node - n.fst).toNat) an0).b)] ∧ (pf 7) = [] := hR 7 (by decide)
     refine hl_less (l' := (boxE b7 #[.int .i64 0, .int .i64 0] 80 :: boxE b1 #[.int .i64 n.ins, n.sv, n.av, n.ov] 28 :: rowE 3 1 mv ms.length (ms.map (Value.int .i64)) :: l)) (sx 0 rfl (sx 1 rfl (sx 2 rfl (sx 3 rfl (sx 4 rfl (sx 5 rfl (sx 10 rfl (sx 13 (congrArg some v8) (sx 16 rfl (sx 17 rfl (sx 18 rfl (sx 19 rfl (sx 35 rfl (sx 40 rfl (sx 48 (congrArg some e7.1) (sub_nil _)))))))))))))))) (by first | (simp only [p8, v8, q0.2, q1.2, q2.2, q3.2, q4.2, q5.2, q6.2, q7.2, List.flatMap_cons, List.flatMap_nil, List.append_nil, List.nil_append, List.cons_append]; exact List.Sublist.refl _) | simp [p8, v8, q0.2, q1.2, q2.2, q3.2, q4.2, q5.2, q6.2, q7.2]) ?_
     simp only [List.drop_succ_cons, List.drop_zero]
     refine hl_storeBoxN (i := 0) (off := 0) (us := [.int .i64 ((n.gs.getD ((node - n.fst).toNat) an0).a), .int .i64 ((n.gs.getD ((node - n.fst).toNat) an0).b)])  (l' := (boxE b7 #[.int .i64 ((n.gs.getD ((node - n.fst).toNat) an0).a), .int .i64 ((n.gs.getD ((node - n.fst).toNat) an0).b)] 80 :: boxE b1 #[.int .i64 n.ins, n.sv, n.av, n.ov] 28 :: rowE 3 1 mv ms.length (ms.map (Value.int .i64)) :: l)) rfl rfl rfl (by kernel_rfl) rfl rfl rfl (all_cons rfl (all_cons rfl all_nil)) rfl rfl rfl ?_
     refine hl_less (sx 0 rfl (sx 1 rfl (sx 2 rfl (sx 3 rfl (sx 4 rfl (sx 5 rfl (sx 10 rfl (sx 13 rfl (sx 16 rfl (sx 17 rfl (sx 18 rfl (sx 19 rfl (sx 35 rfl (sx 40 rfl (sub_nil _))))))))))))))) (.refl _) ?_
     refine hl_nil ?_
     refine hq_then ?_
     refine hc_seq ?_
     refine hc_conv (rowE 3 1 mv ms.length (ms.map (Value.int .i64)) :: boxE b7 #[.int .i64 ((n.gs.getD ((node - n.fst).toNat) an0).a), .int .i64 ((n.gs.getD ((node - n.fst).toNat) an0).b)] 80 :: boxE b1 #[.int .i64 n.ins, n.sv, n.av, n.ov] 28 :: l) (conv_pick (src := [boxE b7 #[.int .i64 ((n.gs.getD ((node - n.fst).toNat) an0).a), .int .i64 ((n.gs.getD ((node - n.fst).toNat) an0).b)] 80, boxE b1 #[.int .i64 n.ins, n.sv, n.av, n.ov] 28, rowE 3 1 mv ms.length (ms.map (Value.int .i64))]) (dst := [rowE 3 1 mv ms.length (ms.map (Value.int .i64)), boxE b7 #[.int .i64 ((n.gs.getD ((node - n.fst).toNat) an0).a), .int .i64 ((n.gs.getD ((node - n.fst).toNat) an0).b)] 80, boxE b1 #[.int .i64 n.ins, n.sv, n.av, n.ov] 28]) (l := l) [2, 0, 1] (by decide) rfl) ?_
     refine hc_draw2 (l := (boxE b7 #[.int .i64 ((n.gs.getD ((node - n.fst).toNat) an0).a), .int .i64 ((n.gs.getD ((node - n.fst).toNat) an0).b)] 80 :: boxE b1 #[.int .i64 n.ins, n.sv, n.av, n.ov] 28 :: l)) (by kernel_rfl) 12 [0, 1, 2, 3, 4, 5, 6, 7, 8, 9, 10, 11] (List.take 12 _) (List.drop 12 _) [[], [], [1], [2], [], [], [], [0, 3, 4, 5, 6], [], [8], [9], [7, 10]] [49, 50, 51, 52, 53, 54, 55, 56, 57, 58, 59, 60] (fun i_ vs_ v_ p_ => match i_ with | 0 => v_ = .agg #[.int .i64 n.ins, n.sv, n.av, n.ov] ∧ p_ = [] | 1 => v_ = .pointer (some ⟨b7, 0 + 0, none⟩) ∧ p_ = [] | 2 => v_ = .int .i64 ((n.gs.getD ((node - n.fst).toNat) an0).a) ∧ p_ = [] | 3 => v_ = .int .i64 (((n.gs.getD ((node - n.fst).toNat) an0).a) / 2) ∧ p_ = [] | 4 => v_ = cv ∧ p_ = [] | 5 => v_ = .int .i64 x ∧ p_ = [] | 6 => v_ = mv ∧ p_ = [] | 7 => (∃ pm_, p_ = [pm_] ∧ (fun v_ p_ => v_ = .int .i64 (va n cut x (ndA n node / 2)) ∧ ∃ ms' : List Int, p_ = rowE 3 1 mv (ms').length ((ms').map (Value.int .i64)) ∧ MemoOk n cut x ms') v_ pm_) | 8 => v_ = .pointer (some ⟨b7, 0 + 0, none⟩) ∧ p_ = [] | 9 => v_ = .int .i64 ((n.gs.getD ((node - n.fst).toNat) an0).a) ∧ p_ = [] | 10 => v_ = .int .i64 (((n.gs.getD ((node - n.fst).toNat) an0).a) % 2) ∧ p_ = [] | 11 => v_ = .int .i64 (bix (va n cut x (ndA n node / 2)) (ndA n node)) ∧ p_ = [] | _ => True) [[], [], [1], [2], [], [], [], [0, 3, 4, 5, 6], [], [8], [9], [7, 10]] [none, none, none, none, none, none, none, some 13, none, none, none, none] [rowE 3 1 mv ms.length (ms.map (Value.int .i64))] [0, 1, 2, 3, 4, 5, 6, 7, 8, 9, 10, 11] 13 (List.take_append_drop 12 _).symm (by kernel_rfl) (by kernel_rfl) (by kernel_rfl) rfl rfl ?_ ?_
     ·
      refine ⟨?_, ?_, ?_, ?_, ?_, ?_, ?_, ?_, ?_, ?_, ?_, ?_, trivial⟩
      ·
       intro vf pf hmu hR
       refine Or.inl ⟨rfl, ?_⟩
       show RunQ _ _ _ (([] : List Nat).flatMap pf ++ _) (envOf _ vf [] ++ _) _ _
       refine rq_less (sx 5 rfl (sub_nil _)) (List.sublist_append_right _ _) ?_
       exact rq_v (rv_loadN (cs := [.int .i64 n.ins, n.sv, n.av, n.ov]) rfl (by kernel_rfl) (by kernel_rfl) rfl rfl (box_part 1 rfl 0 rfl))
      ·
       intro vf pf hmu hR
       refine Or.inl ⟨rfl, ?_⟩
       show RunQ _ _ _ (([] : List Nat).flatMap pf ++ _) (envOf _ vf [] ++ _) _ _
       refine rq_less (sx 13 rfl (sub_nil _)) (List.sublist_append_right _ _) ?_
       exact rq_v (rv_field (k0 := 0) rfl (by kernel_rfl) rfl)
      ·
       intro vf pf hmu hR
       have e1 : (vf 1) = .pointer (some ⟨b7, 0 + 0, none⟩) ∧ (pf 1) = [] := hR 1 (by decide)
       refine Or.inl ⟨rfl, ?_⟩
       show RunQ _ _ _ (([1] : List Nat).flatMap pf ++ _) (envOf _ vf [1] ++ _) _ _
       refine rq_less (sx 50 (congrArg some e1.1) (sub_nil _)) (List.sublist_append_right _ _) ?_
       exact rq_v (rv_load rfl (by kernel_rfl) rfl (box_cell 0 rfl rfl))
      ·
       intro vf pf hmu hR
       have e2 : (vf 2) = .int .i64 ((n.gs.getD ((node - n.fst).toNat) an0).a) ∧ (pf 2) = [] := hR 2 (by decide)
       refine Or.inl ⟨rfl, ?_⟩
       show RunQ _ _ _ (([2] : List Nat).flatMap pf ++ _) (envOf _ vf [2] ++ _) _ _
       refine rq_less (sx 51 (congrArg some e2.1) (sub_nil _)) (List.sublist_append_right _ _) ?_
       exact rq_v (rv_quo rfl rfl rfl (by refine ⟨?_, ?_, ?_⟩ <;> omega))
      ·
       intro vf pf hmu hR
       refine Or.inl ⟨rfl, ?_⟩
       show RunQ _ _ _ (([] : List Nat).flatMap pf ++ _) (envOf _ vf [] ++ _) _ _
       refine rq_less (sx 2 rfl (sub_nil _)) (List.sublist_append_right _ _) ?_
       exact rq_v (rv_ev rfl)
      ·
       intro vf pf hmu hR
       refine Or.inl ⟨rfl, ?_⟩
       show RunQ _ _ _ (([] : List Nat).flatMap pf ++ _) (envOf _ vf [] ++ _) _ _
       refine rq_less (sx 3 rfl (sub_nil _)) (List.sublist_append_right _ _) ?_
       exact rq_v (rv_ev rfl)
      ·
       intro vf pf hmu hR
       refine Or.inl ⟨rfl, ?_⟩
       show RunQ _ _ _ (([] : List Nat).flatMap pf ++ _) (envOf _ vf [] ++ _) _ _
       refine rq_less (sx 4 rfl (sub_nil _)) (List.sublist_append_right _ _) ?_
       exact rq_v (rv_ev rfl)
      ·
       intro vf pf hmu hR
       have e0 : (vf 0) = .agg #[.int .i64 n.ins, n.sv, n.av, n.ov] ∧ (pf 0) = [] := hR 0 (by decide)
       have e3 : (vf 3) = .int .i64 (((n.gs.getD ((node - n.fst).toNat) an0).a) / 2) ∧ (pf 3) = [] := hR 3 (by decide)
       have e4 : (vf 4) = cv ∧ (pf 4) = [] := hR 4 (by decide)
       have e5 : (vf 5) = .int .i64 x ∧ (pf 5) = [] := hR 5 (by decide)
       have e6 : (vf 6) = mv ∧ (pf 6) = [] := hR 6 (by decide)
       refine Or.inl ⟨rfl, ?_⟩
       show RunM _ _ _ (pf 13) (([0, 3, 4, 5, 6] : List Nat).flatMap pf ++ _) (envOf _ vf [0, 3, 4, 5, 6] ++ _) _ _
       rw [hmu]
       refine rm_less (X' := (boxE b7 #[.int .i64 ((n.gs.getD ((node - n.fst).toNat) an0).a), .int .i64 ((n.gs.getD ((node - n.fst).toNat) an0).b)] 80 :: boxE b1 #[.int .i64 n.ins, n.sv, n.av, n.ov] 28 :: l)) (sx 49 (congrArg some e0.1) (sx 52 (congrArg some e3.1) (sx 53 (congrArg some e4.1) (sx 54 (congrArg some e5.1) (sx 55 (congrArg some e6.1) (sub_nil _)))))) (by first | (simp only [e0.2, e3.2, e4.2, e5.2, e6.2, List.flatMap_cons, List.flatMap_nil, List.append_nil, List.nil_append, List.cons_append]; exact List.Sublist.refl _) | simp [e0.2, e3.2, e4.2, e5.2, e6.2]) ?_
       exact rq_callM (R := (fun v_ p_ => v_ = .int .i64 (va n cut x (ndA n node / 2)) ∧ ∃ ms' : List Int, p_ = rowE 3 1 mv (ms').length ((ms').map (Value.int .i64)) ∧ MemoOk n cut x ms')) (by kernel_rfl) rfl (fun L w hX hm => IH (((n.gs.getD ((node - n.fst).toNat) an0).a) / 2) ms _ _ (by omega) (by omega) hms hm)
      ·
       intro vf pf hmu hR
       refine Or.inl ⟨rfl, ?_⟩
       show RunQ _ _ _ (([] : List Nat).flatMap pf ++ _) (envOf _ vf [] ++ _) _ _
       refine rq_less (sx 13 rfl (sub_nil _)) (List.sublist_append_right _ _) ?_
       exact rq_v (rv_field (k0 := 0) rfl (by kernel_rfl) rfl)
      ·
       intro vf pf hmu hR
       have e8 : (vf 8) = .pointer (some ⟨b7, 0 + 0, none⟩) ∧ (pf 8) = [] := hR 8 (by decide)
       refine Or.inl ⟨rfl, ?_⟩
       show RunQ _ _ _ (([8] : List Nat).flatMap pf ++ _) (envOf _ vf [8] ++ _) _ _
       refine rq_less (sx 57 (congrArg some e8.1) (sub_nil _)) (List.sublist_append_right _ _) ?_
       exact rq_v (rv_load rfl (by kernel_rfl) rfl (box_cell 0 rfl rfl))
      ·
       intro vf pf hmu hR
       have e9 : (vf 9) = .int .i64 ((n.gs.getD ((node - n.fst).toNat) an0).a) ∧ (pf 9) = [] := hR 9 (by decide)
       refine Or.inl ⟨rfl, ?_⟩
       show RunQ _ _ _ (([9] : List Nat).flatMap pf ++ _) (envOf _ vf [9] ++ _) _ _
       refine rq_less (sx 58 (congrArg some e9.1) (sub_nil _)) (List.sublist_append_right _ _) ?_
       exact rq_v (rv_bits rfl (by decide) rfl rfl (r := ((n.gs.getD ((node - n.fst).toNat) an0).a) % 2) (Bit.and_one _ (by omega) (by omega)))
      ·
       intro vf pf hmu hR
       have e7 : (∃ pm_, (pf 7) = [pm_] ∧ (fun v_ p_ => v_ = .int .i64 (va n cut x (ndA n node / 2)) ∧ ∃ ms' : List Int, p_ = rowE 3 1 mv (ms').length ((ms').map (Value.int .i64)) ∧ MemoOk n cut x ms') (vf 7) pm_) := hR 7 (by decide)
       obtain ⟨p9, p7, hR10⟩ := e7
       obtain ⟨v8, v7⟩ : ∃ x, vf 7 = x := ⟨_, rfl⟩
       try rw [v7] at hR10
       obtain ⟨rfl, m2, rfl, hm2⟩ := hR10
       have e10 : (vf 10) = .int .i64 (((n.gs.getD ((node - n.fst).toNat) an0).a) % 2) ∧ (pf 10) = [] := hR 10 (by decide)
       refine Or.inl ⟨rfl, ?_⟩
       show RunQ _ _ _ (([7, 10] : List Nat).flatMap pf ++ _) (envOf _ vf [7, 10] ++ _) _ _
       refine rq_less (l' := (rowE 3 1 mv m2.length (m2.map (Value.int .i64)) :: boxE b7 #[.int .i64 ((n.gs.getD ((node - n.fst).toNat) an0).a), .int .i64 ((n.gs.getD ((node - n.fst).toNat) an0).b)] 80 :: boxE b1 #[.int .i64 n.ins, n.sv, n.av, n.ov] 28 :: l)) (sx 56 (congrArg some v7) (sx 59 (congrArg some e10.1) (sub_nil _))) (by first | (simp only [p7, v7, e10.2, List.flatMap_cons, List.flatMap_nil, List.append_nil, List.nil_append, List.cons_append]; exact List.Sublist.refl _) | simp [p7, v7, e10.2]) ?_
       exact rq_v (rv_bits rfl (by decide) rfl rfl (r := bix (va n cut x (ndA n node / 2)) (ndA n node)) (xor01 (va01 _ _ _ _)))
     ·
      intro vf pf hmu hR
      have e7 : (∃ pm_, (pf 7) = [pm_] ∧ (fun v_ p_ => v_ = .int .i64 (va n cut x (ndA n node / 2)) ∧ ∃ ms' : List Int, p_ = rowE 3 1 mv (ms').length ((ms').map (Value.int .i64)) ∧ MemoOk n cut x ms') (vf 7) pm_) := hR 7 (by decide)
      obtain ⟨p9, p7, hR10⟩ := e7
      obtain ⟨v8, v7⟩ : ∃ x, vf 7 = x := ⟨_, rfl⟩
      try rw [v7] at hR10
      obtain ⟨rfl, m2, rfl, hm2⟩ := hR10
      have e11 : (vf 11) = .int .i64 (bix (va n cut x (ndA n node / 2)) (ndA n node)) ∧ (pf 11) = [] := hR 11 (by decide)
      have q0 : (vf 0) = .agg #[.int .i64 n.ins, n.sv, n.av, n.ov] ∧ (pf 0) = [] := hR 0 (by decide)
      have q1 : (vf 1) = .pointer (some ⟨b7, 0 + 0, none⟩) ∧ (pf 1) = [] := hR 1 (by decide)
      have q2 : (vf 2) = .int .i64 ((n.gs.getD ((node - n.fst).toNat) an0).a) ∧ (pf 2) = [] := hR 2 (by decide)
      have q3 : (vf 3) = .int .i64 (((n.gs.getD ((node - n.fst).toNat) an0).a) / 2) ∧ (pf 3) = [] := hR 3 (by decide)
      have q4 : (vf 4) = cv ∧ (pf 4) = [] := hR 4 (by decide)
      have q5 : (vf 5) = .int .i64 x ∧ (pf 5) = [] := hR 5 (by decide)
      have q6 : (vf 6) = mv ∧ (pf 6) = [] := hR 6 (by decide)
      have q8 : (vf 8) = .pointer (some ⟨b7, 0 + 0, none⟩) ∧ (pf 8) = [] := hR 8 (by decide)
      have q9 : (vf 9) = .int .i64 ((n.gs.getD ((node - n.fst).toNat) an0).a) ∧ (pf 9) = [] := hR 9 (by decide)
      have q10 : (vf 10) = .int .i64 (((n.gs.getD ((node - n.fst).toNat) an0).a) % 2) ∧ (pf 10) = [] := hR 10 (by decide)
      have q11 : (vf 11) = .int .i64 (bix (va n cut x (ndA n node / 2)) (ndA n node)) ∧ (pf 11) = [] := hR 11 (by decide)
      refine hl_less (l' := (rowE 3 1 mv m2.length (m2.map (Value.int .i64)) :: boxE b7 #[.int .i64 ((n.gs.getD ((node - n.fst).toNat) an0).a), .int .i64 ((n.gs.getD ((node - n.fst).toNat) an0).b)] 80 :: boxE b1 #[.int .i64 n.ins, n.sv, n.av, n.ov] 28 :: l)) (sx 0 rfl (sx 1 rfl (sx 2 rfl (sx 3 rfl (sx 4 rfl (sx 5 rfl (sx 10 rfl (sx 13 rfl (sx 16 rfl (sx 17 rfl (sx 18 rfl (sx 19 rfl (sx 35 rfl (sx 40 rfl (sx 60 (congrArg some e11.1) (sub_nil _)))))))))))))))) (by first | (simp only [p7, v7, q0.2, q1.2, q2.2, q3.2, q4.2, q5.2, q6.2, q8.2, q9.2, q10.2, q11.2, List.flatMap_cons, List.flatMap_nil, List.append_nil, List.nil_append, List.cons_append]; exact List.Sublist.refl _) | simp [p7, v7, q0.2, q1.2, q2.2, q3.2, q4.2, q5.2, q6.2, q8.2, q9.2, q10.2, q11.2]) ?_
      simp only [List.drop_succ_cons, List.drop_zero]
      refine hl_v rfl rfl rfl (rv_ev rfl) ?_
      refine hl_less (sx 0 rfl (sx 1 rfl (sx 2 rfl (sx 3 rfl (sx 4 rfl (sx 5 rfl (sx 10 rfl (sx 13 rfl (sx 14 rfl (sx 16 rfl (sx 17 rfl (sx 18 rfl (sx 19 rfl (sx 35 rfl (sx 40 rfl (sub_nil _)))))))))))))))) (.refl _) ?_
      refine hl_nil ?_
      refine hq_then ?_
      refine hc_seq ?_
      refine hc_draw2 (l := (boxE b7 #[.int .i64 ((n.gs.getD ((node - n.fst).toNat) an0).a), .int .i64 ((n.gs.getD ((node - n.fst).toNat) an0).b)] 80 :: boxE b1 #[.int .i64 n.ins, n.sv, n.av, n.ov] 28 :: l)) (by kernel_rfl) 12 [0, 1, 2, 3, 4, 5, 6, 7, 8, 9, 10, 11] (List.take 12 _) (List.drop 12 _) [[], [], [1], [2], [], [], [], [0, 3, 4, 5, 6], [], [8], [9], [7, 10]] [61, 62, 63, 64, 65, 66, 67, 68, 69, 70, 71, 72] (fun i_ vs_ v_ p_ => match i_ with | 0 => v_ = .agg #[.int .i64 n.ins, n.sv, n.av, n.ov] ∧ p_ = [] | 1 => v_ = .pointer (some ⟨b7, 0 + 1, none⟩) ∧ p_ = [] | 2 => v_ = .int .i64 ((n.gs.getD ((node - n.fst).toNat) an0).b) ∧ p_ = [] | 3 => v_ = .int .i64 (((n.gs.getD ((node - n.fst).toNat) an0).b) / 2) ∧ p_ = [] | 4 => v_ = cv ∧ p_ = [] | 5 => v_ = .int .i64 x ∧ p_ = [] | 6 => v_ = mv ∧ p_ = [] | 7 => (∃ pm_, p_ = [pm_] ∧ (fun v_ p_ => v_ = .int .i64 (va n cut x (ndB n node / 2)) ∧ ∃ ms' : List Int, p_ = rowE 3 1 mv (ms').length ((ms').map (Value.int .i64)) ∧ MemoOk n cut x ms') v_ pm_) | 8 => v_ = .pointer (some ⟨b7, 0 + 1, none⟩) ∧ p_ = [] | 9 => v_ = .int .i64 ((n.gs.getD ((node - n.fst).toNat) an0).b) ∧ p_ = [] | 10 => v_ = .int .i64 (((n.gs.getD ((node - n.fst).toNat) an0).b) % 2) ∧ p_ = [] | 11 => v_ = .int .i64 (bix (va n cut x (ndB n node / 2)) (ndB n node)) ∧ p_ = [] | _ => True) [[], [], [1], [2], [], [], [], [0, 3, 4, 5, 6], [], [8], [9], [7, 10]] [none, none, none, none, none, none, none, some 13, none, none, none, none] [rowE 3 1 mv m2.length (m2.map (Value.int .i64))] [0, 1, 2, 3, 4, 5, 6, 7, 8, 9, 10, 11] 13 (List.take_append_drop 12 _).symm (by kernel_rfl) (by kernel_rfl) (by kernel_rfl) rfl rfl ?_ ?_
      ·
       refine ⟨?_, ?_, ?_, ?_, ?_, ?_, ?_, ?_, ?_, ?_, ?_, ?_, trivial⟩
       ·
        intro vf pf hmu hR
        refine Or.inl ⟨rfl, ?_⟩
        show RunQ _ _ _ (([] : List Nat).flatMap pf ++ _) (envOf _ vf [] ++ _) _ _
        refine rq_less (sx 5 rfl (sub_nil _)) (List.sublist_append_right _ _) ?_
        exact rq_v (rv_loadN (cs := [.int .i64 n.ins, n.sv, n.av, n.ov]) rfl (by kernel_rfl) (by kernel_rfl) rfl rfl (box_part 1 rfl 0 rfl))
       ·
        intro vf pf hmu hR
        refine Or.inl ⟨rfl, ?_⟩
        show RunQ _ _ _ (([] : List Nat).flatMap pf ++ _) (envOf _ vf [] ++ _) _ _
        refine rq_less (sx 13 rfl (sub_nil _)) (List.sublist_append_right _ _) ?_
        exact rq_v (rv_field (k0 := 1) rfl (by kernel_rfl) rfl)
       ·
        intro vf pf hmu hR
        have e1 : (vf 1) = .pointer (some ⟨b7, 0 + 1, none⟩) ∧ (pf 1) = [] := hR 1 (by decide)
        refine Or.inl ⟨rfl, ?_⟩
        show RunQ _ _ _ (([1] : List Nat).flatMap pf ++ _) (envOf _ vf [1] ++ _) _ _
        refine rq_less (sx 62 (congrArg some e1.1) (sub_nil _)) (List.sublist_append_right _ _) ?_
        exact rq_v (rv_load rfl (by kernel_rfl) rfl (box_cell 0 rfl rfl))
       ·
        intro vf pf hmu hR
        have e2 : (vf 2) = .int .i64 ((n.gs.getD ((node - n.fst).toNat) an0).b) ∧ (pf 2) = [] := hR 2 (by decide)
        refine Or.inl ⟨rfl, ?_⟩
        show RunQ _ _ _ (([2] : List Nat).flatMap pf ++ _) (envOf _ vf [2] ++ _) _ _
        refine rq_less (sx 63 (congrArg some e2.1) (sub_nil _)) (List.sublist_append_right _ _) ?_
        exact rq_v (rv_quo rfl rfl rfl (by refine ⟨?_, ?_, ?_⟩ <;> omega))
       ·
        intro vf pf hmu hR
        refine Or.inl ⟨rfl, ?_⟩
        show RunQ _ _ _ (([] : List Nat).flatMap pf ++ _) (envOf _ vf [] ++ _) _ _
        refine rq_less (sx 2 rfl (sub_nil _)) (List.sublist_append_right _ _) ?_
        exact rq_v (rv_ev rfl)
       ·
        intro vf pf hmu hR
        refine Or.inl ⟨rfl, ?_⟩
        show RunQ _ _ _ (([] : List Nat).flatMap pf ++ _) (envOf _ vf [] ++ _) _ _
        refine rq_less (sx 3 rfl (sub_nil _)) (List.sublist_append_right _ _) ?_
        exact rq_v (rv_ev rfl)
       ·
        intro vf pf hmu hR
        refine Or.inl ⟨rfl, ?_⟩
        show RunQ _ _ _ (([] : List Nat).flatMap pf ++ _) (envOf _ vf [] ++ _) _ _
        refine rq_less (sx 4 rfl (sub_nil _)) (List.sublist_append_right _ _) ?_
        exact rq_v (rv_ev rfl)
       ·
        intro vf pf hmu hR
        have e0 : (vf 0) = .agg #[.int .i64 n.ins, n.sv, n.av, n.ov] ∧ (pf 0) = [] := hR 0 (by decide)
        have e3 : (vf 3) = .int .i64 (((n.gs.getD ((node - n.fst).toNat) an0).b) / 2) ∧ (pf 3) = [] := hR 3 (by decide)
        have e4 : (vf 4) = cv ∧ (pf 4) = [] := hR 4 (by decide)
        have e5 : (vf 5) = .int .i64 x ∧ (pf 5) = [] := hR 5 (by decide)
        have e6 : (vf 6) = mv ∧ (pf 6) = [] := hR 6 (by decide)
        refine Or.inl ⟨rfl, ?_⟩
        show RunM _ _ _ (pf 13) (([0, 3, 4, 5, 6] : List Nat).flatMap pf ++ _) (envOf _ vf [0, 3, 4, 5, 6] ++ _) _ _
        rw [hmu]
        refine rm_less (X' := (boxE b7 #[.int .i64 ((n.gs.getD ((node - n.fst).toNat) an0).a), .int .i64 ((n.gs.getD ((node - n.fst).toNat) an0).b)] 80 :: boxE b1 #[.int .i64 n.ins, n.sv, n.av, n.ov] 28 :: l)) (sx 61 (congrArg some e0.1) (sx 64 (congrArg some e3.1) (sx 65 (congrArg some e4.1) (sx 66 (congrArg some e5.1) (sx 67 (congrArg some e6.1) (sub_nil _)))))) (by first | (simp only [e0.2, e3.2, e4.2, e5.2, e6.2, List.flatMap_cons, List.flatMap_nil, List.append_nil, List.nil_append, List.cons_append]; exact List.Sublist.refl _) | simp [e0.2, e3.2, e4.2, e5.2, e6.2]) ?_
        exact rq_callM (R := (fun v_ p_ => v_ = .int .i64 (va n cut x (ndB n node / 2)) ∧ ∃ ms' : List Int, p_ = rowE 3 1 mv (ms').length ((ms').map (Value.int .i64)) ∧ MemoOk n cut x ms')) (by kernel_rfl) rfl (fun L w hX hm => IH (((n.gs.getD ((node - n.fst).toNat) an0).b) / 2) m2 _ _ (by omega) (by omega) hm2 hm)
       ·
        intro vf pf hmu hR
        refine Or.inl ⟨rfl, ?_⟩
        show RunQ _ _ _ (([] : List Nat).flatMap pf ++ _) (envOf _ vf [] ++ _) _ _
        refine rq_less (sx 13 rfl (sub_nil _)) (List.sublist_append_right _ _) ?_
        exact rq_v (rv_field (k0 := 1) rfl (by kernel_rfl) rfl)
       ·
        intro vf pf hmu hR
        have e8 : (vf 8) = .pointer (some ⟨b7, 0 + 1, none⟩) ∧ (pf 8) = [] := hR 8 (by decide)
        refine Or.inl ⟨rfl, ?_⟩
        show RunQ _ _ _ (([8] : List Nat).flatMap pf ++ _) (envOf _ vf [8] ++ _) _ _
        refine rq_less (sx 69 (congrArg some e8.1) (sub_nil _)) (List.sublist_append_right _ _) ?_
        exact rq_v (rv_load rfl (by kernel_rfl) rfl (box_cell 0 rfl rfl))
       ·
        intro vf pf hmu hR
        have e9 : (vf 9) = .int .i64 ((n.gs.getD ((node - n.fst).toNat) an0).b) ∧ (pf 9) = [] := hR 9 (by decide)
        refine Or.inl ⟨rfl, ?_⟩
        show RunQ _ _ _ (([9] : List Nat).flatMap pf ++ _) (envOf _ vf [9] ++ _) _ _
        refine rq_less (sx 70 (congrArg some e9.1) (sub_nil _)) (List.sublist_append_right _ _) ?_
        exact rq_v (rv_bits rfl (by decide) rfl rfl (r := ((n.gs.getD ((node - n.fst).toNat) an0).b) % 2) (Bit.and_one _ (by omega) (by omega)))
       ·
        intro vf pf hmu hR
        have e7 : (∃ pm_, (pf 7) = [pm_] ∧ (fun v_ p_ => v_ = .int .i64 (va n cut x (ndB n node / 2)) ∧ ∃ ms' : List Int, p_ = rowE 3 1 mv (ms').length ((ms').map (Value.int .i64)) ∧ MemoOk n cut x ms') (vf 7) pm_) := hR 7 (by decide)
        obtain ⟨p12, p7, hR13⟩ := e7
        obtain ⟨v11, v7⟩ : ∃ x, vf 7 = x := ⟨_, rfl⟩
        try rw [v7] at hR13
        obtain ⟨rfl, m3, rfl, hm3⟩ := hR13
        have e10 : (vf 10) = .int .i64 (((n.gs.getD ((node - n.fst).toNat) an0).b) % 2) ∧ (pf 10) = [] := hR 10 (by decide)
        refine Or.inl ⟨rfl, ?_⟩
        show RunQ _ _ _ (([7, 10] : List Nat).flatMap pf ++ _) (envOf _ vf [7, 10] ++ _) _ _
        refine rq_less (l' := (rowE 3 1 mv m3.length (m3.map (Value.int .i64)) :: boxE b7 #[.int .i64 ((n.gs.getD ((node - n.fst).toNat) an0).a), .int .i64 ((n.gs.getD ((node - n.fst).toNat) an0).b)] 80 :: boxE b1 #[.int .i64 n.ins, n.sv, n.av, n.ov] 28 :: l)) (sx 68 (congrArg some v7) (sx 71 (congrArg some e10.1) (sub_nil _))) (by first | (simp only [p7, v7, e10.2, List.flatMap_cons, List.flatMap_nil, List.append_nil, List.nil_append, List.cons_append]; exact List.Sublist.refl _) | simp [p7, v7, e10.2]) ?_
        exact rq_v (rv_bits rfl (by decide) rfl rfl (r := bix (va n cut x (ndB n node / 2)) (ndB n node)) (xor01 (va01 _ _ _ _)))
      ·
       intro vf pf hmu hR
       have e7 : (∃ pm_, (pf 7) = [pm_] ∧ (fun v_ p_ => v_ = .int .i64 (va n cut x (ndB n node / 2)) ∧ ∃ ms' : List Int, p_ = rowE 3 1 mv (ms').length ((ms').map (Value.int .i64)) ∧ MemoOk n cut x ms') (vf 7) pm_) := hR 7 (by decide)
       obtain ⟨p12, p7, hR13⟩ := e7
       obtain ⟨v11, v7⟩ : ∃ x, vf 7 = x := ⟨_, rfl⟩
       try rw [v7] at hR13
       obtain ⟨rfl, m3, rfl, hm3⟩ := hR13
       have e11 : (vf 11) = .int .i64 (bix (va n cut x (ndB n node / 2)) (ndB n node)) ∧ (pf 11) = [] := hR 11 (by decide)
       have q0 : (vf 0) = .agg #[.int .i64 n.ins, n.sv, n.av, n.ov] ∧ (pf 0) = [] := hR 0 (by decide)
       have q1 : (vf 1) = .pointer (some ⟨b7, 0 + 1, none⟩) ∧ (pf 1) = [] := hR 1 (by decide)
       have q2 : (vf 2) = .int .i64 ((n.gs.getD ((node - n.fst).toNat) an0).b) ∧ (pf 2) = [] := hR 2 (by decide)
       have q3 : (vf 3) = .int .i64 (((n.gs.getD ((node - n.fst).toNat) an0).b) / 2) ∧ (pf 3) = [] := hR 3 (by decide)
       have q4 : (vf 4) = cv ∧ (pf 4) = [] := hR 4 (by decide)
       have q5 : (vf 5) = .int .i64 x ∧ (pf 5) = [] := hR 5 (by decide)
       have q6 : (vf 6) = mv ∧ (pf 6) = [] := hR 6 (by decide)
       have q8 : (vf 8) = .pointer (some ⟨b7, 0 + 1, none⟩) ∧ (pf 8) = [] := hR 8 (by decide)
       have q9 : (vf 9) = .int .i64 ((n.gs.getD ((node - n.fst).toNat) an0).b) ∧ (pf 9) = [] := hR 9 (by decide)
       have q10 : (vf 10) = .int .i64 (((n.gs.getD ((node - n.fst).toNat) an0).b) % 2) ∧ (pf 10) = [] := hR 10 (by decide)
       have q11 : (vf 11) = .int .i64 (bix (va n cut x (ndB n node / 2)) (ndB n node)) ∧ (pf 11) = [] := hR 11 (by decide)
       refine hl_less (l' := (rowE 3 1 mv m3.length (m3.map (Value.int .i64)) :: boxE b7 #[.int .i64 ((n.gs.getD ((node - n.fst).toNat) an0).a), .int .i64 ((n.gs.getD ((node - n.fst).toNat) an0).b)] 80 :: boxE b1 #[.int .i64 n.ins, n.sv, n.av, n.ov] 28 :: l)) (sx 0 rfl (sx 1 rfl (sx 2 rfl (sx 3 rfl (sx 4 rfl (sx 5 rfl (sx 10 rfl (sx 13 rfl (sx 14 rfl (sx 16 rfl (sx 17 rfl (sx 18 rfl (sx 19 rfl (sx 35 rfl (sx 40 rfl (sx 72 (congrArg some e11.1) (sub_nil _))))))))))))))))) (by first | (simp only [p7, v7, q0.2, q1.2, q2.2, q3.2, q4.2, q5.2, q6.2, q8.2, q9.2, q10.2, q11.2, List.flatMap_cons, List.flatMap_nil, List.append_nil, List.nil_append, List.cons_append]; exact List.Sublist.refl _) | simp [p7, v7, q0.2, q1.2, q2.2, q3.2, q4.2, q5.2, q6.2, q8.2, q9.2, q10.2, q11.2]) ?_
       simp only [List.drop_succ_cons, List.drop_zero]
       refine hl_v rfl rfl rfl (rv_ev rfl) ?_
       refine hl_less (sx 0 rfl (sx 1 rfl (sx 2 rfl (sx 3 rfl (sx 4 rfl (sx 5 rfl (sx 10 rfl (sx 13 rfl (sx 14 rfl (sx 15 rfl (sx 16 rfl (sx 17 rfl (sx 18 rfl (sx 19 rfl (sx 35 rfl (sx 40 rfl (sub_nil _))))))))))))))))) (.refl _) ?_
       refine hl_nil ?_
       refine hq_then ?_
       refine hc_region ?_
       refine hl_v rfl rfl rfl (rv_ev rfl) ?_
       refine hl_v rfl rfl rfl (rv_ev rfl) ?_
       refine hl_v rfl rfl rfl (rv_ev rfl) ?_
       refine hl_v rfl rfl rfl (rv_ev rfl) ?_
       have hml3 := hm3.len
       refine hl_v rfl rfl rfl (rv_bits rfl (by decide) rfl rfl (r := va n cut x node) (va_andL hn hno hc1 hc2)) ?_
       refine hl_v rfl rfl rfl (rv_add rfl rfl rfl (by constructor <;> omega)) ?_
       refine hl_v rfl rfl rfl (rv_index (s := 1) rfl Try.underlying26 (by kernel_rfl) rfl rfl (rd_row 0 rfl) (by omega) (by first | omega | (simp only [List.length_set]; omega))) ?_
       refine hl_storeEl (i := 0) (n' := (m3.set ((node).toNat) (1 + (va n cut x node))).length) (xs' := ((m3.set ((node).toNat) (1 + (va n cut x node))).map (Value.int .i64))) (l' := (rowE 3 1 mv ((m3.set ((node).toNat) (1 + (va n cut x node))).length) ((m3.set ((node).toNat) (1 + (va n cut x node))).map (Value.int .i64)) :: boxE b7 #[.int .i64 ((n.gs.getD ((node - n.fst).toNat) an0).a), .int .i64 ((n.gs.getD ((node - n.fst).toNat) an0).b)] 80 :: boxE b1 #[.int .i64 n.ins, n.sv, n.av, n.ov] 28 :: l)) rfl rfl rfl (by kernel_rfl) rfl rfl rfl rfl (by first | omega | (simp only [List.length_set]; omega)) List.length_set.symm (ints_set _ _ _) rfl ?_
       refine hl_less (sx 0 rfl (sx 1 rfl (sx 2 rfl (sx 3 rfl (sx 4 rfl (sx 5 rfl (sx 10 rfl (sx 13 rfl (sx 14 rfl (sx 15 rfl (sx 16 rfl (sx 17 rfl (sx 18 rfl (sx 19 rfl (sx 35 rfl (sx 40 rfl (sub_nil _))))))))))))))))) (.refl _) ?_
       refine hl_nil ?_
       refine hq_then ?_
       refine hc_seq ?_
       refine hc_region ?_
       refine hl_v rfl rfl rfl (rv_ev rfl) ?_
       refine hl_v rfl rfl rfl (rv_ev rfl) ?_
       refine hl_v rfl rfl rfl (rv_index (s := 1) rfl Try.underlying26 (by kernel_rfl) rfl rfl (rd_row 0 rfl) (by omega) (by first | omega | (simp only [List.length_set]; omega))) ?_
       have hgv : (m3.set ((node).toNat) (1 + (va n cut x node))).getD node.toNat 0 = 1 + va n cut x node := getD_set_self' (by omega)
       have hms4 : MemoOk n cut x (m3.set ((node).toNat) (1 + (va n cut x node))) := hm3.set (by omega) (by rw [Int.toNat_of_nonneg (by omega)])
       refine hl_v rfl rfl rfl (rv_loadEl (u := .int .i64 ((m3.set ((node).toNat) (1 + (va n cut x node))).getD ((node).toNat) 0)) rfl (by kernel_rfl) rfl (rd_row 0 rfl) (ints_at1 (show _ < (m3.set ((node).toNat) (1 + (va n cut x node))).length by first | omega | (simp only [List.length_set]; omega)))) ?_
       refine hl_v rfl rfl rfl (rv_sub rfl rfl rfl (by constructor <;> omega)) ?_
       refine hl_v rfl rfl rfl (rv_ev rfl) ?_
       refine hl_less (sx 0 rfl (sx 1 rfl (sx 2 rfl (sx 3 rfl (sx 4 rfl (sx 5 rfl (sx 10 rfl (sx 13 rfl (sx 14 rfl (sx 15 rfl (sx 16 rfl (sx 17 rfl (sx 18 rfl (sx 19 rfl (sx 35 rfl (sx 40 rfl (sub_nil _))))))))))))))))) (.refl _) ?_
       refine hl_nil ?_
       refine hq_then ?_
       refine hc_ret ?_
       exact hq_ret (rs := [.tmp 10]) (vs := [.int .i64 (((m3.set ((node).toNat) (1 + (va n cut x node))).getD ((node).toNat) 0) - 1)]) rfl ⟨rfl, trivial⟩ rfl (fun w hm => ⟨_, rowE 3 1 mv ((m3.set ((node).toNat) (1 + (va n cut x node))).length) ((m3.set ((node).toNat) (1 + (va n cut x node))).map (Value.int .i64)), rfl, ⟨congrArg (Value.int .i64) (by omega), _, rfl, hms4⟩, hm.sub ((.cons_cons _ (.cons _ (.cons _ (.refl _)))))⟩)
   ·
    refine hl_less (sx 0 rfl (sx 1 rfl (sx 2 rfl (sx 3 rfl (sx 4 rfl (sx 5 rfl (sx 10 rfl (sx 16 rfl (sx 17 rfl (sx 18 rfl (sx 19 rfl (sx 35 rfl (sx 40 rfl (sub_nil _)))))))))))))) (.refl _) ?_
    refine hl_nil ?_
    refine hq_then ?_
    refine hc_false rfl ?_
    refine hc_skip ?_
    refine hq_then ?_
    refine hc_seq ?_
    refine hc_region ?_
    refine hl_v rfl rfl rfl (rv_ev rfl) ?_
    refine hl_v rfl rfl rfl (rv_ev rfl) ?_
    refine hl_v rfl rfl rfl (rv_index (s := 1) rfl Try.underlying26 (by kernel_rfl) rfl rfl (rd_row 1 rfl) (by omega) (by first | omega | (simp only [List.length_set]; omega))) ?_
    have hgv : ms.getD node.toNat 0 = 1 + va n cut x node := by have h8 := (hms.at_ node.toNat (by omega)).resolve_left (by omega); rwa [Int.toNat_of_nonneg (by omega)] at h8
    refine hl_v rfl rfl rfl (rv_loadEl (u := .int .i64 (ms.getD ((node).toNat) 0)) rfl (by kernel_rfl) rfl (rd_row 1 rfl) (ints_at1 (show _ < ms.length by first | omega | (simp only [List.length_set]; omega)))) ?_
    refine hl_v rfl rfl rfl (rv_sub rfl rfl rfl (by constructor <;> omega)) ?_
    refine hl_v rfl rfl rfl (rv_ev rfl) ?_
    refine hl_less (sx 0 rfl (sx 1 rfl (sx 2 rfl (sx 3 rfl (sx 4 rfl (sx 5 rfl (sx 10 rfl (sx 16 rfl (sx 17 rfl (sx 18 rfl (sx 19 rfl (sx 35 rfl (sx 40 rfl (sub_nil _)))))))))))))) (.refl _) ?_
    refine hl_nil ?_
    refine hq_then ?_
    refine hc_ret ?_
    exact hq_ret (rs := [.tmp 10]) (vs := [.int .i64 ((ms.getD ((node).toNat) 0) - 1)]) rfl ⟨rfl, trivial⟩ rfl (fun w hm => ⟨_, rowE 3 1 mv ms.length (ms.map (Value.int .i64)), rfl, ⟨congrArg (Value.int .i64) (by omega), _, rfl, hms⟩, hm.sub ((.cons _ (.cons_cons _ (.refl _))))⟩)
  ·
   refine hl_v rfl rfl rfl (rv_ev rfl) ?_
   refine hl_less (sx 0 rfl (sx 1 rfl (sx 2 rfl (sx 3 rfl (sx 4 rfl (sx 5 rfl (sx 10 rfl (sx 16 rfl (sx 17 rfl (sx 18 rfl (sx 19 rfl (sx 35 rfl (sub_nil _))))))))))))) (.refl _) ?_
   refine hl_nil ?_
   refine hq_then ?_
   refine hc_true rfl ?_
   refine hc_seq ?_
   refine hc_region ?_
   refine hl_v rfl rfl rfl (rv_ev rfl) ?_
   refine hl_less (sx 0 rfl (sx 1 rfl (sx 2 rfl (sx 3 rfl (sx 4 rfl (sx 5 rfl (sx 10 rfl (sx 16 rfl (sx 17 rfl (sx 18 rfl (sx 19 rfl (sx 35 rfl (sub_nil _))))))))))))) (.refl _) ?_
   refine hl_nil ?_
   refine hq_then ?_
   refine hc_ret ?_
   refine hq_then_ret ?_
   exact hq_ret (rs := [.tmp 10]) (vs := [.int .i64 0]) rfl ⟨rfl, trivial⟩ rfl (fun w hm => ⟨_, rowE 3 1 mv ms.length (ms.map (Value.int .i64)), rfl, ⟨congrArg (Value.int .i64) (va_leaf (not_mem_of hno) (by have h8 := isAnd_not (show isAndB n node = false by assumption); omega)).symm, _, rfl, hms⟩, hm.sub ((.cons _ (.cons_cons _ (.refl _))))⟩)
theorem valueAbove_mut (n : Nt) (cut : List Int) (x : Int) (cv mv : Value) (w0 : World) (hr : RdsNt w0 n) (hn : NtOk n) (hcr : RdsW w0 cv 1 cut.length (cut.map (Value.int .i64))) (hcl : cut.length ≤ 4) (hx : 0 ≤ x ∧ x ≤ 65535) : ∀ (k : Nat) (node : Int) (ms : List Int) (l : List HP) (w : World), node.toNat < k → 0 ≤ node → node < n.cnt → MemoOk n cut x ms → Mem w0 (rowE 3 1 mv (ms).length ((ms).map (Value.int .i64)) :: l) w →
    Calls Try.prog 141 #[n.agg, .int .i64 node, cv, .int .i64 x, mv] w (fun e_ w_ => ∃ v_ p_, e_ = .returned v_ ∧ (v_ = .int .i64 (va n cut x node) ∧ ∃ ms' : List Int, p_ = rowE 3 1 mv (ms').length ((ms').map (Value.int .i64)) ∧ MemoOk n cut x ms') ∧ Mem w0 (p_ :: l) w_)
  | 0, node, ms, l, w, hk, h0, h1, hs, hm => absurd hk (by omega)
  | k + 1, node, ms, l, w, hk, h0, h1, hs, hm => valueAbove_step n node cut x ms cv mv w0 l w hm hr hn hcr hcl ⟨h0, h1⟩ hx hs (fun m ms2 l2 w2 m0 m1 hs2 hm2 => valueAbove_mut n cut x cv mv w0 hr hn hcr hcl hx k m ms2 l2 w2 (by omega) m0 (by omega) hs2 hm2)
theorem big_part {ps : List HP} {p : HP} {w : World} (h : (bigE ps).holds w) (hp : p ∈ ps) : p.holds w := (h.1 p hp).2
theorem conv_bigN {w0 : World} {l : List HP} (ps : List HP) (l' : List HP) (h : l = ps ++ l') : Conv w0 l (bigE ps :: l') := fun w hm => (h ▸ hm).big
theorem rq_buildSlice1M {P : Program} {N : Nat} {w0 : World} {l : List HP} {env : List (Nat × Value)} {o : Oper} {t e : TypeId} {x : Operand} {v : Value} (ho : o.op = .buildSlice t 1 #[(0, x)]) (hu : P.underlying t = some (.slice e)) (hi : (P.info? e).map (fun i => (i.zero, i.size)) = some (some (.slice none 0 0), 1)) (hx : ev env x = some v) (h1 : ∀ w, Mem w0 l w → v.oneCell' = true) :
    RunQ P N w0 l env o (IsRow_o e 1 1 [v]) := fun a w st => rq_buildSlice1 ho hu hi hx (h1 w st.mem) a w st
/-- rows of ints_o that read -/
def RdsAll (w : World) (rs : List CRow) : Prop := ∀ r ∈ rs, RdsW w r.v 1 r.xs.length (r.xs.map (Value.int .i64))
theorem RdsAll.nil (w : World) : RdsAll w [] := fun r hr => by cases hr
theorem RdsAll.at {w : World} {rs : List CRow} (h : RdsAll w rs) {k : Nat} (hk : k < rs.length) : RdsW w (rs.getD k crow0).v 1 (rs.getD k crow0).xs.length ((rs.getD k crow0).xs.map (Value.int .i64)) := h _ (getD_mem' hk)
theorem RdsAll.sub {w : World} {rs qs : List CRow} (h : RdsAll w rs) (hs : ∀ q ∈ qs, q ∈ rs) : RdsAll w qs := fun q hq => h q (hs q hq)
theorem RdsAll.cons {w : World} {rs qs : List CRow} {u : CRow} (h : RdsAll w rs) (hu : RdsW w u.v 1 u.xs.length (u.xs.map (Value.int .i64))) (hs : ∀ q ∈ qs, q = u ∨ q ∈ rs) : RdsAll w qs := fun q hq => by
  rcases hs q hq with rfl | hq
  · exact hu
  · exact h q hq
theorem RdsW.one' {w : World} {v : Value} {s n : Nat} {cs : List Value} (h : RdsW w v s n cs) : v.oneCell' = true := by
  obtain ⟨a, cap, rfl, -⟩ := h; rfl
section
variable {P : Program} {N : Nat} {w0 : World} {l l' : List HP} {env : List (Nat × Value)} {Q : Post} {ops : Array Oper} {rest : List Oper} {o : Oper} {d : Nat}
theorem Mem.spliceRow {w : World} {e n g cap : Nat} {xs : List Value} {i : Nat} {cur : Array Value} (hi : l[i]? = some (rowE e 1 (.slice (some ⟨g, 0, none⟩) n cap) n xs)) (h : Mem w0 l w) (hg : w.heap[g]? = some (.cells cur e (0, 0))) (hn : n ≤ cap) (hcap : cap ≤ maxLen) (hsz : cur.size = cap * 1) (htk : cur.toList.take (n * 1) = xs)
    (lo : Nat) (cs : List Value) (hfit : lo + cs.length ≤ n) : Mem w0 (l.set i (rowE e 1 (.slice (some ⟨g, 0, none⟩) n cap) n (xs.take lo ++ cs ++ xs.drop (lo + cs.length)))) (w.setRow g (cur.toList.take lo ++ cs ++ cur.toList.drop (lo + cs.length)).toArray) := by
  have hxl : xs.length = n := by rw [← htk, List.length_take, Array.length_toList]; omega
  refine h.turnAt hi rfl rfl rfl (by simp [World.setRow]) (fun k _ hf => setRow_other w g k _ (fun e => hf (by subst e; rfl))) (rowE_ok _ _ _ _ _) (fun k hk => .inl hk) (fun k hk => ?_) ⟨?_, .inr ⟨g, cap, _, rfl, Nat.zero_le _, setRow_heap w g cur _ e _ hg, hn, hcap, ?_, ?_⟩⟩
  · have e : g = k := by simpa [rowE, Value.ownBlock] using hk
    subst e
    have := (h.new _ (mem_at hi) g rfl).2
    simpa [World.setRow] using this
  · simp only [List.length_append, List.length_take, List.length_drop]; omega
  · simp only [List.size_toArray, List.length_append, List.length_take, List.length_drop, Array.length_toList]; omega
  · rw [List.toList_toArray, ← htk]
    simp only [Nat.mul_one]
    rw [List.take_take, Nat.min_eq_left (by omega), List.drop_take]
    rw [List.take_append]
    have e1 : (cur.toList.take lo ++ cs).length = lo + cs.length := by rw [List.length_append, List.length_take, Array.length_toList]; omega
    rw [e1, List.take_of_length_le (by rw [e1]; exact hfit)]
/-- copy onto a part of a row of one's own -/
theorem hl_copyOwn {t t' e n m lo i : Nat} {x y : Operand} {v u : Value} {xs cs : List Value} (hd : o.dst = some d) (hN : Nat.blt d N = true) (hw : want ops env o.guard = some true) (ho : o.op = .call { callee := .builtin .copy, args := #[x, y], argTypes := #[t, t'] })
    (hu : P.underlying t = some (.slice e)) (hs : (P.info? e).map (·.size) = some 1) (hx : ev env x = some (slV v lo n 1)) (hy : ev env y = some u) (hi : l[i]? = some (rowE e 1 v n xs)) (hlo : lo ≤ n) (hr : Rd w0 l u 1 m cs) (h1 : ∀ q ∈ cs, q.oneCell' = true)
    {xs' : List Value} (hx' : xs.take lo ++ cs.take (n - lo) ++ xs.drop (lo + (cs.take (n - lo)).length) = xs') (hl' : l.set i (rowE e 1 v n xs') = l') (k : ∀ c : Int, HL P N ops w0 l' ((d, .int .i64 c) :: env) rest Q) : HL P N ops w0 l env (o :: rest) Q := by
  subst hl' hx'
  refine hl_world (v := u) hd hN hw (fun a w st => ?_)
  obtain ⟨ad, scap, rfl, hml, hmc, hsrc⟩ := hr w st.mem
  have hown : w.ownsRow 0 e 1 v n xs := st.mem.holds _ (mem_at hi)
  have hcl : (cs.take (n - lo)).length = Nat.min m (n - lo) := by rw [List.length_take, Nat.min_comm]; show Nat.min cs.length (n - lo) = _; congr 1; omega
  by_cases h0 : Nat.min m (n - lo) = 0
  · obtain ⟨dp, dcap, hdv⟩ : ∃ dp dcap, slV v lo n 1 = .slice dp (n - lo) dcap := by
      rcases hown.2 with ⟨rfl, rfl⟩ | ⟨g, cap, cur, rfl, -⟩
      · exact ⟨_, _, rfl⟩
      · exact ⟨_, _, rfl⟩
    have hrun := run_copy_none (P := P) w t t' o.type e dp ad (n - lo) dcap m scap hu hs h0
    have hnil : cs.take (n - lo) = [] := List.eq_nil_of_length_eq_zero (by omega)
    refine ⟨goInt 0, w, l, ?_, st.mem, ?_⟩
    · have := st.eval hx
      rw [hdv] at this
      simp [execOp, ho, resolve, invoke, builtin, this, st.eval hy, hrun, Result.andThen]
    · have hk := k 0
      rw [hnil] at hk
      simp only [List.length_nil, Nat.add_zero, List.append_nil, List.take_append_drop] at hk
      rwa [list_set_self hi] at hk
  · rcases hown.2 with ⟨rfl, rfl⟩ | ⟨g, cap, cur, rfl, hB, hg, hn, hcap, hsz, htk⟩
    · simp at h0
    · have hlt : lo < n := by
        apply Decidable.byContradiction; intro hc; apply h0; rw [show n - lo = 0 by omega]; exact Nat.min_zero m
      have hm0 : 0 < m := by
        apply Decidable.byContradiction; intro hc; apply h0; rw [show m = 0 by omega]; exact Nat.zero_min _
      obtain ⟨b, off, rfl, hcell⟩ := hsrc hm0
      have hdv : slV (.slice (some ⟨g, 0, none⟩) n cap) lo n 1 = .slice (some ⟨g, lo, none⟩) (n - lo) (cap - lo) := by
        show sliced (some ⟨g, 0, none⟩) lo n cap 1 = _
        unfold sliced
        rw [if_neg (by omega)]
        show Value.slice (some ((⟨g, 0, none⟩ : Addr).add (lo * 1))) _ _ = _
        rw [add_lit, Nat.zero_add, Nat.mul_one]
      have hrun := run_copy_row (P := P) w t t' o.type e g lo (n - lo) (cap - lo) ⟨b, off, none⟩ m scap cur e (cs.take (n - lo)) hu hs hg hcl (fun j u hj => by
        rw [add_lit]
        refine hcell j u ?_
        rw [List.getElem?_take] at hj
        split at hj
        · exact hj
        · cases hj) (by rw [hcl]; have : Nat.min m (n - lo) ≤ n - lo := Nat.min_le_right _ _; omega) (fun q hq => h1 q (List.mem_of_mem_take hq))
      refine ⟨_, _, _, ?_, st.mem.spliceRow hi hg hn hcap hsz htk lo (cs.take (n - lo)) (by rw [hcl]; have : Nat.min m (n - lo) ≤ n - lo := Nat.min_le_right _ _; omega), k ((cs.take (n - lo)).length : Int)⟩
      have := st.eval hx
      rw [hdv] at this
      simp [execOp, ho, resolve, invoke, builtin, this, st.eval hy, hrun, Result.andThen, goInt]
end
theorem flat_splice {α : Type} (f : α → List Value) (g : α → Value) (hf : ∀ r, f r = [g r]) (es es2 : List α) (lo k : Nat) :
    (es.flatMap f).take lo ++ (es2.flatMap f).take k ++ (es.flatMap f).drop (lo + ((es2.flatMap f).take k).length) = (es.take lo ++ es2.take k ++ es.drop (lo + (es2.take k).length)).flatMap f := by
  have e : f = fun r => [g r] := funext hf
  have em : ∀ xs : List α, xs.flatMap f = xs.map g := fun xs => by rw [e]; induction xs with
    | nil => rfl
    | cons a t ih => rw [List.flatMap_cons, ih]; rfl
  rw [em, em, em, List.map_append, List.map_append, List.map_take, List.map_take, List.map_drop, ← List.map_take, ← List.map_take, List.length_map]
/-- behind copy(all[at+1:], all[at:]); all[at] = u -/
theorem shift_mem {α : Type} {rs : List α} {z u r : α} {a : Nat} (ha : a ≤ rs.length) (h : r ∈ (((rs ++ [z]).take (a + 1) ++ ((rs ++ [z]).drop a).take ((rs ++ [z]).length - (a + 1)) ++ (rs ++ [z]).drop (a + 1 + (((rs ++ [z]).drop a).take ((rs ++ [z]).length - (a + 1))).length)).set a u)) : r = u ∨ r ∈ rs := by
  obtain ⟨i, he⟩ := List.mem_iff_getElem?.1 h
  have hl : (((rs ++ [z]).drop a).take ((rs ++ [z]).length - (a + 1))).length = rs.length - a := by simp only [List.length_take, List.length_drop, List.length_append, List.length_singleton]; omega
  rw [hl] at he
  rw [show a + 1 + (rs.length - a) = (rs ++ [z]).length by rw [List.length_append, List.length_singleton]; omega, List.drop_length, List.append_nil] at he
  rw [List.getElem?_set] at he
  split at he
  · split at he
    · cases he; exact .inl rfl
    · cases he
  · rename_i hne
    refine .inr ?_
    have ht : ((rs ++ [z]).take (a + 1)).length = a + 1 := by rw [List.length_take, List.length_append, List.length_singleton]; omega
    by_cases c : i < a + 1
    · rw [List.getElem?_append_left (by omega), List.getElem?_take, if_pos c, List.getElem?_append_left (by omega)] at he
      exact List.mem_of_getElem? he
    · rw [List.getElem?_append_right (by omega), ht, List.getElem?_take] at he
      split at he
      · rename_i hlt
        rw [List.length_append, List.length_singleton] at hlt
        rw [List.getElem?_drop, List.getElem?_append_left (by omega)] at he
        exact List.mem_of_getElem? he
      · cases he
theorem shift_len {α : Type} {rs : List α} {z u : α} {a : Nat} (ha : a ≤ rs.length) : (((rs ++ [z]).take (a + 1) ++ ((rs ++ [z]).drop a).take ((rs ++ [z]).length - (a + 1)) ++ (rs ++ [z]).drop (a + 1 + (((rs ++ [z]).drop a).take ((rs ++ [z]).length - (a + 1))).length)).set a u).length = rs.length + 1 := by
  simp only [List.length_set, List.length_append, List.length_take, List.length_drop, List.length_singleton]; omega
/-- a list that may be a cut -/
structure CutLike (xs : List Int) : Prop where
  len : xs.length ≤ 4
  asc : xs.Pairwise (· < ·)
  pos : ∀ k ∈ xs, 0 ≤ k
theorem CandOk.start (ca cb_o : List CRow) : CandOk ca cb_o 0 0 [] := ⟨by simp, fun r hr => (by cases hr)⟩
theorem CandOk.skip {ca cb_o : List CRow} {i j : Nat} {rs : List CRow} (h : CandOk ca cb_o i j rs) : CandOk ca cb_o i (j + 1) rs := ⟨by have := h.len; omega, h.ok⟩
theorem CandOk.next {ca cb_o : List CRow} {i j : Nat} {rs : List CRow} (h : CandOk ca cb_o i j rs) (hj : j ≤ cb_o.length) : CandOk ca cb_o (i + 1) 0 rs := ⟨by have := h.len; rw [Nat.add_mul]; omega, h.ok⟩
theorem CandOk.put {ca cb_o : List CRow} {i j : Nat} {rs qs : List CRow} {u : CRow} (h : CandOk ca cb_o i j rs) (hi : i < ca.length) (hj : j < cb_o.length) (hu : JoinOk (ca.getD i crow0).xs (cb_o.getD j crow0).xs u.xs) (hl : qs.length = rs.length + 1) (hq : ∀ q ∈ qs, q = u ∨ q ∈ rs) : CandOk ca cb_o i (j + 1) qs :=
  ⟨by have := h.len; omega, fun r hr => by
    rcases hq r hr with rfl | hr
    · exact ⟨_, getD_mem' hi, _, getD_mem' hj, hu⟩
    · exact h.ok r hr⟩
theorem CandOk.small {ca cb_o : List CRow} {i j : Nat} {rs : List CRow} (h : CandOk ca cb_o i j rs) (hi : i ≤ 8) (hj : j ≤ 8) (hb : cb_o.length ≤ 8) : rs.length ≤ 72 := by
  have := h.len
  have : i * cb_o.length ≤ 8 * 8 := Nat.mul_le_mul hi hb
  omega
theorem CandOk.len4 {ca cb_o : List CRow} {i j : Nat} {rs : List CRow} (h : CandOk ca cb_o i j rs) {r : CRow} (hr : r ∈ rs) : r.xs.length ≤ 4 := by
  obtain ⟨x, -, y, -, hj⟩ := h.ok r hr
  exact hj.len
theorem rds_cl_of {w : World} {v : Value} {rs : List CRow} (h1 : RdsW w v 1 rs.length (rs.flatMap crowC)) (h2 : RdsAll w rs) : RdsCl w v rs := ⟨h1, h2⟩
structure CSet where
  v : Value
  rs : List CRow
abbrev cset0 : CSet := ⟨.slice none 0 0, []⟩
def csC (c : CSet) : List Value := [c.v]
theorem rdsCl0 (w : World) : RdsCl w (.slice none 0 0) [] := ⟨⟨_, _, rfl, by simp, ⟨by simp, by simp⟩, fun h => absurd h (by simp)⟩, fun r hr => (by cases hr)⟩
/-- sets of cuts that read -/
def RdsSets (w : World) (cs : List CSet) : Prop := ∀ c ∈ cs, RdsCl w c.v c.rs
theorem RdsSets.at {w : World} {cs : List CSet} (h : RdsSets w cs) {k : Nat} (hk : k < cs.length) : RdsCl w (cs.getD k cset0).v (cs.getD k cset0).rs := h _ (getD_mem' hk)
theorem RdsSets.start (w : World) (n : Nat) : RdsSets w (List.replicate n cset0) := fun c hc => by rw [List.eq_of_mem_replicate hc]; exact rdsCl0 w
theorem RdsSets.set {w : World} {cs : List CSet} (h : RdsSets w cs) {k : Nat} {e : CSet} (he : RdsCl w e.v e.rs) : RdsSets w (cs.set k e) := fun c hc => by
  rcases List.mem_or_eq_of_mem_set hc with hc | rfl
  · exact h c hc
  · exact he
structure SetsOk (n : Nt) (m k : Nat) (cs : List CSet) : Prop where
  len : cs.length = m
  ok : ∀ j, j < k → CutsOk n j (cs.getD j cset0).rs
theorem SetsOk.start (n : Nt) (m : Nat) : SetsOk n m 0 (List.replicate m cset0) := ⟨by simp, fun j hj => absurd hj (by omega)⟩
theorem SetsOk.step {n : Nt} {m k : Nat} {cs : List CSet} (h : SetsOk n m k cs) (hk : k < m) {e : CSet} (he : CutsOk n k e.rs) : SetsOk n m (k + 1) (cs.set k e) := by
  have hl := h.len
  refine ⟨by rw [List.length_set]; exact hl, fun j hj => ?_⟩
  by_cases c : k = j
  · subst c; rw [getD_set_self' (by omega)]; exact he
  · rw [List.getD_eq_getElem?_getD, List.getElem?_set_ne c, ← List.getD_eq_getElem?_getD]; exact h.ok j (by omega)
theorem cuts_zero (n : Nt) {v : Value} : CutsOk n 0 [CRow.mk v []] := ⟨by simp, by simp, fun r hr => by rw [List.mem_singleton] at hr; subst hr; exact cut_zero n⟩
theorem cuts_leaf (n : Nt) {k : Nat} {v : Value} : CutsOk n k [CRow.mk v [(k : Int)]] := ⟨by simp, by simp, fun r hr => by rw [List.mem_singleton] at hr; subst hr; exact cut_one n _⟩
theorem cuts_and {n : Nt} {k : Nat} (h0 : n.fst ≤ k) (h1 : (k : Int) < n.cnt) {ca cb_o us ys : List CRow} {v : Value} (ha : ∀ r ∈ ca, IsCut n (ndA n k / 2) r.xs) (hb : ∀ r ∈ cb_o, IsCut n (ndB n k / 2) r.xs) (hu : ∀ r ∈ us, JoinsOf ca cb_o r.xs) (hy : ∀ r ∈ ys, r ∈ us) (hl : ys.length ≤ 7) : CutsOk n k (ys ++ [CRow.mk v [(k : Int)]]) :=
  ⟨by simp, by simp; omega, fun r hr => by
    rcases List.mem_append.1 hr with hr | hr
    · obtain ⟨x, hx, y, hy', hj⟩ := hu r (hy r hr)
      exact cut_and h0 h1 (ha x hx) (hb y hy') hj
    · rw [List.mem_singleton] at hr; subst hr; exact cut_one n _⟩
theorem CutsOk.like {n : Nt} (hn : NtOk n) {k : Int} (h0 : 0 ≤ k) (h1 : k < n.cnt) {rs : List CRow} (h : CutsOk n k rs) : ∀ r ∈ rs, CutLike r.xs := fun r hr => ⟨(h.ok r hr).len, (h.ok r hr).asc, fun x hx => ((h.ok r hr).rng hn h0 h1 hx).1⟩
theorem flat_onesC {xs : List CRow} (h : ∀ r ∈ xs, r.v.oneCell' = true) : ∀ u ∈ xs.flatMap crowC, u.oneCell' = true := fun u hu => by
  obtain ⟨r, hr, h1⟩ := List.mem_flatMap.1 hu
  simp only [crowC, List.mem_singleton] at h1
  subst h1; exact h r hr
theorem shift_memT {rs : List CRow} {mv : Value} {us : List Int} {k : Nat} (ha : k ≤ rs.length) {q : CRow} (h : q ∈ (((rs ++ [CRow.mk (.slice none 0 0) []]).take (k + 1) ++ ((rs ++ [CRow.mk (.slice none 0 0) []]).drop k).take ((rs ++ [CRow.mk (.slice none 0 0) []]).length - (k + 1)) ++ (rs ++ [CRow.mk (.slice none 0 0) []]).drop (k + 1 + (((rs ++ [CRow.mk (.slice none 0 0) []]).drop k).take ((rs ++ [CRow.mk (.slice none 0 0) []]).length - (k + 1))).length)).set k (CRow.mk mv us))) : q = CRow.mk mv us ∨ q ∈ rs := shift_mem ha h
theorem shift_lenT {rs : List CRow} {mv : Value} {us : List Int} {k : Nat} (ha : k ≤ rs.length) : ((((rs ++ [CRow.mk (.slice none 0 0) []]).take (k + 1) ++ ((rs ++ [CRow.mk (.slice none 0 0) []]).drop k).take ((rs ++ [CRow.mk (.slice none 0 0) []]).length - (k + 1)) ++ (rs ++ [CRow.mk (.slice none 0 0) []]).drop (k + 1 + (((rs ++ [CRow.mk (.slice none 0 0) []]).drop k).take ((rs ++ [CRow.mk (.slice none 0 0) []]).length - (k + 1))).length)).set k (CRow.mk mv us))).length = rs.length + 1 := shift_len ha
set_option maxHeartbeats 4000000 in
set_option maxRecDepth 100000 in
theorem candidates_ret (ca cb_o : List CRow) (u v : Value) (w : World) (ha : RdsCl w u ca) (hb : RdsCl w v cb_o) (hal : ∀ r ∈ ca, CutLike r.xs) (hbl : ∀ r ∈ cb_o, CutLike r.xs) (ha8 : ca.length ≤ 8) (hb8 : cb_o.length ≤ 8) :
  Calls Try.prog 135 #[u, v] w (Ret w (fun u_ p_ => ∃ (ps : List HP) (us : List CRow), p_ = [bigE ps] ∧ (∀ w, (bigE ps).holds w → RdsCl w u_ us) ∧ us.length ≤ 72 ∧ ∀ r ∈ us, JoinsOf ca cb_o r.xs)) := by
 refine calls_hc (N := 112) (args := [u, v]) Try.func135 rfl rfl ?_
 refine hc_less _ (sx 0 rfl (sx 1 rfl (sub_nil _))) (.refl _) ?_
 refine hc_seq ?_
 refine hc_region ?_
 refine hl_v rfl rfl rfl (rv_ev rfl) ?_
 refine hl_less (sx 0 rfl (sx 1 rfl (sx 4 rfl (sub_nil _)))) (.refl _) ?_
 refine hl_nil ?_
 refine hq_then ?_
 refine hc_seq ?_
 refine hc_region ?_
 refine hl_nilRow 26 1 ?_
 refine hl_v rfl rfl rfl (rv_ev rfl) ?_
 refine hl_less (sx 0 rfl (sx 1 rfl (sx 4 rfl (sx 5 rfl (sub_nil _))))) (.refl _) ?_
 refine hl_nil ?_
 refine hq_then ?_
 refine hc_seq ?_
 refine hc_seq ?_
 refine hc_region ?_
 refine hl_v rfl rfl rfl (rv_ev rfl) ?_
 refine hl_v rfl rfl rfl (rv_len rfl Try.underlying40 rfl (rd_old ha.row)) ?_
 refine hl_v rfl rfl rfl (rv_ev rfl) ?_
 refine hl_less (sx 0 rfl (sx 1 rfl (sx 4 rfl (sx 5 rfl (sx 19 rfl (sx 20 rfl (sx 21 rfl (sub_nil _)))))))) (.refl _) ?_
 refine hl_nil ?_
 refine hq_then ?_
 refine hc_block ?_
 refine hc_conv [bigE [], rowE 26 1 (.slice none 0 0) (([] : List CRow).length) (([] : List CRow).flatMap crowC)] (fun w hm => Mem.big (ps := []) hm) ?_
 refine hc_loop4 (α := Nat) (β := List CRow) (γ := Value) (δ := List HP) (fun i rs av ps => [bigE ps, rowE 26 1 av rs.length (rs.flatMap crowC)]) (fun i rs av ps => [(0, u), (1, v), (4, .slice none 0 0), (5, av), (19, u), (20, .int .i64 (ca.length : Int)), (21, .int .i64 (i : Int))]) (fun i rs av ps => i ≤ ca.length ∧ CandOk ca cb_o i 0 rs ∧ ∀ w, (bigE ps).holds w → RdsAll w rs) (fun i rs av ps => ca.length - i) 0 [] _ [] ⟨by omega, CandOk.start _ _, fun w _ => RdsAll.nil w⟩ (sx 0 rfl (sx 1 rfl (sx 4 rfl (sx 5 rfl (sx 19 rfl (sx 20 rfl (sx 21 rfl (sub_nil _)))))))) ((.cons_cons _ (.cons_cons _ .slnil))) ?_
 intro i rs av ps hi2
 obtain ⟨hi, hcd, hps⟩ := hi2
 have hrl : rs.length ≤ 72 := hcd.small (by omega) (by omega) (by omega)
 refine hc_seq ?_
 refine hc_region ?_
 refine hl_lss rfl rfl rfl rfl rfl rfl (fun h3 => ?_) (fun h3 => ?_)
 ·
  refine hl_less (sx 0 rfl (sx 1 rfl (sx 4 rfl (sx 5 rfl (sx 19 rfl (sx 20 rfl (sx 21 rfl (sx 22 rfl (sub_nil _))))))))) (.refl _) ?_
  refine hl_nil ?_
  refine hq_then ?_
  refine hc_seq ?_
  refine hc_true rfl ?_
  refine hc_skip ?_
  refine hq_then ?_
  refine hc_seq ?_
  refine hc_block ?_
  refine hc_seq ?_
  refine hc_region ?_
  refine hl_v rfl rfl rfl (rv_index (s := 1) rfl Try.underlying40 (by kernel_rfl) rfl rfl (rd_old ha.row) (by omega) (by first | omega | (simp only [List.length_set]; omega))) ?_
  refine hl_v rfl rfl rfl (rv_loadEl (u := (ca.getD i crow0).v) rfl (by kernel_rfl) rfl (rd_old ha.row) (flat_one crowC (fun r => r.v) (fun _ => rfl) ca crow0 (show i < _ by first | omega | (simp only [List.length_set]; omega)))) ?_
  refine hl_v rfl rfl rfl (rv_ev rfl) ?_
  refine hl_less (sx 0 rfl (sx 1 rfl (sx 4 rfl (sx 5 rfl (sx 7 rfl (sx 19 rfl (sx 20 rfl (sx 21 rfl (sx 22 rfl (sub_nil _)))))))))) (.refl _) ?_
  refine hl_nil ?_
  refine hq_then ?_
  refine hc_seq ?_
  refine hc_region ?_
  refine hl_v rfl rfl rfl (rv_ev rfl) ?_
  refine hl_v rfl rfl rfl (rv_len rfl Try.underlying40 rfl (rd_old hb.row)) ?_
  refine hl_v rfl rfl rfl (rv_ev rfl) ?_
  refine hl_less (sx 0 rfl (sx 1 rfl (sx 4 rfl (sx 5 rfl (sx 7 rfl (sx 19 rfl (sx 20 rfl (sx 21 rfl (sx 22 rfl (sx 25 rfl (sx 26 rfl (sx 27 rfl (sub_nil _))))))))))))) (.refl _) ?_
  refine hl_nil ?_
  refine hq_then ?_
  refine hc_block ?_
  refine hc_loop4 (α := Nat) (β := List CRow) (γ := Value) (δ := List HP) (fun j rs2 av2 ps2 => [bigE ps2, rowE 26 1 av2 rs2.length (rs2.flatMap crowC)]) (fun j rs2 av2 ps2 => [(0, u), (1, v), (4, .slice none 0 0), (5, av2), (7, (ca.getD i crow0).v), (19, u), (20, .int .i64 (ca.length : Int)), (21, .int .i64 (i : Int)), (22, .bool true), (25, v), (26, .int .i64 (cb_o.length : Int)), (27, .int .i64 (j : Int))]) (fun j rs2 av2 ps2 => j ≤ cb_o.length ∧ CandOk ca cb_o i j rs2 ∧ ∀ w, (bigE ps2).holds w → RdsAll w rs2) (fun j rs2 av2 ps2 => cb_o.length - j) 0 rs _ _ ⟨by omega, hcd, hps⟩ (sx 0 rfl (sx 1 rfl (sx 4 rfl (sx 5 rfl (sx 7 rfl (sx 19 rfl (sx 20 rfl (sx 21 rfl (sx 22 rfl (sx 25 rfl (sx 26 rfl (sx 27 rfl (sub_nil _))))))))))))) ((.cons_cons _ (.cons_cons _ .slnil))) ?_
  intro j rs2 av2 ps2 hi4
  obtain ⟨hj, hcd2, hps2⟩ := hi4
  have hrl2 : rs2.length ≤ 72 := hcd2.small (by omega) (by omega) (by omega)
  refine hc_seq ?_
  refine hc_region ?_
  refine hl_lss rfl rfl rfl rfl rfl rfl (fun h5 => ?_) (fun h5 => ?_)
  ·
   refine hl_less (sx 0 rfl (sx 1 rfl (sx 4 rfl (sx 5 rfl (sx 7 rfl (sx 19 rfl (sx 20 rfl (sx 21 rfl (sx 22 rfl (sx 25 rfl (sx 26 rfl (sx 27 rfl (sx 28 rfl (sub_nil _)))))))))))))) (.refl _) ?_
   refine hl_nil ?_
   refine hq_then ?_
   refine hc_seq ?_
   refine hc_true rfl ?_
   refine hc_skip ?_
   refine hq_then ?_
   refine hc_seq ?_
   refine hc_block ?_
   refine hc_seq ?_
   refine hc_region ?_
   refine hl_v rfl rfl rfl (rv_index (s := 1) rfl Try.underlying40 (by kernel_rfl) rfl rfl (rd_old hb.row) (by omega) (by first | omega | (simp only [List.length_set]; omega))) ?_
   refine hl_v rfl rfl rfl (rv_loadEl (u := (cb_o.getD j crow0).v) rfl (by kernel_rfl) rfl (rd_old hb.row) (flat_one crowC (fun r => r.v) (fun _ => rfl) cb_o crow0 (show j < _ by first | omega | (simp only [List.length_set]; omega)))) ?_
   refine hl_v rfl rfl rfl (rv_ev rfl) ?_
   refine hl_less (sx 0 rfl (sx 1 rfl (sx 4 rfl (sx 5 rfl (sx 7 rfl (sx 9 rfl (sx 19 rfl (sx 20 rfl (sx 21 rfl (sx 22 rfl (sx 25 rfl (sx 26 rfl (sx 27 rfl (sx 28 rfl (sub_nil _))))))))))))))) (.refl _) ?_
   refine hl_nil ?_
   refine hq_then ?_
   refine hc_seq ?_
   refine hc_region ?_
   refine hl_v rfl rfl rfl (rv_ev rfl) ?_
   refine hl_v rfl rfl rfl (rv_ev rfl) ?_
   have hla := hal _ (getD_mem' (es := ca) (i := i) (d := crow0) (by omega))
   have hlb := hbl _ (getD_mem' (es := cb_o) (i := j) (d := crow0) (by omega))
   refine hl_q rfl rfl rfl (rq_call (by kernel_rfl) rfl (fun w hm => MergeCuts_ret (ca.getD i crow0).xs (cb_o.getD j crow0).xs _ _ w ((ha.at (k := i) (by omega)).below hm.bel) ((hb.at (k := j) (by omega)).below hm.bel) hla.len hlb.len hla.asc hlb.asc hla.pos hlb.pos)) ?_
   intro v6 p7 hR8
   obtain ⟨mv, us, mb, rfl, rfl, hul, hmj⟩ := hR8
   refine hl_v rfl rfl rfl (rv_ev rfl) ?_
   refine hl_v rfl rfl rfl (rv_ev rfl) ?_
   refine hl_v rfl rfl rfl (rv_ev rfl) ?_
   refine hl_bool (fun h9 => ?_) (fun h9 => ?_)
   ·
    refine hl_v rfl rfl rfl (rv_ev rfl) ?_
    refine hl_v rfl rfl rfl (rv_ev rfl) ?_
    refine hl_less (sx 0 rfl (sx 1 rfl (sx 4 rfl (sx 5 rfl (sx 7 rfl (sx 9 rfl (sx 10 rfl (sx 11 rfl (sx 19 rfl (sx 20 rfl (sx 21 rfl (sx 22 rfl (sx 25 rfl (sx 26 rfl (sx 27 rfl (sx 28 rfl (sub_nil _))))))))))))))))) (.refl _) ?_
    refine hl_nil ?_
    refine hq_then ?_
    refine hc_seq ?_
    refine hc_seq ?_
    refine hc_region ?_
    refine hl_v rfl rfl rfl (rv_ev rfl) ?_
    refine hl_v rfl rfl rfl (rv_ev rfl) ?_
    refine hl_less (sx 0 rfl (sx 1 rfl (sx 4 rfl (sx 5 rfl (sx 7 rfl (sx 9 rfl (sx 10 rfl (sx 11 rfl (sx 19 rfl (sx 20 rfl (sx 21 rfl (sx 22 rfl (sx 25 rfl (sx 26 rfl (sx 27 rfl (sx 28 rfl (sx 38 rfl (sub_nil _)))))))))))))))))) (.refl _) ?_
    refine hl_nil ?_
    refine hq_then ?_
    refine hc_false rfl ?_
    refine hc_skip ?_
    refine hq_then ?_
    refine hc_seq ?_
    refine hc_region ?_
    refine hl_v rfl rfl rfl (rv_ev rfl) ?_
    refine hl_less (sx 0 rfl (sx 1 rfl (sx 4 rfl (sx 5 rfl (sx 7 rfl (sx 9 rfl (sx 10 rfl (sx 11 rfl (sx 12 rfl (sx 19 rfl (sx 20 rfl (sx 21 rfl (sx 22 rfl (sx 25 rfl (sx 26 rfl (sx 27 rfl (sx 28 rfl (sx 38 rfl (sub_nil _))))))))))))))))))) (.refl _) ?_
    refine hl_nil ?_
    refine hq_then ?_
    refine hc_seq ?_
    refine hc_block ?_
    refine hc_loop1 (α := Nat) (fun k => [rowE 3 1 mv us.length (us.map (Value.int .i64)), bigE ps2, rowE 26 1 av2 rs2.length (rs2.flatMap crowC)]) (fun k => [(0, u), (1, v), (4, .slice none 0 0), (5, av2), (7, (ca.getD i crow0).v), (9, (cb_o.getD j crow0).v), (10, mv), (11, .bool true), (12, .int .i64 (k : Int)), (19, u), (20, .int .i64 (ca.length : Int)), (21, .int .i64 (i : Int)), (22, .bool true), (25, v), (26, .int .i64 (cb_o.length : Int)), (27, .int .i64 (j : Int)), (28, .bool true), (38, .bool false)]) (fun k => k ≤ rs2.length) (fun k => rs2.length - k) 0 (Nat.zero_le _) (sx 0 rfl (sx 1 rfl (sx 4 rfl (sx 5 rfl (sx 7 rfl (sx 9 rfl (sx 10 rfl (sx 11 rfl (sx 12 rfl (sx 19 rfl (sx 20 rfl (sx 21 rfl (sx 22 rfl (sx 25 rfl (sx 26 rfl (sx 27 rfl (sx 28 rfl (sx 38 rfl (sub_nil _))))))))))))))))))) ((.cons_cons _ (.cons_cons _ (.cons_cons _ .slnil)))) ?_
    intro k hi10
    have hk := hi10
    refine hc_seq ?_
    refine hc_seq ?_
    refine hc_region ?_
    refine hl_v rfl rfl rfl (rv_ev rfl) ?_
    refine hl_v rfl rfl rfl (rv_ev rfl) ?_
    refine hl_v rfl rfl rfl (rv_len rfl Try.underlying40 rfl (rd_row 2 rfl)) ?_
    refine hl_lss rfl rfl rfl rfl rfl rfl (fun h11 => ?_) (fun h11 => ?_)
    ·
     refine hl_v rfl rfl rfl (rv_ev rfl) ?_
     refine hl_v rfl rfl rfl (rv_ev rfl) ?_
     refine hl_v rfl rfl rfl (rv_ev rfl) ?_
     refine hl_v rfl rfl rfl (rv_index (s := 1) rfl Try.underlying40 (by kernel_rfl) rfl rfl (rd_row 2 rfl) (by omega) (by first | omega | (simp only [List.length_set]; omega))) ?_
     refine hl_v rfl rfl rfl (rv_loadEl (u := (rs2.getD k crow0).v) rfl (by kernel_rfl) rfl (rd_row 2 rfl) (flat_one crowC (fun r => r.v) (fun _ => rfl) rs2 crow0 (show k < _ by first | omega | (simp only [List.length_set]; omega)))) ?_
     refine hl_v rfl rfl rfl (rv_ev rfl) ?_
     have h4k := hcd2.len4 (getD_mem' (es := rs2) (i := k) (d := crow0) (by omega))
     refine hl_callV rfl rfl rfl (rq_call (by kernel_rfl) rfl (fun w hm => ret_ans (CutLess_ans ((rs2.getD k crow0).xs) us _ _ w ((fun w hm => (hps2 w (hm.holds _ (mem_at (i := 1) rfl))).at (k := k) (by omega)) w hm) ((rd_row 0 rfl) w hm) (by omega)))) ?_
     refine hl_bool (fun h12 => ?_) (fun h12 => ?_)
     ·
      refine hl_v rfl rfl rfl (rv_ev rfl) ?_
      refine hl_less (sx 0 rfl (sx 1 rfl (sx 4 rfl (sx 5 rfl (sx 7 rfl (sx 9 rfl (sx 10 rfl (sx 11 rfl (sx 12 rfl (sx 19 rfl (sx 20 rfl (sx 21 rfl (sx 22 rfl (sx 25 rfl (sx 26 rfl (sx 27 rfl (sx 28 rfl (sx 38 rfl (sx 50 rfl (sub_nil _)))))))))))))))))))) (.refl _) ?_
      refine hl_nil ?_
      refine hq_then ?_
      refine hc_true rfl ?_
      refine hc_skip ?_
      refine hq_then ?_
      refine hc_block ?_
      refine hc_region ?_
      refine hl_v rfl rfl rfl (rv_ev rfl) ?_
      refine hl_v rfl rfl rfl (rv_add rfl rfl rfl (by constructor <;> omega)) ?_
      refine hl_v rfl rfl rfl (rv_ev rfl) ?_
      refine hl_less (sx 0 rfl (sx 1 rfl (sx 4 rfl (sx 5 rfl (sx 7 rfl (sx 9 rfl (sx 10 rfl (sx 11 rfl (sx 12 rfl (sx 19 rfl (sx 20 rfl (sx 21 rfl (sx 22 rfl (sx 25 rfl (sx 26 rfl (sx 27 rfl (sx 28 rfl (sx 38 rfl (sx 50 rfl (sub_nil _)))))))))))))))))))) (.refl _) ?_
      refine hl_nil ?_
      refine hq_block_normal ?_
      exact hq_round1 (k + 1) (by omega) (by omega) (sx 0 rfl (sx 1 rfl (sx 4 rfl (sx 5 rfl (sx 7 rfl (sx 9 rfl (sx 10 rfl (sx 11 rfl (sx 12 rfl (sx 19 rfl (sx 20 rfl (sx 21 rfl (sx 22 rfl (sx 25 rfl (sx 26 rfl (sx 27 rfl (sx 28 rfl (sx 38 rfl (sub_nil _))))))))))))))))))) ((.cons_cons _ (.cons_cons _ (.cons_cons _ .slnil))))
     ·
      refine hl_v rfl rfl rfl (rv_ev rfl) ?_
      refine hl_less (sx 0 rfl (sx 1 rfl (sx 4 rfl (sx 5 rfl (sx 7 rfl (sx 9 rfl (sx 10 rfl (sx 11 rfl (sx 12 rfl (sx 19 rfl (sx 20 rfl (sx 21 rfl (sx 22 rfl (sx 25 rfl (sx 26 rfl (sx 27 rfl (sx 28 rfl (sx 38 rfl (sx 50 rfl (sub_nil _)))))))))))))))))))) (.refl _) ?_
      refine hl_nil ?_
      refine hq_then ?_
      refine hc_false rfl ?_
      refine hc_exit ?_
      refine hq_then_exit ?_
      refine hq_then_exit ?_
      refine hq_block_exit ?_
      refine hq_then ?_
      refine hc_seq ?_
      refine hc_seq ?_
      refine hc_region ?_
      refine hl_v rfl rfl rfl (rv_ev rfl) ?_
      refine hl_v rfl rfl rfl (rv_ev rfl) ?_
      refine hl_v rfl rfl rfl (rv_len rfl Try.underlying40 rfl (rd_row 2 rfl)) ?_
      refine hl_lss rfl rfl rfl rfl rfl rfl (fun h13 => ?_) (fun h13 => ?_)
      ·
       refine hl_v rfl rfl rfl (rv_ev rfl) ?_
       refine hl_v rfl rfl rfl (rv_ev rfl) ?_
       refine hl_v rfl rfl rfl (rv_ev rfl) ?_
       refine hl_v rfl rfl rfl (rv_index (s := 1) rfl Try.underlying40 (by kernel_rfl) rfl rfl (rd_row 2 rfl) (by omega) (by first | omega | (simp only [List.length_set]; omega))) ?_
       refine hl_v rfl rfl rfl (rv_loadEl (u := (rs2.getD k crow0).v) rfl (by kernel_rfl) rfl (rd_row 2 rfl) (flat_one crowC (fun r => r.v) (fun _ => rfl) rs2 crow0 (show k < _ by first | omega | (simp only [List.length_set]; omega)))) ?_
       refine hl_v rfl rfl rfl (rv_ev rfl) ?_
       have h4k := hcd2.len4 (getD_mem' (es := rs2) (i := k) (d := crow0) (by omega))
       refine hl_callV rfl rfl rfl (rq_call (by kernel_rfl) rfl (fun w hm => ret_ans (sameIntsI_ans ((rs2.getD k crow0).xs) us _ _ w ((fun w hm => (hps2 w (hm.holds _ (mem_at (i := 1) rfl))).at (k := k) (by omega)) w hm) ((rd_row 0 rfl) w hm) (by omega)))) ?_
       refine hl_bool (fun h14 => ?_) (fun h14 => ?_)
       ·
        refine hl_v rfl rfl rfl (rv_ev rfl) ?_
        refine hl_less (sx 0 rfl (sx 1 rfl (sx 4 rfl (sx 5 rfl (sx 7 rfl (sx 9 rfl (sx 10 rfl (sx 11 rfl (sx 12 rfl (sx 19 rfl (sx 20 rfl (sx 21 rfl (sx 22 rfl (sx 25 rfl (sx 26 rfl (sx 27 rfl (sx 28 rfl (sx 38 rfl (sx 50 rfl (sx 64 rfl (sub_nil _))))))))))))))))))))) (.refl _) ?_
        refine hl_nil ?_
        refine hq_then ?_
        refine hc_true rfl ?_
        refine hc_exit ?_
        refine hq_then_exit ?_
        refine hq_block_exit ?_
        refine hq_then ?_
        refine hc_region ?_
        refine hl_v rfl rfl rfl (rv_add rfl rfl rfl (by constructor <;> omega)) ?_
        refine hl_v rfl rfl rfl (rv_ev rfl) ?_
        refine hl_less (sx 0 rfl (sx 1 rfl (sx 4 rfl (sx 5 rfl (sx 7 rfl (sx 9 rfl (sx 10 rfl (sx 11 rfl (sx 12 rfl (sx 19 rfl (sx 20 rfl (sx 21 rfl (sx 22 rfl (sx 25 rfl (sx 26 rfl (sx 27 rfl (sx 28 rfl (sx 38 rfl (sx 50 rfl (sx 64 rfl (sub_nil _))))))))))))))))))))) (.refl _) ?_
        refine hl_nil ?_
        exact hq_round4 (j + 1) rs2 av2 ps2 ⟨by omega, hcd2.skip, hps2⟩ (by omega) (sx 0 rfl (sx 1 rfl (sx 4 rfl (sx 5 rfl (sx 7 rfl (sx 19 rfl (sx 20 rfl (sx 21 rfl (sx 22 rfl (sx 25 rfl (sx 26 rfl (sx 27 rfl (sub_nil _))))))))))))) ((.cons _ (.cons_cons _ (.cons_cons _ .slnil))))
       ·
        refine hl_v rfl rfl rfl (rv_ev rfl) ?_
        refine hl_less (sx 0 rfl (sx 1 rfl (sx 4 rfl (sx 5 rfl (sx 7 rfl (sx 9 rfl (sx 10 rfl (sx 11 rfl (sx 12 rfl (sx 19 rfl (sx 20 rfl (sx 21 rfl (sx 22 rfl (sx 25 rfl (sx 26 rfl (sx 27 rfl (sx 28 rfl (sx 38 rfl (sx 50 rfl (sx 64 rfl (sub_nil _))))))))))))))))))))) (.refl _) ?_
        refine hl_nil ?_
        refine hq_then ?_
        refine hc_false rfl ?_
        refine hc_skip ?_
        refine hq_then ?_
        refine hc_seq ?_
        refine hc_region ?_
        refine hl_v rfl rfl rfl (rv_ev rfl) ?_
        refine hl_row rfl rfl rfl (rq_buildSlice (z := .slice none 0 0) (s := 1) (cs := [.slice none 0 0]) rfl Try.underlying40 (by kernel_rfl) (by decide) rfl (by kernel_rfl) rfl) ?_
        intro g15
        refine hl_append (i := 3) (z := .slice none 0 0) (bytes := 24) (n' := (rs2 ++ [(CRow.mk (.slice none 0 0) [])]).length) (xs' := ((rs2 ++ [(CRow.mk (.slice none 0 0) [])]).flatMap crowC)) (L := fun v16 => [rowE 26 1 (.slice (some ⟨g15, 0, none⟩) 1 1) 1 ([.slice none 0 0]), rowE 3 1 mv us.length (us.map (Value.int .i64)), bigE ps2, rowE 26 1 v16 ((rs2 ++ [(CRow.mk (.slice none 0 0) [])]).length) ((rs2 ++ [(CRow.mk (.slice none 0 0) [])]).flatMap crowC)]) rfl rfl rfl rfl Try.underlying40 (by kernel_rfl) (by kernel_rfl) rfl rfl rfl (rd_row 0 rfl) (by simp [Value.oneCell']) (by first | omega | (simp only [List.length_append, List.length_cons, List.length_nil]; omega)) (len_app rs2 [(CRow.mk (.slice none 0 0) [])]) (flat_app1 crowC rs2 (CRow.mk (.slice none 0 0) []) _ rfl) (fun _ => rfl) ?_
        intro v16
        refine hl_v rfl rfl rfl (rv_ev rfl) ?_
        refine hl_less (sx 0 rfl (sx 1 rfl (sx 4 rfl (sx 5 rfl (sx 7 rfl (sx 9 rfl (sx 10 rfl (sx 11 rfl (sx 12 rfl (sx 19 rfl (sx 20 rfl (sx 21 rfl (sx 22 rfl (sx 25 rfl (sx 26 rfl (sx 27 rfl (sx 28 rfl (sx 38 rfl (sx 50 rfl (sx 64 rfl (sub_nil _))))))))))))))))))))) (.refl _) ?_
        refine hl_nil ?_
        refine hq_then ?_
        refine hc_seq ?_
        have hln : (rs2 ++ [CRow.mk (.slice none 0 0) []]).length = rs2.length + 1 := by simp
        refine hc_draw (by kernel_rfl) 7 [0, 1, 2, 3, 4, 5, 6] (List.take 7 _) (List.drop 7 _) [[], [], [1], [0, 2], [], [], [4, 5]] [68, 69, 70, 71, 72, 73, 74] (fun i_ vs_ v_ p_ => match i_ with | 0 => v_ = v16 ∧ p_ = [] | 1 => v_ = .int .i64 (k : Int) ∧ p_ = [] | 2 => v_ = .int .i64 ((k : Int) + 1) ∧ p_ = [] | 3 => v_ = slV v16 ((k : Int) + 1).toNat ((rs2 ++ [(CRow.mk (.slice none 0 0) [])]).length) 1 ∧ p_ = [] | 4 => v_ = v16 ∧ p_ = [] | 5 => v_ = .int .i64 (k : Int) ∧ p_ = [] | 6 => v_ = slV v16 ((k : Int)).toNat ((rs2 ++ [(CRow.mk (.slice none 0 0) [])]).length) 1 ∧ p_ = [] | _ => True) (List.take_append_drop 7 _).symm (by kernel_rfl) (by kernel_rfl) rfl rfl ?_ ?_
        ·
         refine ⟨?_, ?_, ?_, ?_, ?_, ?_, ?_, trivial⟩
         ·
          intro vf pf hR
          refine Or.inl ⟨rfl, ?_⟩
          refine rq_less (sx 5 rfl (sub_nil _)) (List.sublist_append_right _ _) ?_
          exact rq_v (rv_ev rfl)
         ·
          intro vf pf hR
          refine Or.inl ⟨rfl, ?_⟩
          refine rq_less (sx 12 rfl (sub_nil _)) (List.sublist_append_right _ _) ?_
          exact rq_v (rv_ev rfl)
         ·
          intro vf pf hR
          have e1 : (vf 1) = .int .i64 (k : Int) ∧ (pf 1) = [] := hR 1 (by decide)
          refine Or.inl ⟨rfl, ?_⟩
          refine rq_less (sx 69 (congrArg some e1.1) (sub_nil _)) (List.sublist_append_right _ _) ?_
          exact rq_v (rv_add rfl rfl rfl (by constructor <;> omega))
         ·
          intro vf pf hR
          have e0 : (vf 0) = v16 ∧ (pf 0) = [] := hR 0 (by decide)
          have e2 : (vf 2) = .int .i64 ((k : Int) + 1) ∧ (pf 2) = [] := hR 2 (by decide)
          refine Or.inl ⟨rfl, ?_⟩
          refine rq_less (sx 68 (congrArg some e0.1) (sx 70 (congrArg some e2.1) (sub_nil _))) (List.sublist_append_right _ _) ?_
          exact rq_v (rv_slL rfl Try.underlying40 (by kernel_rfl) rfl rfl (rd_row 3 rfl) (by omega) (by omega))
         ·
          intro vf pf hR
          refine Or.inl ⟨rfl, ?_⟩
          refine rq_less (sx 5 rfl (sub_nil _)) (List.sublist_append_right _ _) ?_
          exact rq_v (rv_ev rfl)
         ·
          intro vf pf hR
          refine Or.inl ⟨rfl, ?_⟩
          refine rq_less (sx 12 rfl (sub_nil _)) (List.sublist_append_right _ _) ?_
          exact rq_v (rv_ev rfl)
         ·
          intro vf pf hR
          have e4 : (vf 4) = v16 ∧ (pf 4) = [] := hR 4 (by decide)
          have e5 : (vf 5) = .int .i64 (k : Int) ∧ (pf 5) = [] := hR 5 (by decide)
          refine Or.inl ⟨rfl, ?_⟩
          refine rq_less (sx 72 (congrArg some e4.1) (sx 73 (congrArg some e5.1) (sub_nil _))) (List.sublist_append_right _ _) ?_
          exact rq_v (rv_slL rfl Try.underlying40 (by kernel_rfl) rfl rfl (rd_row 3 rfl) (by omega) (by omega))
        ·
         intro vf pf hR
         have e3 : (vf 3) = slV v16 ((k : Int) + 1).toNat ((rs2 ++ [(CRow.mk (.slice none 0 0) [])]).length) 1 ∧ (pf 3) = [] := hR 3 (by decide)
         have e6 : (vf 6) = slV v16 ((k : Int)).toNat ((rs2 ++ [(CRow.mk (.slice none 0 0) [])]).length) 1 ∧ (pf 6) = [] := hR 6 (by decide)
         refine hl_less (l' := [rowE 26 1 (.slice (some ⟨g15, 0, none⟩) 1 1) 1 ([.slice none 0 0]), rowE 3 1 mv us.length (us.map (Value.int .i64)), bigE ps2, rowE 26 1 v16 ((rs2 ++ [(CRow.mk (.slice none 0 0) [])]).length) ((rs2 ++ [(CRow.mk (.slice none 0 0) [])]).flatMap crowC)]) (sx 0 rfl (sx 1 rfl (sx 4 rfl (sx 5 rfl (sx 7 rfl (sx 9 rfl (sx 10 rfl (sx 11 rfl (sx 12 rfl (sx 19 rfl (sx 20 rfl (sx 21 rfl (sx 22 rfl (sx 25 rfl (sx 26 rfl (sx 27 rfl (sx 28 rfl (sx 38 rfl (sx 50 rfl (sx 64 rfl (sx 71 (congrArg some e3.1) (sx 74 (congrArg some e6.1) (sub_nil _))))))))))))))))))))))) (List.sublist_append_right _ _) ?_
         simp only [List.drop_succ_cons, List.drop_zero]
         refine hl_know (p := ∀ u ∈ (rs2 ++ [CRow.mk (.slice none 0 0) []]).flatMap crowC, u.oneCell' = true) (fun w hm => flat_onesC (fun r hr => (List.mem_append.1 hr).elim (fun h => (hps2 w (hm.holds _ (mem_at (i := 2) rfl)) r h).one') (fun h => by rw [List.mem_singleton] at h; subst h; rfl))) (fun hc1 => ?_)
         have hl18 : ((rs2 ++ [(CRow.mk (.slice none 0 0) [])]).take ((k : Int) + 1).toNat ++ ((rs2 ++ [(CRow.mk (.slice none 0 0) [])]).drop ((k : Int)).toNat).take ((rs2 ++ [(CRow.mk (.slice none 0 0) [])]).length - ((k : Int) + 1).toNat) ++ (rs2 ++ [(CRow.mk (.slice none 0 0) [])]).drop (((k : Int) + 1).toNat + (((rs2 ++ [(CRow.mk (.slice none 0 0) [])]).drop ((k : Int)).toNat).take ((rs2 ++ [(CRow.mk (.slice none 0 0) [])]).length - ((k : Int) + 1).toNat)).length)).length = (rs2 ++ [(CRow.mk (.slice none 0 0) [])]).length := by simp only [List.length_append, List.length_take, List.length_drop, List.length_cons, List.length_nil]; omega
         refine hl_copyOwn (i := 3) (n := (rs2 ++ [(CRow.mk (.slice none 0 0) [])]).length) (lo := ((k : Int) + 1).toNat) (xs' := (((rs2 ++ [(CRow.mk (.slice none 0 0) [])]).take ((k : Int) + 1).toNat ++ ((rs2 ++ [(CRow.mk (.slice none 0 0) [])]).drop ((k : Int)).toNat).take ((rs2 ++ [(CRow.mk (.slice none 0 0) [])]).length - ((k : Int) + 1).toNat) ++ (rs2 ++ [(CRow.mk (.slice none 0 0) [])]).drop (((k : Int) + 1).toNat + (((rs2 ++ [(CRow.mk (.slice none 0 0) [])]).drop ((k : Int)).toNat).take ((rs2 ++ [(CRow.mk (.slice none 0 0) [])]).length - ((k : Int) + 1).toNat)).length)).flatMap crowC)) (l' := [rowE 26 1 (.slice (some ⟨g15, 0, none⟩) 1 1) 1 ([.slice none 0 0]), rowE 3 1 mv us.length (us.map (Value.int .i64)), bigE ps2, rowE 26 1 v16 ((rs2 ++ [(CRow.mk (.slice none 0 0) [])]).length) (((rs2 ++ [(CRow.mk (.slice none 0 0) [])]).take ((k : Int) + 1).toNat ++ ((rs2 ++ [(CRow.mk (.slice none 0 0) [])]).drop ((k : Int)).toNat).take ((rs2 ++ [(CRow.mk (.slice none 0 0) [])]).length - ((k : Int) + 1).toNat) ++ (rs2 ++ [(CRow.mk (.slice none 0 0) [])]).drop (((k : Int) + 1).toNat + (((rs2 ++ [(CRow.mk (.slice none 0 0) [])]).drop ((k : Int)).toNat).take ((rs2 ++ [(CRow.mk (.slice none 0 0) [])]).length - ((k : Int) + 1).toNat)).length)).flatMap crowC)]) rfl rfl rfl rfl Try.underlying40 (by kernel_rfl) rfl rfl rfl (by omega) (rd_slLs (f := crowC) (fun _ => rfl) (rd_row 3 rfl) (by omega)) (fun q hq => hc1 q (by obtain ⟨r, hr, h9⟩ := List.mem_flatMap.1 hq; exact List.mem_flatMap.2 ⟨r, List.mem_of_mem_drop hr, h9⟩)) (flat_splice crowC (fun r => r.v) (fun _ => rfl) _ _ _ _) rfl (fun c17 => ?_)
         refine hl_eqL (l' := [rowE 26 1 (.slice (some ⟨g15, 0, none⟩) 1 1) 1 ([.slice none 0 0]), rowE 3 1 mv us.length (us.map (Value.int .i64)), bigE ps2, rowE 26 1 v16 (((rs2 ++ [(CRow.mk (.slice none 0 0) [])]).take ((k : Int) + 1).toNat ++ ((rs2 ++ [(CRow.mk (.slice none 0 0) [])]).drop ((k : Int)).toNat).take ((rs2 ++ [(CRow.mk (.slice none 0 0) [])]).length - ((k : Int) + 1).toNat) ++ (rs2 ++ [(CRow.mk (.slice none 0 0) [])]).drop (((k : Int) + 1).toNat + (((rs2 ++ [(CRow.mk (.slice none 0 0) [])]).drop ((k : Int)).toNat).take ((rs2 ++ [(CRow.mk (.slice none 0 0) [])]).length - ((k : Int) + 1).toNat)).length)).length) (((rs2 ++ [(CRow.mk (.slice none 0 0) [])]).take ((k : Int) + 1).toNat ++ ((rs2 ++ [(CRow.mk (.slice none 0 0) [])]).drop ((k : Int)).toNat).take ((rs2 ++ [(CRow.mk (.slice none 0 0) [])]).length - ((k : Int) + 1).toNat) ++ (rs2 ++ [(CRow.mk (.slice none 0 0) [])]).drop (((k : Int) + 1).toNat + (((rs2 ++ [(CRow.mk (.slice none 0 0) [])]).drop ((k : Int)).toNat).take ((rs2 ++ [(CRow.mk (.slice none 0 0) [])]).length - ((k : Int) + 1).toNat)).length)).flatMap crowC)]) (by rw [hl18]) ?_
         refine hl_less (sx 0 rfl (sx 1 rfl (sx 4 rfl (sx 5 rfl (sx 7 rfl (sx 9 rfl (sx 10 rfl (sx 11 rfl (sx 12 rfl (sx 19 rfl (sx 20 rfl (sx 21 rfl (sx 22 rfl (sx 25 rfl (sx 26 rfl (sx 27 rfl (sx 28 rfl (sx 38 rfl (sx 50 rfl (sx 64 rfl (sub_nil _))))))))))))))))))))) (.refl _) ?_
         refine hl_nil ?_
         refine hq_then ?_
         refine hc_region ?_
         refine hl_v rfl rfl rfl (rv_ev rfl) ?_
         refine hl_v rfl rfl rfl (rv_ev rfl) ?_
         refine hl_v rfl rfl rfl (rv_ev rfl) ?_
         refine hl_v rfl rfl rfl (rv_index (s := 1) rfl Try.underlying40 (by kernel_rfl) rfl rfl (rd_row 3 rfl) (by omega) (by first | omega | (simp only [List.length_set]; omega))) ?_
         refine hl_one (i := 1) rfl (fun ho19 => ?_)
         refine hl_storeEl (i := 3) (n' := (((rs2 ++ [(CRow.mk (.slice none 0 0) [])]).take ((k : Int) + 1).toNat ++ ((rs2 ++ [(CRow.mk (.slice none 0 0) [])]).drop ((k : Int)).toNat).take ((rs2 ++ [(CRow.mk (.slice none 0 0) [])]).length - ((k : Int) + 1).toNat) ++ (rs2 ++ [(CRow.mk (.slice none 0 0) [])]).drop (((k : Int) + 1).toNat + (((rs2 ++ [(CRow.mk (.slice none 0 0) [])]).drop ((k : Int)).toNat).take ((rs2 ++ [(CRow.mk (.slice none 0 0) [])]).length - ((k : Int) + 1).toNat)).length)).set k (CRow.mk mv us)).length) (xs' := ((((rs2 ++ [(CRow.mk (.slice none 0 0) [])]).take ((k : Int) + 1).toNat ++ ((rs2 ++ [(CRow.mk (.slice none 0 0) [])]).drop ((k : Int)).toNat).take ((rs2 ++ [(CRow.mk (.slice none 0 0) [])]).length - ((k : Int) + 1).toNat) ++ (rs2 ++ [(CRow.mk (.slice none 0 0) [])]).drop (((k : Int) + 1).toNat + (((rs2 ++ [(CRow.mk (.slice none 0 0) [])]).drop ((k : Int)).toNat).take ((rs2 ++ [(CRow.mk (.slice none 0 0) [])]).length - ((k : Int) + 1).toNat)).length)).set k (CRow.mk mv us)).flatMap crowC)) (l' := [rowE 26 1 (.slice (some ⟨g15, 0, none⟩) 1 1) 1 ([.slice none 0 0]), rowE 3 1 mv us.length (us.map (Value.int .i64)), bigE ps2, rowE 26 1 v16 ((((rs2 ++ [(CRow.mk (.slice none 0 0) [])]).take ((k : Int) + 1).toNat ++ ((rs2 ++ [(CRow.mk (.slice none 0 0) [])]).drop ((k : Int)).toNat).take ((rs2 ++ [(CRow.mk (.slice none 0 0) [])]).length - ((k : Int) + 1).toNat) ++ (rs2 ++ [(CRow.mk (.slice none 0 0) [])]).drop (((k : Int) + 1).toNat + (((rs2 ++ [(CRow.mk (.slice none 0 0) [])]).drop ((k : Int)).toNat).take ((rs2 ++ [(CRow.mk (.slice none 0 0) [])]).length - ((k : Int) + 1).toNat)).length)).set k (CRow.mk mv us)).length) ((((rs2 ++ [(CRow.mk (.slice none 0 0) [])]).take ((k : Int) + 1).toNat ++ ((rs2 ++ [(CRow.mk (.slice none 0 0) [])]).drop ((k : Int)).toNat).take ((rs2 ++ [(CRow.mk (.slice none 0 0) [])]).length - ((k : Int) + 1).toNat) ++ (rs2 ++ [(CRow.mk (.slice none 0 0) [])]).drop (((k : Int) + 1).toNat + (((rs2 ++ [(CRow.mk (.slice none 0 0) [])]).drop ((k : Int)).toNat).take ((rs2 ++ [(CRow.mk (.slice none 0 0) [])]).length - ((k : Int) + 1).toNat)).length)).set k (CRow.mk mv us)).flatMap crowC)]) rfl rfl rfl (by kernel_rfl) rfl rfl ho19 rfl (by first | omega | (simp only [List.length_set]; omega)) List.length_set.symm (flat_set1 crowC (fun r => r.v) (fun _ => rfl) _ (CRow.mk mv us) rfl) rfl ?_
         refine hl_less (sx 0 rfl (sx 1 rfl (sx 4 rfl (sx 5 rfl (sx 7 rfl (sx 9 rfl (sx 10 rfl (sx 11 rfl (sx 12 rfl (sx 19 rfl (sx 20 rfl (sx 21 rfl (sx 22 rfl (sx 25 rfl (sx 26 rfl (sx 27 rfl (sx 28 rfl (sx 38 rfl (sx 50 rfl (sx 64 rfl (sub_nil _))))))))))))))))))))) (.refl _) ?_
         refine hl_nil ?_
         refine hq_block_normal ?_
         refine hq_then ?_
         refine hc_region ?_
         refine hl_v rfl rfl rfl (rv_add rfl rfl rfl (by constructor <;> omega)) ?_
         refine hl_v rfl rfl rfl (rv_ev rfl) ?_
         refine hl_less (sx 0 rfl (sx 1 rfl (sx 4 rfl (sx 5 rfl (sx 7 rfl (sx 9 rfl (sx 10 rfl (sx 11 rfl (sx 12 rfl (sx 19 rfl (sx 20 rfl (sx 21 rfl (sx 22 rfl (sx 25 rfl (sx 26 rfl (sx 27 rfl (sx 28 rfl (sx 38 rfl (sx 50 rfl (sx 64 rfl (sub_nil _))))))))))))))))))))) (.refl _) ?_
         refine hl_nil ?_
         refine hq_conv [bigE ps2, rowE 3 1 mv us.length (us.map (Value.int .i64)), rowE 26 1 (.slice (some ⟨g15, 0, none⟩) 1 1) 1 ([.slice none 0 0]), rowE 26 1 v16 ((((rs2 ++ [(CRow.mk (.slice none 0 0) [])]).take ((k : Int) + 1).toNat ++ ((rs2 ++ [(CRow.mk (.slice none 0 0) [])]).drop ((k : Int)).toNat).take ((rs2 ++ [(CRow.mk (.slice none 0 0) [])]).length - ((k : Int) + 1).toNat) ++ (rs2 ++ [(CRow.mk (.slice none 0 0) [])]).drop (((k : Int) + 1).toNat + (((rs2 ++ [(CRow.mk (.slice none 0 0) [])]).drop ((k : Int)).toNat).take ((rs2 ++ [(CRow.mk (.slice none 0 0) [])]).length - ((k : Int) + 1).toNat)).length)).set k (CRow.mk mv us)).length) ((((rs2 ++ [(CRow.mk (.slice none 0 0) [])]).take ((k : Int) + 1).toNat ++ ((rs2 ++ [(CRow.mk (.slice none 0 0) [])]).drop ((k : Int)).toNat).take ((rs2 ++ [(CRow.mk (.slice none 0 0) [])]).length - ((k : Int) + 1).toNat) ++ (rs2 ++ [(CRow.mk (.slice none 0 0) [])]).drop (((k : Int) + 1).toNat + (((rs2 ++ [(CRow.mk (.slice none 0 0) [])]).drop ((k : Int)).toNat).take ((rs2 ++ [(CRow.mk (.slice none 0 0) [])]).length - ((k : Int) + 1).toNat)).length)).set k (CRow.mk mv us)).flatMap crowC)] (conv_pick (src := [rowE 26 1 (.slice (some ⟨g15, 0, none⟩) 1 1) 1 ([.slice none 0 0]), rowE 3 1 mv us.length (us.map (Value.int .i64)), bigE ps2, rowE 26 1 v16 ((((rs2 ++ [(CRow.mk (.slice none 0 0) [])]).take ((k : Int) + 1).toNat ++ ((rs2 ++ [(CRow.mk (.slice none 0 0) [])]).drop ((k : Int)).toNat).take ((rs2 ++ [(CRow.mk (.slice none 0 0) [])]).length - ((k : Int) + 1).toNat) ++ (rs2 ++ [(CRow.mk (.slice none 0 0) [])]).drop (((k : Int) + 1).toNat + (((rs2 ++ [(CRow.mk (.slice none 0 0) [])]).drop ((k : Int)).toNat).take ((rs2 ++ [(CRow.mk (.slice none 0 0) [])]).length - ((k : Int) + 1).toNat)).length)).set k (CRow.mk mv us)).length) ((((rs2 ++ [(CRow.mk (.slice none 0 0) [])]).take ((k : Int) + 1).toNat ++ ((rs2 ++ [(CRow.mk (.slice none 0 0) [])]).drop ((k : Int)).toNat).take ((rs2 ++ [(CRow.mk (.slice none 0 0) [])]).length - ((k : Int) + 1).toNat) ++ (rs2 ++ [(CRow.mk (.slice none 0 0) [])]).drop (((k : Int) + 1).toNat + (((rs2 ++ [(CRow.mk (.slice none 0 0) [])]).drop ((k : Int)).toNat).take ((rs2 ++ [(CRow.mk (.slice none 0 0) [])]).length - ((k : Int) + 1).toNat)).length)).set k (CRow.mk mv us)).flatMap crowC)]) (dst := [bigE ps2, rowE 3 1 mv us.length (us.map (Value.int .i64)), rowE 26 1 (.slice (some ⟨g15, 0, none⟩) 1 1) 1 ([.slice none 0 0]), rowE 26 1 v16 ((((rs2 ++ [(CRow.mk (.slice none 0 0) [])]).take ((k : Int) + 1).toNat ++ ((rs2 ++ [(CRow.mk (.slice none 0 0) [])]).drop ((k : Int)).toNat).take ((rs2 ++ [(CRow.mk (.slice none 0 0) [])]).length - ((k : Int) + 1).toNat) ++ (rs2 ++ [(CRow.mk (.slice none 0 0) [])]).drop (((k : Int) + 1).toNat + (((rs2 ++ [(CRow.mk (.slice none 0 0) [])]).drop ((k : Int)).toNat).take ((rs2 ++ [(CRow.mk (.slice none 0 0) [])]).length - ((k : Int) + 1).toNat)).length)).set k (CRow.mk mv us)).length) ((((rs2 ++ [(CRow.mk (.slice none 0 0) [])]).take ((k : Int) + 1).toNat ++ ((rs2 ++ [(CRow.mk (.slice none 0 0) [])]).drop ((k : Int)).toNat).take ((rs2 ++ [(CRow.mk (.slice none 0 0) [])]).length - ((k : Int) + 1).toNat) ++ (rs2 ++ [(CRow.mk (.slice none 0 0) [])]).drop (((k : Int) + 1).toNat + (((rs2 ++ [(CRow.mk (.slice none 0 0) [])]).drop ((k : Int)).toNat).take ((rs2 ++ [(CRow.mk (.slice none 0 0) [])]).length - ((k : Int) + 1).toNat)).length)).set k (CRow.mk mv us)).flatMap crowC)]) (l := []) [2, 1, 0, 3] (by decide) rfl) ?_
         refine hq_conv [bigE [bigE ps2, rowE 3 1 mv us.length (us.map (Value.int .i64))], rowE 26 1 (.slice (some ⟨g15, 0, none⟩) 1 1) 1 ([.slice none 0 0]), rowE 26 1 v16 ((((rs2 ++ [(CRow.mk (.slice none 0 0) [])]).take ((k : Int) + 1).toNat ++ ((rs2 ++ [(CRow.mk (.slice none 0 0) [])]).drop ((k : Int)).toNat).take ((rs2 ++ [(CRow.mk (.slice none 0 0) [])]).length - ((k : Int) + 1).toNat) ++ (rs2 ++ [(CRow.mk (.slice none 0 0) [])]).drop (((k : Int) + 1).toNat + (((rs2 ++ [(CRow.mk (.slice none 0 0) [])]).drop ((k : Int)).toNat).take ((rs2 ++ [(CRow.mk (.slice none 0 0) [])]).length - ((k : Int) + 1).toNat)).length)).set k (CRow.mk mv us)).length) ((((rs2 ++ [(CRow.mk (.slice none 0 0) [])]).take ((k : Int) + 1).toNat ++ ((rs2 ++ [(CRow.mk (.slice none 0 0) [])]).drop ((k : Int)).toNat).take ((rs2 ++ [(CRow.mk (.slice none 0 0) [])]).length - ((k : Int) + 1).toNat) ++ (rs2 ++ [(CRow.mk (.slice none 0 0) [])]).drop (((k : Int) + 1).toNat + (((rs2 ++ [(CRow.mk (.slice none 0 0) [])]).drop ((k : Int)).toNat).take ((rs2 ++ [(CRow.mk (.slice none 0 0) [])]).length - ((k : Int) + 1).toNat)).length)).set k (CRow.mk mv us)).flatMap crowC)] (conv_bigN [bigE ps2, rowE 3 1 mv us.length (us.map (Value.int .i64))] _ rfl) ?_
         exact hq_round4 (j + 1) (((rs2 ++ [(CRow.mk (.slice none 0 0) [])]).take ((k : Int) + 1).toNat ++ ((rs2 ++ [(CRow.mk (.slice none 0 0) [])]).drop ((k : Int)).toNat).take ((rs2 ++ [(CRow.mk (.slice none 0 0) [])]).length - ((k : Int) + 1).toNat) ++ (rs2 ++ [(CRow.mk (.slice none 0 0) [])]).drop (((k : Int) + 1).toNat + (((rs2 ++ [(CRow.mk (.slice none 0 0) [])]).drop ((k : Int)).toNat).take ((rs2 ++ [(CRow.mk (.slice none 0 0) [])]).length - ((k : Int) + 1).toNat)).length)).set k (CRow.mk mv us)) v16 [bigE ps2, rowE 3 1 mv us.length (us.map (Value.int .i64))] ⟨by omega, hcd2.put (u := CRow.mk mv us) (by omega) (by omega) (hmj (by assumption)) (shift_lenT hk) (fun q hq => shift_memT hk hq), fun w hw => RdsAll.cons (u := CRow.mk mv us) (hps2 w (big_part hw List.mem_cons_self)) (rdsW_own (big_part hw (List.mem_cons_of_mem _ List.mem_cons_self))) (fun q hq => shift_memT hk hq)⟩ (by omega) (sx 0 rfl (sx 1 rfl (sx 4 rfl (sx 5 rfl (sx 7 rfl (sx 19 rfl (sx 20 rfl (sx 21 rfl (sx 22 rfl (sx 25 rfl (sx 26 rfl (sx 27 rfl (sub_nil _))))))))))))) ((.cons_cons _ (.cons _ (.cons_cons _ .slnil))))
      ·
       refine hl_v rfl rfl rfl (rv_ev rfl) ?_
       refine hl_skip rfl rfl rfl ?_
       refine hl_skip rfl rfl rfl ?_
       refine hl_skip rfl rfl rfl ?_
       refine hl_skip rfl rfl rfl ?_
       refine hl_skip rfl rfl rfl ?_
       refine hl_skip rfl rfl rfl ?_
       refine hl_v rfl rfl rfl (rv_ev rfl) ?_
       refine hl_less (sx 0 rfl (sx 1 rfl (sx 4 rfl (sx 5 rfl (sx 7 rfl (sx 9 rfl (sx 10 rfl (sx 11 rfl (sx 12 rfl (sx 19 rfl (sx 20 rfl (sx 21 rfl (sx 22 rfl (sx 25 rfl (sx 26 rfl (sx 27 rfl (sx 28 rfl (sx 38 rfl (sx 50 rfl (sx 64 rfl (sub_nil _))))))))))))))))))))) (.refl _) ?_
       refine hl_nil ?_
       refine hq_then ?_
       refine hc_false rfl ?_
       refine hc_skip ?_
       refine hq_then ?_
       refine hc_seq ?_
       refine hc_region ?_
       refine hl_v rfl rfl rfl (rv_ev rfl) ?_
       refine hl_row rfl rfl rfl (rq_buildSlice (z := .slice none 0 0) (s := 1) (cs := [.slice none 0 0]) rfl Try.underlying40 (by kernel_rfl) (by decide) rfl (by kernel_rfl) rfl) ?_
       intro g20
       refine hl_append (i := 3) (z := .slice none 0 0) (bytes := 24) (n' := (rs2 ++ [(CRow.mk (.slice none 0 0) [])]).length) (xs' := ((rs2 ++ [(CRow.mk (.slice none 0 0) [])]).flatMap crowC)) (L := fun v21 => [rowE 26 1 (.slice (some ⟨g20, 0, none⟩) 1 1) 1 ([.slice none 0 0]), rowE 3 1 mv us.length (us.map (Value.int .i64)), bigE ps2, rowE 26 1 v21 ((rs2 ++ [(CRow.mk (.slice none 0 0) [])]).length) ((rs2 ++ [(CRow.mk (.slice none 0 0) [])]).flatMap crowC)]) rfl rfl rfl rfl Try.underlying40 (by kernel_rfl) (by kernel_rfl) rfl rfl rfl (rd_row 0 rfl) (by simp [Value.oneCell']) (by first | omega | (simp only [List.length_append, List.length_cons, List.length_nil]; omega)) (len_app rs2 [(CRow.mk (.slice none 0 0) [])]) (flat_app1 crowC rs2 (CRow.mk (.slice none 0 0) []) _ rfl) (fun _ => rfl) ?_
       intro v21
       refine hl_v rfl rfl rfl (rv_ev rfl) ?_
       refine hl_less (sx 0 rfl (sx 1 rfl (sx 4 rfl (sx 5 rfl (sx 7 rfl (sx 9 rfl (sx 10 rfl (sx 11 rfl (sx 12 rfl (sx 19 rfl (sx 20 rfl (sx 21 rfl (sx 22 rfl (sx 25 rfl (sx 26 rfl (sx 27 rfl (sx 28 rfl (sx 38 rfl (sx 50 rfl (sx 64 rfl (sub_nil _))))))))))))))))))))) (.refl _) ?_
       refine hl_nil ?_
       refine hq_then ?_
       refine hc_seq ?_
       have hln : (rs2 ++ [CRow.mk (.slice none 0 0) []]).length = rs2.length + 1 := by simp
       refine hc_draw (by kernel_rfl) 7 [0, 1, 2, 3, 4, 5, 6] (List.take 7 _) (List.drop 7 _) [[], [], [1], [0, 2], [], [], [4, 5]] [68, 69, 70, 71, 72, 73, 74] (fun i_ vs_ v_ p_ => match i_ with | 0 => v_ = v21 ∧ p_ = [] | 1 => v_ = .int .i64 (k : Int) ∧ p_ = [] | 2 => v_ = .int .i64 ((k : Int) + 1) ∧ p_ = [] | 3 => v_ = slV v21 ((k : Int) + 1).toNat ((rs2 ++ [(CRow.mk (.slice none 0 0) [])]).length) 1 ∧ p_ = [] | 4 => v_ = v21 ∧ p_ = [] | 5 => v_ = .int .i64 (k : Int) ∧ p_ = [] | 6 => v_ = slV v21 ((k : Int)).toNat ((rs2 ++ [(CRow.mk (.slice none 0 0) [])]).length) 1 ∧ p_ = [] | _ => True) (List.take_append_drop 7 _).symm (by kernel_rfl) (by kernel_rfl) rfl rfl ?_ ?_
       ·
        refine ⟨?_, ?_, ?_, ?_, ?_, ?_, ?_, trivial⟩
        ·
         intro vf pf hR
         refine Or.inl ⟨rfl, ?_⟩
         refine rq_less (sx 5 rfl (sub_nil _)) (List.sublist_append_right _ _) ?_
         exact rq_v (rv_ev rfl)
        ·
         intro vf pf hR
         refine Or.inl ⟨rfl, ?_⟩
         refine rq_less (sx 12 rfl (sub_nil _)) (List.sublist_append_right _ _) ?_
         exact rq_v (rv_ev rfl)
        ·
         intro vf pf hR
         have e1 : (vf 1) = .int .i64 (k : Int) ∧ (pf 1) = [] := hR 1 (by decide)
         refine Or.inl ⟨rfl, ?_⟩
         refine rq_less (sx 69 (congrArg some e1.1) (sub_nil _)) (List.sublist_append_right _ _) ?_
         exact rq_v (rv_add rfl rfl rfl (by constructor <;> omega))
        ·
         intro vf pf hR
         have e0 : (vf 0) = v21 ∧ (pf 0) = [] := hR 0 (by decide)
         have e2 : (vf 2) = .int .i64 ((k : Int) + 1) ∧ (pf 2) = [] := hR 2 (by decide)
         refine Or.inl ⟨rfl, ?_⟩
         refine rq_less (sx 68 (congrArg some e0.1) (sx 70 (congrArg some e2.1) (sub_nil _))) (List.sublist_append_right _ _) ?_
         exact rq_v (rv_slL rfl Try.underlying40 (by kernel_rfl) rfl rfl (rd_row 3 rfl) (by omega) (by omega))
        ·
         intro vf pf hR
         refine Or.inl ⟨rfl, ?_⟩
         refine rq_less (sx 5 rfl (sub_nil _)) (List.sublist_append_right _ _) ?_
         exact rq_v (rv_ev rfl)
        ·
         intro vf pf hR
         refine Or.inl ⟨rfl, ?_⟩
         refine rq_less (sx 12 rfl (sub_nil _)) (List.sublist_append_right _ _) ?_
         exact rq_v (rv_ev rfl)
        ·
         intro vf pf hR
         have e4 : (vf 4) = v21 ∧ (pf 4) = [] := hR 4 (by decide)
         have e5 : (vf 5) = .int .i64 (k : Int) ∧ (pf 5) = [] := hR 5 (by decide)
         refine Or.inl ⟨rfl, ?_⟩
         refine rq_less (sx 72 (congrArg some e4.1) (sx 73 (congrArg some e5.1) (sub_nil _))) (List.sublist_append_right _ _) ?_
         exact rq_v (rv_slL rfl Try.underlying40 (by kernel_rfl) rfl rfl (rd_row 3 rfl) (by omega) (by omega))
       ·
        intro vf pf hR
        have e3 : (vf 3) = slV v21 ((k : Int) + 1).toNat ((rs2 ++ [(CRow.mk (.slice none 0 0) [])]).length) 1 ∧ (pf 3) = [] := hR 3 (by decide)
        have e6 : (vf 6) = slV v21 ((k : Int)).toNat ((rs2 ++ [(CRow.mk (.slice none 0 0) [])]).length) 1 ∧ (pf 6) = [] := hR 6 (by decide)
        refine hl_less (l' := [rowE 26 1 (.slice (some ⟨g20, 0, none⟩) 1 1) 1 ([.slice none 0 0]), rowE 3 1 mv us.length (us.map (Value.int .i64)), bigE ps2, rowE 26 1 v21 ((rs2 ++ [(CRow.mk (.slice none 0 0) [])]).length) ((rs2 ++ [(CRow.mk (.slice none 0 0) [])]).flatMap crowC)]) (sx 0 rfl (sx 1 rfl (sx 4 rfl (sx 5 rfl (sx 7 rfl (sx 9 rfl (sx 10 rfl (sx 11 rfl (sx 12 rfl (sx 19 rfl (sx 20 rfl (sx 21 rfl (sx 22 rfl (sx 25 rfl (sx 26 rfl (sx 27 rfl (sx 28 rfl (sx 38 rfl (sx 50 rfl (sx 64 rfl (sx 71 (congrArg some e3.1) (sx 74 (congrArg some e6.1) (sub_nil _))))))))))))))))))))))) (List.sublist_append_right _ _) ?_
        simp only [List.drop_succ_cons, List.drop_zero]
        refine hl_know (p := ∀ u ∈ (rs2 ++ [CRow.mk (.slice none 0 0) []]).flatMap crowC, u.oneCell' = true) (fun w hm => flat_onesC (fun r hr => (List.mem_append.1 hr).elim (fun h => (hps2 w (hm.holds _ (mem_at (i := 2) rfl)) r h).one') (fun h => by rw [List.mem_singleton] at h; subst h; rfl))) (fun hc1 => ?_)
        have hl23 : ((rs2 ++ [(CRow.mk (.slice none 0 0) [])]).take ((k : Int) + 1).toNat ++ ((rs2 ++ [(CRow.mk (.slice none 0 0) [])]).drop ((k : Int)).toNat).take ((rs2 ++ [(CRow.mk (.slice none 0 0) [])]).length - ((k : Int) + 1).toNat) ++ (rs2 ++ [(CRow.mk (.slice none 0 0) [])]).drop (((k : Int) + 1).toNat + (((rs2 ++ [(CRow.mk (.slice none 0 0) [])]).drop ((k : Int)).toNat).take ((rs2 ++ [(CRow.mk (.slice none 0 0) [])]).length - ((k : Int) + 1).toNat)).length)).length = (rs2 ++ [(CRow.mk (.slice none 0 0) [])]).length := by simp only [List.length_append, List.length_take, List.length_drop, List.length_cons, List.length_nil]; omega
        refine hl_copyOwn (i := 3) (n := (rs2 ++ [(CRow.mk (.slice none 0 0) [])]).length) (lo := ((k : Int) + 1).toNat) (xs' := (((rs2 ++ [(CRow.mk (.slice none 0 0) [])]).take ((k : Int) + 1).toNat ++ ((rs2 ++ [(CRow.mk (.slice none 0 0) [])]).drop ((k : Int)).toNat).take ((rs2 ++ [(CRow.mk (.slice none 0 0) [])]).length - ((k : Int) + 1).toNat) ++ (rs2 ++ [(CRow.mk (.slice none 0 0) [])]).drop (((k : Int) + 1).toNat + (((rs2 ++ [(CRow.mk (.slice none 0 0) [])]).drop ((k : Int)).toNat).take ((rs2 ++ [(CRow.mk (.slice none 0 0) [])]).length - ((k : Int) + 1).toNat)).length)).flatMap crowC)) (l' := [rowE 26 1 (.slice (some ⟨g20, 0, none⟩) 1 1) 1 ([.slice none 0 0]), rowE 3 1 mv us.length (us.map (Value.int .i64)), bigE ps2, rowE 26 1 v21 ((rs2 ++ [(CRow.mk (.slice none 0 0) [])]).length) (((rs2 ++ [(CRow.mk (.slice none 0 0) [])]).take ((k : Int) + 1).toNat ++ ((rs2 ++ [(CRow.mk (.slice none 0 0) [])]).drop ((k : Int)).toNat).take ((rs2 ++ [(CRow.mk (.slice none 0 0) [])]).length - ((k : Int) + 1).toNat) ++ (rs2 ++ [(CRow.mk (.slice none 0 0) [])]).drop (((k : Int) + 1).toNat + (((rs2 ++ [(CRow.mk (.slice none 0 0) [])]).drop ((k : Int)).toNat).take ((rs2 ++ [(CRow.mk (.slice none 0 0) [])]).length - ((k : Int) + 1).toNat)).length)).flatMap crowC)]) rfl rfl rfl rfl Try.underlying40 (by kernel_rfl) rfl rfl rfl (by omega) (rd_slLs (f := crowC) (fun _ => rfl) (rd_row 3 rfl) (by omega)) (fun q hq => hc1 q (by obtain ⟨r, hr, h9⟩ := List.mem_flatMap.1 hq; exact List.mem_flatMap.2 ⟨r, List.mem_of_mem_drop hr, h9⟩)) (flat_splice crowC (fun r => r.v) (fun _ => rfl) _ _ _ _) rfl (fun c22 => ?_)
        refine hl_eqL (l' := [rowE 26 1 (.slice (some ⟨g20, 0, none⟩) 1 1) 1 ([.slice none 0 0]), rowE 3 1 mv us.length (us.map (Value.int .i64)), bigE ps2, rowE 26 1 v21 (((rs2 ++ [(CRow.mk (.slice none 0 0) [])]).take ((k : Int) + 1).toNat ++ ((rs2 ++ [(CRow.mk (.slice none 0 0) [])]).drop ((k : Int)).toNat).take ((rs2 ++ [(CRow.mk (.slice none 0 0) [])]).length - ((k : Int) + 1).toNat) ++ (rs2 ++ [(CRow.mk (.slice none 0 0) [])]).drop (((k : Int) + 1).toNat + (((rs2 ++ [(CRow.mk (.slice none 0 0) [])]).drop ((k : Int)).toNat).take ((rs2 ++ [(CRow.mk (.slice none 0 0) [])]).length - ((k : Int) + 1).toNat)).length)).length) (((rs2 ++ [(CRow.mk (.slice none 0 0) [])]).take ((k : Int) + 1).toNat ++ ((rs2 ++ [(CRow.mk (.slice none 0 0) [])]).drop ((k : Int)).toNat).take ((rs2 ++ [(CRow.mk (.slice none 0 0) [])]).length - ((k : Int) + 1).toNat) ++ (rs2 ++ [(CRow.mk (.slice none 0 0) [])]).drop (((k : Int) + 1).toNat + (((rs2 ++ [(CRow.mk (.slice none 0 0) [])]).drop ((k : Int)).toNat).take ((rs2 ++ [(CRow.mk (.slice none 0 0) [])]).length - ((k : Int) + 1).toNat)).length)).flatMap crowC)]) (by rw [hl23]) ?_
        refine hl_less (sx 0 rfl (sx 1 rfl (sx 4 rfl (sx 5 rfl (sx 7 rfl (sx 9 rfl (sx 10 rfl (sx 11 rfl (sx 12 rfl (sx 19 rfl (sx 20 rfl (sx 21 rfl (sx 22 rfl (sx 25 rfl (sx 26 rfl (sx 27 rfl (sx 28 rfl (sx 38 rfl (sx 50 rfl (sx 64 rfl (sub_nil _))))))))))))))))))))) (.refl _) ?_
        refine hl_nil ?_
        refine hq_then ?_
        refine hc_region ?_
        refine hl_v rfl rfl rfl (rv_ev rfl) ?_
        refine hl_v rfl rfl rfl (rv_ev rfl) ?_
        refine hl_v rfl rfl rfl (rv_ev rfl) ?_
        refine hl_v rfl rfl rfl (rv_index (s := 1) rfl Try.underlying40 (by kernel_rfl) rfl rfl (rd_row 3 rfl) (by omega) (by first | omega | (simp only [List.length_set]; omega))) ?_
        refine hl_one (i := 1) rfl (fun ho24 => ?_)
        refine hl_storeEl (i := 3) (n' := (((rs2 ++ [(CRow.mk (.slice none 0 0) [])]).take ((k : Int) + 1).toNat ++ ((rs2 ++ [(CRow.mk (.slice none 0 0) [])]).drop ((k : Int)).toNat).take ((rs2 ++ [(CRow.mk (.slice none 0 0) [])]).length - ((k : Int) + 1).toNat) ++ (rs2 ++ [(CRow.mk (.slice none 0 0) [])]).drop (((k : Int) + 1).toNat + (((rs2 ++ [(CRow.mk (.slice none 0 0) [])]).drop ((k : Int)).toNat).take ((rs2 ++ [(CRow.mk (.slice none 0 0) [])]).length - ((k : Int) + 1).toNat)).length)).set k (CRow.mk mv us)).length) (xs' := ((((rs2 ++ [(CRow.mk (.slice none 0 0) [])]).take ((k : Int) + 1).toNat ++ ((rs2 ++ [(CRow.mk (.slice none 0 0) [])]).drop ((k : Int)).toNat).take ((rs2 ++ [(CRow.mk (.slice none 0 0) [])]).length - ((k : Int) + 1).toNat) ++ (rs2 ++ [(CRow.mk (.slice none 0 0) [])]).drop (((k : Int) + 1).toNat + (((rs2 ++ [(CRow.mk (.slice none 0 0) [])]).drop ((k : Int)).toNat).take ((rs2 ++ [(CRow.mk (.slice none 0 0) [])]).length - ((k : Int) + 1).toNat)).length)).set k (CRow.mk mv us)).flatMap crowC)) (l' := [rowE 26 1 (.slice (some ⟨g20, 0, none⟩) 1 1) 1 ([.slice none 0 0]), rowE 3 1 mv us.length (us.map (Value.int .i64)), bigE ps2, rowE 26 1 v21 ((((rs2 ++ [(CRow.mk (.slice none 0 0) [])]).take ((k : Int) + 1).toNat ++ ((rs2 ++ [(CRow.mk (.slice none 0 0) [])]).drop ((k : Int)).toNat).take ((rs2 ++ [(CRow.mk (.slice none 0 0) [])]).length - ((k : Int) + 1).toNat) ++ (rs2 ++ [(CRow.mk (.slice none 0 0) [])]).drop (((k : Int) + 1).toNat + (((rs2 ++ [(CRow.mk (.slice none 0 0) [])]).drop ((k : Int)).toNat).take ((rs2 ++ [(CRow.mk (.slice none 0 0) [])]).length - ((k : Int) + 1).toNat)).length)).set k (CRow.mk mv us)).length) ((((rs2 ++ [(CRow.mk (.slice none 0 0) [])]).take ((k : Int) + 1).toNat ++ ((rs2 ++ [(CRow.mk (.slice none 0 0) [])]).drop ((k : Int)).toNat).take ((rs2 ++ [(CRow.mk (.slice none 0 0) [])]).length - ((k : Int) + 1).toNat) ++ (rs2 ++ [(CRow.mk (.slice none 0 0) [])]).drop (((k : Int) + 1).toNat + (((rs2 ++ [(CRow.mk (.slice none 0 0) [])]).drop ((k : Int)).toNat).take ((rs2 ++ [(CRow.mk (.slice none 0 0) [])]).length - ((k : Int) + 1).toNat)).length)).set k (CRow.mk mv us)).flatMap crowC)]) rfl rfl rfl (by kernel_rfl) rfl rfl ho24 rfl (by first | omega | (simp only [List.length_set]; omega)) List.length_set.symm (flat_set1 crowC (fun r => r.v) (fun _ => rfl) _ (CRow.mk mv us) rfl) rfl ?_
        refine hl_less (sx 0 rfl (sx 1 rfl (sx 4 rfl (sx 5 rfl (sx 7 rfl (sx 9 rfl (sx 10 rfl (sx 11 rfl (sx 12 rfl (sx 19 rfl (sx 20 rfl (sx 21 rfl (sx 22 rfl (sx 25 rfl (sx 26 rfl (sx 27 rfl (sx 28 rfl (sx 38 rfl (sx 50 rfl (sx 64 rfl (sub_nil _))))))))))))))))))))) (.refl _) ?_
        refine hl_nil ?_
        refine hq_block_normal ?_
        refine hq_then ?_
        refine hc_region ?_
        refine hl_v rfl rfl rfl (rv_add rfl rfl rfl (by constructor <;> omega)) ?_
        refine hl_v rfl rfl rfl (rv_ev rfl) ?_
        refine hl_less (sx 0 rfl (sx 1 rfl (sx 4 rfl (sx 5 rfl (sx 7 rfl (sx 9 rfl (sx 10 rfl (sx 11 rfl (sx 12 rfl (sx 19 rfl (sx 20 rfl (sx 21 rfl (sx 22 rfl (sx 25 rfl (sx 26 rfl (sx 27 rfl (sx 28 rfl (sx 38 rfl (sx 50 rfl (sx 64 rfl (sub_nil _))))))))))))))))))))) (.refl _) ?_
        refine hl_nil ?_
        refine hq_conv [bigE ps2, rowE 3 1 mv us.length (us.map (Value.int .i64)), rowE 26 1 (.slice (some ⟨g20, 0, none⟩) 1 1) 1 ([.slice none 0 0]), rowE 26 1 v21 ((((rs2 ++ [(CRow.mk (.slice none 0 0) [])]).take ((k : Int) + 1).toNat ++ ((rs2 ++ [(CRow.mk (.slice none 0 0) [])]).drop ((k : Int)).toNat).take ((rs2 ++ [(CRow.mk (.slice none 0 0) [])]).length - ((k : Int) + 1).toNat) ++ (rs2 ++ [(CRow.mk (.slice none 0 0) [])]).drop (((k : Int) + 1).toNat + (((rs2 ++ [(CRow.mk (.slice none 0 0) [])]).drop ((k : Int)).toNat).take ((rs2 ++ [(CRow.mk (.slice none 0 0) [])]).length - ((k : Int) + 1).toNat)).length)).set k (CRow.mk mv us)).length) ((((rs2 ++ [(CRow.mk (.slice none 0 0) [])]).take ((k : Int) + 1).toNat ++ ((rs2 ++ [(CRow.mk (.slice none 0 0) [])]).drop ((k : Int)).toNat).take ((rs2 ++ [(CRow.mk (.slice none 0 0) [])]).length - ((k : Int) + 1).toNat) ++ (rs2 ++ [(CRow.mk (.slice none 0 0) [])]).drop (((k : Int) + 1).toNat + (((rs2 ++ [(CRow.mk (.slice none 0 0) [])]).drop ((k : Int)).toNat).take ((rs2 ++ [(CRow.mk (.slice none 0 0) [])]).length - ((k : Int) + 1).toNat)).length)).set k (CRow.mk mv us)).flatMap crowC)] (conv_pick (src := [rowE 26 1 (.slice (some ⟨g20, 0, none⟩) 1 1) 1 ([.slice none 0 0]), rowE 3 1 mv us.length (us.map (Value.int .i64)), bigE ps2, rowE 26 1 v21 ((((rs2 ++ [(CRow.mk (.slice none 0 0) [])]).take ((k : Int) + 1).toNat ++ ((rs2 ++ [(CRow.mk (.slice none 0 0) [])]).drop ((k : Int)).toNat).take ((rs2 ++ [(CRow.mk (.slice none 0 0) [])]).length - ((k : Int) + 1).toNat) ++ (rs2 ++ [(CRow.mk (.slice none 0 0) [])]).drop (((k : Int) + 1).toNat + (((rs2 ++ [(CRow.mk (.slice none 0 0) [])]).drop ((k : Int)).toNat).take ((rs2 ++ [(CRow.mk (.slice none 0 0) [])]).length - ((k : Int) + 1).toNat)).length)).set k (CRow.mk mv us)).length) ((((rs2 ++ [(CRow.mk (.slice none 0 0) [])]).take ((k : Int) + 1).toNat ++ ((rs2 ++ [(CRow.mk (.slice none 0 0) [])]).drop ((k : Int)).toNat).take ((rs2 ++ [(CRow.mk (.slice none 0 0) [])]).length - ((k : Int) + 1).toNat) ++ (rs2 ++ [(CRow.mk (.slice none 0 0) [])]).drop (((k : Int) + 1).toNat + (((rs2 ++ [(CRow.mk (.slice none 0 0) [])]).drop ((k : Int)).toNat).take ((rs2 ++ [(CRow.mk (.slice none 0 0) [])]).length - ((k : Int) + 1).toNat)).length)).set k (CRow.mk mv us)).flatMap crowC)]) (dst := [bigE ps2, rowE 3 1 mv us.length (us.map (Value.int .i64)), rowE 26 1 (.slice (some ⟨g20, 0, none⟩) 1 1) 1 ([.slice none 0 0]), rowE 26 1 v21 ((((rs2 ++ [(CRow.mk (.slice none 0 0) [])]).take ((k : Int) + 1).toNat ++ ((rs2 ++ [(CRow.mk (.slice none 0 0) [])]).drop ((k : Int)).toNat).take ((rs2 ++ [(CRow.mk (.slice none 0 0) [])]).length - ((k : Int) + 1).toNat) ++ (rs2 ++ [(CRow.mk (.slice none 0 0) [])]).drop (((k : Int) + 1).toNat + (((rs2 ++ [(CRow.mk (.slice none 0 0) [])]).drop ((k : Int)).toNat).take ((rs2 ++ [(CRow.mk (.slice none 0 0) [])]).length - ((k : Int) + 1).toNat)).length)).set k (CRow.mk mv us)).length) ((((rs2 ++ [(CRow.mk (.slice none 0 0) [])]).take ((k : Int) + 1).toNat ++ ((rs2 ++ [(CRow.mk (.slice none 0 0) [])]).drop ((k : Int)).toNat).take ((rs2 ++ [(CRow.mk (.slice none 0 0) [])]).length - ((k : Int) + 1).toNat) ++ (rs2 ++ [(CRow.mk (.slice none 0 0) [])]).drop (((k : Int) + 1).toNat + (((rs2 ++ [(CRow.mk (.slice none 0 0) [])]).drop ((k : Int)).toNat).take ((rs2 ++ [(CRow.mk (.slice none 0 0) [])]).length - ((k : Int) + 1).toNat)).length)).set k (CRow.mk mv us)).flatMap crowC)]) (l := []) [2, 1, 0, 3] (by decide) rfl) ?_
        refine hq_conv [bigE [bigE ps2, rowE 3 1 mv us.length (us.map (Value.int .i64))], rowE 26 1 (.slice (some ⟨g20, 0, none⟩) 1 1) 1 ([.slice none 0 0]), rowE 26 1 v21 ((((rs2 ++ [(CRow.mk (.slice none 0 0) [])]).take ((k : Int) + 1).toNat ++ ((rs2 ++ [(CRow.mk (.slice none 0 0) [])]).drop ((k : Int)).toNat).take ((rs2 ++ [(CRow.mk (.slice none 0 0) [])]).length - ((k : Int) + 1).toNat) ++ (rs2 ++ [(CRow.mk (.slice none 0 0) [])]).drop (((k : Int) + 1).toNat + (((rs2 ++ [(CRow.mk (.slice none 0 0) [])]).drop ((k : Int)).toNat).take ((rs2 ++ [(CRow.mk (.slice none 0 0) [])]).length - ((k : Int) + 1).toNat)).length)).set k (CRow.mk mv us)).length) ((((rs2 ++ [(CRow.mk (.slice none 0 0) [])]).take ((k : Int) + 1).toNat ++ ((rs2 ++ [(CRow.mk (.slice none 0 0) [])]).drop ((k : Int)).toNat).take ((rs2 ++ [(CRow.mk (.slice none 0 0) [])]).length - ((k : Int) + 1).toNat) ++ (rs2 ++ [(CRow.mk (.slice none 0 0) [])]).drop (((k : Int) + 1).toNat + (((rs2 ++ [(CRow.mk (.slice none 0 0) [])]).drop ((k : Int)).toNat).take ((rs2 ++ [(CRow.mk (.slice none 0 0) [])]).length - ((k : Int) + 1).toNat)).length)).set k (CRow.mk mv us)).flatMap crowC)] (conv_bigN [bigE ps2, rowE 3 1 mv us.length (us.map (Value.int .i64))] _ rfl) ?_
        exact hq_round4 (j + 1) (((rs2 ++ [(CRow.mk (.slice none 0 0) [])]).take ((k : Int) + 1).toNat ++ ((rs2 ++ [(CRow.mk (.slice none 0 0) [])]).drop ((k : Int)).toNat).take ((rs2 ++ [(CRow.mk (.slice none 0 0) [])]).length - ((k : Int) + 1).toNat) ++ (rs2 ++ [(CRow.mk (.slice none 0 0) [])]).drop (((k : Int) + 1).toNat + (((rs2 ++ [(CRow.mk (.slice none 0 0) [])]).drop ((k : Int)).toNat).take ((rs2 ++ [(CRow.mk (.slice none 0 0) [])]).length - ((k : Int) + 1).toNat)).length)).set k (CRow.mk mv us)) v21 [bigE ps2, rowE 3 1 mv us.length (us.map (Value.int .i64))] ⟨by omega, hcd2.put (u := CRow.mk mv us) (by omega) (by omega) (hmj (by assumption)) (shift_lenT hk) (fun q hq => shift_memT hk hq), fun w hw => RdsAll.cons (u := CRow.mk mv us) (hps2 w (big_part hw List.mem_cons_self)) (rdsW_own (big_part hw (List.mem_cons_of_mem _ List.mem_cons_self))) (fun q hq => shift_memT hk hq)⟩ (by omega) (sx 0 rfl (sx 1 rfl (sx 4 rfl (sx 5 rfl (sx 7 rfl (sx 19 rfl (sx 20 rfl (sx 21 rfl (sx 22 rfl (sx 25 rfl (sx 26 rfl (sx 27 rfl (sub_nil _))))))))))))) ((.cons_cons _ (.cons _ (.cons_cons _ .slnil))))
    ·
     refine hl_v rfl rfl rfl (rv_ev rfl) ?_
     refine hl_skip rfl rfl rfl ?_
     refine hl_skip rfl rfl rfl ?_
     refine hl_skip rfl rfl rfl ?_
     refine hl_skip rfl rfl rfl ?_
     refine hl_skip rfl rfl rfl ?_
     refine hl_skip rfl rfl rfl ?_
     refine hl_v rfl rfl rfl (rv_ev rfl) ?_
     refine hl_less (sx 0 rfl (sx 1 rfl (sx 4 rfl (sx 5 rfl (sx 7 rfl (sx 9 rfl (sx 10 rfl (sx 11 rfl (sx 12 rfl (sx 19 rfl (sx 20 rfl (sx 21 rfl (sx 22 rfl (sx 25 rfl (sx 26 rfl (sx 27 rfl (sx 28 rfl (sx 38 rfl (sx 50 rfl (sub_nil _)))))))))))))))))))) (.refl _) ?_
     refine hl_nil ?_
     refine hq_then ?_
     refine hc_false rfl ?_
     refine hc_exit ?_
     refine hq_then_exit ?_
     refine hq_then_exit ?_
     refine hq_block_exit ?_
     refine hq_then ?_
     refine hc_seq ?_
     refine hc_seq ?_
     refine hc_region ?_
     refine hl_v rfl rfl rfl (rv_ev rfl) ?_
     refine hl_v rfl rfl rfl (rv_ev rfl) ?_
     refine hl_v rfl rfl rfl (rv_len rfl Try.underlying40 rfl (rd_row 2 rfl)) ?_
     refine hl_lss rfl rfl rfl rfl rfl rfl (fun h25 => ?_) (fun h25 => ?_)
     ·
      refine hl_v rfl rfl rfl (rv_ev rfl) ?_
      refine hl_v rfl rfl rfl (rv_ev rfl) ?_
      refine hl_v rfl rfl rfl (rv_ev rfl) ?_
      refine hl_v rfl rfl rfl (rv_index (s := 1) rfl Try.underlying40 (by kernel_rfl) rfl rfl (rd_row 2 rfl) (by omega) (by first | omega | (simp only [List.length_set]; omega))) ?_
      refine hl_v rfl rfl rfl (rv_loadEl (u := (rs2.getD k crow0).v) rfl (by kernel_rfl) rfl (rd_row 2 rfl) (flat_one crowC (fun r => r.v) (fun _ => rfl) rs2 crow0 (show k < _ by first | omega | (simp only [List.length_set]; omega)))) ?_
      refine hl_v rfl rfl rfl (rv_ev rfl) ?_
      have h4k := hcd2.len4 (getD_mem' (es := rs2) (i := k) (d := crow0) (by omega))
      refine hl_callV rfl rfl rfl (rq_call (by kernel_rfl) rfl (fun w hm => ret_ans (sameIntsI_ans ((rs2.getD k crow0).xs) us _ _ w ((fun w hm => (hps2 w (hm.holds _ (mem_at (i := 1) rfl))).at (k := k) (by omega)) w hm) ((rd_row 0 rfl) w hm) (by omega)))) ?_
      refine hl_bool (fun h26 => ?_) (fun h26 => ?_)
      ·
       refine hl_v rfl rfl rfl (rv_ev rfl) ?_
       refine hl_less (sx 0 rfl (sx 1 rfl (sx 4 rfl (sx 5 rfl (sx 7 rfl (sx 9 rfl (sx 10 rfl (sx 11 rfl (sx 12 rfl (sx 19 rfl (sx 20 rfl (sx 21 rfl (sx 22 rfl (sx 25 rfl (sx 26 rfl (sx 27 rfl (sx 28 rfl (sx 38 rfl (sx 50 rfl (sx 64 rfl (sub_nil _))))))))))))))))))))) (.refl _) ?_
       refine hl_nil ?_
       refine hq_then ?_
       refine hc_true rfl ?_
       refine hc_exit ?_
       refine hq_then_exit ?_
       refine hq_block_exit ?_
       refine hq_then ?_
       refine hc_region ?_
       refine hl_v rfl rfl rfl (rv_add rfl rfl rfl (by constructor <;> omega)) ?_
       refine hl_v rfl rfl rfl (rv_ev rfl) ?_
       refine hl_less (sx 0 rfl (sx 1 rfl (sx 4 rfl (sx 5 rfl (sx 7 rfl (sx 9 rfl (sx 10 rfl (sx 11 rfl (sx 12 rfl (sx 19 rfl (sx 20 rfl (sx 21 rfl (sx 22 rfl (sx 25 rfl (sx 26 rfl (sx 27 rfl (sx 28 rfl (sx 38 rfl (sx 50 rfl (sx 64 rfl (sub_nil _))))))))))))))))))))) (.refl _) ?_
       refine hl_nil ?_
       exact hq_round4 (j + 1) rs2 av2 ps2 ⟨by omega, hcd2.skip, hps2⟩ (by omega) (sx 0 rfl (sx 1 rfl (sx 4 rfl (sx 5 rfl (sx 7 rfl (sx 19 rfl (sx 20 rfl (sx 21 rfl (sx 22 rfl (sx 25 rfl (sx 26 rfl (sx 27 rfl (sub_nil _))))))))))))) ((.cons _ (.cons_cons _ (.cons_cons _ .slnil))))
      ·
       refine hl_v rfl rfl rfl (rv_ev rfl) ?_
       refine hl_less (sx 0 rfl (sx 1 rfl (sx 4 rfl (sx 5 rfl (sx 7 rfl (sx 9 rfl (sx 10 rfl (sx 11 rfl (sx 12 rfl (sx 19 rfl (sx 20 rfl (sx 21 rfl (sx 22 rfl (sx 25 rfl (sx 26 rfl (sx 27 rfl (sx 28 rfl (sx 38 rfl (sx 50 rfl (sx 64 rfl (sub_nil _))))))))))))))))))))) (.refl _) ?_
       refine hl_nil ?_
       refine hq_then ?_
       refine hc_false rfl ?_
       refine hc_skip ?_
       refine hq_then ?_
       refine hc_seq ?_
       refine hc_region ?_
       refine hl_v rfl rfl rfl (rv_ev rfl) ?_
       refine hl_row rfl rfl rfl (rq_buildSlice (z := .slice none 0 0) (s := 1) (cs := [.slice none 0 0]) rfl Try.underlying40 (by kernel_rfl) (by decide) rfl (by kernel_rfl) rfl) ?_
       intro g27
       refine hl_append (i := 3) (z := .slice none 0 0) (bytes := 24) (n' := (rs2 ++ [(CRow.mk (.slice none 0 0) [])]).length) (xs' := ((rs2 ++ [(CRow.mk (.slice none 0 0) [])]).flatMap crowC)) (L := fun v28 => [rowE 26 1 (.slice (some ⟨g27, 0, none⟩) 1 1) 1 ([.slice none 0 0]), rowE 3 1 mv us.length (us.map (Value.int .i64)), bigE ps2, rowE 26 1 v28 ((rs2 ++ [(CRow.mk (.slice none 0 0) [])]).length) ((rs2 ++ [(CRow.mk (.slice none 0 0) [])]).flatMap crowC)]) rfl rfl rfl rfl Try.underlying40 (by kernel_rfl) (by kernel_rfl) rfl rfl rfl (rd_row 0 rfl) (by simp [Value.oneCell']) (by first | omega | (simp only [List.length_append, List.length_cons, List.length_nil]; omega)) (len_app rs2 [(CRow.mk (.slice none 0 0) [])]) (flat_app1 crowC rs2 (CRow.mk (.slice none 0 0) []) _ rfl) (fun _ => rfl) ?_
       intro v28
       refine hl_v rfl rfl rfl (rv_ev rfl) ?_
       refine hl_less (sx 0 rfl (sx 1 rfl (sx 4 rfl (sx 5 rfl (sx 7 rfl (sx 9 rfl (sx 10 rfl (sx 11 rfl (sx 12 rfl (sx 19 rfl (sx 20 rfl (sx 21 rfl (sx 22 rfl (sx 25 rfl (sx 26 rfl (sx 27 rfl (sx 28 rfl (sx 38 rfl (sx 50 rfl (sx 64 rfl (sub_nil _))))))))))))))))))))) (.refl _) ?_
       refine hl_nil ?_
       refine hq_then ?_
       refine hc_seq ?_
       have hln : (rs2 ++ [CRow.mk (.slice none 0 0) []]).length = rs2.length + 1 := by simp
       refine hc_draw (by kernel_rfl) 7 [0, 1, 2, 3, 4, 5, 6] (List.take 7 _) (List.drop 7 _) [[], [], [1], [0, 2], [], [], [4, 5]] [68, 69, 70, 71, 72, 73, 74] (fun i_ vs_ v_ p_ => match i_ with | 0 => v_ = v28 ∧ p_ = [] | 1 => v_ = .int .i64 (k : Int) ∧ p_ = [] | 2 => v_ = .int .i64 ((k : Int) + 1) ∧ p_ = [] | 3 => v_ = slV v28 ((k : Int) + 1).toNat ((rs2 ++ [(CRow.mk (.slice none 0 0) [])]).length) 1 ∧ p_ = [] | 4 => v_ = v28 ∧ p_ = [] | 5 => v_ = .int .i64 (k : Int) ∧ p_ = [] | 6 => v_ = slV v28 ((k : Int)).toNat ((rs2 ++ [(CRow.mk (.slice none 0 0) [])]).length) 1 ∧ p_ = [] | _ => True) (List.take_append_drop 7 _).symm (by kernel_rfl) (by kernel_rfl) rfl rfl ?_ ?_
       ·
        refine ⟨?_, ?_, ?_, ?_, ?_, ?_, ?_, trivial⟩
        ·
         intro vf pf hR
         refine Or.inl ⟨rfl, ?_⟩
         refine rq_less (sx 5 rfl (sub_nil _)) (List.sublist_append_right _ _) ?_
         exact rq_v (rv_ev rfl)
        ·
         intro vf pf hR
         refine Or.inl ⟨rfl, ?_⟩
         refine rq_less (sx 12 rfl (sub_nil _)) (List.sublist_append_right _ _) ?_
         exact rq_v (rv_ev rfl)
        ·
         intro vf pf hR
         have e1 : (vf 1) = .int .i64 (k : Int) ∧ (pf 1) = [] := hR 1 (by decide)
         refine Or.inl ⟨rfl, ?_⟩
         refine rq_less (sx 69 (congrArg some e1.1) (sub_nil _)) (List.sublist_append_right _ _) ?_
         exact rq_v (rv_add rfl rfl rfl (by constructor <;> omega))
        ·
         intro vf pf hR
         have e0 : (vf 0) = v28 ∧ (pf 0) = [] := hR 0 (by decide)
         have e2 : (vf 2) = .int .i64 ((k : Int) + 1) ∧ (pf 2) = [] := hR 2 (by decide)
         refine Or.inl ⟨rfl, ?_⟩
         refine rq_less (sx 68 (congrArg some e0.1) (sx 70 (congrArg some e2.1) (sub_nil _))) (List.sublist_append_right _ _) ?_
         exact rq_v (rv_slL rfl Try.underlying40 (by kernel_rfl) rfl rfl (rd_row 3 rfl) (by omega) (by omega))
        ·
         intro vf pf hR
         refine Or.inl ⟨rfl, ?_⟩
         refine rq_less (sx 5 rfl (sub_nil _)) (List.sublist_append_right _ _) ?_
         exact rq_v (rv_ev rfl)
        ·
         intro vf pf hR
         refine Or.inl ⟨rfl, ?_⟩
         refine rq_less (sx 12 rfl (sub_nil _)) (List.sublist_append_right _ _) ?_
         exact rq_v (rv_ev rfl)
        ·
         intro vf pf hR
         have e4 : (vf 4) = v28 ∧ (pf 4) = [] := hR 4 (by decide)
         have e5 : (vf 5) = .int .i64 (k : Int) ∧ (pf 5) = [] := hR 5 (by decide)
         refine Or.inl ⟨rfl, ?_⟩
         refine rq_less (sx 72 (congrArg some e4.1) (sx 73 (congrArg some e5.1) (sub_nil _))) (List.sublist_append_right _ _) ?_
         exact rq_v (rv_slL rfl Try.underlying40 (by kernel_rfl) rfl rfl (rd_row 3 rfl) (by omega) (by omega))
       ·
        intro vf pf hR
        have e3 : (vf 3) = slV v28 ((k : Int) + 1).toNat ((rs2 ++ [(CRow.mk (.slice none 0 0) [])]).length) 1 ∧ (pf 3) = [] := hR 3 (by decide)
        have e6 : (vf 6) = slV v28 ((k : Int)).toNat ((rs2 ++ [(CRow.mk (.slice none 0 0) [])]).length) 1 ∧ (pf 6) = [] := hR 6 (by decide)
        refine hl_less (l' := [rowE 26 1 (.slice (some ⟨g27, 0, none⟩) 1 1) 1 ([.slice none 0 0]), rowE 3 1 mv us.length (us.map (Value.int .i64)), bigE ps2, rowE 26 1 v28 ((rs2 ++ [(CRow.mk (.slice none 0 0) [])]).length) ((rs2 ++ [(CRow.mk (.slice none 0 0) [])]).flatMap crowC)]) (sx 0 rfl (sx 1 rfl (sx 4 rfl (sx 5 rfl (sx 7 rfl (sx 9 rfl (sx 10 rfl (sx 11 rfl (sx 12 rfl (sx 19 rfl (sx 20 rfl (sx 21 rfl (sx 22 rfl (sx 25 rfl (sx 26 rfl (sx 27 rfl (sx 28 rfl (sx 38 rfl (sx 50 rfl (sx 64 rfl (sx 71 (congrArg some e3.1) (sx 74 (congrArg some e6.1) (sub_nil _))))))))))))))))))))))) (List.sublist_append_right _ _) ?_
        simp only [List.drop_succ_cons, List.drop_zero]
        refine hl_know (p := ∀ u ∈ (rs2 ++ [CRow.mk (.slice none 0 0) []]).flatMap crowC, u.oneCell' = true) (fun w hm => flat_onesC (fun r hr => (List.mem_append.1 hr).elim (fun h => (hps2 w (hm.holds _ (mem_at (i := 2) rfl)) r h).one') (fun h => by rw [List.mem_singleton] at h; subst h; rfl))) (fun hc1 => ?_)
        have hl30 : ((rs2 ++ [(CRow.mk (.slice none 0 0) [])]).take ((k : Int) + 1).toNat ++ ((rs2 ++ [(CRow.mk (.slice none 0 0) [])]).drop ((k : Int)).toNat).take ((rs2 ++ [(CRow.mk (.slice none 0 0) [])]).length - ((k : Int) + 1).toNat) ++ (rs2 ++ [(CRow.mk (.slice none 0 0) [])]).drop (((k : Int) + 1).toNat + (((rs2 ++ [(CRow.mk (.slice none 0 0) [])]).drop ((k : Int)).toNat).take ((rs2 ++ [(CRow.mk (.slice none 0 0) [])]).length - ((k : Int) + 1).toNat)).length)).length = (rs2 ++ [(CRow.mk (.slice none 0 0) [])]).length := by simp only [List.length_append, List.length_take, List.length_drop, List.length_cons, List.length_nil]; omega
        refine hl_copyOwn (i := 3) (n := (rs2 ++ [(CRow.mk (.slice none 0 0) [])]).length) (lo := ((k : Int) + 1).toNat) (xs' := (((rs2 ++ [(CRow.mk (.slice none 0 0) [])]).take ((k : Int) + 1).toNat ++ ((rs2 ++ [(CRow.mk (.slice none 0 0) [])]).drop ((k : Int)).toNat).take ((rs2 ++ [(CRow.mk (.slice none 0 0) [])]).length - ((k : Int) + 1).toNat) ++ (rs2 ++ [(CRow.mk (.slice none 0 0) [])]).drop (((k : Int) + 1).toNat + (((rs2 ++ [(CRow.mk (.slice none 0 0) [])]).drop ((k : Int)).toNat).take ((rs2 ++ [(CRow.mk (.slice none 0 0) [])]).length - ((k : Int) + 1).toNat)).length)).flatMap crowC)) (l' := [rowE 26 1 (.slice (some ⟨g27, 0, none⟩) 1 1) 1 ([.slice none 0 0]), rowE 3 1 mv us.length (us.map (Value.int .i64)), bigE ps2, rowE 26 1 v28 ((rs2 ++ [(CRow.mk (.slice none 0 0) [])]).length) (((rs2 ++ [(CRow.mk (.slice none 0 0) [])]).take ((k : Int) + 1).toNat ++ ((rs2 ++ [(CRow.mk (.slice none 0 0) [])]).drop ((k : Int)).toNat).take ((rs2 ++ [(CRow.mk (.slice none 0 0) [])]).length - ((k : Int) + 1).toNat) ++ (rs2 ++ [(CRow.mk (.slice none 0 0) [])]).drop (((k : Int) + 1).toNat + (((rs2 ++ [(CRow.mk (.slice none 0 0) [])]).drop ((k : Int)).toNat).take ((rs2 ++ [(CRow.mk (.slice none 0 0) [])]).length - ((k : Int) + 1).toNat)).length)).flatMap crowC)]) rfl rfl rfl rfl Try.underlying40 (by kernel_rfl) rfl rfl rfl (by omega) (rd_slLs (f := crowC) (fun _ => rfl) (rd_row 3 rfl) (by omega)) (fun q hq => hc1 q (by obtain ⟨r, hr, h9⟩ := List.mem_flatMap.1 hq; exact List.mem_flatMap.2 ⟨r, List.mem_of_mem_drop hr, h9⟩)) (flat_splice crowC (fun r => r.v) (fun _ => rfl) _ _ _ _) rfl (fun c29 => ?_)
        refine hl_eqL (l' := [rowE 26 1 (.slice (some ⟨g27, 0, none⟩) 1 1) 1 ([.slice none 0 0]), rowE 3 1 mv us.length (us.map (Value.int .i64)), bigE ps2, rowE 26 1 v28 (((rs2 ++ [(CRow.mk (.slice none 0 0) [])]).take ((k : Int) + 1).toNat ++ ((rs2 ++ [(CRow.mk (.slice none 0 0) [])]).drop ((k : Int)).toNat).take ((rs2 ++ [(CRow.mk (.slice none 0 0) [])]).length - ((k : Int) + 1).toNat) ++ (rs2 ++ [(CRow.mk (.slice none 0 0) [])]).drop (((k : Int) + 1).toNat + (((rs2 ++ [(CRow.mk (.slice none 0 0) [])]).drop ((k : Int)).toNat).take ((rs2 ++ [(CRow.mk (.slice none 0 0) [])]).length - ((k : Int) + 1).toNat)).length)).length) (((rs2 ++ [(CRow.mk (.slice none 0 0) [])]).take ((k : Int) + 1).toNat ++ ((rs2 ++ [(CRow.mk (.slice none 0 0) [])]).drop ((k : Int)).toNat).take ((rs2 ++ [(CRow.mk (.slice none 0 0) [])]).length - ((k : Int) + 1).toNat) ++ (rs2 ++ [(CRow.mk (.slice none 0 0) [])]).drop (((k : Int) + 1).toNat + (((rs2 ++ [(CRow.mk (.slice none 0 0) [])]).drop ((k : Int)).toNat).take ((rs2 ++ [(CRow.mk (.slice none 0 0) [])]).length - ((k : Int) + 1).toNat)).length)).flatMap crowC)]) (by rw [hl30]) ?_
        refine hl_less (sx 0 rfl (sx 1 rfl (sx 4 rfl (sx 5 rfl (sx 7 rfl (sx 9 rfl (sx 10 rfl (sx 11 rfl (sx 12 rfl (sx 19 rfl (sx 20 rfl (sx 21 rfl (sx 22 rfl (sx 25 rfl (sx 26 rfl (sx 27 rfl (sx 28 rfl (sx 38 rfl (sx 50 rfl (sx 64 rfl (sub_nil _))))))))))))))))))))) (.refl _) ?_
        refine hl_nil ?_
        refine hq_then ?_
        refine hc_region ?_
        refine hl_v rfl rfl rfl (rv_ev rfl) ?_
        refine hl_v rfl rfl rfl (rv_ev rfl) ?_
        refine hl_v rfl rfl rfl (rv_ev rfl) ?_
        refine hl_v rfl rfl rfl (rv_index (s := 1) rfl Try.underlying40 (by kernel_rfl) rfl rfl (rd_row 3 rfl) (by omega) (by first | omega | (simp only [List.length_set]; omega))) ?_
        refine hl_one (i := 1) rfl (fun ho31 => ?_)
        refine hl_storeEl (i := 3) (n' := (((rs2 ++ [(CRow.mk (.slice none 0 0) [])]).take ((k : Int) + 1).toNat ++ ((rs2 ++ [(CRow.mk (.slice none 0 0) [])]).drop ((k : Int)).toNat).take ((rs2 ++ [(CRow.mk (.slice none 0 0) [])]).length - ((k : Int) + 1).toNat) ++ (rs2 ++ [(CRow.mk (.slice none 0 0) [])]).drop (((k : Int) + 1).toNat + (((rs2 ++ [(CRow.mk (.slice none 0 0) [])]).drop ((k : Int)).toNat).take ((rs2 ++ [(CRow.mk (.slice none 0 0) [])]).length - ((k : Int) + 1).toNat)).length)).set k (CRow.mk mv us)).length) (xs' := ((((rs2 ++ [(CRow.mk (.slice none 0 0) [])]).take ((k : Int) + 1).toNat ++ ((rs2 ++ [(CRow.mk (.slice none 0 0) [])]).drop ((k : Int)).toNat).take ((rs2 ++ [(CRow.mk (.slice none 0 0) [])]).length - ((k : Int) + 1).toNat) ++ (rs2 ++ [(CRow.mk (.slice none 0 0) [])]).drop (((k : Int) + 1).toNat + (((rs2 ++ [(CRow.mk (.slice none 0 0) [])]).drop ((k : Int)).toNat).take ((rs2 ++ [(CRow.mk (.slice none 0 0) [])]).length - ((k : Int) + 1).toNat)).length)).set k (CRow.mk mv us)).flatMap crowC)) (l' := [rowE 26 1 (.slice (some ⟨g27, 0, none⟩) 1 1) 1 ([.slice none 0 0]), rowE 3 1 mv us.length (us.map (Value.int .i64)), bigE ps2, rowE 26 1 v28 ((((rs2 ++ [(CRow.mk (.slice none 0 0) [])]).take ((k : Int) + 1).toNat ++ ((rs2 ++ [(CRow.mk (.slice none 0 0) [])]).drop ((k : Int)).toNat).take ((rs2 ++ [(CRow.mk (.slice none 0 0) [])]).length - ((k : Int) + 1).toNat) ++ (rs2 ++ [(CRow.mk (.slice none 0 0) [])]).drop (((k : Int) + 1).toNat + (((rs2 ++ [(CRow.mk (.slice none 0 0) [])]).drop ((k : Int)).toNat).take ((rs2 ++ [(CRow.mk (.slice none 0 0) [])]).length - ((k : Int) + 1).toNat)).length)).set k (CRow.mk mv us)).length) ((((rs2 ++ [(CRow.mk (.slice none 0 0) [])]).take ((k : Int) + 1).toNat ++ ((rs2 ++ [(CRow.mk (.slice none 0 0) [])]).drop ((k : Int)).toNat).take ((rs2 ++ [(CRow.mk (.slice none 0 0) [])]).length - ((k : Int) + 1).toNat) ++ (rs2 ++ [(CRow.mk (.slice none 0 0) [])]).drop (((k : Int) + 1).toNat + (((rs2 ++ [(CRow.mk (.slice none 0 0) [])]).drop ((k : Int)).toNat).take ((rs2 ++ [(CRow.mk (.slice none 0 0) [])]).length - ((k : Int) + 1).toNat)).length)).set k (CRow.mk mv us)).flatMap crowC)]) rfl rfl rfl (by kernel_rfl) rfl rfl ho31 rfl (by first | omega | (simp only [List.length_set]; omega)) List.length_set.symm (flat_set1 crowC (fun r => r.v) (fun _ => rfl) _ (CRow.mk mv us) rfl) rfl ?_
        refine hl_less (sx 0 rfl (sx 1 rfl (sx 4 rfl (sx 5 rfl (sx 7 rfl (sx 9 rfl (sx 10 rfl (sx 11 rfl (sx 12 rfl (sx 19 rfl (sx 20 rfl (sx 21 rfl (sx 22 rfl (sx 25 rfl (sx 26 rfl (sx 27 rfl (sx 28 rfl (sx 38 rfl (sx 50 rfl (sx 64 rfl (sub_nil _))))))))))))))))))))) (.refl _) ?_
        refine hl_nil ?_
        refine hq_block_normal ?_
        refine hq_then ?_
        refine hc_region ?_
        refine hl_v rfl rfl rfl (rv_add rfl rfl rfl (by constructor <;> omega)) ?_
        refine hl_v rfl rfl rfl (rv_ev rfl) ?_
        refine hl_less (sx 0 rfl (sx 1 rfl (sx 4 rfl (sx 5 rfl (sx 7 rfl (sx 9 rfl (sx 10 rfl (sx 11 rfl (sx 12 rfl (sx 19 rfl (sx 20 rfl (sx 21 rfl (sx 22 rfl (sx 25 rfl (sx 26 rfl (sx 27 rfl (sx 28 rfl (sx 38 rfl (sx 50 rfl (sx 64 rfl (sub_nil _))))))))))))))))))))) (.refl _) ?_
        refine hl_nil ?_
        refine hq_conv [bigE ps2, rowE 3 1 mv us.length (us.map (Value.int .i64)), rowE 26 1 (.slice (some ⟨g27, 0, none⟩) 1 1) 1 ([.slice none 0 0]), rowE 26 1 v28 ((((rs2 ++ [(CRow.mk (.slice none 0 0) [])]).take ((k : Int) + 1).toNat ++ ((rs2 ++ [(CRow.mk (.slice none 0 0) [])]).drop ((k : Int)).toNat).take ((rs2 ++ [(CRow.mk (.slice none 0 0) [])]).length - ((k : Int) + 1).toNat) ++ (rs2 ++ [(CRow.mk (.slice none 0 0) [])]).drop (((k : Int) + 1).toNat + (((rs2 ++ [(CRow.mk (.slice none 0 0) [])]).drop ((k : Int)).toNat).take ((rs2 ++ [(CRow.mk (.slice none 0 0) [])]).length - ((k : Int) + 1).toNat)).length)).set k (CRow.mk mv us)).length) ((((rs2 ++ [(CRow.mk (.slice none 0 0) [])]).take ((k : Int) + 1).toNat ++ ((rs2 ++ [(CRow.mk (.slice none 0 0) [])]).drop ((k : Int)).toNat).take ((rs2 ++ [(CRow.mk (.slice none 0 0) [])]).length - ((k : Int) + 1).toNat) ++ (rs2 ++ [(CRow.mk (.slice none 0 0) [])]).drop (((k : Int) + 1).toNat + (((rs2 ++ [(CRow.mk (.slice none 0 0) [])]).drop ((k : Int)).toNat).take ((rs2 ++ [(CRow.mk (.slice none 0 0) [])]).length - ((k : Int) + 1).toNat)).length)).set k (CRow.mk mv us)).flatMap crowC)] (conv_pick (src := [rowE 26 1 (.slice (some ⟨g27, 0, none⟩) 1 1) 1 ([.slice none 0 0]), rowE 3 1 mv us.length (us.map (Value.int .i64)), bigE ps2, rowE 26 1 v28 ((((rs2 ++ [(CRow.mk (.slice none 0 0) [])]).take ((k : Int) + 1).toNat ++ ((rs2 ++ [(CRow.mk (.slice none 0 0) [])]).drop ((k : Int)).toNat).take ((rs2 ++ [(CRow.mk (.slice none 0 0) [])]).length - ((k : Int) + 1).toNat) ++ (rs2 ++ [(CRow.mk (.slice none 0 0) [])]).drop (((k : Int) + 1).toNat + (((rs2 ++ [(CRow.mk (.slice none 0 0) [])]).drop ((k : Int)).toNat).take ((rs2 ++ [(CRow.mk (.slice none 0 0) [])]).length - ((k : Int) + 1).toNat)).length)).set k (CRow.mk mv us)).length) ((((rs2 ++ [(CRow.mk (.slice none 0 0) [])]).take ((k : Int) + 1).toNat ++ ((rs2 ++ [(CRow.mk (.slice none 0 0) [])]).drop ((k : Int)).toNat).take ((rs2 ++ [(CRow.mk (.slice none 0 0) [])]).length - ((k : Int) + 1).toNat) ++ (rs2 ++ [(CRow.mk (.slice none 0 0) [])]).drop (((k : Int) + 1).toNat + (((rs2 ++ [(CRow.mk (.slice none 0 0) [])]).drop ((k : Int)).toNat).take ((rs2 ++ [(CRow.mk (.slice none 0 0) [])]).length - ((k : Int) + 1).toNat)).length)).set k (CRow.mk mv us)).flatMap crowC)]) (dst := [bigE ps2, rowE 3 1 mv us.length (us.map (Value.int .i64)), rowE 26 1 (.slice (some ⟨g27, 0, none⟩) 1 1) 1 ([.slice none 0 0]), rowE 26 1 v28 ((((rs2 ++ [(CRow.mk (.slice none 0 0) [])]).take ((k : Int) + 1).toNat ++ ((rs2 ++ [(CRow.mk (.slice none 0 0) [])]).drop ((k : Int)).toNat).take ((rs2 ++ [(CRow.mk (.slice none 0 0) [])]).length - ((k : Int) + 1).toNat) ++ (rs2 ++ [(CRow.mk (.slice none 0 0) [])]).drop (((k : Int) + 1).toNat + (((rs2 ++ [(CRow.mk (.slice none 0 0) [])]).drop ((k : Int)).toNat).take ((rs2 ++ [(CRow.mk (.slice none 0 0) [])]).length - ((k : Int) + 1).toNat)).length)).set k (CRow.mk mv us)).length) ((((rs2 ++ [(CRow.mk (.slice none 0 0) [])]).take ((k : Int) + 1).toNat ++ ((rs2 ++ [(CRow.mk (.slice none 0 0) [])]).drop ((k : Int)).toNat).take ((rs2 ++ [(CRow.mk (.slice none 0 0) [])]).length - ((k : Int) + 1).toNat) ++ (rs2 ++ [(CRow.mk (.slice none 0 0) [])]).drop (((k : Int) + 1).toNat + (((rs2 ++ [(CRow.mk (.slice none 0 0) [])]).drop ((k : Int)).toNat).take ((rs2 ++ [(CRow.mk (.slice none 0 0) [])]).length - ((k : Int) + 1).toNat)).length)).set k (CRow.mk mv us)).flatMap crowC)]) (l := []) [2, 1, 0, 3] (by decide) rfl) ?_
        refine hq_conv [bigE [bigE ps2, rowE 3 1 mv us.length (us.map (Value.int .i64))], rowE 26 1 (.slice (some ⟨g27, 0, none⟩) 1 1) 1 ([.slice none 0 0]), rowE 26 1 v28 ((((rs2 ++ [(CRow.mk (.slice none 0 0) [])]).take ((k : Int) + 1).toNat ++ ((rs2 ++ [(CRow.mk (.slice none 0 0) [])]).drop ((k : Int)).toNat).take ((rs2 ++ [(CRow.mk (.slice none 0 0) [])]).length - ((k : Int) + 1).toNat) ++ (rs2 ++ [(CRow.mk (.slice none 0 0) [])]).drop (((k : Int) + 1).toNat + (((rs2 ++ [(CRow.mk (.slice none 0 0) [])]).drop ((k : Int)).toNat).take ((rs2 ++ [(CRow.mk (.slice none 0 0) [])]).length - ((k : Int) + 1).toNat)).length)).set k (CRow.mk mv us)).length) ((((rs2 ++ [(CRow.mk (.slice none 0 0) [])]).take ((k : Int) + 1).toNat ++ ((rs2 ++ [(CRow.mk (.slice none 0 0) [])]).drop ((k : Int)).toNat).take ((rs2 ++ [(CRow.mk (.slice none 0 0) [])]).length - ((k : Int) + 1).toNat) ++ (rs2 ++ [(CRow.mk (.slice none 0 0) [])]).drop (((k : Int) + 1).toNat + (((rs2 ++ [(CRow.mk (.slice none 0 0) [])]).drop ((k : Int)).toNat).take ((rs2 ++ [(CRow.mk (.slice none 0 0) [])]).length - ((k : Int) + 1).toNat)).length)).set k (CRow.mk mv us)).flatMap crowC)] (conv_bigN [bigE ps2, rowE 3 1 mv us.length (us.map (Value.int .i64))] _ rfl) ?_
        exact hq_round4 (j + 1) (((rs2 ++ [(CRow.mk (.slice none 0 0) [])]).take ((k : Int) + 1).toNat ++ ((rs2 ++ [(CRow.mk (.slice none 0 0) [])]).drop ((k : Int)).toNat).take ((rs2 ++ [(CRow.mk (.slice none 0 0) [])]).length - ((k : Int) + 1).toNat) ++ (rs2 ++ [(CRow.mk (.slice none 0 0) [])]).drop (((k : Int) + 1).toNat + (((rs2 ++ [(CRow.mk (.slice none 0 0) [])]).drop ((k : Int)).toNat).take ((rs2 ++ [(CRow.mk (.slice none 0 0) [])]).length - ((k : Int) + 1).toNat)).length)).set k (CRow.mk mv us)) v28 [bigE ps2, rowE 3 1 mv us.length (us.map (Value.int .i64))] ⟨by omega, hcd2.put (u := CRow.mk mv us) (by omega) (by omega) (hmj (by assumption)) (shift_lenT hk) (fun q hq => shift_memT hk hq), fun w hw => RdsAll.cons (u := CRow.mk mv us) (hps2 w (big_part hw List.mem_cons_self)) (rdsW_own (big_part hw (List.mem_cons_of_mem _ List.mem_cons_self))) (fun q hq => shift_memT hk hq)⟩ (by omega) (sx 0 rfl (sx 1 rfl (sx 4 rfl (sx 5 rfl (sx 7 rfl (sx 19 rfl (sx 20 rfl (sx 21 rfl (sx 22 rfl (sx 25 rfl (sx 26 rfl (sx 27 rfl (sub_nil _))))))))))))) ((.cons_cons _ (.cons _ (.cons_cons _ .slnil))))
     ·
      refine hl_v rfl rfl rfl (rv_ev rfl) ?_
      refine hl_skip rfl rfl rfl ?_
      refine hl_skip rfl rfl rfl ?_
      refine hl_skip rfl rfl rfl ?_
      refine hl_skip rfl rfl rfl ?_
      refine hl_skip rfl rfl rfl ?_
      refine hl_skip rfl rfl rfl ?_
      refine hl_v rfl rfl rfl (rv_ev rfl) ?_
      refine hl_less (sx 0 rfl (sx 1 rfl (sx 4 rfl (sx 5 rfl (sx 7 rfl (sx 9 rfl (sx 10 rfl (sx 11 rfl (sx 12 rfl (sx 19 rfl (sx 20 rfl (sx 21 rfl (sx 22 rfl (sx 25 rfl (sx 26 rfl (sx 27 rfl (sx 28 rfl (sx 38 rfl (sx 50 rfl (sx 64 rfl (sub_nil _))))))))))))))))))))) (.refl _) ?_
      refine hl_nil ?_
      refine hq_then ?_
      refine hc_false rfl ?_
      refine hc_skip ?_
      refine hq_then ?_
      refine hc_seq ?_
      refine hc_region ?_
      refine hl_v rfl rfl rfl (rv_ev rfl) ?_
      refine hl_row rfl rfl rfl (rq_buildSlice (z := .slice none 0 0) (s := 1) (cs := [.slice none 0 0]) rfl Try.underlying40 (by kernel_rfl) (by decide) rfl (by kernel_rfl) rfl) ?_
      intro g32
      refine hl_append (i := 3) (z := .slice none 0 0) (bytes := 24) (n' := (rs2 ++ [(CRow.mk (.slice none 0 0) [])]).length) (xs' := ((rs2 ++ [(CRow.mk (.slice none 0 0) [])]).flatMap crowC)) (L := fun v33 => [rowE 26 1 (.slice (some ⟨g32, 0, none⟩) 1 1) 1 ([.slice none 0 0]), rowE 3 1 mv us.length (us.map (Value.int .i64)), bigE ps2, rowE 26 1 v33 ((rs2 ++ [(CRow.mk (.slice none 0 0) [])]).length) ((rs2 ++ [(CRow.mk (.slice none 0 0) [])]).flatMap crowC)]) rfl rfl rfl rfl Try.underlying40 (by kernel_rfl) (by kernel_rfl) rfl rfl rfl (rd_row 0 rfl) (by simp [Value.oneCell']) (by first | omega | (simp only [List.length_append, List.length_cons, List.length_nil]; omega)) (len_app rs2 [(CRow.mk (.slice none 0 0) [])]) (flat_app1 crowC rs2 (CRow.mk (.slice none 0 0) []) _ rfl) (fun _ => rfl) ?_
      intro v33
      refine hl_v rfl rfl rfl (rv_ev rfl) ?_
      refine hl_less (sx 0 rfl (sx 1 rfl (sx 4 rfl (sx 5 rfl (sx 7 rfl (sx 9 rfl (sx 10 rfl (sx 11 rfl (sx 12 rfl (sx 19 rfl (sx 20 rfl (sx 21 rfl (sx 22 rfl (sx 25 rfl (sx 26 rfl (sx 27 rfl (sx 28 rfl (sx 38 rfl (sx 50 rfl (sx 64 rfl (sub_nil _))))))))))))))))))))) (.refl _) ?_
      refine hl_nil ?_
      refine hq_then ?_
      refine hc_seq ?_
      have hln : (rs2 ++ [CRow.mk (.slice none 0 0) []]).length = rs2.length + 1 := by simp
      refine hc_draw (by kernel_rfl) 7 [0, 1, 2, 3, 4, 5, 6] (List.take 7 _) (List.drop 7 _) [[], [], [1], [0, 2], [], [], [4, 5]] [68, 69, 70, 71, 72, 73, 74] (fun i_ vs_ v_ p_ => match i_ with | 0 => v_ = v33 ∧ p_ = [] | 1 => v_ = .int .i64 (k : Int) ∧ p_ = [] | 2 => v_ = .int .i64 ((k : Int) + 1) ∧ p_ = [] | 3 => v_ = slV v33 ((k : Int) + 1).toNat ((rs2 ++ [(CRow.mk (.slice none 0 0) [])]).length) 1 ∧ p_ = [] | 4 => v_ = v33 ∧ p_ = [] | 5 => v_ = .int .i64 (k : Int) ∧ p_ = [] | 6 => v_ = slV v33 ((k : Int)).toNat ((rs2 ++ [(CRow.mk (.slice none 0 0) [])]).length) 1 ∧ p_ = [] | _ => True) (List.take_append_drop 7 _).symm (by kernel_rfl) (by kernel_rfl) rfl rfl ?_ ?_
      ·
       refine ⟨?_, ?_, ?_, ?_, ?_, ?_, ?_, trivial⟩
       ·
        intro vf pf hR
        refine Or.inl ⟨rfl, ?_⟩
        refine rq_less (sx 5 rfl (sub_nil _)) (List.sublist_append_right _ _) ?_
        exact rq_v (rv_ev rfl)
       ·
        intro vf pf hR
        refine Or.inl ⟨rfl, ?_⟩
        refine rq_less (sx 12 rfl (sub_nil _)) (List.sublist_append_right _ _) ?_
        exact rq_v (rv_ev rfl)
       ·
        intro vf pf hR
        have e1 : (vf 1) = .int .i64 (k : Int) ∧ (pf 1) = [] := hR 1 (by decide)
        refine Or.inl ⟨rfl, ?_⟩
        refine rq_less (sx 69 (congrArg some e1.1) (sub_nil _)) (List.sublist_append_right _ _) ?_
        exact rq_v (rv_add rfl rfl rfl (by constructor <;> omega))
       ·
        intro vf pf hR
        have e0 : (vf 0) = v33 ∧ (pf 0) = [] := hR 0 (by decide)
        have e2 : (vf 2) = .int .i64 ((k : Int) + 1) ∧ (pf 2) = [] := hR 2 (by decide)
        refine Or.inl ⟨rfl, ?_⟩
        refine rq_less (sx 68 (congrArg some e0.1) (sx 70 (congrArg some e2.1) (sub_nil _))) (List.sublist_append_right _ _) ?_
        exact rq_v (rv_slL rfl Try.underlying40 (by kernel_rfl) rfl rfl (rd_row 3 rfl) (by omega) (by omega))
       ·
        intro vf pf hR
        refine Or.inl ⟨rfl, ?_⟩
        refine rq_less (sx 5 rfl (sub_nil _)) (List.sublist_append_right _ _) ?_
        exact rq_v (rv_ev rfl)
       ·
        intro vf pf hR
        refine Or.inl ⟨rfl, ?_⟩
        refine rq_less (sx 12 rfl (sub_nil _)) (List.sublist_append_right _ _) ?_
        exact rq_v (rv_ev rfl)
       ·
        intro vf pf hR
        have e4 : (vf 4) = v33 ∧ (pf 4) = [] := hR 4 (by decide)
        have e5 : (vf 5) = .int .i64 (k : Int) ∧ (pf 5) = [] := hR 5 (by decide)
        refine Or.inl ⟨rfl, ?_⟩
        refine rq_less (sx 72 (congrArg some e4.1) (sx 73 (congrArg some e5.1) (sub_nil _))) (List.sublist_append_right _ _) ?_
        exact rq_v (rv_slL rfl Try.underlying40 (by kernel_rfl) rfl rfl (rd_row 3 rfl) (by omega) (by omega))
      ·
       intro vf pf hR
       have e3 : (vf 3) = slV v33 ((k : Int) + 1).toNat ((rs2 ++ [(CRow.mk (.slice none 0 0) [])]).length) 1 ∧ (pf 3) = [] := hR 3 (by decide)
       have e6 : (vf 6) = slV v33 ((k : Int)).toNat ((rs2 ++ [(CRow.mk (.slice none 0 0) [])]).length) 1 ∧ (pf 6) = [] := hR 6 (by decide)
       refine hl_less (l' := [rowE 26 1 (.slice (some ⟨g32, 0, none⟩) 1 1) 1 ([.slice none 0 0]), rowE 3 1 mv us.length (us.map (Value.int .i64)), bigE ps2, rowE 26 1 v33 ((rs2 ++ [(CRow.mk (.slice none 0 0) [])]).length) ((rs2 ++ [(CRow.mk (.slice none 0 0) [])]).flatMap crowC)]) (sx 0 rfl (sx 1 rfl (sx 4 rfl (sx 5 rfl (sx 7 rfl (sx 9 rfl (sx 10 rfl (sx 11 rfl (sx 12 rfl (sx 19 rfl (sx 20 rfl (sx 21 rfl (sx 22 rfl (sx 25 rfl (sx 26 rfl (sx 27 rfl (sx 28 rfl (sx 38 rfl (sx 50 rfl (sx 64 rfl (sx 71 (congrArg some e3.1) (sx 74 (congrArg some e6.1) (sub_nil _))))))))))))))))))))))) (List.sublist_append_right _ _) ?_
       simp only [List.drop_succ_cons, List.drop_zero]
       refine hl_know (p := ∀ u ∈ (rs2 ++ [CRow.mk (.slice none 0 0) []]).flatMap crowC, u.oneCell' = true) (fun w hm => flat_onesC (fun r hr => (List.mem_append.1 hr).elim (fun h => (hps2 w (hm.holds _ (mem_at (i := 2) rfl)) r h).one') (fun h => by rw [List.mem_singleton] at h; subst h; rfl))) (fun hc1 => ?_)
       have hl35 : ((rs2 ++ [(CRow.mk (.slice none 0 0) [])]).take ((k : Int) + 1).toNat ++ ((rs2 ++ [(CRow.mk (.slice none 0 0) [])]).drop ((k : Int)).toNat).take ((rs2 ++ [(CRow.mk (.slice none 0 0) [])]).length - ((k : Int) + 1).toNat) ++ (rs2 ++ [(CRow.mk (.slice none 0 0) [])]).drop (((k : Int) + 1).toNat + (((rs2 ++ [(CRow.mk (.slice none 0 0) [])]).drop ((k : Int)).toNat).take ((rs2 ++ [(CRow.mk (.slice none 0 0) [])]).length - ((k : Int) + 1).toNat)).length)).length = (rs2 ++ [(CRow.mk (.slice none 0 0) [])]).length := by simp only [List.length_append, List.length_take, List.length_drop, List.length_cons, List.length_nil]; omega
       refine hl_copyOwn (i := 3) (n := (rs2 ++ [(CRow.mk (.slice none 0 0) [])]).length) (lo := ((k : Int) + 1).toNat) (xs' := (((rs2 ++ [(CRow.mk (.slice none 0 0) [])]).take ((k : Int) + 1).toNat ++ ((rs2 ++ [(CRow.mk (.slice none 0 0) [])]).drop ((k : Int)).toNat).take ((rs2 ++ [(CRow.mk (.slice none 0 0) [])]).length - ((k : Int) + 1).toNat) ++ (rs2 ++ [(CRow.mk (.slice none 0 0) [])]).drop (((k : Int) + 1).toNat + (((rs2 ++ [(CRow.mk (.slice none 0 0) [])]).drop ((k : Int)).toNat).take ((rs2 ++ [(CRow.mk (.slice none 0 0) [])]).length - ((k : Int) + 1).toNat)).length)).flatMap crowC)) (l' := [rowE 26 1 (.slice (some ⟨g32, 0, none⟩) 1 1) 1 ([.slice none 0 0]), rowE 3 1 mv us.length (us.map (Value.int .i64)), bigE ps2, rowE 26 1 v33 ((rs2 ++ [(CRow.mk (.slice none 0 0) [])]).length) (((rs2 ++ [(CRow.mk (.slice none 0 0) [])]).take ((k : Int) + 1).toNat ++ ((rs2 ++ [(CRow.mk (.slice none 0 0) [])]).drop ((k : Int)).toNat).take ((rs2 ++ [(CRow.mk (.slice none 0 0) [])]).length - ((k : Int) + 1).toNat) ++ (rs2 ++ [(CRow.mk (.slice none 0 0) [])]).drop (((k : Int) + 1).toNat + (((rs2 ++ [(CRow.mk (.slice none 0 0) [])]).drop ((k : Int)).toNat).take ((rs2 ++ [(CRow.mk (.slice none 0 0) [])]).length - ((k : Int) + 1).toNat)).length)).flatMap crowC)]) rfl rfl rfl rfl Try.underlying40 (by kernel_rfl) rfl rfl rfl (by omega) (rd_slLs (f := crowC) (fun _ => rfl) (rd_row 3 rfl) (by omega)) (fun q hq => hc1 q (by obtain ⟨r, hr, h9⟩ := List.mem_flatMap.1 hq; exact List.mem_flatMap.2 ⟨r, List.mem_of_mem_drop hr, h9⟩)) (flat_splice crowC (fun r => r.v) (fun _ => rfl) _ _ _ _) rfl (fun c34 => ?_)
       refine hl_eqL (l' := [rowE 26 1 (.slice (some ⟨g32, 0, none⟩) 1 1) 1 ([.slice none 0 0]), rowE 3 1 mv us.length (us.map (Value.int .i64)), bigE ps2, rowE 26 1 v33 (((rs2 ++ [(CRow.mk (.slice none 0 0) [])]).take ((k : Int) + 1).toNat ++ ((rs2 ++ [(CRow.mk (.slice none 0 0) [])]).drop ((k : Int)).toNat).take ((rs2 ++ [(CRow.mk (.slice none 0 0) [])]).length - ((k : Int) + 1).toNat) ++ (rs2 ++ [(CRow.mk (.slice none 0 0) [])]).drop (((k : Int) + 1).toNat + (((rs2 ++ [(CRow.mk (.slice none 0 0) [])]).drop ((k : Int)).toNat).take ((rs2 ++ [(CRow.mk (.slice none 0 0) [])]).length - ((k : Int) + 1).toNat)).length)).length) (((rs2 ++ [(CRow.mk (.slice none 0 0) [])]).take ((k : Int) + 1).toNat ++ ((rs2 ++ [(CRow.mk (.slice none 0 0) [])]).drop ((k : Int)).toNat).take ((rs2 ++ [(CRow.mk (.slice none 0 0) [])]).length - ((k : Int) + 1).toNat) ++ (rs2 ++ [(CRow.mk (.slice none 0 0) [])]).drop (((k : Int) + 1).toNat + (((rs2 ++ [(CRow.mk (.slice none 0 0) [])]).drop ((k : Int)).toNat).take ((rs2 ++ [(CRow.mk (.slice none 0 0) [])]).length - ((k : Int) + 1).toNat)).length)).flatMap crowC)]) (by rw [hl35]) ?_
       refine hl_less (sx 0 rfl (sx 1 rfl (sx 4 rfl (sx 5 rfl (sx 7 rfl (sx 9 rfl (sx 10 rfl (sx 11 rfl (sx 12 rfl (sx 19 rfl (sx 20 rfl (sx 21 rfl (sx 22 rfl (sx 25 rfl (sx 26 rfl (sx 27 rfl (sx 28 rfl (sx 38 rfl (sx 50 rfl (sx 64 rfl (sub_nil _))))))))))))))))))))) (.refl _) ?_
       refine hl_nil ?_
       refine hq_then ?_
       refine hc_region ?_
       refine hl_v rfl rfl rfl (rv_ev rfl) ?_
       refine hl_v rfl rfl rfl (rv_ev rfl) ?_
       refine hl_v rfl rfl rfl (rv_ev rfl) ?_
       refine hl_v rfl rfl rfl (rv_index (s := 1) rfl Try.underlying40 (by kernel_rfl) rfl rfl (rd_row 3 rfl) (by omega) (by first | omega | (simp only [List.length_set]; omega))) ?_
       refine hl_one (i := 1) rfl (fun ho36 => ?_)
       refine hl_storeEl (i := 3) (n' := (((rs2 ++ [(CRow.mk (.slice none 0 0) [])]).take ((k : Int) + 1).toNat ++ ((rs2 ++ [(CRow.mk (.slice none 0 0) [])]).drop ((k : Int)).toNat).take ((rs2 ++ [(CRow.mk (.slice none 0 0) [])]).length - ((k : Int) + 1).toNat) ++ (rs2 ++ [(CRow.mk (.slice none 0 0) [])]).drop (((k : Int) + 1).toNat + (((rs2 ++ [(CRow.mk (.slice none 0 0) [])]).drop ((k : Int)).toNat).take ((rs2 ++ [(CRow.mk (.slice none 0 0) [])]).length - ((k : Int) + 1).toNat)).length)).set k (CRow.mk mv us)).length) (xs' := ((((rs2 ++ [(CRow.mk (.slice none 0 0) [])]).take ((k : Int) + 1).toNat ++ ((rs2 ++ [(CRow.mk (.slice none 0 0) [])]).drop ((k : Int)).toNat).take ((rs2 ++ [(CRow.mk (.slice none 0 0) [])]).length - ((k : Int) + 1).toNat) ++ (rs2 ++ [(CRow.mk (.slice none 0 0) [])]).drop (((k : Int) + 1).toNat + (((rs2 ++ [(CRow.mk (.slice none 0 0) [])]).drop ((k : Int)).toNat).take ((rs2 ++ [(CRow.mk (.slice none 0 0) [])]).length - ((k : Int) + 1).toNat)).length)).set k (CRow.mk mv us)).flatMap crowC)) (l' := [rowE 26 1 (.slice (some ⟨g32, 0, none⟩) 1 1) 1 ([.slice none 0 0]), rowE 3 1 mv us.length (us.map (Value.int .i64)), bigE ps2, rowE 26 1 v33 ((((rs2 ++ [(CRow.mk (.slice none 0 0) [])]).take ((k : Int) + 1).toNat ++ ((rs2 ++ [(CRow.mk (.slice none 0 0) [])]).drop ((k : Int)).toNat).take ((rs2 ++ [(CRow.mk (.slice none 0 0) [])]).length - ((k : Int) + 1).toNat) ++ (rs2 ++ [(CRow.mk (.slice none 0 0) [])]).drop (((k : Int) + 1).toNat + (((rs2 ++ [(CRow.mk (.slice none 0 0) [])]).drop ((k : Int)).toNat).take ((rs2 ++ [(CRow.mk (.slice none 0 0) [])]).length - ((k : Int) + 1).toNat)).length)).set k (CRow.mk mv us)).length) ((((rs2 ++ [(CRow.mk (.slice none 0 0) [])]).take ((k : Int) + 1).toNat ++ ((rs2 ++ [(CRow.mk (.slice none 0 0) [])]).drop ((k : Int)).toNat).take ((rs2 ++ [(CRow.mk (.slice none 0 0) [])]).length - ((k : Int) + 1).toNat) ++ (rs2 ++ [(CRow.mk (.slice none 0 0) [])]).drop (((k : Int) + 1).toNat + (((rs2 ++ [(CRow.mk (.slice none 0 0) [])]).drop ((k : Int)).toNat).take ((rs2 ++ [(CRow.mk (.slice none 0 0) [])]).length - ((k : Int) + 1).toNat)).length)).set k (CRow.mk mv us)).flatMap crowC)]) rfl rfl rfl (by kernel_rfl) rfl rfl ho36 rfl (by first | omega | (simp only [List.length_set]; omega)) List.length_set.symm (flat_set1 crowC (fun r => r.v) (fun _ => rfl) _ (CRow.mk mv us) rfl) rfl ?_
       refine hl_less (sx 0 rfl (sx 1 rfl (sx 4 rfl (sx 5 rfl (sx 7 rfl (sx 9 rfl (sx 10 rfl (sx 11 rfl (sx 12 rfl (sx 19 rfl (sx 20 rfl (sx 21 rfl (sx 22 rfl (sx 25 rfl (sx 26 rfl (sx 27 rfl (sx 28 rfl (sx 38 rfl (sx 50 rfl (sx 64 rfl (sub_nil _))))))))))))))))))))) (.refl _) ?_
       refine hl_nil ?_
       refine hq_block_normal ?_
       refine hq_then ?_
       refine hc_region ?_
       refine hl_v rfl rfl rfl (rv_add rfl rfl rfl (by constructor <;> omega)) ?_
       refine hl_v rfl rfl rfl (rv_ev rfl) ?_
       refine hl_less (sx 0 rfl (sx 1 rfl (sx 4 rfl (sx 5 rfl (sx 7 rfl (sx 9 rfl (sx 10 rfl (sx 11 rfl (sx 12 rfl (sx 19 rfl (sx 20 rfl (sx 21 rfl (sx 22 rfl (sx 25 rfl (sx 26 rfl (sx 27 rfl (sx 28 rfl (sx 38 rfl (sx 50 rfl (sx 64 rfl (sub_nil _))))))))))))))))))))) (.refl _) ?_
       refine hl_nil ?_
       refine hq_conv [bigE ps2, rowE 3 1 mv us.length (us.map (Value.int .i64)), rowE 26 1 (.slice (some ⟨g32, 0, none⟩) 1 1) 1 ([.slice none 0 0]), rowE 26 1 v33 ((((rs2 ++ [(CRow.mk (.slice none 0 0) [])]).take ((k : Int) + 1).toNat ++ ((rs2 ++ [(CRow.mk (.slice none 0 0) [])]).drop ((k : Int)).toNat).take ((rs2 ++ [(CRow.mk (.slice none 0 0) [])]).length - ((k : Int) + 1).toNat) ++ (rs2 ++ [(CRow.mk (.slice none 0 0) [])]).drop (((k : Int) + 1).toNat + (((rs2 ++ [(CRow.mk (.slice none 0 0) [])]).drop ((k : Int)).toNat).take ((rs2 ++ [(CRow.mk (.slice none 0 0) [])]).length - ((k : Int) + 1).toNat)).length)).set k (CRow.mk mv us)).length) ((((rs2 ++ [(CRow.mk (.slice none 0 0) [])]).take ((k : Int) + 1).toNat ++ ((rs2 ++ [(CRow.mk (.slice none 0 0) [])]).drop ((k : Int)).toNat).take ((rs2 ++ [(CRow.mk (.slice none 0 0) [])]).length - ((k : Int) + 1).toNat) ++ (rs2 ++ [(CRow.mk (.slice none 0 0) [])]).drop (((k : Int) + 1).toNat + (((rs2 ++ [(CRow.mk (.slice none 0 0) [])]).drop ((k : Int)).toNat).take ((rs2 ++ [(CRow.mk (.slice none 0 0) [])]).length - ((k : Int) + 1).toNat)).length)).set k (CRow.mk mv us)).flatMap crowC)] (conv_pick (src := [rowE 26 1 (.slice (some ⟨g32, 0, none⟩) 1 1) 1 ([.slice none 0 0]), rowE 3 1 mv us.length (us.map (Value.int .i64)), bigE ps2, rowE 26 1 v33 ((((rs2 ++ [(CRow.mk (.slice none 0 0) [])]).take ((k : Int) + 1).toNat ++ ((rs2 ++ [(CRow.mk (.slice none 0 0) [])]).drop ((k : Int)).toNat).take ((rs2 ++ [(CRow.mk (.slice none 0 0) [])]).length - ((k : Int) + 1).toNat) ++ (rs2 ++ [(CRow.mk (.slice none 0 0) [])]).drop (((k : Int) + 1).toNat + (((rs2 ++ [(CRow.mk (.slice none 0 0) [])]).drop ((k : Int)).toNat).take ((rs2 ++ [(CRow.mk (.slice none 0 0) [])]).length - ((k : Int) + 1).toNat)).length)).set k (CRow.mk mv us)).length) ((((rs2 ++ [(CRow.mk (.slice none 0 0) [])]).take ((k : Int) + 1).toNat ++ ((rs2 ++ [(CRow.mk (.slice none 0 0) [])]).drop ((k : Int)).toNat).take ((rs2 ++ [(CRow.mk (.slice none 0 0) [])]).length - ((k : Int) + 1).toNat) ++ (rs2 ++ [(CRow.mk (.slice none 0 0) [])]).drop (((k : Int) + 1).toNat + (((rs2 ++ [(CRow.mk (.slice none 0 0) [])]).drop ((k : Int)).toNat).take ((rs2 ++ [(CRow.mk (.slice none 0 0) [])]).length - ((k : Int) + 1).toNat)).length)).set k (CRow.mk mv us)).flatMap crowC)]) (dst := [bigE ps2, rowE 3 1 mv us.length (us.map (Value.int .i64)), rowE 26 1 (.slice (some ⟨g32, 0, none⟩) 1 1) 1 ([.slice none 0 0]), rowE 26 1 v33 ((((rs2 ++ [(CRow.mk (.slice none 0 0) [])]).take ((k : Int) + 1).toNat ++ ((rs2 ++ [(CRow.mk (.slice none 0 0) [])]).drop ((k : Int)).toNat).take ((rs2 ++ [(CRow.mk (.slice none 0 0) [])]).length - ((k : Int) + 1).toNat) ++ (rs2 ++ [(CRow.mk (.slice none 0 0) [])]).drop (((k : Int) + 1).toNat + (((rs2 ++ [(CRow.mk (.slice none 0 0) [])]).drop ((k : Int)).toNat).take ((rs2 ++ [(CRow.mk (.slice none 0 0) [])]).length - ((k : Int) + 1).toNat)).length)).set k (CRow.mk mv us)).length) ((((rs2 ++ [(CRow.mk (.slice none 0 0) [])]).take ((k : Int) + 1).toNat ++ ((rs2 ++ [(CRow.mk (.slice none 0 0) [])]).drop ((k : Int)).toNat).take ((rs2 ++ [(CRow.mk (.slice none 0 0) [])]).length - ((k : Int) + 1).toNat) ++ (rs2 ++ [(CRow.mk (.slice none 0 0) [])]).drop (((k : Int) + 1).toNat + (((rs2 ++ [(CRow.mk (.slice none 0 0) [])]).drop ((k : Int)).toNat).take ((rs2 ++ [(CRow.mk (.slice none 0 0) [])]).length - ((k : Int) + 1).toNat)).length)).set k (CRow.mk mv us)).flatMap crowC)]) (l := []) [2, 1, 0, 3] (by decide) rfl) ?_
       refine hq_conv [bigE [bigE ps2, rowE 3 1 mv us.length (us.map (Value.int .i64))], rowE 26 1 (.slice (some ⟨g32, 0, none⟩) 1 1) 1 ([.slice none 0 0]), rowE 26 1 v33 ((((rs2 ++ [(CRow.mk (.slice none 0 0) [])]).take ((k : Int) + 1).toNat ++ ((rs2 ++ [(CRow.mk (.slice none 0 0) [])]).drop ((k : Int)).toNat).take ((rs2 ++ [(CRow.mk (.slice none 0 0) [])]).length - ((k : Int) + 1).toNat) ++ (rs2 ++ [(CRow.mk (.slice none 0 0) [])]).drop (((k : Int) + 1).toNat + (((rs2 ++ [(CRow.mk (.slice none 0 0) [])]).drop ((k : Int)).toNat).take ((rs2 ++ [(CRow.mk (.slice none 0 0) [])]).length - ((k : Int) + 1).toNat)).length)).set k (CRow.mk mv us)).length) ((((rs2 ++ [(CRow.mk (.slice none 0 0) [])]).take ((k : Int) + 1).toNat ++ ((rs2 ++ [(CRow.mk (.slice none 0 0) [])]).drop ((k : Int)).toNat).take ((rs2 ++ [(CRow.mk (.slice none 0 0) [])]).length - ((k : Int) + 1).toNat) ++ (rs2 ++ [(CRow.mk (.slice none 0 0) [])]).drop (((k : Int) + 1).toNat + (((rs2 ++ [(CRow.mk (.slice none 0 0) [])]).drop ((k : Int)).toNat).take ((rs2 ++ [(CRow.mk (.slice none 0 0) [])]).length - ((k : Int) + 1).toNat)).length)).set k (CRow.mk mv us)).flatMap crowC)] (conv_bigN [bigE ps2, rowE 3 1 mv us.length (us.map (Value.int .i64))] _ rfl) ?_
       exact hq_round4 (j + 1) (((rs2 ++ [(CRow.mk (.slice none 0 0) [])]).take ((k : Int) + 1).toNat ++ ((rs2 ++ [(CRow.mk (.slice none 0 0) [])]).drop ((k : Int)).toNat).take ((rs2 ++ [(CRow.mk (.slice none 0 0) [])]).length - ((k : Int) + 1).toNat) ++ (rs2 ++ [(CRow.mk (.slice none 0 0) [])]).drop (((k : Int) + 1).toNat + (((rs2 ++ [(CRow.mk (.slice none 0 0) [])]).drop ((k : Int)).toNat).take ((rs2 ++ [(CRow.mk (.slice none 0 0) [])]).length - ((k : Int) + 1).toNat)).length)).set k (CRow.mk mv us)) v33 [bigE ps2, rowE 3 1 mv us.length (us.map (Value.int .i64))] ⟨by omega, hcd2.put (u := CRow.mk mv us) (by omega) (by omega) (hmj (by assumption)) (shift_lenT hk) (fun q hq => shift_memT hk hq), fun w hw => RdsAll.cons (u := CRow.mk mv us) (hps2 w (big_part hw List.mem_cons_self)) (rdsW_own (big_part hw (List.mem_cons_of_mem _ List.mem_cons_self))) (fun q hq => shift_memT hk hq)⟩ (by omega) (sx 0 rfl (sx 1 rfl (sx 4 rfl (sx 5 rfl (sx 7 rfl (sx 19 rfl (sx 20 rfl (sx 21 rfl (sx 22 rfl (sx 25 rfl (sx 26 rfl (sx 27 rfl (sub_nil _))))))))))))) ((.cons_cons _ (.cons _ (.cons_cons _ .slnil))))
   ·
    refine hl_v rfl rfl rfl (rv_ev rfl) ?_
    refine hl_v rfl rfl rfl (rv_ev rfl) ?_
    refine hl_less (sx 0 rfl (sx 1 rfl (sx 4 rfl (sx 5 rfl (sx 7 rfl (sx 9 rfl (sx 10 rfl (sx 11 rfl (sx 19 rfl (sx 20 rfl (sx 21 rfl (sx 22 rfl (sx 25 rfl (sx 26 rfl (sx 27 rfl (sx 28 rfl (sub_nil _))))))))))))))))) (.refl _) ?_
    refine hl_nil ?_
    refine hq_then ?_
    refine hc_seq ?_
    refine hc_seq ?_
    refine hc_region ?_
    refine hl_v rfl rfl rfl (rv_ev rfl) ?_
    refine hl_v rfl rfl rfl (rv_ev rfl) ?_
    refine hl_less (sx 0 rfl (sx 1 rfl (sx 4 rfl (sx 5 rfl (sx 7 rfl (sx 9 rfl (sx 10 rfl (sx 11 rfl (sx 19 rfl (sx 20 rfl (sx 21 rfl (sx 22 rfl (sx 25 rfl (sx 26 rfl (sx 27 rfl (sx 28 rfl (sx 38 rfl (sub_nil _)))))))))))))))))) (.refl _) ?_
    refine hl_nil ?_
    refine hq_then ?_
    refine hc_true rfl ?_
    refine hc_exit ?_
    refine hq_then_exit ?_
    refine hq_block_exit ?_
    refine hq_then ?_
    refine hc_region ?_
    refine hl_v rfl rfl rfl (rv_add rfl rfl rfl (by constructor <;> omega)) ?_
    refine hl_v rfl rfl rfl (rv_ev rfl) ?_
    refine hl_less (sx 0 rfl (sx 1 rfl (sx 4 rfl (sx 5 rfl (sx 7 rfl (sx 9 rfl (sx 10 rfl (sx 11 rfl (sx 19 rfl (sx 20 rfl (sx 21 rfl (sx 22 rfl (sx 25 rfl (sx 26 rfl (sx 27 rfl (sx 28 rfl (sx 38 rfl (sub_nil _)))))))))))))))))) (.refl _) ?_
    refine hl_nil ?_
    exact hq_round4 (j + 1) rs2 av2 ps2 ⟨by omega, hcd2.skip, hps2⟩ (by omega) (sx 0 rfl (sx 1 rfl (sx 4 rfl (sx 5 rfl (sx 7 rfl (sx 19 rfl (sx 20 rfl (sx 21 rfl (sx 22 rfl (sx 25 rfl (sx 26 rfl (sx 27 rfl (sub_nil _))))))))))))) ((.cons _ (.cons_cons _ (.cons_cons _ .slnil))))
  ·
   refine hl_less (sx 0 rfl (sx 1 rfl (sx 4 rfl (sx 5 rfl (sx 7 rfl (sx 19 rfl (sx 20 rfl (sx 21 rfl (sx 22 rfl (sx 25 rfl (sx 26 rfl (sx 27 rfl (sx 28 rfl (sub_nil _)))))))))))))) (.refl _) ?_
   refine hl_nil ?_
   refine hq_then ?_
   refine hc_seq ?_
   refine hc_false rfl ?_
   refine hc_exit ?_
   refine hq_then_exit ?_
   refine hq_then_exit ?_
   refine hq_block_exit ?_
   refine hq_block_normal ?_
   refine hq_then ?_
   refine hc_region ?_
   refine hl_v rfl rfl rfl (rv_add rfl rfl rfl (by constructor <;> omega)) ?_
   refine hl_v rfl rfl rfl (rv_ev rfl) ?_
   refine hl_less (sx 0 rfl (sx 1 rfl (sx 4 rfl (sx 5 rfl (sx 7 rfl (sx 19 rfl (sx 20 rfl (sx 21 rfl (sx 22 rfl (sx 25 rfl (sx 26 rfl (sx 27 rfl (sx 28 rfl (sub_nil _)))))))))))))) (.refl _) ?_
   refine hl_nil ?_
   exact hq_round4 (i + 1) rs2 av2 ps2 ⟨by omega, hcd2.next (by omega), hps2⟩ (by omega) (sx 0 rfl (sx 1 rfl (sx 4 rfl (sx 5 rfl (sx 19 rfl (sx 20 rfl (sx 21 rfl (sub_nil _)))))))) ((.cons_cons _ (.cons_cons _ .slnil)))
 ·
  refine hl_less (sx 0 rfl (sx 1 rfl (sx 4 rfl (sx 5 rfl (sx 19 rfl (sx 20 rfl (sx 21 rfl (sx 22 rfl (sub_nil _))))))))) (.refl _) ?_
  refine hl_nil ?_
  refine hq_then ?_
  refine hc_seq ?_
  refine hc_false rfl ?_
  refine hc_exit ?_
  refine hq_then_exit ?_
  refine hq_then_exit ?_
  refine hq_block_exit ?_
  refine hq_then ?_
  refine hc_seq ?_
  refine hc_region ?_
  refine hl_nilRow 26 1 ?_
  refine hl_eqL (l' := [rowE 26 1 (.slice none 0 0) (([] : List CRow).length) (([] : List CRow).flatMap crowC), bigE ps, rowE 26 1 av rs.length (rs.flatMap crowC)]) rfl ?_
  refine hl_v rfl rfl rfl (rv_ev rfl) ?_
  refine hl_less (sx 0 rfl (sx 1 rfl (sx 4 rfl (sx 5 rfl (sx 13 rfl (sx 19 rfl (sx 20 rfl (sx 21 rfl (sx 22 rfl (sub_nil _)))))))))) (.refl _) ?_
  refine hl_nil ?_
  refine hq_then ?_
  refine hc_seq ?_
  refine hc_seq ?_
  refine hc_region ?_
  refine hl_v rfl rfl rfl (rv_ev rfl) ?_
  refine hl_v rfl rfl rfl (rv_len rfl Try.underlying40 rfl (rd_row 2 rfl)) ?_
  refine hl_v rfl rfl rfl (rv_ev rfl) ?_
  refine hl_less (sx 0 rfl (sx 1 rfl (sx 4 rfl (sx 5 rfl (sx 13 rfl (sx 19 rfl (sx 20 rfl (sx 21 rfl (sx 22 rfl (sx 82 rfl (sx 83 rfl (sx 84 rfl (sub_nil _))))))))))))) (.refl _) ?_
  refine hl_nil ?_
  refine hq_then ?_
  refine hc_block ?_
  refine hc_loop3 (α := Nat) (β := List CRow) (γ := Value) (fun i2 qs ov => [rowE 26 1 ov qs.length (qs.flatMap crowC), bigE ps, rowE 26 1 av rs.length (rs.flatMap crowC)]) (fun i2 qs ov => [(0, u), (1, v), (4, .slice none 0 0), (5, av), (13, ov), (19, u), (20, .int .i64 (ca.length : Int)), (21, .int .i64 (i : Int)), (22, .bool false), (82, av), (83, .int .i64 (rs.length : Int)), (84, .int .i64 (i2 : Int))]) (fun i2 qs ov => i2 ≤ rs.length ∧ qs.length ≤ i2 ∧ ∀ q ∈ qs, q ∈ rs) (fun i2 qs ov => rs.length - i2) 0 [] _ ⟨by omega, by simp, fun q hq => by cases hq⟩ (sx 0 rfl (sx 1 rfl (sx 4 rfl (sx 5 rfl (sx 13 rfl (sx 19 rfl (sx 20 rfl (sx 21 rfl (sx 22 rfl (sx 82 rfl (sx 83 rfl (sx 84 rfl (sub_nil _))))))))))))) ((.cons_cons _ (.cons_cons _ (.cons_cons _ .slnil)))) ?_
  intro i2 qs ov hi38
  obtain ⟨hi2, hql, hqm⟩ := hi38
  refine hc_seq ?_
  refine hc_region ?_
  refine hl_lss rfl rfl rfl rfl rfl rfl (fun h39 => ?_) (fun h39 => ?_)
  ·
   refine hl_less (sx 0 rfl (sx 1 rfl (sx 4 rfl (sx 5 rfl (sx 13 rfl (sx 19 rfl (sx 20 rfl (sx 21 rfl (sx 22 rfl (sx 82 rfl (sx 83 rfl (sx 84 rfl (sx 85 rfl (sub_nil _)))))))))))))) (.refl _) ?_
   refine hl_nil ?_
   refine hq_then ?_
   refine hc_seq ?_
   refine hc_true rfl ?_
   refine hc_skip ?_
   refine hq_then ?_
   refine hc_seq ?_
   refine hc_block ?_
   refine hc_seq ?_
   refine hc_region ?_
   refine hl_v rfl rfl rfl (rv_index (s := 1) rfl Try.underlying40 (by kernel_rfl) rfl rfl (rd_row 2 rfl) (by omega) (by first | omega | (simp only [List.length_set]; omega))) ?_
   refine hl_v rfl rfl rfl (rv_loadEl (u := (rs.getD i2 crow0).v) rfl (by kernel_rfl) rfl (rd_row 2 rfl) (flat_one crowC (fun r => r.v) (fun _ => rfl) rs crow0 (show i2 < _ by first | omega | (simp only [List.length_set]; omega)))) ?_
   refine hl_v rfl rfl rfl (rv_ev rfl) ?_
   refine hl_less (sx 0 rfl (sx 1 rfl (sx 4 rfl (sx 5 rfl (sx 13 rfl (sx 15 rfl (sx 19 rfl (sx 20 rfl (sx 21 rfl (sx 22 rfl (sx 82 rfl (sx 83 rfl (sx 84 rfl (sx 85 rfl (sub_nil _))))))))))))))) (.refl _) ?_
   refine hl_nil ?_
   refine hq_then ?_
   refine hc_seq ?_
   refine hc_region ?_
   refine hl_v rfl rfl rfl (rv_ev rfl) ?_
   refine hl_less (sx 0 rfl (sx 1 rfl (sx 4 rfl (sx 5 rfl (sx 13 rfl (sx 15 rfl (sx 16 rfl (sx 19 rfl (sx 20 rfl (sx 21 rfl (sx 22 rfl (sx 82 rfl (sx 83 rfl (sx 84 rfl (sx 85 rfl (sub_nil _)))))))))))))))) (.refl _) ?_
   refine hl_nil ?_
   refine hq_then ?_
   refine hc_seq ?_
   refine hc_seq ?_
   refine hc_region ?_
   refine hl_v rfl rfl rfl (rv_ev rfl) ?_
   refine hl_v rfl rfl rfl (rv_len rfl Try.underlying40 rfl (rd_row 2 rfl)) ?_
   refine hl_v rfl rfl rfl (rv_ev rfl) ?_
   refine hl_less (sx 0 rfl (sx 1 rfl (sx 4 rfl (sx 5 rfl (sx 13 rfl (sx 15 rfl (sx 16 rfl (sx 19 rfl (sx 20 rfl (sx 21 rfl (sx 22 rfl (sx 82 rfl (sx 83 rfl (sx 84 rfl (sx 85 rfl (sx 88 rfl (sx 89 rfl (sx 90 rfl (sub_nil _))))))))))))))))))) (.refl _) ?_
   refine hl_nil ?_
   refine hq_then ?_
   refine hc_block ?_
   refine hc_loop2 (α := Nat) (β := Bool) (fun j2 fr => [rowE 26 1 ov qs.length (qs.flatMap crowC), bigE ps, rowE 26 1 av rs.length (rs.flatMap crowC)]) (fun j2 fr => [(0, u), (1, v), (4, .slice none 0 0), (5, av), (13, ov), (15, (rs.getD i2 crow0).v), (16, .bool fr), (19, u), (20, .int .i64 (ca.length : Int)), (21, .int .i64 (i : Int)), (22, .bool false), (82, av), (83, .int .i64 (rs.length : Int)), (84, .int .i64 (i2 : Int)), (85, .bool true), (88, av), (89, .int .i64 (rs.length : Int)), (90, .int .i64 (j2 : Int))]) (fun j2 fr => j2 ≤ rs.length) (fun j2 fr => rs.length - j2) 0 true (Nat.zero_le _) (sx 0 rfl (sx 1 rfl (sx 4 rfl (sx 5 rfl (sx 13 rfl (sx 15 rfl (sx 16 rfl (sx 19 rfl (sx 20 rfl (sx 21 rfl (sx 22 rfl (sx 82 rfl (sx 83 rfl (sx 84 rfl (sx 85 rfl (sx 88 rfl (sx 89 rfl (sx 90 rfl (sub_nil _))))))))))))))))))) ((.cons_cons _ (.cons_cons _ (.cons_cons _ .slnil)))) ?_
   intro j2 fr hi40
   have hj2 := hi40
   refine hc_seq ?_
   refine hc_region ?_
   refine hl_lss rfl rfl rfl rfl rfl rfl (fun h41 => ?_) (fun h41 => ?_)
   ·
    refine hl_less (sx 0 rfl (sx 1 rfl (sx 4 rfl (sx 5 rfl (sx 13 rfl (sx 15 rfl (sx 16 rfl (sx 19 rfl (sx 20 rfl (sx 21 rfl (sx 22 rfl (sx 82 rfl (sx 83 rfl (sx 84 rfl (sx 85 rfl (sx 88 rfl (sx 89 rfl (sx 90 rfl (sx 91 rfl (sub_nil _)))))))))))))))))))) (.refl _) ?_
    refine hl_nil ?_
    refine hq_then ?_
    refine hc_seq ?_
    refine hc_true rfl ?_
    refine hc_skip ?_
    refine hq_then ?_
    refine hc_seq ?_
    refine hc_block ?_
    refine hc_seq ?_
    refine hc_region ?_
    refine hl_v rfl rfl rfl (rv_index (s := 1) rfl Try.underlying40 (by kernel_rfl) rfl rfl (rd_row 2 rfl) (by omega) (by first | omega | (simp only [List.length_set]; omega))) ?_
    refine hl_v rfl rfl rfl (rv_loadEl (u := (rs.getD j2 crow0).v) rfl (by kernel_rfl) rfl (rd_row 2 rfl) (flat_one crowC (fun r => r.v) (fun _ => rfl) rs crow0 (show j2 < _ by first | omega | (simp only [List.length_set]; omega)))) ?_
    refine hl_v rfl rfl rfl (rv_ev rfl) ?_
    refine hl_less (sx 0 rfl (sx 1 rfl (sx 4 rfl (sx 5 rfl (sx 13 rfl (sx 15 rfl (sx 16 rfl (sx 18 rfl (sx 19 rfl (sx 20 rfl (sx 21 rfl (sx 22 rfl (sx 82 rfl (sx 83 rfl (sx 84 rfl (sx 85 rfl (sx 88 rfl (sx 89 rfl (sx 90 rfl (sx 91 rfl (sub_nil _))))))))))))))))))))) (.refl _) ?_
    refine hl_nil ?_
    refine hq_then ?_
    refine hc_seq ?_
    refine hc_region ?_
    refine hl_v rfl rfl rfl (rv_ev rfl) ?_
    refine hl_v rfl rfl rfl (rv_len rfl Try.underlying26 rfl (fun w hm => (hps w (hm.holds _ (mem_at (i := 1) rfl))).at (k := j2) (by omega))) ?_
    refine hl_v rfl rfl rfl (rv_ev rfl) ?_
    refine hl_v rfl rfl rfl (rv_len rfl Try.underlying26 rfl (fun w hm => (hps w (hm.holds _ (mem_at (i := 1) rfl))).at (k := i2) (by omega))) ?_
    refine hl_lss rfl rfl rfl rfl rfl rfl (fun h42 => ?_) (fun h42 => ?_)
    ·
     refine hl_v rfl rfl rfl (rv_ev rfl) ?_
     refine hl_v rfl rfl rfl (rv_ev rfl) ?_
     refine hl_v rfl rfl rfl (rv_ev rfl) ?_
     have h4i := hcd.len4 (getD_mem' (es := rs) (i := i2) (d := crow0) (by omega))
     have h4j := hcd.len4 (getD_mem' (es := rs) (i := j2) (d := crow0) (by omega))
     refine hl_callV rfl rfl rfl (rq_call (by kernel_rfl) rfl (fun w hm => ret_ans (containsAll_ans ((rs.getD i2 crow0).xs) ((rs.getD j2 crow0).xs) _ _ w ((fun w hm => (hps w (hm.holds _ (mem_at (i := 1) rfl))).at (k := i2) (by omega)) w hm) ((fun w hm => (hps w (hm.holds _ (mem_at (i := 1) rfl))).at (k := j2) (by omega)) w hm) (by omega)))) ?_
     refine hl_bool (fun h43 => ?_) (fun h43 => ?_)
     ·
      refine hl_v rfl rfl rfl (rv_ev rfl) ?_
      refine hl_less (sx 0 rfl (sx 1 rfl (sx 4 rfl (sx 5 rfl (sx 13 rfl (sx 15 rfl (sx 16 rfl (sx 18 rfl (sx 19 rfl (sx 20 rfl (sx 21 rfl (sx 22 rfl (sx 82 rfl (sx 83 rfl (sx 84 rfl (sx 85 rfl (sx 88 rfl (sx 89 rfl (sx 90 rfl (sx 91 rfl (sx 103 rfl (sub_nil _)))))))))))))))))))))) (.refl _) ?_
      refine hl_nil ?_
      refine hq_then ?_
      refine hc_true rfl ?_
      refine hc_region ?_
      refine hl_v rfl rfl rfl (rv_ev rfl) ?_
      refine hl_less (sx 0 rfl (sx 1 rfl (sx 4 rfl (sx 5 rfl (sx 13 rfl (sx 15 rfl (sx 16 rfl (sx 18 rfl (sx 19 rfl (sx 20 rfl (sx 21 rfl (sx 22 rfl (sx 82 rfl (sx 83 rfl (sx 84 rfl (sx 85 rfl (sx 88 rfl (sx 89 rfl (sx 90 rfl (sx 91 rfl (sx 103 rfl (sub_nil _)))))))))))))))))))))) (.refl _) ?_
      refine hl_nil ?_
      refine hq_block_normal ?_
      refine hq_then ?_
      refine hc_region ?_
      refine hl_v rfl rfl rfl (rv_add rfl rfl rfl (by constructor <;> omega)) ?_
      refine hl_v rfl rfl rfl (rv_ev rfl) ?_
      refine hl_less (sx 0 rfl (sx 1 rfl (sx 4 rfl (sx 5 rfl (sx 13 rfl (sx 15 rfl (sx 16 rfl (sx 18 rfl (sx 19 rfl (sx 20 rfl (sx 21 rfl (sx 22 rfl (sx 82 rfl (sx 83 rfl (sx 84 rfl (sx 85 rfl (sx 88 rfl (sx 89 rfl (sx 90 rfl (sx 91 rfl (sx 103 rfl (sub_nil _)))))))))))))))))))))) (.refl _) ?_
      refine hl_nil ?_
      exact hq_round2 (j2 + 1) false (by omega) (by omega) (sx 0 rfl (sx 1 rfl (sx 4 rfl (sx 5 rfl (sx 13 rfl (sx 15 rfl (sx 16 rfl (sx 19 rfl (sx 20 rfl (sx 21 rfl (sx 22 rfl (sx 82 rfl (sx 83 rfl (sx 84 rfl (sx 85 rfl (sx 88 rfl (sx 89 rfl (sx 90 rfl (sub_nil _))))))))))))))))))) ((.cons_cons _ (.cons_cons _ (.cons_cons _ .slnil))))
     ·
      refine hl_v rfl rfl rfl (rv_ev rfl) ?_
      refine hl_less (sx 0 rfl (sx 1 rfl (sx 4 rfl (sx 5 rfl (sx 13 rfl (sx 15 rfl (sx 16 rfl (sx 18 rfl (sx 19 rfl (sx 20 rfl (sx 21 rfl (sx 22 rfl (sx 82 rfl (sx 83 rfl (sx 84 rfl (sx 85 rfl (sx 88 rfl (sx 89 rfl (sx 90 rfl (sx 91 rfl (sx 103 rfl (sub_nil _)))))))))))))))))))))) (.refl _) ?_
      refine hl_nil ?_
      refine hq_then ?_
      refine hc_false rfl ?_
      refine hc_skip ?_
      refine hq_block_normal ?_
      refine hq_then ?_
      refine hc_region ?_
      refine hl_v rfl rfl rfl (rv_add rfl rfl rfl (by constructor <;> omega)) ?_
      refine hl_v rfl rfl rfl (rv_ev rfl) ?_
      refine hl_less (sx 0 rfl (sx 1 rfl (sx 4 rfl (sx 5 rfl (sx 13 rfl (sx 15 rfl (sx 16 rfl (sx 18 rfl (sx 19 rfl (sx 20 rfl (sx 21 rfl (sx 22 rfl (sx 82 rfl (sx 83 rfl (sx 84 rfl (sx 85 rfl (sx 88 rfl (sx 89 rfl (sx 90 rfl (sx 91 rfl (sx 103 rfl (sub_nil _)))))))))))))))))))))) (.refl _) ?_
      refine hl_nil ?_
      exact hq_round2 (j2 + 1) fr (by omega) (by omega) (sx 0 rfl (sx 1 rfl (sx 4 rfl (sx 5 rfl (sx 13 rfl (sx 15 rfl (sx 16 rfl (sx 19 rfl (sx 20 rfl (sx 21 rfl (sx 22 rfl (sx 82 rfl (sx 83 rfl (sx 84 rfl (sx 85 rfl (sx 88 rfl (sx 89 rfl (sx 90 rfl (sub_nil _))))))))))))))))))) ((.cons_cons _ (.cons_cons _ (.cons_cons _ .slnil))))
    ·
     refine hl_v rfl rfl rfl (rv_ev rfl) ?_
     refine hl_skip rfl rfl rfl ?_
     refine hl_skip rfl rfl rfl ?_
     refine hl_skip rfl rfl rfl ?_
     refine hl_v rfl rfl rfl (rv_ev rfl) ?_
     refine hl_less (sx 0 rfl (sx 1 rfl (sx 4 rfl (sx 5 rfl (sx 13 rfl (sx 15 rfl (sx 16 rfl (sx 18 rfl (sx 19 rfl (sx 20 rfl (sx 21 rfl (sx 22 rfl (sx 82 rfl (sx 83 rfl (sx 84 rfl (sx 85 rfl (sx 88 rfl (sx 89 rfl (sx 90 rfl (sx 91 rfl (sx 103 rfl (sub_nil _)))))))))))))))))))))) (.refl _) ?_
     refine hl_nil ?_
     refine hq_then ?_
     refine hc_false rfl ?_
     refine hc_skip ?_
     refine hq_block_normal ?_
     refine hq_then ?_
     refine hc_region ?_
     refine hl_v rfl rfl rfl (rv_add rfl rfl rfl (by constructor <;> omega)) ?_
     refine hl_v rfl rfl rfl (rv_ev rfl) ?_
     refine hl_less (sx 0 rfl (sx 1 rfl (sx 4 rfl (sx 5 rfl (sx 13 rfl (sx 15 rfl (sx 16 rfl (sx 18 rfl (sx 19 rfl (sx 20 rfl (sx 21 rfl (sx 22 rfl (sx 82 rfl (sx 83 rfl (sx 84 rfl (sx 85 rfl (sx 88 rfl (sx 89 rfl (sx 90 rfl (sx 91 rfl (sx 103 rfl (sub_nil _)))))))))))))))))))))) (.refl _) ?_
     refine hl_nil ?_
     exact hq_round2 (j2 + 1) fr (by omega) (by omega) (sx 0 rfl (sx 1 rfl (sx 4 rfl (sx 5 rfl (sx 13 rfl (sx 15 rfl (sx 16 rfl (sx 19 rfl (sx 20 rfl (sx 21 rfl (sx 22 rfl (sx 82 rfl (sx 83 rfl (sx 84 rfl (sx 85 rfl (sx 88 rfl (sx 89 rfl (sx 90 rfl (sub_nil _))))))))))))))))))) ((.cons_cons _ (.cons_cons _ (.cons_cons _ .slnil))))
   ·
    refine hl_less (sx 0 rfl (sx 1 rfl (sx 4 rfl (sx 5 rfl (sx 13 rfl (sx 15 rfl (sx 16 rfl (sx 19 rfl (sx 20 rfl (sx 21 rfl (sx 22 rfl (sx 82 rfl (sx 83 rfl (sx 84 rfl (sx 85 rfl (sx 88 rfl (sx 89 rfl (sx 90 rfl (sx 91 rfl (sub_nil _)))))))))))))))))))) (.refl _) ?_
    refine hl_nil ?_
    refine hq_then ?_
    refine hc_seq ?_
    refine hc_false rfl ?_
    refine hc_exit ?_
    refine hq_then_exit ?_
    refine hq_then_exit ?_
    refine hq_block_exit ?_
    refine hq_then ?_
    refine hc_seq ?_
    refine hc_region ?_
    refine hl_v rfl rfl rfl (rv_ev rfl) ?_
    refine hl_bool (fun h44 => ?_) (fun h44 => ?_)
    ·
     refine hl_less (sx 0 rfl (sx 1 rfl (sx 4 rfl (sx 5 rfl (sx 13 rfl (sx 15 rfl (sx 16 rfl (sx 19 rfl (sx 20 rfl (sx 21 rfl (sx 22 rfl (sx 82 rfl (sx 83 rfl (sx 84 rfl (sx 85 rfl (sx 88 rfl (sx 89 rfl (sx 90 rfl (sx 91 rfl (sx 105 rfl (sub_nil _))))))))))))))))))))) (.refl _) ?_
     refine hl_nil ?_
     refine hq_then ?_
     refine hc_true rfl ?_
     refine hc_region ?_
     refine hl_v rfl rfl rfl (rv_ev rfl) ?_
     refine hl_v rfl rfl rfl (rv_ev rfl) ?_
     refine hl_know (fun w hm => ((hps w (hm.holds _ (mem_at (i := 1) rfl))).at (k := i2) (by omega)).one') (fun hov => ?_)
     refine hl_row rfl rfl rfl (rq_buildSlice1 rfl Try.underlying40 (by kernel_rfl) rfl hov) ?_
     intro g45
     refine hl_append (i := 1) (z := .slice none 0 0) (bytes := 24) (n' := (qs ++ [(rs.getD i2 crow0)]).length) (xs' := ((qs ++ [(rs.getD i2 crow0)]).flatMap crowC)) (L := fun v46 => [rowE 26 1 (.slice (some ⟨g45, 0, none⟩) 1 1) 1 ([(rs.getD i2 crow0).v]), rowE 26 1 v46 ((qs ++ [(rs.getD i2 crow0)]).length) ((qs ++ [(rs.getD i2 crow0)]).flatMap crowC), bigE ps, rowE 26 1 av rs.length (rs.flatMap crowC)]) rfl rfl rfl rfl Try.underlying40 (by kernel_rfl) (by kernel_rfl) rfl rfl rfl (rd_row 0 rfl) (fun q hq => by rw [List.mem_singleton] at hq; subst hq; exact hov) (by first | omega | (simp only [List.length_append, List.length_cons, List.length_nil]; omega)) (len_app qs [(rs.getD i2 crow0)]) (flat_app1 crowC qs (rs.getD i2 crow0) _ rfl) (fun _ => rfl) ?_
     intro v46
     refine hl_v rfl rfl rfl (rv_ev rfl) ?_
     refine hl_less (sx 0 rfl (sx 1 rfl (sx 4 rfl (sx 5 rfl (sx 13 rfl (sx 15 rfl (sx 16 rfl (sx 19 rfl (sx 20 rfl (sx 21 rfl (sx 22 rfl (sx 82 rfl (sx 83 rfl (sx 84 rfl (sx 85 rfl (sx 88 rfl (sx 89 rfl (sx 90 rfl (sx 91 rfl (sx 105 rfl (sub_nil _))))))))))))))))))))) (.refl _) ?_
     refine hl_nil ?_
     refine hq_block_normal ?_
     refine hq_then ?_
     refine hc_region ?_
     refine hl_v rfl rfl rfl (rv_add rfl rfl rfl (by constructor <;> omega)) ?_
     refine hl_v rfl rfl rfl (rv_ev rfl) ?_
     refine hl_less (sx 0 rfl (sx 1 rfl (sx 4 rfl (sx 5 rfl (sx 13 rfl (sx 15 rfl (sx 16 rfl (sx 19 rfl (sx 20 rfl (sx 21 rfl (sx 22 rfl (sx 82 rfl (sx 83 rfl (sx 84 rfl (sx 85 rfl (sx 88 rfl (sx 89 rfl (sx 90 rfl (sx 91 rfl (sx 105 rfl (sub_nil _))))))))))))))))))))) (.refl _) ?_
     refine hl_nil ?_
     exact hq_round3 (i2 + 1) (qs ++ [(rs.getD i2 crow0)]) v46 ⟨by omega, by rw [List.length_append, List.length_singleton]; omega, fun q hq => (List.mem_append.1 hq).elim (hqm q) (fun h => by rw [List.mem_singleton] at h; subst h; exact getD_mem' (by omega))⟩ (by omega) (sx 0 rfl (sx 1 rfl (sx 4 rfl (sx 5 rfl (sx 13 rfl (sx 19 rfl (sx 20 rfl (sx 21 rfl (sx 22 rfl (sx 82 rfl (sx 83 rfl (sx 84 rfl (sub_nil _))))))))))))) ((.cons _ (.cons_cons _ (.cons_cons _ (.cons_cons _ .slnil)))))
    ·
     refine hl_less (sx 0 rfl (sx 1 rfl (sx 4 rfl (sx 5 rfl (sx 13 rfl (sx 15 rfl (sx 16 rfl (sx 19 rfl (sx 20 rfl (sx 21 rfl (sx 22 rfl (sx 82 rfl (sx 83 rfl (sx 84 rfl (sx 85 rfl (sx 88 rfl (sx 89 rfl (sx 90 rfl (sx 91 rfl (sx 105 rfl (sub_nil _))))))))))))))))))))) (.refl _) ?_
     refine hl_nil ?_
     refine hq_then ?_
     refine hc_false rfl ?_
     refine hc_skip ?_
     refine hq_block_normal ?_
     refine hq_then ?_
     refine hc_region ?_
     refine hl_v rfl rfl rfl (rv_add rfl rfl rfl (by constructor <;> omega)) ?_
     refine hl_v rfl rfl rfl (rv_ev rfl) ?_
     refine hl_less (sx 0 rfl (sx 1 rfl (sx 4 rfl (sx 5 rfl (sx 13 rfl (sx 15 rfl (sx 16 rfl (sx 19 rfl (sx 20 rfl (sx 21 rfl (sx 22 rfl (sx 82 rfl (sx 83 rfl (sx 84 rfl (sx 85 rfl (sx 88 rfl (sx 89 rfl (sx 90 rfl (sx 91 rfl (sx 105 rfl (sub_nil _))))))))))))))))))))) (.refl _) ?_
     refine hl_nil ?_
     exact hq_round3 (i2 + 1) qs ov ⟨by omega, by omega, hqm⟩ (by omega) (sx 0 rfl (sx 1 rfl (sx 4 rfl (sx 5 rfl (sx 13 rfl (sx 19 rfl (sx 20 rfl (sx 21 rfl (sx 22 rfl (sx 82 rfl (sx 83 rfl (sx 84 rfl (sub_nil _))))))))))))) ((.cons_cons _ (.cons_cons _ (.cons_cons _ .slnil))))
  ·
   refine hl_less (sx 0 rfl (sx 1 rfl (sx 4 rfl (sx 5 rfl (sx 13 rfl (sx 19 rfl (sx 20 rfl (sx 21 rfl (sx 22 rfl (sx 82 rfl (sx 83 rfl (sx 84 rfl (sx 85 rfl (sub_nil _)))))))))))))) (.refl _) ?_
   refine hl_nil ?_
   refine hq_then ?_
   refine hc_seq ?_
   refine hc_false rfl ?_
   refine hc_exit ?_
   refine hq_then_exit ?_
   refine hq_then_exit ?_
   refine hq_block_exit ?_
   refine hq_then ?_
   refine hc_seq ?_
   refine hc_region ?_
   refine hl_v rfl rfl rfl (rv_ev rfl) ?_
   refine hl_v rfl rfl rfl (rv_ev rfl) ?_
   refine hl_less (sx 0 rfl (sx 1 rfl (sx 4 rfl (sx 5 rfl (sx 13 rfl (sx 19 rfl (sx 20 rfl (sx 21 rfl (sx 22 rfl (sx 82 rfl (sx 83 rfl (sx 84 rfl (sx 85 rfl (sub_nil _)))))))))))))) (.refl _) ?_
   refine hl_nil ?_
   refine hq_then ?_
   refine hc_ret ?_
   refine hq_conv [bigE ps, rowE 26 1 ov qs.length (qs.flatMap crowC)] (conv_pick (src := [rowE 26 1 ov qs.length (qs.flatMap crowC), bigE ps, rowE 26 1 av rs.length (rs.flatMap crowC)]) (dst := [bigE ps, rowE 26 1 ov qs.length (qs.flatMap crowC)]) (l := []) [1, 0] (by decide) rfl) ?_
   refine hq_conv [bigE [bigE ps, rowE 26 1 ov qs.length (qs.flatMap crowC)]] (conv_bigN [bigE ps, rowE 26 1 ov qs.length (qs.flatMap crowC)] _ rfl) ?_
   exact hq_retR (post := [bigE [bigE ps, rowE 26 1 ov qs.length (qs.flatMap crowC)]]) rfl rfl (.refl _) ⟨_, qs, rfl, fun w hw => rds_cl_of (rdsW_own (big_part hw (List.mem_cons_of_mem _ List.mem_cons_self))) ((hps w (big_part hw List.mem_cons_self)).sub hqm), by omega, fun r hr => hcd.ok r (hqm r hr)⟩
open Go.RowKit
set_option maxHeartbeats 4000000 in
set_option maxRecDepth 100000 in
theorem allCuts_ret (n : Nt) (last : Int) (w : World) (hr : RdsNt w n) (hn : NtOk n) (hlast : 0 ≤ last ∧ last < n.cnt) :
  Calls Try.prog 92 #[.agg #[.int .i64 n.ins, n.sv, n.av, n.ov], .int .i64 last] w (Ret w (fun u_ p_ => ∃ (ps : List HP) (cs : List CSet), p_ = [bigE ps] ∧ (∀ w, (bigE ps).holds w → RdsW w u_ 1 cs.length (cs.flatMap csC) ∧ RdsSets w cs) ∧ SetsOk n (last.toNat + 1) (last.toNat + 1) cs)) := by
 have hi0 := hn.i0
 have hi1 := hn.i1
 have hs1 := hn.s1
 have ha1 := hn.a1
 have ho1 := hn.o1
 have hcnt : n.cnt = 1 + n.ins + n.ss.length + n.gs.length := rfl
 have hfst : n.fst = 1 + n.ins + n.ss.length := rfl
 refine calls_hc (N := 73) (args := [.agg #[.int .i64 n.ins, n.sv, n.av, n.ov], .int .i64 last]) Try.func92 rfl rfl ?_
 refine hc_less _ (sx 0 rfl (sx 1 rfl (sub_nil _))) (.refl _) ?_
 refine hc_seq ?_
 refine hc_region ?_
 refine hl_box rfl rfl rfl (rq_box rfl rfl) ?_
 intro b1
 refine hl_v rfl rfl rfl (rv_ev rfl) ?_
 refine hl_less (sx 0 rfl (sx 1 rfl (sx 2 rfl (sx 4 rfl (sub_nil _))))) (.refl _) ?_
 refine hl_nil ?_
 refine hq_then ?_
 refine hc_seq ?_
 refine hc_region ?_
 refine hl_v rfl rfl rfl (rv_ev rfl) ?_
 refine hl_v rfl rfl rfl (rv_add rfl rfl rfl (by constructor <;> omega)) ?_
 refine hl_row rfl rfl rfl (rq_make (z := .slice none 0 0) (s := 1) (bytes := 24) (n := (List.replicate (last + 1).toNat cset0).length) (cs := ((List.replicate (last + 1).toNat cset0).flatMap csC)) rfl Try.underlying95 (by kernel_rfl) (by decide) rfl rfl (by first | (rw [List.length_replicate]; done) | (rw [List.length_replicate]; omega)) (by first | (rw [List.length_replicate]; done) | (rw [List.length_replicate]; omega)) (by rw [List.length_replicate]; omega) (made_flat csC 1 (fun _ => rfl) cset0 _ rfl (last + 1).toNat)) ?_
 intro g2
 refine hl_v rfl rfl rfl (rv_ev rfl) ?_
 refine hl_less (sx 0 rfl (sx 1 rfl (sx 2 rfl (sx 4 rfl (sx 5 rfl (sub_nil _)))))) (.refl _) ?_
 refine hl_nil ?_
 refine hq_then ?_
 refine hc_seq ?_
 refine hc_seq ?_
 refine hc_region ?_
 refine hl_v rfl rfl rfl (rv_ev rfl) ?_
 refine hl_less (sx 0 rfl (sx 1 rfl (sx 2 rfl (sx 4 rfl (sx 5 rfl (sx 6 rfl (sub_nil _))))))) (.refl _) ?_
 refine hl_nil ?_
 refine hq_then ?_
 refine hc_block ?_
 refine hc_conv [bigE [], rowE 40 1 (.slice (some ⟨g2, 0, none⟩) ((List.replicate (last + 1).toNat cset0).length) ((List.replicate (last + 1).toNat cset0).length)) ((List.replicate (last + 1).toNat cset0).length) ((List.replicate (last + 1).toNat cset0).flatMap csC), boxE b1 #[.int .i64 n.ins, n.sv, n.av, n.ov] 28] (fun w hm => Mem.big (ps := []) hm) ?_
 refine hc_loop3 (α := Nat) (β := List CSet) (γ := List HP) (fun k cs ps => [bigE ps, rowE 40 1 (.slice (some ⟨g2, 0, none⟩) ((List.replicate (last + 1).toNat cset0).length) ((List.replicate (last + 1).toNat cset0).length)) cs.length (cs.flatMap csC), boxE b1 #[.int .i64 n.ins, n.sv, n.av, n.ov] 28]) (fun k cs ps => [(0, .agg #[.int .i64 n.ins, n.sv, n.av, n.ov]), (1, .int .i64 last), (2, .pointer (some ⟨b1, 0, none⟩)), (4, .slice none 0 0), (5, .slice (some ⟨g2, 0, none⟩) ((List.replicate (last + 1).toNat cset0).length) ((List.replicate (last + 1).toNat cset0).length)), (6, .int .i64 (k : Int))]) (fun k cs ps => k ≤ last.toNat + 1 ∧ SetsOk n (last.toNat + 1) k cs ∧ ∀ w, (bigE ps).holds w → RdsSets w cs) (fun k cs ps => last.toNat + 1 - k) 0 (List.replicate (last + 1).toNat cset0) _ ⟨by omega, by rw [show (last + 1).toNat = last.toNat + 1 by omega]; exact SetsOk.start n _, fun w _ => RdsSets.start w _⟩ (sx 0 rfl (sx 1 rfl (sx 2 rfl (sx 4 rfl (sx 5 rfl (sx 6 rfl (sub_nil _))))))) ((.cons_cons _ (.cons_cons _ (.cons_cons _ .slnil)))) ?_
 intro k cs ps hi3
 obtain ⟨hk, hok, hs⟩ := hi3
 have hcl := hok.len
 refine hc_seq ?_
 refine hc_seq ?_
 refine hc_region ?_
 refine hl_v rfl rfl rfl (rv_ev rfl) ?_
 refine hl_v rfl rfl rfl (rv_ev rfl) ?_
 refine hl_leq rfl rfl rfl rfl rfl rfl (fun h4 => ?_) (fun h4 => ?_)
 ·
  refine hl_less (sx 0 rfl (sx 1 rfl (sx 2 rfl (sx 4 rfl (sx 5 rfl (sx 6 rfl (sx 14 rfl (sub_nil _)))))))) (.refl _) ?_
  refine hl_nil ?_
  refine hq_then ?_
  refine hc_true rfl ?_
  refine hc_skip ?_
  refine hq_then ?_
  refine hc_seq ?_
  refine hc_block ?_
  refine hc_block ?_
  refine hc_seq ?_
  refine hc_region ?_
  refine hl_v rfl rfl rfl (rv_ev rfl) ?_
  refine hl_eql rfl rfl rfl rfl rfl rfl (fun h5 => ?_) (fun h5 => ?_)
  ·
   refine hl_v rfl rfl rfl (rv_ev rfl) ?_
   refine hl_less (sx 0 rfl (sx 1 rfl (sx 2 rfl (sx 4 rfl (sx 5 rfl (sx 6 rfl (sx 14 rfl (sx 53 rfl (sub_nil _))))))))) (.refl _) ?_
   refine hl_nil ?_
   refine hq_then ?_
   refine hc_true rfl ?_
   refine hc_region ?_
   refine hl_v rfl rfl rfl (rv_ev rfl) ?_
   refine hl_v rfl rfl rfl (rv_ev rfl) ?_
   refine hl_row rfl rfl rfl (rq_slice0 (s := 1) rfl Try.underlying26 (by kernel_rfl)) ?_
   intro g6
   refine hl_row rfl rfl rfl (rq_buildSlice (z := .slice none 0 0) (s := 1) (cs := [.slice (some ⟨g6, 0, none⟩) 0 0]) rfl Try.underlying40 (by kernel_rfl) (by decide) rfl (by kernel_rfl) rfl) ?_
   intro g7
   refine hl_v rfl rfl rfl (rv_index (s := 1) rfl Try.underlying95 (by kernel_rfl) rfl rfl (rd_row 3 rfl) (by omega) (by first | omega | (simp only [List.length_set]; omega))) ?_
   refine hl_storeEl (i := 3) (n' := (cs.set k (CSet.mk (.slice (some ⟨g7, 0, none⟩) 1 1) ([CRow.mk (.slice (some ⟨g6, 0, none⟩) 0 0) []]))).length) (xs' := ((cs.set k (CSet.mk (.slice (some ⟨g7, 0, none⟩) 1 1) ([CRow.mk (.slice (some ⟨g6, 0, none⟩) 0 0) []]))).flatMap csC)) (l' := [rowE 26 1 (.slice (some ⟨g7, 0, none⟩) 1 1) 1 ([.slice (some ⟨g6, 0, none⟩) 0 0]), rowE 3 1 (.slice (some ⟨g6, 0, none⟩) 0 0) 0 ([]), bigE ps, rowE 40 1 (.slice (some ⟨g2, 0, none⟩) ((List.replicate (last + 1).toNat cset0).length) ((List.replicate (last + 1).toNat cset0).length)) ((cs.set k (CSet.mk (.slice (some ⟨g7, 0, none⟩) 1 1) ([CRow.mk (.slice (some ⟨g6, 0, none⟩) 0 0) []]))).length) ((cs.set k (CSet.mk (.slice (some ⟨g7, 0, none⟩) 1 1) ([CRow.mk (.slice (some ⟨g6, 0, none⟩) 0 0) []]))).flatMap csC), boxE b1 #[.int .i64 n.ins, n.sv, n.av, n.ov] 28]) rfl rfl rfl (by kernel_rfl) rfl rfl rfl rfl (by first | omega | (simp only [List.length_set]; omega)) List.length_set.symm (flat_set1 csC (fun r => r.v) (fun _ => rfl) _ (CSet.mk (.slice (some ⟨g7, 0, none⟩) 1 1) ([CRow.mk (.slice (some ⟨g6, 0, none⟩) 0 0) []])) rfl) rfl ?_
   refine hl_less (sx 0 rfl (sx 1 rfl (sx 2 rfl (sx 4 rfl (sx 5 rfl (sx 6 rfl (sx 14 rfl (sx 53 rfl (sub_nil _))))))))) (.refl _) ?_
   refine hl_nil ?_
   refine hq_block_normal ?_
   refine hq_block_normal ?_
   refine hq_then ?_
   refine hc_region ?_
   refine hl_v rfl rfl rfl (rv_ev rfl) ?_
   refine hl_v rfl rfl rfl (rv_add rfl rfl rfl (by constructor <;> omega)) ?_
   refine hl_v rfl rfl rfl (rv_ev rfl) ?_
   refine hl_less (sx 0 rfl (sx 1 rfl (sx 2 rfl (sx 4 rfl (sx 5 rfl (sx 6 rfl (sx 14 rfl (sx 53 rfl (sub_nil _))))))))) (.refl _) ?_
   refine hl_nil ?_
   refine hq_conv [bigE ps, rowE 26 1 (.slice (some ⟨g7, 0, none⟩) 1 1) 1 ([.slice (some ⟨g6, 0, none⟩) 0 0]), rowE 3 1 (.slice (some ⟨g6, 0, none⟩) 0 0) 0 ([]), rowE 40 1 (.slice (some ⟨g2, 0, none⟩) ((List.replicate (last + 1).toNat cset0).length) ((List.replicate (last + 1).toNat cset0).length)) ((cs.set k (CSet.mk (.slice (some ⟨g7, 0, none⟩) 1 1) ([CRow.mk (.slice (some ⟨g6, 0, none⟩) 0 0) []]))).length) ((cs.set k (CSet.mk (.slice (some ⟨g7, 0, none⟩) 1 1) ([CRow.mk (.slice (some ⟨g6, 0, none⟩) 0 0) []]))).flatMap csC), boxE b1 #[.int .i64 n.ins, n.sv, n.av, n.ov] 28] (conv_pick (src := [rowE 26 1 (.slice (some ⟨g7, 0, none⟩) 1 1) 1 ([.slice (some ⟨g6, 0, none⟩) 0 0]), rowE 3 1 (.slice (some ⟨g6, 0, none⟩) 0 0) 0 ([]), bigE ps, rowE 40 1 (.slice (some ⟨g2, 0, none⟩) ((List.replicate (last + 1).toNat cset0).length) ((List.replicate (last + 1).toNat cset0).length)) ((cs.set k (CSet.mk (.slice (some ⟨g7, 0, none⟩) 1 1) ([CRow.mk (.slice (some ⟨g6, 0, none⟩) 0 0) []]))).length) ((cs.set k (CSet.mk (.slice (some ⟨g7, 0, none⟩) 1 1) ([CRow.mk (.slice (some ⟨g6, 0, none⟩) 0 0) []]))).flatMap csC), boxE b1 #[.int .i64 n.ins, n.sv, n.av, n.ov] 28]) (dst := [bigE ps, rowE 26 1 (.slice (some ⟨g7, 0, none⟩) 1 1) 1 ([.slice (some ⟨g6, 0, none⟩) 0 0]), rowE 3 1 (.slice (some ⟨g6, 0, none⟩) 0 0) 0 ([]), rowE 40 1 (.slice (some ⟨g2, 0, none⟩) ((List.replicate (last + 1).toNat cset0).length) ((List.replicate (last + 1).toNat cset0).length)) ((cs.set k (CSet.mk (.slice (some ⟨g7, 0, none⟩) 1 1) ([CRow.mk (.slice (some ⟨g6, 0, none⟩) 0 0) []]))).length) ((cs.set k (CSet.mk (.slice (some ⟨g7, 0, none⟩) 1 1) ([CRow.mk (.slice (some ⟨g6, 0, none⟩) 0 0) []]))).flatMap csC), boxE b1 #[.int .i64 n.ins, n.sv, n.av, n.ov] 28]) (l := []) [2, 0, 1, 3, 4] (by decide) rfl) ?_
   refine hq_conv [bigE [bigE ps, rowE 26 1 (.slice (some ⟨g7, 0, none⟩) 1 1) 1 ([.slice (some ⟨g6, 0, none⟩) 0 0]), rowE 3 1 (.slice (some ⟨g6, 0, none⟩) 0 0) 0 ([])], rowE 40 1 (.slice (some ⟨g2, 0, none⟩) ((List.replicate (last + 1).toNat cset0).length) ((List.replicate (last + 1).toNat cset0).length)) ((cs.set k (CSet.mk (.slice (some ⟨g7, 0, none⟩) 1 1) ([CRow.mk (.slice (some ⟨g6, 0, none⟩) 0 0) []]))).length) ((cs.set k (CSet.mk (.slice (some ⟨g7, 0, none⟩) 1 1) ([CRow.mk (.slice (some ⟨g6, 0, none⟩) 0 0) []]))).flatMap csC), boxE b1 #[.int .i64 n.ins, n.sv, n.av, n.ov] 28] (conv_bigN [bigE ps, rowE 26 1 (.slice (some ⟨g7, 0, none⟩) 1 1) 1 ([.slice (some ⟨g6, 0, none⟩) 0 0]), rowE 3 1 (.slice (some ⟨g6, 0, none⟩) 0 0) 0 ([])] _ rfl) ?_
   exact hq_round3 (k + 1) (cs.set k (CSet.mk (.slice (some ⟨g7, 0, none⟩) 1 1) ([CRow.mk (.slice (some ⟨g6, 0, none⟩) 0 0) []]))) [bigE ps, rowE 26 1 (.slice (some ⟨g7, 0, none⟩) 1 1) 1 ([.slice (some ⟨g6, 0, none⟩) 0 0]), rowE 3 1 (.slice (some ⟨g6, 0, none⟩) 0 0) 0 ([])] ⟨by omega, hok.step (by omega) (by rw [show k = 0 by omega]; exact cuts_zero n), fun w hw => (hs w (big_part hw List.mem_cons_self)).set (rds_cl_of (rdsW_own (big_part hw (List.mem_cons_of_mem _ List.mem_cons_self))) (fun r hr => by rw [List.mem_singleton] at hr; subst hr; exact rdsW_own (big_part hw (List.mem_cons_of_mem _ (List.mem_cons_of_mem _ List.mem_cons_self)))))⟩ (by omega) (sx 0 rfl (sx 1 rfl (sx 2 rfl (sx 4 rfl (sx 5 rfl (sx 6 rfl (sub_nil _))))))) ((.cons_cons _ (.cons_cons _ (.cons_cons _ .slnil))))
  ·
   refine hl_v rfl rfl rfl (rv_ev rfl) ?_
   refine hl_less (sx 0 rfl (sx 1 rfl (sx 2 rfl (sx 4 rfl (sx 5 rfl (sx 6 rfl (sx 14 rfl (sx 53 rfl (sub_nil _))))))))) (.refl _) ?_
   refine hl_nil ?_
   refine hq_then ?_
   refine hc_false rfl ?_
   refine hc_seq ?_
   refine hc_region ?_
   refine hl_v rfl rfl rfl (rv_loadN (cs := [.int .i64 n.ins, n.sv, n.av, n.ov]) rfl (by kernel_rfl) (by kernel_rfl) rfl rfl (box_part 2 rfl 0 rfl)) ?_
   refine hl_v rfl rfl rfl (rv_ev rfl) ?_
   refine hl_callV rfl rfl rfl (rq_call (by kernel_rfl) rfl (fun w hm => ret_ans (isAnd_yes n (k : Int) w (hr.below hm.bel) hn))) ?_
   refine hl_bool (fun h8 => ?_) (fun h8 => ?_)
   ·
    refine hl_v rfl rfl rfl (rv_ev rfl) ?_
    refine hl_v rfl rfl rfl (rv_ev rfl) ?_
    refine hl_less (sx 0 rfl (sx 1 rfl (sx 2 rfl (sx 4 rfl (sx 5 rfl (sx 6 rfl (sx 14 rfl (sx 53 rfl (sx 61 rfl (sub_nil _)))))))))) (.refl _) ?_
    refine hl_nil ?_
    refine hq_then ?_
    refine hc_false rfl ?_
    refine hc_seq ?_
    obtain ⟨hc1, hc2⟩ := isAnd_iff.1 (show isAndB n (k : Int) = true by assumption)
    obtain ⟨o1, o2, o3, o4, o5, o6⟩ := nd_ok hn hc1 hc2
    have hA := hok.ok (ndA n k / 2).toNat (by omega)
    have hB := hok.ok (ndB n k / 2).toNat (by omega)
    rw [Int.toNat_of_nonneg (by omega)] at hA hB
    have ea : ndA n k = (n.gs.getD (((k : Int) - n.fst).toNat) an0).a := rfl
    have eb : ndB n k = (n.gs.getD (((k : Int) - n.fst).toNat) an0).b := rfl
    have hAl := CutsOk.like hn (by omega) (by omega) hA
    have hBl := CutsOk.like hn (by omega) (by omega) hB
    have hA8 := hA.len
    have hB8 := hB.len
    rw [ea] at o3 o4
    rw [eb] at o5 o6
    refine hc_draw (by kernel_rfl) 9 [0, 1, 2, 3, 4, 5, 6, 7, 8] (List.take 9 _) (List.drop 9 _) [[], [0], [], [], [3], [2, 4], [1, 5], [6], []] [17, 18, 19, 20, 21, 22, 23, 24, 7] (fun i_ vs_ v_ p_ => match i_ with | 0 => v_ = .pointer (some ⟨b1, 0 + 2, none⟩) ∧ p_ = [] | 1 => v_ = n.av ∧ p_ = [] | 2 => v_ = .int .i64 (k : Int) ∧ p_ = [] | 3 => v_ = .agg #[.int .i64 n.ins, n.sv, n.av, n.ov] ∧ p_ = [] | 4 => v_ = .int .i64 n.fst ∧ p_ = [] | 5 => v_ = .int .i64 ((k : Int) - n.fst) ∧ p_ = [] | 6 => v_ = elP n.av (((k : Int) - n.fst).toNat * 2) ∧ p_ = [] | 7 => v_ = .agg #[.int .i64 ((n.gs.getD (((k : Int) - n.fst).toNat) an0).a), .int .i64 ((n.gs.getD (((k : Int) - n.fst).toNat) an0).b)] ∧ p_ = [] | 8 => IsBox #[.int .i64 0, .int .i64 0] 80 v_ p_ | _ => True) (List.take_append_drop 9 _).symm (by kernel_rfl) (by kernel_rfl) rfl rfl ?_ ?_
    ·
     refine ⟨?_, ?_, ?_, ?_, ?_, ?_, ?_, ?_, ?_, trivial⟩
     ·
      intro vf pf hR
      refine Or.inl ⟨rfl, ?_⟩
      refine rq_less (sx 2 rfl (sub_nil _)) (List.sublist_append_right _ _) ?_
      exact rq_v (rv_field (k0 := 2) rfl (by kernel_rfl) rfl)
     ·
      intro vf pf hR
      have e0 : (vf 0) = .pointer (some ⟨b1, 0 + 2, none⟩) ∧ (pf 0) = [] := hR 0 (by decide)
      refine Or.inl ⟨rfl, ?_⟩
      refine rq_less (sx 17 (congrArg some e0.1) (sub_nil _)) (List.sublist_append_right _ _) ?_
      exact rq_v (rv_load rfl (by kernel_rfl) rfl (box_cell 2 rfl rfl))
     ·
      intro vf pf hR
      refine Or.inl ⟨rfl, ?_⟩
      refine rq_less (sx 6 rfl (sub_nil _)) (List.sublist_append_right _ _) ?_
      exact rq_v (rv_ev rfl)
     ·
      intro vf pf hR
      refine Or.inl ⟨rfl, ?_⟩
      refine rq_less (sx 2 rfl (sub_nil _)) (List.sublist_append_right _ _) ?_
      exact rq_v (rv_loadN (cs := [.int .i64 n.ins, n.sv, n.av, n.ov]) rfl (by kernel_rfl) (by kernel_rfl) rfl rfl (box_part 2 rfl 0 rfl))
     ·
      intro vf pf hR
      have e3 : (vf 3) = .agg #[.int .i64 n.ins, n.sv, n.av, n.ov] ∧ (pf 3) = [] := hR 3 (by decide)
      refine Or.inl ⟨rfl, ?_⟩
      refine rq_less (sx 20 (congrArg some e3.1) (sub_nil _)) (List.sublist_append_right _ _) ?_
      exact (rq_call (by kernel_rfl) rfl (fun w hm => ret_ans (firstAnd_yes n w (hr.below hm.bel) hn)))
     ·
      intro vf pf hR
      have e2 : (vf 2) = .int .i64 (k : Int) ∧ (pf 2) = [] := hR 2 (by decide)
      have e4 : (vf 4) = .int .i64 n.fst ∧ (pf 4) = [] := hR 4 (by decide)
      refine Or.inl ⟨rfl, ?_⟩
      refine rq_less (sx 19 (congrArg some e2.1) (sx 21 (congrArg some e4.1) (sub_nil _))) (List.sublist_append_right _ _) ?_
      exact rq_v (rv_sub rfl rfl rfl (by constructor <;> omega))
     ·
      intro vf pf hR
      have e1 : (vf 1) = n.av ∧ (pf 1) = [] := hR 1 (by decide)
      have e5 : (vf 5) = .int .i64 ((k : Int) - n.fst) ∧ (pf 5) = [] := hR 5 (by decide)
      refine Or.inl ⟨rfl, ?_⟩
      refine rq_less (sx 18 (congrArg some e1.1) (sx 22 (congrArg some e5.1) (sub_nil _))) (List.sublist_append_right _ _) ?_
      exact rq_v (rv_index (s := 2) rfl Try.underlying25 (by kernel_rfl) rfl rfl (rd_old hr.an) (by omega) (by first | omega | (simp only [List.length_set]; omega)))
     ·
      intro vf pf hR
      have e6 : (vf 6) = elP n.av (((k : Int) - n.fst).toNat * 2) ∧ (pf 6) = [] := hR 6 (by decide)
      refine Or.inl ⟨rfl, ?_⟩
      refine rq_less (sx 23 (congrArg some e6.1) (sub_nil _)) (List.sublist_append_right _ _) ?_
      exact rq_v (rv_loadElN (us := [.int .i64 ((n.gs.getD (((k : Int) - n.fst).toNat) an0).a), .int .i64 ((n.gs.getD (((k : Int) - n.fst).toNat) an0).b)]) rfl (by kernel_rfl) (by kernel_rfl) rfl (rd_old hr.an) (by omega) rfl (flat_atN anC 2 (fun _ => rfl) n.gs an0 (show ((k : Int) - n.fst).toNat < _ by first | omega | (simp only [List.length_set]; omega)) rfl))
     ·
      intro vf pf hR
      refine Or.inl ⟨rfl, ?_⟩
      refine rq_less (sub_nil _) (List.sublist_append_right _ _) ?_
      exact rq_alloc (z := .agg #[.int .i64 0, .int .i64 0]) rfl (by kernel_rfl)
    ·
     intro vf pf hR
     have e7 : (vf 7) = .agg #[.int .i64 ((n.gs.getD (((k : Int) - n.fst).toNat) an0).a), .int .i64 ((n.gs.getD (((k : Int) - n.fst).toNat) an0).b)] ∧ (pf 7) = [] := hR 7 (by decide)
     have e8 : IsBox #[.int .i64 0, .int .i64 0] 80 (vf 8) (pf 8) := hR 8 (by decide)
     obtain ⟨b9, v8, p8⟩ := e8
     have q0 : (vf 0) = .pointer (some ⟨b1, 0 + 2, none⟩) ∧ (pf 0) = [] := hR 0 (by decide)
     have q1 : (vf 1) = n.av ∧ (pf 1) = [] := hR 1 (by decide)
     have q2 : (vf 2) = .int .i64 (k : Int) ∧ (pf 2) = [] := hR 2 (by decide)
     have q3 : (vf 3) = .agg #[.int .i64 n.ins, n.sv, n.av, n.ov] ∧ (pf 3) = [] := hR 3 (by decide)
     have q4 : (vf 4) = .int .i64 n.fst ∧ (pf 4) = [] := hR 4 (by decide)
     have q5 : (vf 5) = .int .i64 ((k : Int) - n.fst) ∧ (pf 5) = [] := hR 5 (by decide)
     have q6 : (vf 6) = elP n.av (((k : Int) - n.fst).toNat * 2) ∧ (pf 6) = [] := hR 6 (by decide)
     have q7 : (vf 7) = .agg #[.int .i64 ((n.gs.getD (((k : Int) - n.fst).toNat) an0).a), .int .i64 ((n.gs.getD (((k : Int) - n.fst).toNat) an0).b)] ∧ (pf 7) = [] := hR 7 (by decide)
     refine hl_less (l' := [boxE b9 #[.int .i64 0, .int .i64 0] 80, bigE ps, rowE 40 1 (.slice (some ⟨g2, 0, none⟩) ((List.replicate (last + 1).toNat cset0).length) ((List.replicate (last + 1).toNat cset0).length)) cs.length (cs.flatMap csC), boxE b1 #[.int .i64 n.ins, n.sv, n.av, n.ov] 28]) (sx 0 rfl (sx 1 rfl (sx 2 rfl (sx 4 rfl (sx 5 rfl (sx 6 rfl (sx 7 (congrArg some v8) (sx 14 rfl (sx 24 (congrArg some e7.1) (sx 53 rfl (sx 61 rfl (sub_nil _)))))))))))) (by first | (simp only [p8, v8, q0.2, q1.2, q2.2, q3.2, q4.2, q5.2, q6.2, q7.2, List.flatMap_cons, List.flatMap_nil, List.append_nil, List.nil_append, List.cons_append]; exact List.Sublist.refl _) | simp [p8, v8, q0.2, q1.2, q2.2, q3.2, q4.2, q5.2, q6.2, q7.2]) ?_
     simp only [List.drop_succ_cons, List.drop_zero]
     refine hl_storeBoxN (i := 0) (off := 0) (us := [.int .i64 ((n.gs.getD (((k : Int) - n.fst).toNat) an0).a), .int .i64 ((n.gs.getD (((k : Int) - n.fst).toNat) an0).b)])  (l' := [boxE b9 #[.int .i64 ((n.gs.getD (((k : Int) - n.fst).toNat) an0).a), .int .i64 ((n.gs.getD (((k : Int) - n.fst).toNat) an0).b)] 80, bigE ps, rowE 40 1 (.slice (some ⟨g2, 0, none⟩) ((List.replicate (last + 1).toNat cset0).length) ((List.replicate (last + 1).toNat cset0).length)) cs.length (cs.flatMap csC), boxE b1 #[.int .i64 n.ins, n.sv, n.av, n.ov] 28]) rfl rfl rfl (by kernel_rfl) rfl rfl rfl (all_cons rfl (all_cons rfl all_nil)) rfl rfl rfl ?_
     refine hl_less (sx 0 rfl (sx 1 rfl (sx 2 rfl (sx 4 rfl (sx 5 rfl (sx 6 rfl (sx 7 rfl (sx 14 rfl (sx 53 rfl (sx 61 rfl (sub_nil _))))))))))) (.refl _) ?_
     refine hl_nil ?_
     refine hq_then ?_
     refine hc_seq ?_
     refine hc_draw (by kernel_rfl) 13 [0, 1, 2, 3, 4, 5, 6, 7, 8, 9, 10, 11, 12] (List.take 13 _) (List.drop 13 _) [[], [], [1], [2], [0, 3], [4], [], [], [7], [8], [6, 9], [10], [5, 11]] [25, 26, 27, 28, 29, 30, 31, 32, 33, 34, 35, 36, 37] (fun i_ vs_ v_ p_ => match i_ with | 0 => v_ = .slice (some ⟨g2, 0, none⟩) ((List.replicate (last + 1).toNat cset0).length) ((List.replicate (last + 1).toNat cset0).length) ∧ p_ = [] | 1 => v_ = .pointer (some ⟨b9, 0 + 0, none⟩) ∧ p_ = [] | 2 => v_ = .int .i64 ((n.gs.getD (((k : Int) - n.fst).toNat) an0).a) ∧ p_ = [] | 3 => v_ = .int .i64 (((n.gs.getD (((k : Int) - n.fst).toNat) an0).a) / 2) ∧ p_ = [] | 4 => v_ = elP (.slice (some ⟨g2, 0, none⟩) ((List.replicate (last + 1).toNat cset0).length) ((List.replicate (last + 1).toNat cset0).length)) ((((n.gs.getD (((k : Int) - n.fst).toNat) an0).a) / 2).toNat * 1) ∧ p_ = [] | 5 => v_ = (cs.getD ((((n.gs.getD (((k : Int) - n.fst).toNat) an0).a) / 2).toNat) cset0).v ∧ p_ = [] | 6 => v_ = .slice (some ⟨g2, 0, none⟩) ((List.replicate (last + 1).toNat cset0).length) ((List.replicate (last + 1).toNat cset0).length) ∧ p_ = [] | 7 => v_ = .pointer (some ⟨b9, 0 + 1, none⟩) ∧ p_ = [] | 8 => v_ = .int .i64 ((n.gs.getD (((k : Int) - n.fst).toNat) an0).b) ∧ p_ = [] | 9 => v_ = .int .i64 (((n.gs.getD (((k : Int) - n.fst).toNat) an0).b) / 2) ∧ p_ = [] | 10 => v_ = elP (.slice (some ⟨g2, 0, none⟩) ((List.replicate (last + 1).toNat cset0).length) ((List.replicate (last + 1).toNat cset0).length)) ((((n.gs.getD (((k : Int) - n.fst).toNat) an0).b) / 2).toNat * 1) ∧ p_ = [] | 11 => v_ = (cs.getD ((((n.gs.getD (((k : Int) - n.fst).toNat) an0).b) / 2).toNat) cset0).v ∧ p_ = [] | 12 => (fun u_ p_ => ∃ (ps : List HP) (us : List CRow), p_ = [bigE ps] ∧ (∀ w, (bigE ps).holds w → RdsCl w u_ us) ∧ us.length ≤ 72 ∧ ∀ r ∈ us, JoinsOf ((cs.getD ((((n.gs.getD (((k : Int) - n.fst).toNat) an0).a) / 2).toNat) cset0).rs) ((cs.getD ((((n.gs.getD (((k : Int) - n.fst).toNat) an0).b) / 2).toNat) cset0).rs) r.xs) v_ p_ | _ => True) (List.take_append_drop 13 _).symm (by kernel_rfl) (by kernel_rfl) rfl rfl ?_ ?_
     ·
      refine ⟨?_, ?_, ?_, ?_, ?_, ?_, ?_, ?_, ?_, ?_, ?_, ?_, ?_, trivial⟩
      ·
       intro vf pf hR
       refine Or.inl ⟨rfl, ?_⟩
       refine rq_less (sx 5 rfl (sub_nil _)) (List.sublist_append_right _ _) ?_
       exact rq_v (rv_ev rfl)
      ·
       intro vf pf hR
       refine Or.inl ⟨rfl, ?_⟩
       refine rq_less (sx 7 rfl (sub_nil _)) (List.sublist_append_right _ _) ?_
       exact rq_v (rv_field (k0 := 0) rfl (by kernel_rfl) rfl)
      ·
       intro vf pf hR
       have e1 : (vf 1) = .pointer (some ⟨b9, 0 + 0, none⟩) ∧ (pf 1) = [] := hR 1 (by decide)
       refine Or.inl ⟨rfl, ?_⟩
       refine rq_less (sx 26 (congrArg some e1.1) (sub_nil _)) (List.sublist_append_right _ _) ?_
       exact rq_v (rv_load rfl (by kernel_rfl) rfl (box_cell 0 rfl rfl))
      ·
       intro vf pf hR
       have e2 : (vf 2) = .int .i64 ((n.gs.getD (((k : Int) - n.fst).toNat) an0).a) ∧ (pf 2) = [] := hR 2 (by decide)
       refine Or.inl ⟨rfl, ?_⟩
       refine rq_less (sx 27 (congrArg some e2.1) (sub_nil _)) (List.sublist_append_right _ _) ?_
       exact rq_v (rv_quo rfl rfl rfl (by refine ⟨?_, ?_, ?_⟩ <;> omega))
      ·
       intro vf pf hR
       have e0 : (vf 0) = .slice (some ⟨g2, 0, none⟩) ((List.replicate (last + 1).toNat cset0).length) ((List.replicate (last + 1).toNat cset0).length) ∧ (pf 0) = [] := hR 0 (by decide)
       have e3 : (vf 3) = .int .i64 (((n.gs.getD (((k : Int) - n.fst).toNat) an0).a) / 2) ∧ (pf 3) = [] := hR 3 (by decide)
       refine Or.inl ⟨rfl, ?_⟩
       refine rq_less (sx 25 (congrArg some e0.1) (sx 28 (congrArg some e3.1) (sub_nil _))) (List.sublist_append_right _ _) ?_
       exact rq_v (rv_index (s := 1) rfl Try.underlying95 (by kernel_rfl) rfl rfl (rd_row 2 rfl) (by omega) (by first | omega | (simp only [List.length_set]; omega)))
      ·
       intro vf pf hR
       have e4 : (vf 4) = elP (.slice (some ⟨g2, 0, none⟩) ((List.replicate (last + 1).toNat cset0).length) ((List.replicate (last + 1).toNat cset0).length)) ((((n.gs.getD (((k : Int) - n.fst).toNat) an0).a) / 2).toNat * 1) ∧ (pf 4) = [] := hR 4 (by decide)
       refine Or.inl ⟨rfl, ?_⟩
       refine rq_less (sx 29 (congrArg some e4.1) (sub_nil _)) (List.sublist_append_right _ _) ?_
       exact rq_v (rv_loadEl (u := (cs.getD ((((n.gs.getD (((k : Int) - n.fst).toNat) an0).a) / 2).toNat) cset0).v) rfl (by kernel_rfl) rfl (rd_row 2 rfl) (flat_one csC (fun r => r.v) (fun _ => rfl) cs cset0 (show (((n.gs.getD (((k : Int) - n.fst).toNat) an0).a) / 2).toNat < _ by first | omega | (simp only [List.length_set]; omega))))
      ·
       intro vf pf hR
       refine Or.inl ⟨rfl, ?_⟩
       refine rq_less (sx 5 rfl (sub_nil _)) (List.sublist_append_right _ _) ?_
       exact rq_v (rv_ev rfl)
      ·
       intro vf pf hR
       refine Or.inl ⟨rfl, ?_⟩
       refine rq_less (sx 7 rfl (sub_nil _)) (List.sublist_append_right _ _) ?_
       exact rq_v (rv_field (k0 := 1) rfl (by kernel_rfl) rfl)
      ·
       intro vf pf hR
       have e7 : (vf 7) = .pointer (some ⟨b9, 0 + 1, none⟩) ∧ (pf 7) = [] := hR 7 (by decide)
       refine Or.inl ⟨rfl, ?_⟩
       refine rq_less (sx 32 (congrArg some e7.1) (sub_nil _)) (List.sublist_append_right _ _) ?_
       exact rq_v (rv_load rfl (by kernel_rfl) rfl (box_cell 0 rfl rfl))
      ·
       intro vf pf hR
       have e8 : (vf 8) = .int .i64 ((n.gs.getD (((k : Int) - n.fst).toNat) an0).b) ∧ (pf 8) = [] := hR 8 (by decide)
       refine Or.inl ⟨rfl, ?_⟩
       refine rq_less (sx 33 (congrArg some e8.1) (sub_nil _)) (List.sublist_append_right _ _) ?_
       exact rq_v (rv_quo rfl rfl rfl (by refine ⟨?_, ?_, ?_⟩ <;> omega))
      ·
       intro vf pf hR
       have e6 : (vf 6) = .slice (some ⟨g2, 0, none⟩) ((List.replicate (last + 1).toNat cset0).length) ((List.replicate (last + 1).toNat cset0).length) ∧ (pf 6) = [] := hR 6 (by decide)
       have e9 : (vf 9) = .int .i64 (((n.gs.getD (((k : Int) - n.fst).toNat) an0).b) / 2) ∧ (pf 9) = [] := hR 9 (by decide)
       refine Or.inl ⟨rfl, ?_⟩
       refine rq_less (sx 31 (congrArg some e6.1) (sx 34 (congrArg some e9.1) (sub_nil _))) (List.sublist_append_right _ _) ?_
       exact rq_v (rv_index (s := 1) rfl Try.underlying95 (by kernel_rfl) rfl rfl (rd_row 2 rfl) (by omega) (by first | omega | (simp only [List.length_set]; omega)))
      ·
       intro vf pf hR
       have e10 : (vf 10) = elP (.slice (some ⟨g2, 0, none⟩) ((List.replicate (last + 1).toNat cset0).length) ((List.replicate (last + 1).toNat cset0).length)) ((((n.gs.getD (((k : Int) - n.fst).toNat) an0).b) / 2).toNat * 1) ∧ (pf 10) = [] := hR 10 (by decide)
       refine Or.inl ⟨rfl, ?_⟩
       refine rq_less (sx 35 (congrArg some e10.1) (sub_nil _)) (List.sublist_append_right _ _) ?_
       exact rq_v (rv_loadEl (u := (cs.getD ((((n.gs.getD (((k : Int) - n.fst).toNat) an0).b) / 2).toNat) cset0).v) rfl (by kernel_rfl) rfl (rd_row 2 rfl) (flat_one csC (fun r => r.v) (fun _ => rfl) cs cset0 (show (((n.gs.getD (((k : Int) - n.fst).toNat) an0).b) / 2).toNat < _ by first | omega | (simp only [List.length_set]; omega))))
      ·
       intro vf pf hR
       have e5 : (vf 5) = (cs.getD ((((n.gs.getD (((k : Int) - n.fst).toNat) an0).a) / 2).toNat) cset0).v ∧ (pf 5) = [] := hR 5 (by decide)
       have e11 : (vf 11) = (cs.getD ((((n.gs.getD (((k : Int) - n.fst).toNat) an0).b) / 2).toNat) cset0).v ∧ (pf 11) = [] := hR 11 (by decide)
       refine Or.inl ⟨rfl, ?_⟩
       refine rq_less (sx 30 (congrArg some e5.1) (sx 36 (congrArg some e11.1) (sub_nil _))) (List.sublist_append_right _ _) ?_
       exact rq_call (by kernel_rfl) rfl (fun w hm => candidates_ret (cs.getD ((((n.gs.getD (((k : Int) - n.fst).toNat) an0).a) / 2).toNat) cset0).rs (cs.getD ((((n.gs.getD (((k : Int) - n.fst).toNat) an0).b) / 2).toNat) cset0).rs _ _ w ((hs w (hm.holds _ (mem_at (i := 1) rfl))).at (k := ((((n.gs.getD (((k : Int) - n.fst).toNat) an0).a) / 2).toNat)) (by omega)) ((hs w (hm.holds _ (mem_at (i := 1) rfl))).at (k := ((((n.gs.getD (((k : Int) - n.fst).toNat) an0).b) / 2).toNat)) (by omega)) hAl hBl hA8 hB8)
     ·
      intro vf pf hR
      have e12 : (fun u_ p_ => ∃ (ps : List HP) (us : List CRow), p_ = [bigE ps] ∧ (∀ w, (bigE ps).holds w → RdsCl w u_ us) ∧ us.length ≤ 72 ∧ ∀ r ∈ us, JoinsOf ((cs.getD ((((n.gs.getD (((k : Int) - n.fst).toNat) an0).a) / 2).toNat) cset0).rs) ((cs.getD ((((n.gs.getD (((k : Int) - n.fst).toNat) an0).b) / 2).toNat) cset0).rs) r.xs) (vf 12) (pf 12) := hR 12 (by decide)
      obtain ⟨v10, v12⟩ : ∃ x, vf 12 = x := ⟨_, rfl⟩
      obtain ⟨p11, p12⟩ : ∃ x, pf 12 = x := ⟨_, rfl⟩
      have hR12 := e12
      rw [v12, p12] at hR12
      obtain ⟨qs, us, rfl, hq, hul, huj⟩ := hR12
      have q0 : (vf 0) = .slice (some ⟨g2, 0, none⟩) ((List.replicate (last + 1).toNat cset0).length) ((List.replicate (last + 1).toNat cset0).length) ∧ (pf 0) = [] := hR 0 (by decide)
      have q1 : (vf 1) = .pointer (some ⟨b9, 0 + 0, none⟩) ∧ (pf 1) = [] := hR 1 (by decide)
      have q2 : (vf 2) = .int .i64 ((n.gs.getD (((k : Int) - n.fst).toNat) an0).a) ∧ (pf 2) = [] := hR 2 (by decide)
      have q3 : (vf 3) = .int .i64 (((n.gs.getD (((k : Int) - n.fst).toNat) an0).a) / 2) ∧ (pf 3) = [] := hR 3 (by decide)
      have q4 : (vf 4) = elP (.slice (some ⟨g2, 0, none⟩) ((List.replicate (last + 1).toNat cset0).length) ((List.replicate (last + 1).toNat cset0).length)) ((((n.gs.getD (((k : Int) - n.fst).toNat) an0).a) / 2).toNat * 1) ∧ (pf 4) = [] := hR 4 (by decide)
      have q5 : (vf 5) = (cs.getD ((((n.gs.getD (((k : Int) - n.fst).toNat) an0).a) / 2).toNat) cset0).v ∧ (pf 5) = [] := hR 5 (by decide)
      have q6 : (vf 6) = .slice (some ⟨g2, 0, none⟩) ((List.replicate (last + 1).toNat cset0).length) ((List.replicate (last + 1).toNat cset0).length) ∧ (pf 6) = [] := hR 6 (by decide)
      have q7 : (vf 7) = .pointer (some ⟨b9, 0 + 1, none⟩) ∧ (pf 7) = [] := hR 7 (by decide)
      have q8 : (vf 8) = .int .i64 ((n.gs.getD (((k : Int) - n.fst).toNat) an0).b) ∧ (pf 8) = [] := hR 8 (by decide)
      have q9 : (vf 9) = .int .i64 (((n.gs.getD (((k : Int) - n.fst).toNat) an0).b) / 2) ∧ (pf 9) = [] := hR 9 (by decide)
      have q10 : (vf 10) = elP (.slice (some ⟨g2, 0, none⟩) ((List.replicate (last + 1).toNat cset0).length) ((List.replicate (last + 1).toNat cset0).length)) ((((n.gs.getD (((k : Int) - n.fst).toNat) an0).b) / 2).toNat * 1) ∧ (pf 10) = [] := hR 10 (by decide)
      have q11 : (vf 11) = (cs.getD ((((n.gs.getD (((k : Int) - n.fst).toNat) an0).b) / 2).toNat) cset0).v ∧ (pf 11) = [] := hR 11 (by decide)
      refine hl_less (l' := [bigE qs, boxE b9 #[.int .i64 ((n.gs.getD (((k : Int) - n.fst).toNat) an0).a), .int .i64 ((n.gs.getD (((k : Int) - n.fst).toNat) an0).b)] 80, bigE ps, rowE 40 1 (.slice (some ⟨g2, 0, none⟩) ((List.replicate (last + 1).toNat cset0).length) ((List.replicate (last + 1).toNat cset0).length)) cs.length (cs.flatMap csC), boxE b1 #[.int .i64 n.ins, n.sv, n.av, n.ov] 28]) (sx 0 rfl (sx 1 rfl (sx 2 rfl (sx 4 rfl (sx 5 rfl (sx 6 rfl (sx 7 rfl (sx 14 rfl (sx 37 (congrArg some v12) (sx 53 rfl (sx 61 rfl (sub_nil _)))))))))))) (by first | (simp only [p12, v12, q0.2, q1.2, q2.2, q3.2, q4.2, q5.2, q6.2, q7.2, q8.2, q9.2, q10.2, q11.2, List.flatMap_cons, List.flatMap_nil, List.append_nil, List.nil_append, List.cons_append]; exact List.Sublist.refl _) | simp [p12, v12, q0.2, q1.2, q2.2, q3.2, q4.2, q5.2, q6.2, q7.2, q8.2, q9.2, q10.2, q11.2]) ?_
      simp only [List.drop_succ_cons, List.drop_zero]
      refine hl_v rfl rfl rfl (rv_ev rfl) ?_
      refine hl_less (sx 0 rfl (sx 1 rfl (sx 2 rfl (sx 4 rfl (sx 5 rfl (sx 6 rfl (sx 7 rfl (sx 8 rfl (sx 14 rfl (sx 53 rfl (sx 61 rfl (sub_nil _)))))))))))) (.refl _) ?_
      refine hl_nil ?_
      refine hq_then ?_
      refine hc_seq ?_
      refine hc_seq ?_
      refine hc_region ?_
      refine hl_v rfl rfl rfl (rv_ev rfl) ?_
      refine hl_v rfl rfl rfl (rv_len rfl Try.underlying40 rfl (fun w hm => (hq w (hm.holds _ (mem_at (i := 0) rfl))).row)) ?_
      refine hl_gtr rfl rfl rfl rfl rfl rfl (fun h13 => ?_) (fun h13 => ?_)
      ·
       refine hl_less (sx 0 rfl (sx 1 rfl (sx 2 rfl (sx 4 rfl (sx 5 rfl (sx 6 rfl (sx 7 rfl (sx 8 rfl (sx 14 rfl (sx 40 rfl (sx 53 rfl (sx 61 rfl (sub_nil _))))))))))))) (.refl _) ?_
       refine hl_nil ?_
       refine hq_then ?_
       refine hc_true rfl ?_
       refine hc_region ?_
       refine hl_v rfl rfl rfl (rv_ev rfl) ?_
       refine hl_v rfl rfl rfl (rv_slH rfl Try.underlying40 (by kernel_rfl) rfl rfl (fun w hm => (hq w (hm.holds _ (mem_at (i := 0) rfl))).row) (by omega) (by omega)) ?_
       refine hl_v rfl rfl rfl (rv_ev rfl) ?_
       refine hl_less (sx 0 rfl (sx 1 rfl (sx 2 rfl (sx 4 rfl (sx 5 rfl (sx 6 rfl (sx 7 rfl (sx 8 rfl (sx 14 rfl (sx 40 rfl (sx 53 rfl (sx 61 rfl (sub_nil _))))))))))))) (.refl _) ?_
       refine hl_nil ?_
       refine hq_then ?_
       refine hc_region ?_
       refine hl_v rfl rfl rfl (rv_ev rfl) ?_
       refine hl_v rfl rfl rfl (rv_ev rfl) ?_
       refine hl_know (p := ∀ r ∈ us, r.v.oneCell' = true) (fun w hm r hr => ((hq w (hm.holds _ (mem_at (i := 0) rfl))).xs r hr).one') (fun hone => ?_)
       refine hl_row rfl rfl rfl (rq_slice0 (s := 1) rfl Try.underlying40 (by kernel_rfl)) ?_
       intro g14
       refine hl_v rfl rfl rfl (rv_ev rfl) ?_
       refine hl_append (i := 0) (z := .slice none 0 0) (bytes := 24) (n' := (us.take (7 : Int).toNat).length) (xs' := ((us.take (7 : Int).toNat).flatMap crowC)) (L := fun v15 => [rowE 26 1 v15 ((us.take (7 : Int).toNat).length) ((us.take (7 : Int).toNat).flatMap crowC), bigE qs, boxE b9 #[.int .i64 ((n.gs.getD (((k : Int) - n.fst).toNat) an0).a), .int .i64 ((n.gs.getD (((k : Int) - n.fst).toNat) an0).b)] 80, bigE ps, rowE 40 1 (.slice (some ⟨g2, 0, none⟩) ((List.replicate (last + 1).toNat cset0).length) ((List.replicate (last + 1).toNat cset0).length)) cs.length (cs.flatMap csC), boxE b1 #[.int .i64 n.ins, n.sv, n.av, n.ov] 28]) rfl rfl rfl rfl Try.underlying40 (by kernel_rfl) (by kernel_rfl) rfl rfl rfl (rd_slHs (f := crowC) (fun _ => rfl) (fun w hm => (hq w (hm.holds _ (mem_at (i := 1) rfl))).row) (by omega)) (flat_onesC (fun r hr => hone r (List.mem_of_mem_take hr))) (by first | omega | (simp only [List.length_take]; omega)) (Nat.zero_add _) (List.nil_append _) (fun _ => rfl) ?_
       intro v15
       refine hl_v rfl rfl rfl (rv_ev rfl) ?_
       refine hl_row rfl rfl rfl (rq_buildSlice (z := .int .i64 0) (s := 1) (cs := ([(k : Int)].map (Value.int .i64))) rfl Try.underlying26 (by kernel_rfl) (by decide) rfl (by kernel_rfl) rfl) ?_
       intro g16
       refine hl_row rfl rfl rfl (rq_buildSlice (z := .slice none 0 0) (s := 1) (cs := [.slice (some ⟨g16, 0, none⟩) 1 1]) rfl Try.underlying40 (by kernel_rfl) (by decide) rfl (by kernel_rfl) rfl) ?_
       intro g17
       refine hl_append (i := 2) (z := .slice none 0 0) (bytes := 24) (n' := ((us.take (7 : Int).toNat) ++ [CRow.mk (.slice (some ⟨g16, 0, none⟩) 1 1) [(k : Int)]]).length) (xs' := (((us.take (7 : Int).toNat) ++ [CRow.mk (.slice (some ⟨g16, 0, none⟩) 1 1) [(k : Int)]]).flatMap crowC)) (L := fun v18 => [rowE 26 1 (.slice (some ⟨g17, 0, none⟩) 1 1) 1 ([.slice (some ⟨g16, 0, none⟩) 1 1]), rowE 3 1 (.slice (some ⟨g16, 0, none⟩) 1 1) 1 ([(k : Int)].map (Value.int .i64)), rowE 26 1 v18 (((us.take (7 : Int).toNat) ++ [CRow.mk (.slice (some ⟨g16, 0, none⟩) 1 1) [(k : Int)]]).length) (((us.take (7 : Int).toNat) ++ [CRow.mk (.slice (some ⟨g16, 0, none⟩) 1 1) [(k : Int)]]).flatMap crowC), bigE qs, boxE b9 #[.int .i64 ((n.gs.getD (((k : Int) - n.fst).toNat) an0).a), .int .i64 ((n.gs.getD (((k : Int) - n.fst).toNat) an0).b)] 80, bigE ps, rowE 40 1 (.slice (some ⟨g2, 0, none⟩) ((List.replicate (last + 1).toNat cset0).length) ((List.replicate (last + 1).toNat cset0).length)) cs.length (cs.flatMap csC), boxE b1 #[.int .i64 n.ins, n.sv, n.av, n.ov] 28]) rfl rfl rfl rfl Try.underlying40 (by kernel_rfl) (by kernel_rfl) rfl rfl rfl (rd_row 0 rfl) (by simp [Value.oneCell']) (by first | omega | (simp only [List.length_take]; omega)) (len_app (us.take (7 : Int).toNat) [CRow.mk (.slice (some ⟨g16, 0, none⟩) 1 1) [(k : Int)]]) (by rw [List.flatMap_append]; rfl) (fun _ => rfl) ?_
       intro v18
       refine hl_v rfl rfl rfl (rv_index (s := 1) rfl Try.underlying95 (by kernel_rfl) rfl rfl (rd_row 6 rfl) (by omega) (by first | omega | (simp only [List.length_set]; omega))) ?_
       refine hl_one (i := 2) rfl (fun ho19 => ?_)
       refine hl_storeEl (i := 6) (n' := (cs.set k (CSet.mk v18 ((us.take (7 : Int).toNat) ++ [CRow.mk (.slice (some ⟨g16, 0, none⟩) 1 1) [(k : Int)]]))).length) (xs' := ((cs.set k (CSet.mk v18 ((us.take (7 : Int).toNat) ++ [CRow.mk (.slice (some ⟨g16, 0, none⟩) 1 1) [(k : Int)]]))).flatMap csC)) (l' := [rowE 26 1 (.slice (some ⟨g17, 0, none⟩) 1 1) 1 ([.slice (some ⟨g16, 0, none⟩) 1 1]), rowE 3 1 (.slice (some ⟨g16, 0, none⟩) 1 1) 1 ([(k : Int)].map (Value.int .i64)), rowE 26 1 v18 (((us.take (7 : Int).toNat) ++ [CRow.mk (.slice (some ⟨g16, 0, none⟩) 1 1) [(k : Int)]]).length) (((us.take (7 : Int).toNat) ++ [CRow.mk (.slice (some ⟨g16, 0, none⟩) 1 1) [(k : Int)]]).flatMap crowC), bigE qs, boxE b9 #[.int .i64 ((n.gs.getD (((k : Int) - n.fst).toNat) an0).a), .int .i64 ((n.gs.getD (((k : Int) - n.fst).toNat) an0).b)] 80, bigE ps, rowE 40 1 (.slice (some ⟨g2, 0, none⟩) ((List.replicate (last + 1).toNat cset0).length) ((List.replicate (last + 1).toNat cset0).length)) ((cs.set k (CSet.mk v18 ((us.take (7 : Int).toNat) ++ [CRow.mk (.slice (some ⟨g16, 0, none⟩) 1 1) [(k : Int)]]))).length) ((cs.set k (CSet.mk v18 ((us.take (7 : Int).toNat) ++ [CRow.mk (.slice (some ⟨g16, 0, none⟩) 1 1) [(k : Int)]]))).flatMap csC), boxE b1 #[.int .i64 n.ins, n.sv, n.av, n.ov] 28]) rfl rfl rfl (by kernel_rfl) rfl rfl ho19 rfl (by first | omega | (simp only [List.length_set]; omega)) List.length_set.symm (flat_set1 csC (fun r => r.v) (fun _ => rfl) _ (CSet.mk v18 ((us.take (7 : Int).toNat) ++ [CRow.mk (.slice (some ⟨g16, 0, none⟩) 1 1) [(k : Int)]])) rfl) rfl ?_
       refine hl_less (sx 0 rfl (sx 1 rfl (sx 2 rfl (sx 4 rfl (sx 5 rfl (sx 6 rfl (sx 7 rfl (sx 8 rfl (sx 14 rfl (sx 40 rfl (sx 53 rfl (sx 61 rfl (sub_nil _))))))))))))) (.refl _) ?_
       refine hl_nil ?_
       refine hq_block_normal ?_
       refine hq_block_normal ?_
       refine hq_then ?_
       refine hc_region ?_
       refine hl_v rfl rfl rfl (rv_ev rfl) ?_
       refine hl_v rfl rfl rfl (rv_add rfl rfl rfl (by constructor <;> omega)) ?_
       refine hl_v rfl rfl rfl (rv_ev rfl) ?_
       refine hl_less (sx 0 rfl (sx 1 rfl (sx 2 rfl (sx 4 rfl (sx 5 rfl (sx 6 rfl (sx 7 rfl (sx 8 rfl (sx 14 rfl (sx 40 rfl (sx 53 rfl (sx 61 rfl (sub_nil _))))))))))))) (.refl _) ?_
       refine hl_nil ?_
       refine hq_conv [bigE ps, rowE 26 1 (.slice (some ⟨g17, 0, none⟩) 1 1) 1 ([.slice (some ⟨g16, 0, none⟩) 1 1]), rowE 3 1 (.slice (some ⟨g16, 0, none⟩) 1 1) 1 ([(k : Int)].map (Value.int .i64)), rowE 26 1 v18 (((us.take (7 : Int).toNat) ++ [CRow.mk (.slice (some ⟨g16, 0, none⟩) 1 1) [(k : Int)]]).length) (((us.take (7 : Int).toNat) ++ [CRow.mk (.slice (some ⟨g16, 0, none⟩) 1 1) [(k : Int)]]).flatMap crowC), bigE qs, rowE 40 1 (.slice (some ⟨g2, 0, none⟩) ((List.replicate (last + 1).toNat cset0).length) ((List.replicate (last + 1).toNat cset0).length)) ((cs.set k (CSet.mk v18 ((us.take (7 : Int).toNat) ++ [CRow.mk (.slice (some ⟨g16, 0, none⟩) 1 1) [(k : Int)]]))).length) ((cs.set k (CSet.mk v18 ((us.take (7 : Int).toNat) ++ [CRow.mk (.slice (some ⟨g16, 0, none⟩) 1 1) [(k : Int)]]))).flatMap csC), boxE b1 #[.int .i64 n.ins, n.sv, n.av, n.ov] 28] (conv_pick (src := [rowE 26 1 (.slice (some ⟨g17, 0, none⟩) 1 1) 1 ([.slice (some ⟨g16, 0, none⟩) 1 1]), rowE 3 1 (.slice (some ⟨g16, 0, none⟩) 1 1) 1 ([(k : Int)].map (Value.int .i64)), rowE 26 1 v18 (((us.take (7 : Int).toNat) ++ [CRow.mk (.slice (some ⟨g16, 0, none⟩) 1 1) [(k : Int)]]).length) (((us.take (7 : Int).toNat) ++ [CRow.mk (.slice (some ⟨g16, 0, none⟩) 1 1) [(k : Int)]]).flatMap crowC), bigE qs, boxE b9 #[.int .i64 ((n.gs.getD (((k : Int) - n.fst).toNat) an0).a), .int .i64 ((n.gs.getD (((k : Int) - n.fst).toNat) an0).b)] 80, bigE ps, rowE 40 1 (.slice (some ⟨g2, 0, none⟩) ((List.replicate (last + 1).toNat cset0).length) ((List.replicate (last + 1).toNat cset0).length)) ((cs.set k (CSet.mk v18 ((us.take (7 : Int).toNat) ++ [CRow.mk (.slice (some ⟨g16, 0, none⟩) 1 1) [(k : Int)]]))).length) ((cs.set k (CSet.mk v18 ((us.take (7 : Int).toNat) ++ [CRow.mk (.slice (some ⟨g16, 0, none⟩) 1 1) [(k : Int)]]))).flatMap csC), boxE b1 #[.int .i64 n.ins, n.sv, n.av, n.ov] 28]) (dst := [bigE ps, rowE 26 1 (.slice (some ⟨g17, 0, none⟩) 1 1) 1 ([.slice (some ⟨g16, 0, none⟩) 1 1]), rowE 3 1 (.slice (some ⟨g16, 0, none⟩) 1 1) 1 ([(k : Int)].map (Value.int .i64)), rowE 26 1 v18 (((us.take (7 : Int).toNat) ++ [CRow.mk (.slice (some ⟨g16, 0, none⟩) 1 1) [(k : Int)]]).length) (((us.take (7 : Int).toNat) ++ [CRow.mk (.slice (some ⟨g16, 0, none⟩) 1 1) [(k : Int)]]).flatMap crowC), bigE qs, rowE 40 1 (.slice (some ⟨g2, 0, none⟩) ((List.replicate (last + 1).toNat cset0).length) ((List.replicate (last + 1).toNat cset0).length)) ((cs.set k (CSet.mk v18 ((us.take (7 : Int).toNat) ++ [CRow.mk (.slice (some ⟨g16, 0, none⟩) 1 1) [(k : Int)]]))).length) ((cs.set k (CSet.mk v18 ((us.take (7 : Int).toNat) ++ [CRow.mk (.slice (some ⟨g16, 0, none⟩) 1 1) [(k : Int)]]))).flatMap csC), boxE b1 #[.int .i64 n.ins, n.sv, n.av, n.ov] 28]) (l := []) [5, 0, 1, 2, 3, 6, 7] (by decide) rfl) ?_
       refine hq_conv [bigE [bigE ps, rowE 26 1 (.slice (some ⟨g17, 0, none⟩) 1 1) 1 ([.slice (some ⟨g16, 0, none⟩) 1 1]), rowE 3 1 (.slice (some ⟨g16, 0, none⟩) 1 1) 1 ([(k : Int)].map (Value.int .i64)), rowE 26 1 v18 (((us.take (7 : Int).toNat) ++ [CRow.mk (.slice (some ⟨g16, 0, none⟩) 1 1) [(k : Int)]]).length) (((us.take (7 : Int).toNat) ++ [CRow.mk (.slice (some ⟨g16, 0, none⟩) 1 1) [(k : Int)]]).flatMap crowC), bigE qs], rowE 40 1 (.slice (some ⟨g2, 0, none⟩) ((List.replicate (last + 1).toNat cset0).length) ((List.replicate (last + 1).toNat cset0).length)) ((cs.set k (CSet.mk v18 ((us.take (7 : Int).toNat) ++ [CRow.mk (.slice (some ⟨g16, 0, none⟩) 1 1) [(k : Int)]]))).length) ((cs.set k (CSet.mk v18 ((us.take (7 : Int).toNat) ++ [CRow.mk (.slice (some ⟨g16, 0, none⟩) 1 1) [(k : Int)]]))).flatMap csC), boxE b1 #[.int .i64 n.ins, n.sv, n.av, n.ov] 28] (conv_bigN [bigE ps, rowE 26 1 (.slice (some ⟨g17, 0, none⟩) 1 1) 1 ([.slice (some ⟨g16, 0, none⟩) 1 1]), rowE 3 1 (.slice (some ⟨g16, 0, none⟩) 1 1) 1 ([(k : Int)].map (Value.int .i64)), rowE 26 1 v18 (((us.take (7 : Int).toNat) ++ [CRow.mk (.slice (some ⟨g16, 0, none⟩) 1 1) [(k : Int)]]).length) (((us.take (7 : Int).toNat) ++ [CRow.mk (.slice (some ⟨g16, 0, none⟩) 1 1) [(k : Int)]]).flatMap crowC), bigE qs] _ rfl) ?_
       exact hq_round3 (k + 1) (cs.set k (CSet.mk v18 ((us.take (7 : Int).toNat) ++ [CRow.mk (.slice (some ⟨g16, 0, none⟩) 1 1) [(k : Int)]]))) [bigE ps, rowE 26 1 (.slice (some ⟨g17, 0, none⟩) 1 1) 1 ([.slice (some ⟨g16, 0, none⟩) 1 1]), rowE 3 1 (.slice (some ⟨g16, 0, none⟩) 1 1) 1 ([(k : Int)].map (Value.int .i64)), rowE 26 1 v18 (((us.take (7 : Int).toNat) ++ [CRow.mk (.slice (some ⟨g16, 0, none⟩) 1 1) [(k : Int)]]).length) (((us.take (7 : Int).toNat) ++ [CRow.mk (.slice (some ⟨g16, 0, none⟩) 1 1) [(k : Int)]]).flatMap crowC), bigE qs] ⟨by omega, hok.step (by omega) (cuts_and hc1 hc2 (fun r hr => (hA.ok r hr)) (fun r hr => (hB.ok r hr)) huj (fun r hr => List.mem_of_mem_take hr) (by first | omega | (rw [List.length_take]; omega))), fun w hw => (hs w (big_part hw List.mem_cons_self)).set (rds_cl_of (rdsW_own (big_part hw (List.mem_cons_of_mem _ (List.mem_cons_of_mem _ (List.mem_cons_of_mem _ List.mem_cons_self))))) (fun r hr => (List.mem_append.1 hr).elim (fun h => (hq w (big_part hw (List.mem_cons_of_mem _ (List.mem_cons_of_mem _ (List.mem_cons_of_mem _ (List.mem_cons_of_mem _ List.mem_cons_self)))))).xs r (List.mem_of_mem_take h)) (fun h => by rw [List.mem_singleton] at h; subst h; exact rdsW_own (big_part hw (List.mem_cons_of_mem _ (List.mem_cons_of_mem _ List.mem_cons_self))))))⟩ (by omega) (sx 0 rfl (sx 1 rfl (sx 2 rfl (sx 4 rfl (sx 5 rfl (sx 6 rfl (sub_nil _))))))) ((.cons_cons _ (.cons_cons _ (.cons_cons _ .slnil))))
      ·
       refine hl_less (sx 0 rfl (sx 1 rfl (sx 2 rfl (sx 4 rfl (sx 5 rfl (sx 6 rfl (sx 7 rfl (sx 8 rfl (sx 14 rfl (sx 40 rfl (sx 53 rfl (sx 61 rfl (sub_nil _))))))))))))) (.refl _) ?_
       refine hl_nil ?_
       refine hq_then ?_
       refine hc_false rfl ?_
       refine hc_skip ?_
       refine hq_then ?_
       refine hc_region ?_
       refine hl_v rfl rfl rfl (rv_ev rfl) ?_
       refine hl_v rfl rfl rfl (rv_ev rfl) ?_
       refine hl_know (p := ∀ r ∈ us, r.v.oneCell' = true) (fun w hm r hr => ((hq w (hm.holds _ (mem_at (i := 0) rfl))).xs r hr).one') (fun hone => ?_)
       refine hl_row rfl rfl rfl (rq_slice0 (s := 1) rfl Try.underlying40 (by kernel_rfl)) ?_
       intro g20
       refine hl_v rfl rfl rfl (rv_ev rfl) ?_
       refine hl_append (i := 0) (z := .slice none 0 0) (bytes := 24) (n' := us.length) (xs' := (us.flatMap crowC)) (L := fun v21 => [rowE 26 1 v21 us.length (us.flatMap crowC), bigE qs, boxE b9 #[.int .i64 ((n.gs.getD (((k : Int) - n.fst).toNat) an0).a), .int .i64 ((n.gs.getD (((k : Int) - n.fst).toNat) an0).b)] 80, bigE ps, rowE 40 1 (.slice (some ⟨g2, 0, none⟩) ((List.replicate (last + 1).toNat cset0).length) ((List.replicate (last + 1).toNat cset0).length)) cs.length (cs.flatMap csC), boxE b1 #[.int .i64 n.ins, n.sv, n.av, n.ov] 28]) rfl rfl rfl rfl Try.underlying40 (by kernel_rfl) (by kernel_rfl) rfl rfl rfl (fun w hm => (hq w (hm.holds _ (mem_at (i := 1) rfl))).row) (flat_onesC hone) (by first | omega | (simp only [List.length_take]; omega)) (Nat.zero_add _) (List.nil_append _) (fun _ => rfl) ?_
       intro v21
       refine hl_v rfl rfl rfl (rv_ev rfl) ?_
       refine hl_row rfl rfl rfl (rq_buildSlice (z := .int .i64 0) (s := 1) (cs := ([(k : Int)].map (Value.int .i64))) rfl Try.underlying26 (by kernel_rfl) (by decide) rfl (by kernel_rfl) rfl) ?_
       intro g22
       refine hl_row rfl rfl rfl (rq_buildSlice (z := .slice none 0 0) (s := 1) (cs := [.slice (some ⟨g22, 0, none⟩) 1 1]) rfl Try.underlying40 (by kernel_rfl) (by decide) rfl (by kernel_rfl) rfl) ?_
       intro g23
       refine hl_append (i := 2) (z := .slice none 0 0) (bytes := 24) (n' := (us ++ [CRow.mk (.slice (some ⟨g22, 0, none⟩) 1 1) [(k : Int)]]).length) (xs' := ((us ++ [CRow.mk (.slice (some ⟨g22, 0, none⟩) 1 1) [(k : Int)]]).flatMap crowC)) (L := fun v24 => [rowE 26 1 (.slice (some ⟨g23, 0, none⟩) 1 1) 1 ([.slice (some ⟨g22, 0, none⟩) 1 1]), rowE 3 1 (.slice (some ⟨g22, 0, none⟩) 1 1) 1 ([(k : Int)].map (Value.int .i64)), rowE 26 1 v24 ((us ++ [CRow.mk (.slice (some ⟨g22, 0, none⟩) 1 1) [(k : Int)]]).length) ((us ++ [CRow.mk (.slice (some ⟨g22, 0, none⟩) 1 1) [(k : Int)]]).flatMap crowC), bigE qs, boxE b9 #[.int .i64 ((n.gs.getD (((k : Int) - n.fst).toNat) an0).a), .int .i64 ((n.gs.getD (((k : Int) - n.fst).toNat) an0).b)] 80, bigE ps, rowE 40 1 (.slice (some ⟨g2, 0, none⟩) ((List.replicate (last + 1).toNat cset0).length) ((List.replicate (last + 1).toNat cset0).length)) cs.length (cs.flatMap csC), boxE b1 #[.int .i64 n.ins, n.sv, n.av, n.ov] 28]) rfl rfl rfl rfl Try.underlying40 (by kernel_rfl) (by kernel_rfl) rfl rfl rfl (rd_row 0 rfl) (by simp [Value.oneCell']) (by first | omega | (simp only [List.length_take]; omega)) (len_app us [CRow.mk (.slice (some ⟨g22, 0, none⟩) 1 1) [(k : Int)]]) (by rw [List.flatMap_append]; rfl) (fun _ => rfl) ?_
       intro v24
       refine hl_v rfl rfl rfl (rv_index (s := 1) rfl Try.underlying95 (by kernel_rfl) rfl rfl (rd_row 6 rfl) (by omega) (by first | omega | (simp only [List.length_set]; omega))) ?_
       refine hl_one (i := 2) rfl (fun ho25 => ?_)
       refine hl_storeEl (i := 6) (n' := (cs.set k (CSet.mk v24 (us ++ [CRow.mk (.slice (some ⟨g22, 0, none⟩) 1 1) [(k : Int)]]))).length) (xs' := ((cs.set k (CSet.mk v24 (us ++ [CRow.mk (.slice (some ⟨g22, 0, none⟩) 1 1) [(k : Int)]]))).flatMap csC)) (l' := [rowE 26 1 (.slice (some ⟨g23, 0, none⟩) 1 1) 1 ([.slice (some ⟨g22, 0, none⟩) 1 1]), rowE 3 1 (.slice (some ⟨g22, 0, none⟩) 1 1) 1 ([(k : Int)].map (Value.int .i64)), rowE 26 1 v24 ((us ++ [CRow.mk (.slice (some ⟨g22, 0, none⟩) 1 1) [(k : Int)]]).length) ((us ++ [CRow.mk (.slice (some ⟨g22, 0, none⟩) 1 1) [(k : Int)]]).flatMap crowC), bigE qs, boxE b9 #[.int .i64 ((n.gs.getD (((k : Int) - n.fst).toNat) an0).a), .int .i64 ((n.gs.getD (((k : Int) - n.fst).toNat) an0).b)] 80, bigE ps, rowE 40 1 (.slice (some ⟨g2, 0, none⟩) ((List.replicate (last + 1).toNat cset0).length) ((List.replicate (last + 1).toNat cset0).length)) ((cs.set k (CSet.mk v24 (us ++ [CRow.mk (.slice (some ⟨g22, 0, none⟩) 1 1) [(k : Int)]]))).length) ((cs.set k (CSet.mk v24 (us ++ [CRow.mk (.slice (some ⟨g22, 0, none⟩) 1 1) [(k : Int)]]))).flatMap csC), boxE b1 #[.int .i64 n.ins, n.sv, n.av, n.ov] 28]) rfl rfl rfl (by kernel_rfl) rfl rfl ho25 rfl (by first | omega | (simp only [List.length_set]; omega)) List.length_set.symm (flat_set1 csC (fun r => r.v) (fun _ => rfl) _ (CSet.mk v24 (us ++ [CRow.mk (.slice (some ⟨g22, 0, none⟩) 1 1) [(k : Int)]])) rfl) rfl ?_
       refine hl_less (sx 0 rfl (sx 1 rfl (sx 2 rfl (sx 4 rfl (sx 5 rfl (sx 6 rfl (sx 7 rfl (sx 8 rfl (sx 14 rfl (sx 40 rfl (sx 53 rfl (sx 61 rfl (sub_nil _))))))))))))) (.refl _) ?_
       refine hl_nil ?_
       refine hq_block_normal ?_
       refine hq_block_normal ?_
       refine hq_then ?_
       refine hc_region ?_
       refine hl_v rfl rfl rfl (rv_ev rfl) ?_
       refine hl_v rfl rfl rfl (rv_add rfl rfl rfl (by constructor <;> omega)) ?_
       refine hl_v rfl rfl rfl (rv_ev rfl) ?_
       refine hl_less (sx 0 rfl (sx 1 rfl (sx 2 rfl (sx 4 rfl (sx 5 rfl (sx 6 rfl (sx 7 rfl (sx 8 rfl (sx 14 rfl (sx 40 rfl (sx 53 rfl (sx 61 rfl (sub_nil _))))))))))))) (.refl _) ?_
       refine hl_nil ?_
       refine hq_conv [bigE ps, rowE 26 1 (.slice (some ⟨g23, 0, none⟩) 1 1) 1 ([.slice (some ⟨g22, 0, none⟩) 1 1]), rowE 3 1 (.slice (some ⟨g22, 0, none⟩) 1 1) 1 ([(k : Int)].map (Value.int .i64)), rowE 26 1 v24 ((us ++ [CRow.mk (.slice (some ⟨g22, 0, none⟩) 1 1) [(k : Int)]]).length) ((us ++ [CRow.mk (.slice (some ⟨g22, 0, none⟩) 1 1) [(k : Int)]]).flatMap crowC), bigE qs, rowE 40 1 (.slice (some ⟨g2, 0, none⟩) ((List.replicate (last + 1).toNat cset0).length) ((List.replicate (last + 1).toNat cset0).length)) ((cs.set k (CSet.mk v24 (us ++ [CRow.mk (.slice (some ⟨g22, 0, none⟩) 1 1) [(k : Int)]]))).length) ((cs.set k (CSet.mk v24 (us ++ [CRow.mk (.slice (some ⟨g22, 0, none⟩) 1 1) [(k : Int)]]))).flatMap csC), boxE b1 #[.int .i64 n.ins, n.sv, n.av, n.ov] 28] (conv_pick (src := [rowE 26 1 (.slice (some ⟨g23, 0, none⟩) 1 1) 1 ([.slice (some ⟨g22, 0, none⟩) 1 1]), rowE 3 1 (.slice (some ⟨g22, 0, none⟩) 1 1) 1 ([(k : Int)].map (Value.int .i64)), rowE 26 1 v24 ((us ++ [CRow.mk (.slice (some ⟨g22, 0, none⟩) 1 1) [(k : Int)]]).length) ((us ++ [CRow.mk (.slice (some ⟨g22, 0, none⟩) 1 1) [(k : Int)]]).flatMap crowC), bigE qs, boxE b9 #[.int .i64 ((n.gs.getD (((k : Int) - n.fst).toNat) an0).a), .int .i64 ((n.gs.getD (((k : Int) - n.fst).toNat) an0).b)] 80, bigE ps, rowE 40 1 (.slice (some ⟨g2, 0, none⟩) ((List.replicate (last + 1).toNat cset0).length) ((List.replicate (last + 1).toNat cset0).length)) ((cs.set k (CSet.mk v24 (us ++ [CRow.mk (.slice (some ⟨g22, 0, none⟩) 1 1) [(k : Int)]]))).length) ((cs.set k (CSet.mk v24 (us ++ [CRow.mk (.slice (some ⟨g22, 0, none⟩) 1 1) [(k : Int)]]))).flatMap csC), boxE b1 #[.int .i64 n.ins, n.sv, n.av, n.ov] 28]) (dst := [bigE ps, rowE 26 1 (.slice (some ⟨g23, 0, none⟩) 1 1) 1 ([.slice (some ⟨g22, 0, none⟩) 1 1]), rowE 3 1 (.slice (some ⟨g22, 0, none⟩) 1 1) 1 ([(k : Int)].map (Value.int .i64)), rowE 26 1 v24 ((us ++ [CRow.mk (.slice (some ⟨g22, 0, none⟩) 1 1) [(k : Int)]]).length) ((us ++ [CRow.mk (.slice (some ⟨g22, 0, none⟩) 1 1) [(k : Int)]]).flatMap crowC), bigE qs, rowE 40 1 (.slice (some ⟨g2, 0, none⟩) ((List.replicate (last + 1).toNat cset0).length) ((List.replicate (last + 1).toNat cset0).length)) ((cs.set k (CSet.mk v24 (us ++ [CRow.mk (.slice (some ⟨g22, 0, none⟩) 1 1) [(k : Int)]]))).length) ((cs.set k (CSet.mk v24 (us ++ [CRow.mk (.slice (some ⟨g22, 0, none⟩) 1 1) [(k : Int)]]))).flatMap csC), boxE b1 #[.int .i64 n.ins, n.sv, n.av, n.ov] 28]) (l := []) [5, 0, 1, 2, 3, 6, 7] (by decide) rfl) ?_
       refine hq_conv [bigE [bigE ps, rowE 26 1 (.slice (some ⟨g23, 0, none⟩) 1 1) 1 ([.slice (some ⟨g22, 0, none⟩) 1 1]), rowE 3 1 (.slice (some ⟨g22, 0, none⟩) 1 1) 1 ([(k : Int)].map (Value.int .i64)), rowE 26 1 v24 ((us ++ [CRow.mk (.slice (some ⟨g22, 0, none⟩) 1 1) [(k : Int)]]).length) ((us ++ [CRow.mk (.slice (some ⟨g22, 0, none⟩) 1 1) [(k : Int)]]).flatMap crowC), bigE qs], rowE 40 1 (.slice (some ⟨g2, 0, none⟩) ((List.replicate (last + 1).toNat cset0).length) ((List.replicate (last + 1).toNat cset0).length)) ((cs.set k (CSet.mk v24 (us ++ [CRow.mk (.slice (some ⟨g22, 0, none⟩) 1 1) [(k : Int)]]))).length) ((cs.set k (CSet.mk v24 (us ++ [CRow.mk (.slice (some ⟨g22, 0, none⟩) 1 1) [(k : Int)]]))).flatMap csC), boxE b1 #[.int .i64 n.ins, n.sv, n.av, n.ov] 28] (conv_bigN [bigE ps, rowE 26 1 (.slice (some ⟨g23, 0, none⟩) 1 1) 1 ([.slice (some ⟨g22, 0, none⟩) 1 1]), rowE 3 1 (.slice (some ⟨g22, 0, none⟩) 1 1) 1 ([(k : Int)].map (Value.int .i64)), rowE 26 1 v24 ((us ++ [CRow.mk (.slice (some ⟨g22, 0, none⟩) 1 1) [(k : Int)]]).length) ((us ++ [CRow.mk (.slice (some ⟨g22, 0, none⟩) 1 1) [(k : Int)]]).flatMap crowC), bigE qs] _ rfl) ?_
       exact hq_round3 (k + 1) (cs.set k (CSet.mk v24 (us ++ [CRow.mk (.slice (some ⟨g22, 0, none⟩) 1 1) [(k : Int)]]))) [bigE ps, rowE 26 1 (.slice (some ⟨g23, 0, none⟩) 1 1) 1 ([.slice (some ⟨g22, 0, none⟩) 1 1]), rowE 3 1 (.slice (some ⟨g22, 0, none⟩) 1 1) 1 ([(k : Int)].map (Value.int .i64)), rowE 26 1 v24 ((us ++ [CRow.mk (.slice (some ⟨g22, 0, none⟩) 1 1) [(k : Int)]]).length) ((us ++ [CRow.mk (.slice (some ⟨g22, 0, none⟩) 1 1) [(k : Int)]]).flatMap crowC), bigE qs] ⟨by omega, hok.step (by omega) (cuts_and hc1 hc2 (fun r hr => (hA.ok r hr)) (fun r hr => (hB.ok r hr)) huj (fun r hr => hr) (by first | omega | (rw [List.length_take]; omega))), fun w hw => (hs w (big_part hw List.mem_cons_self)).set (rds_cl_of (rdsW_own (big_part hw (List.mem_cons_of_mem _ (List.mem_cons_of_mem _ (List.mem_cons_of_mem _ List.mem_cons_self))))) (fun r hr => (List.mem_append.1 hr).elim (fun h => (hq w (big_part hw (List.mem_cons_of_mem _ (List.mem_cons_of_mem _ (List.mem_cons_of_mem _ (List.mem_cons_of_mem _ List.mem_cons_self)))))).xs r h) (fun h => by rw [List.mem_singleton] at h; subst h; exact rdsW_own (big_part hw (List.mem_cons_of_mem _ (List.mem_cons_of_mem _ List.mem_cons_self))))))⟩ (by omega) (sx 0 rfl (sx 1 rfl (sx 2 rfl (sx 4 rfl (sx 5 rfl (sx 6 rfl (sub_nil _))))))) ((.cons_cons _ (.cons_cons _ (.cons_cons _ .slnil))))
   ·
    refine hl_v rfl rfl rfl (rv_ev rfl) ?_
    refine hl_v rfl rfl rfl (rv_ev rfl) ?_
    refine hl_less (sx 0 rfl (sx 1 rfl (sx 2 rfl (sx 4 rfl (sx 5 rfl (sx 6 rfl (sx 14 rfl (sx 53 rfl (sx 61 rfl (sub_nil _)))))))))) (.refl _) ?_
    refine hl_nil ?_
    refine hq_then ?_
    refine hc_true rfl ?_
    refine hc_region ?_
    refine hl_v rfl rfl rfl (rv_ev rfl) ?_
    refine hl_v rfl rfl rfl (rv_ev rfl) ?_
    refine hl_v rfl rfl rfl (rv_ev rfl) ?_
    refine hl_row rfl rfl rfl (rq_buildSlice (z := .int .i64 0) (s := 1) (cs := ([(k : Int)].map (Value.int .i64))) rfl Try.underlying26 (by kernel_rfl) (by decide) rfl (by kernel_rfl) rfl) ?_
    intro g26
    refine hl_row rfl rfl rfl (rq_buildSlice (z := .slice none 0 0) (s := 1) (cs := [.slice (some ⟨g26, 0, none⟩) 1 1]) rfl Try.underlying40 (by kernel_rfl) (by decide) rfl (by kernel_rfl) rfl) ?_
    intro g27
    refine hl_v rfl rfl rfl (rv_index (s := 1) rfl Try.underlying95 (by kernel_rfl) rfl rfl (rd_row 3 rfl) (by omega) (by first | omega | (simp only [List.length_set]; omega))) ?_
    refine hl_storeEl (i := 3) (n' := (cs.set k (CSet.mk (.slice (some ⟨g27, 0, none⟩) 1 1) ([CRow.mk (.slice (some ⟨g26, 0, none⟩) 1 1) [(k : Int)]]))).length) (xs' := ((cs.set k (CSet.mk (.slice (some ⟨g27, 0, none⟩) 1 1) ([CRow.mk (.slice (some ⟨g26, 0, none⟩) 1 1) [(k : Int)]]))).flatMap csC)) (l' := [rowE 26 1 (.slice (some ⟨g27, 0, none⟩) 1 1) 1 ([.slice (some ⟨g26, 0, none⟩) 1 1]), rowE 3 1 (.slice (some ⟨g26, 0, none⟩) 1 1) 1 ([(k : Int)].map (Value.int .i64)), bigE ps, rowE 40 1 (.slice (some ⟨g2, 0, none⟩) ((List.replicate (last + 1).toNat cset0).length) ((List.replicate (last + 1).toNat cset0).length)) ((cs.set k (CSet.mk (.slice (some ⟨g27, 0, none⟩) 1 1) ([CRow.mk (.slice (some ⟨g26, 0, none⟩) 1 1) [(k : Int)]]))).length) ((cs.set k (CSet.mk (.slice (some ⟨g27, 0, none⟩) 1 1) ([CRow.mk (.slice (some ⟨g26, 0, none⟩) 1 1) [(k : Int)]]))).flatMap csC), boxE b1 #[.int .i64 n.ins, n.sv, n.av, n.ov] 28]) rfl rfl rfl (by kernel_rfl) rfl rfl rfl rfl (by first | omega | (simp only [List.length_set]; omega)) List.length_set.symm (flat_set1 csC (fun r => r.v) (fun _ => rfl) _ (CSet.mk (.slice (some ⟨g27, 0, none⟩) 1 1) ([CRow.mk (.slice (some ⟨g26, 0, none⟩) 1 1) [(k : Int)]])) rfl) rfl ?_
    refine hl_less (sx 0 rfl (sx 1 rfl (sx 2 rfl (sx 4 rfl (sx 5 rfl (sx 6 rfl (sx 14 rfl (sx 53 rfl (sx 61 rfl (sub_nil _)))))))))) (.refl _) ?_
    refine hl_nil ?_
    refine hq_block_normal ?_
    refine hq_block_normal ?_
    refine hq_then ?_
    refine hc_region ?_
    refine hl_v rfl rfl rfl (rv_ev rfl) ?_
    refine hl_v rfl rfl rfl (rv_add rfl rfl rfl (by constructor <;> omega)) ?_
    refine hl_v rfl rfl rfl (rv_ev rfl) ?_
    refine hl_less (sx 0 rfl (sx 1 rfl (sx 2 rfl (sx 4 rfl (sx 5 rfl (sx 6 rfl (sx 14 rfl (sx 53 rfl (sx 61 rfl (sub_nil _)))))))))) (.refl _) ?_
    refine hl_nil ?_
    refine hq_conv [bigE ps, rowE 26 1 (.slice (some ⟨g27, 0, none⟩) 1 1) 1 ([.slice (some ⟨g26, 0, none⟩) 1 1]), rowE 3 1 (.slice (some ⟨g26, 0, none⟩) 1 1) 1 ([(k : Int)].map (Value.int .i64)), rowE 40 1 (.slice (some ⟨g2, 0, none⟩) ((List.replicate (last + 1).toNat cset0).length) ((List.replicate (last + 1).toNat cset0).length)) ((cs.set k (CSet.mk (.slice (some ⟨g27, 0, none⟩) 1 1) ([CRow.mk (.slice (some ⟨g26, 0, none⟩) 1 1) [(k : Int)]]))).length) ((cs.set k (CSet.mk (.slice (some ⟨g27, 0, none⟩) 1 1) ([CRow.mk (.slice (some ⟨g26, 0, none⟩) 1 1) [(k : Int)]]))).flatMap csC), boxE b1 #[.int .i64 n.ins, n.sv, n.av, n.ov] 28] (conv_pick (src := [rowE 26 1 (.slice (some ⟨g27, 0, none⟩) 1 1) 1 ([.slice (some ⟨g26, 0, none⟩) 1 1]), rowE 3 1 (.slice (some ⟨g26, 0, none⟩) 1 1) 1 ([(k : Int)].map (Value.int .i64)), bigE ps, rowE 40 1 (.slice (some ⟨g2, 0, none⟩) ((List.replicate (last + 1).toNat cset0).length) ((List.replicate (last + 1).toNat cset0).length)) ((cs.set k (CSet.mk (.slice (some ⟨g27, 0, none⟩) 1 1) ([CRow.mk (.slice (some ⟨g26, 0, none⟩) 1 1) [(k : Int)]]))).length) ((cs.set k (CSet.mk (.slice (some ⟨g27, 0, none⟩) 1 1) ([CRow.mk (.slice (some ⟨g26, 0, none⟩) 1 1) [(k : Int)]]))).flatMap csC), boxE b1 #[.int .i64 n.ins, n.sv, n.av, n.ov] 28]) (dst := [bigE ps, rowE 26 1 (.slice (some ⟨g27, 0, none⟩) 1 1) 1 ([.slice (some ⟨g26, 0, none⟩) 1 1]), rowE 3 1 (.slice (some ⟨g26, 0, none⟩) 1 1) 1 ([(k : Int)].map (Value.int .i64)), rowE 40 1 (.slice (some ⟨g2, 0, none⟩) ((List.replicate (last + 1).toNat cset0).length) ((List.replicate (last + 1).toNat cset0).length)) ((cs.set k (CSet.mk (.slice (some ⟨g27, 0, none⟩) 1 1) ([CRow.mk (.slice (some ⟨g26, 0, none⟩) 1 1) [(k : Int)]]))).length) ((cs.set k (CSet.mk (.slice (some ⟨g27, 0, none⟩) 1 1) ([CRow.mk (.slice (some ⟨g26, 0, none⟩) 1 1) [(k : Int)]]))).flatMap csC), boxE b1 #[.int .i64 n.ins, n.sv, n.av, n.ov] 28]) (l := []) [2, 0, 1, 3, 4] (by decide) rfl) ?_
    refine hq_conv [bigE [bigE ps, rowE 26 1 (.slice (some ⟨g27, 0, none⟩) 1 1) 1 ([.slice (some ⟨g26, 0, none⟩) 1 1]), rowE 3 1 (.slice (some ⟨g26, 0, none⟩) 1 1) 1 ([(k : Int)].map (Value.int .i64))], rowE 40 1 (.slice (some ⟨g2, 0, none⟩) ((List.replicate (last + 1).toNat cset0).length) ((List.replicate (last + 1).toNat cset0).length)) ((cs.set k (CSet.mk (.slice (some ⟨g27, 0, none⟩) 1 1) ([CRow.mk (.slice (some ⟨g26, 0, none⟩) 1 1) [(k : Int)]]))).length) ((cs.set k (CSet.mk (.slice (some ⟨g27, 0, none⟩) 1 1) ([CRow.mk (.slice (some ⟨g26, 0, none⟩) 1 1) [(k : Int)]]))).flatMap csC), boxE b1 #[.int .i64 n.ins, n.sv, n.av, n.ov] 28] (conv_bigN [bigE ps, rowE 26 1 (.slice (some ⟨g27, 0, none⟩) 1 1) 1 ([.slice (some ⟨g26, 0, none⟩) 1 1]), rowE 3 1 (.slice (some ⟨g26, 0, none⟩) 1 1) 1 ([(k : Int)].map (Value.int .i64))] _ rfl) ?_
    exact hq_round3 (k + 1) (cs.set k (CSet.mk (.slice (some ⟨g27, 0, none⟩) 1 1) ([CRow.mk (.slice (some ⟨g26, 0, none⟩) 1 1) [(k : Int)]]))) [bigE ps, rowE 26 1 (.slice (some ⟨g27, 0, none⟩) 1 1) 1 ([.slice (some ⟨g26, 0, none⟩) 1 1]), rowE 3 1 (.slice (some ⟨g26, 0, none⟩) 1 1) 1 ([(k : Int)].map (Value.int .i64))] ⟨by omega, hok.step (by omega) (cuts_leaf n), fun w hw => (hs w (big_part hw List.mem_cons_self)).set (rds_cl_of (rdsW_own (big_part hw (List.mem_cons_of_mem _ List.mem_cons_self))) (fun r hr => by rw [List.mem_singleton] at hr; subst hr; exact rdsW_own (big_part hw (List.mem_cons_of_mem _ (List.mem_cons_of_mem _ List.mem_cons_self)))))⟩ (by omega) (sx 0 rfl (sx 1 rfl (sx 2 rfl (sx 4 rfl (sx 5 rfl (sx 6 rfl (sub_nil _))))))) ((.cons_cons _ (.cons_cons _ (.cons_cons _ .slnil))))
 ·
  refine hl_less (sx 0 rfl (sx 1 rfl (sx 2 rfl (sx 4 rfl (sx 5 rfl (sx 6 rfl (sx 14 rfl (sub_nil _)))))))) (.refl _) ?_
  refine hl_nil ?_
  refine hq_then ?_
  refine hc_false rfl ?_
  refine hc_exit ?_
  refine hq_then_exit ?_
  refine hq_then_exit ?_
  refine hq_block_exit ?_
  refine hq_then ?_
  refine hc_seq ?_
  refine hc_region ?_
  refine hl_v rfl rfl rfl (rv_ev rfl) ?_
  refine hl_v rfl rfl rfl (rv_ev rfl) ?_
  refine hl_less (sx 0 rfl (sx 1 rfl (sx 2 rfl (sx 4 rfl (sx 5 rfl (sx 6 rfl (sx 14 rfl (sub_nil _)))))))) (.refl _) ?_
  refine hl_nil ?_
  refine hq_then ?_
  refine hc_ret ?_
  refine hq_conv [bigE ps, rowE 40 1 (.slice (some ⟨g2, 0, none⟩) ((List.replicate (last + 1).toNat cset0).length) ((List.replicate (last + 1).toNat cset0).length)) cs.length (cs.flatMap csC)] (conv_pick (src := [bigE ps, rowE 40 1 (.slice (some ⟨g2, 0, none⟩) ((List.replicate (last + 1).toNat cset0).length) ((List.replicate (last + 1).toNat cset0).length)) cs.length (cs.flatMap csC), boxE b1 #[.int .i64 n.ins, n.sv, n.av, n.ov] 28]) (dst := [bigE ps, rowE 40 1 (.slice (some ⟨g2, 0, none⟩) ((List.replicate (last + 1).toNat cset0).length) ((List.replicate (last + 1).toNat cset0).length)) cs.length (cs.flatMap csC)]) (l := []) [0, 1] (by decide) rfl) ?_
  refine hq_conv [bigE [bigE ps, rowE 40 1 (.slice (some ⟨g2, 0, none⟩) ((List.replicate (last + 1).toNat cset0).length) ((List.replicate (last + 1).toNat cset0).length)) cs.length (cs.flatMap csC)]] (conv_bigN [bigE ps, rowE 40 1 (.slice (some ⟨g2, 0, none⟩) ((List.replicate (last + 1).toNat cset0).length) ((List.replicate (last + 1).toNat cset0).length)) cs.length (cs.flatMap csC)] _ rfl) ?_
  exact hq_retR (post := [bigE [bigE ps, rowE 40 1 (.slice (some ⟨g2, 0, none⟩) ((List.replicate (last + 1).toNat cset0).length) ((List.replicate (last + 1).toNat cset0).length)) cs.length (cs.flatMap csC)]]) rfl rfl (.refl _) ⟨_, cs, rfl, fun w hw => ⟨rdsW_own (big_part hw (List.mem_cons_of_mem _ List.mem_cons_self)), hs w (big_part hw List.mem_cons_self)⟩, by rw [show k = last.toNat + 1 by omega] at hok; exact hok⟩
set_option maxHeartbeats 4000000 in
set_option maxRecDepth 100000 in
theorem copyLists_ret (rs : List CRow) (v : Value) (w : World) (hv : RdsCl w v rs) (h4 : ∀ r ∈ rs, r.xs.length ≤ 4) (hl : rs.length ≤ 1000000) :
  Calls Try.prog 91 #[v] w (Ret w (fun u_ p_ => ∃ (ps : List HP) (us : List CRow), p_ = [bigE ps] ∧ (∀ w, (bigE ps).holds w → RdsCl w u_ us) ∧ us.map CRow.xs = rs.map CRow.xs)) := by
 refine calls_hc (N := 19) (args := [v]) Try.func91 rfl rfl ?_
 refine hc_less _ (sx 0 rfl (sub_nil _)) (.refl _) ?_
 refine hc_seq ?_
 refine hc_region ?_
 refine hl_v rfl rfl rfl (rv_ev rfl) ?_
 refine hl_less (sx 0 rfl (sx 2 rfl (sub_nil _))) (.refl _) ?_
 refine hl_nil ?_
 refine hq_then ?_
 refine hc_seq ?_
 refine hc_region ?_
 refine hl_nilRow 26 1 ?_
 refine hl_eqL (l' := [rowE 26 1 (.slice none 0 0) (([] : List CRow).length) (([] : List CRow).flatMap crowC)]) rfl ?_
 refine hl_v rfl rfl rfl (rv_ev rfl) ?_
 refine hl_less (sx 0 rfl (sx 2 rfl (sx 3 rfl (sub_nil _)))) (.refl _) ?_
 refine hl_nil ?_
 refine hq_then ?_
 refine hc_seq ?_
 refine hc_seq ?_
 refine hc_region ?_
 refine hl_v rfl rfl rfl (rv_ev rfl) ?_
 refine hl_v rfl rfl rfl (rv_len rfl Try.underlying40 rfl (rd_old hv.row)) ?_
 refine hl_v rfl rfl rfl (rv_ev rfl) ?_
 refine hl_less (sx 0 rfl (sx 2 rfl (sx 3 rfl (sx 6 rfl (sx 7 rfl (sx 8 rfl (sub_nil _))))))) (.refl _) ?_
 refine hl_nil ?_
 refine hq_then ?_
 refine hc_block ?_
 refine hc_conv [bigE [], rowE 26 1 (.slice none 0 0) (([] : List CRow).length) (([] : List CRow).flatMap crowC)] (fun w hm => Mem.big (ps := []) hm) ?_
 refine hc_loop4 (α := Nat) (β := List CRow) (γ := Value) (δ := List HP) (fun i qs ov ps => [bigE ps, rowE 26 1 ov qs.length (qs.flatMap crowC)]) (fun i qs ov ps => [(0, v), (2, .slice none 0 0), (3, ov), (6, v), (7, .int .i64 (rs.length : Int)), (8, .int .i64 (i : Int))]) (fun i qs ov ps => i ≤ rs.length ∧ qs.map CRow.xs = (rs.take i).map CRow.xs ∧ ∀ w, (bigE ps).holds w → RdsAll w qs) (fun i qs ov ps => rs.length - i) 0 [] _ _ ⟨by omega, rfl, fun w _ => RdsAll.nil w⟩ (sx 0 rfl (sx 2 rfl (sx 3 rfl (sx 6 rfl (sx 7 rfl (sx 8 rfl (sub_nil _))))))) ((.cons_cons _ (.cons_cons _ .slnil))) ?_
 intro i qs ov ps hi2
 obtain ⟨hi, hqe, hps⟩ := hi2
 have hql : qs.length = i := by have h9 := congrArg List.length hqe; rw [List.length_map, List.length_map, List.length_take] at h9; omega
 refine hc_seq ?_
 refine hc_region ?_
 refine hl_lss rfl rfl rfl rfl rfl rfl (fun h3 => ?_) (fun h3 => ?_)
 ·
  refine hl_less (sx 0 rfl (sx 2 rfl (sx 3 rfl (sx 6 rfl (sx 7 rfl (sx 8 rfl (sx 9 rfl (sub_nil _)))))))) (.refl _) ?_
  refine hl_nil ?_
  refine hq_then ?_
  refine hc_seq ?_
  refine hc_true rfl ?_
  refine hc_skip ?_
  refine hq_then ?_
  refine hc_seq ?_
  refine hc_block ?_
  refine hc_seq ?_
  refine hc_region ?_
  refine hl_v rfl rfl rfl (rv_index (s := 1) rfl Try.underlying40 (by kernel_rfl) rfl rfl (rd_old hv.row) (by omega) (by first | omega | (simp only [List.length_set]; omega))) ?_
  refine hl_v rfl rfl rfl (rv_loadEl (u := (rs.getD i crow0).v) rfl (by kernel_rfl) rfl (rd_old hv.row) (flat_one crowC (fun r => r.v) (fun _ => rfl) rs crow0 (show i < _ by first | omega | (simp only [List.length_set]; omega)))) ?_
  refine hl_v rfl rfl rfl (rv_ev rfl) ?_
  refine hl_less (sx 0 rfl (sx 2 rfl (sx 3 rfl (sx 5 rfl (sx 6 rfl (sx 7 rfl (sx 8 rfl (sx 9 rfl (sub_nil _))))))))) (.refl _) ?_
  refine hl_nil ?_
  refine hq_then ?_
  refine hc_region ?_
  refine hl_v rfl rfl rfl (rv_ev rfl) ?_
  refine hl_v rfl rfl rfl (rv_ev rfl) ?_
  refine hl_q rfl rfl rfl (rq_call (by kernel_rfl) rfl (fun w hm => copyIntsN_ret (rs.getD i crow0).xs _ w ((hv.at (by omega)).below hm.bel) (by have := h4 _ (getD_mem' (es := rs) (i := i) (d := crow0) (by omega)); omega))) ?_
  intro v4 p5 hR6
  subst hR6
  refine hl_row rfl rfl rfl (rq_buildSlice1M rfl Try.underlying40 (by kernel_rfl) rfl (fun w hm => (rd_row 0 rfl w hm).one)) ?_
  intro g7
  refine hl_one (i := 1) rfl (fun ho8 => ?_)
  refine hl_append (i := 3) (z := .slice none 0 0) (bytes := 24) (n' := (qs ++ [(CRow.mk v4 (rs.getD i crow0).xs)]).length) (xs' := ((qs ++ [(CRow.mk v4 (rs.getD i crow0).xs)]).flatMap crowC)) (L := fun v9 => [rowE 26 1 (.slice (some ⟨g7, 0, none⟩) 1 1) 1 ([v4]), rowE 3 1 v4 (((rs.getD i crow0).xs).length) (((rs.getD i crow0).xs).map (Value.int .i64)), bigE ps, rowE 26 1 v9 ((qs ++ [(CRow.mk v4 (rs.getD i crow0).xs)]).length) ((qs ++ [(CRow.mk v4 (rs.getD i crow0).xs)]).flatMap crowC)]) rfl rfl rfl rfl Try.underlying40 (by kernel_rfl) (by kernel_rfl) rfl rfl rfl (rd_row 0 rfl) (all_cons ho8 all_nil) (by first | omega | (simp only [List.length_append, List.length_cons, List.length_nil]; omega)) (len_app qs [(CRow.mk v4 (rs.getD i crow0).xs)]) (flat_app1 crowC qs (CRow.mk v4 (rs.getD i crow0).xs) _ rfl) (fun _ => rfl) ?_
  intro v9
  refine hl_v rfl rfl rfl (rv_ev rfl) ?_
  refine hl_less (sx 0 rfl (sx 2 rfl (sx 3 rfl (sx 5 rfl (sx 6 rfl (sx 7 rfl (sx 8 rfl (sx 9 rfl (sub_nil _))))))))) (.refl _) ?_
  refine hl_nil ?_
  refine hq_block_normal ?_
  refine hq_then ?_
  refine hc_region ?_
  refine hl_v rfl rfl rfl (rv_add rfl rfl rfl (by constructor <;> omega)) ?_
  refine hl_v rfl rfl rfl (rv_ev rfl) ?_
  refine hl_less (sx 0 rfl (sx 2 rfl (sx 3 rfl (sx 5 rfl (sx 6 rfl (sx 7 rfl (sx 8 rfl (sx 9 rfl (sub_nil _))))))))) (.refl _) ?_
  refine hl_nil ?_
  refine hq_conv [bigE ps, rowE 3 1 v4 (((rs.getD i crow0).xs).length) (((rs.getD i crow0).xs).map (Value.int .i64)), rowE 26 1 v9 ((qs ++ [(CRow.mk v4 (rs.getD i crow0).xs)]).length) ((qs ++ [(CRow.mk v4 (rs.getD i crow0).xs)]).flatMap crowC)] (conv_pick (src := [rowE 26 1 (.slice (some ⟨g7, 0, none⟩) 1 1) 1 ([v4]), rowE 3 1 v4 (((rs.getD i crow0).xs).length) (((rs.getD i crow0).xs).map (Value.int .i64)), bigE ps, rowE 26 1 v9 ((qs ++ [(CRow.mk v4 (rs.getD i crow0).xs)]).length) ((qs ++ [(CRow.mk v4 (rs.getD i crow0).xs)]).flatMap crowC)]) (dst := [bigE ps, rowE 3 1 v4 (((rs.getD i crow0).xs).length) (((rs.getD i crow0).xs).map (Value.int .i64)), rowE 26 1 v9 ((qs ++ [(CRow.mk v4 (rs.getD i crow0).xs)]).length) ((qs ++ [(CRow.mk v4 (rs.getD i crow0).xs)]).flatMap crowC)]) (l := []) [2, 1, 3] (by decide) rfl) ?_
  refine hq_conv [bigE [bigE ps, rowE 3 1 v4 (((rs.getD i crow0).xs).length) (((rs.getD i crow0).xs).map (Value.int .i64))], rowE 26 1 v9 ((qs ++ [(CRow.mk v4 (rs.getD i crow0).xs)]).length) ((qs ++ [(CRow.mk v4 (rs.getD i crow0).xs)]).flatMap crowC)] (conv_bigN [bigE ps, rowE 3 1 v4 (((rs.getD i crow0).xs).length) (((rs.getD i crow0).xs).map (Value.int .i64))] _ rfl) ?_
  exact hq_round4 (i + 1) (qs ++ [(CRow.mk v4 (rs.getD i crow0).xs)]) v9 [bigE ps, rowE 3 1 v4 (((rs.getD i crow0).xs).length) (((rs.getD i crow0).xs).map (Value.int .i64))] ⟨by omega, by rw [List.map_append, hqe, take_snocG crow0 (by omega), List.map_append]; rfl, fun w hw => RdsAll.cons (u := (CRow.mk v4 ((rs.getD i crow0).xs))) (hps w (big_part hw List.mem_cons_self)) (rdsW_own (big_part hw (List.mem_cons_of_mem _ List.mem_cons_self))) (fun q hq => (List.mem_append.1 hq).elim .inr (fun h => .inl (List.mem_singleton.1 h)))⟩ (by omega) (sx 0 rfl (sx 2 rfl (sx 3 rfl (sx 6 rfl (sx 7 rfl (sx 8 rfl (sub_nil _))))))) ((.cons_cons _ (.cons_cons _ .slnil)))
 ·
  refine hl_less (sx 0 rfl (sx 2 rfl (sx 3 rfl (sx 6 rfl (sx 7 rfl (sx 8 rfl (sx 9 rfl (sub_nil _)))))))) (.refl _) ?_
  refine hl_nil ?_
  refine hq_then ?_
  refine hc_seq ?_
  refine hc_false rfl ?_
  refine hc_exit ?_
  refine hq_then_exit ?_
  refine hq_then_exit ?_
  refine hq_block_exit ?_
  refine hq_then ?_
  refine hc_seq ?_
  refine hc_region ?_
  refine hl_v rfl rfl rfl (rv_ev rfl) ?_
  refine hl_v rfl rfl rfl (rv_ev rfl) ?_
  refine hl_less (sx 0 rfl (sx 2 rfl (sx 3 rfl (sx 6 rfl (sx 7 rfl (sx 8 rfl (sx 9 rfl (sub_nil _)))))))) (.refl _) ?_
  refine hl_nil ?_
  refine hq_then ?_
  refine hc_ret ?_
  refine hq_conv [bigE ps, rowE 26 1 ov qs.length (qs.flatMap crowC)] (conv_pick (src := [bigE ps, rowE 26 1 ov qs.length (qs.flatMap crowC)]) (dst := [bigE ps, rowE 26 1 ov qs.length (qs.flatMap crowC)]) (l := []) [0, 1] (by decide) rfl) ?_
  refine hq_conv [bigE [bigE ps, rowE 26 1 ov qs.length (qs.flatMap crowC)]] (conv_bigN [bigE ps, rowE 26 1 ov qs.length (qs.flatMap crowC)] _ rfl) ?_
  exact hq_retR (post := [bigE [bigE ps, rowE 26 1 ov qs.length (qs.flatMap crowC)]]) rfl rfl (.refl _) ⟨_, qs, rfl, fun w hw => rds_cl_of (rdsW_own (big_part hw (List.mem_cons_of_mem _ List.mem_cons_self))) (hps w (big_part hw List.mem_cons_self)), by rw [hqe, List.take_of_length_le (by omega)]⟩
open Go.RowKit
theorem CutsOk.of_map {n : Nt} {k : Int} {rs us : List CRow} (h : CutsOk n k rs) (he : us.map CRow.xs = rs.map CRow.xs) : CutsOk n k us := by
  have hl : us.length = rs.length := by have := congrArg List.length he; simpa using this
  refine ⟨by have := h.pos; omega, by have := h.len; omega, fun r hr => ?_⟩
  have : r.xs ∈ rs.map CRow.xs := by rw [← he]; exact List.mem_map.2 ⟨r, hr, rfl⟩
  obtain ⟨q, hq, e⟩ := List.mem_map.1 this
  rw [← e]; exact h.ok q hq
theorem getI_at {xs : List Int} {x : Int} (h0 : 0 ≤ x) (h1 : x < xs.length) : getI xs x = xs.getD x.toNat 0 := by unfold getI; rw [if_pos ⟨h0, h1⟩]
theorem pow_small {k : Nat} (h : k ≤ 4) : (0 : Int) < 2 ^ k ∧ (2 : Int) ^ k ≤ 16 := by
  obtain rfl | rfl | rfl | rfl | rfl : k = 0 ∨ k = 1 ∨ k = 2 ∨ k = 3 ∨ k = 4 := by omega
  all_goals decide
theorem shl_bitC {b : Int} {k : Nat} (hb : b = 0 ∨ b = 1) (hk : k ≤ 4) : IntKind.i64.wrap (b * 2 ^ ((k : Int)).toNat) = b * 2 ^ k := by
  have hp := pow_small hk
  rw [Int.toNat_natCast]
  exact IntWalk.i64_in _ (by rcases hb with e | e <;> rw [e] <;> omega)
theorem tabC_ok {m : Int} (hm : 0 ≤ m ∧ m ≤ 4) (f : Nat → Bool) : TabOk (Tab.mk m (tbN f (pn m) : Int)) := by
  have h := tbN_lt f (pn m)
  have e : qn m = ((2 ^ pn m : Nat) : Int) := by unfold qn pn; push_cast; rfl
  refine ⟨hm, by show (0 : Int) ≤ ((tbN f (pn m) : Nat) : Int); omega, ?_⟩
  show ((tbN f (pn m) : Nat) : Int) ≤ qn m - 1
  rw [e]; omega
theorem tabC_at {m : Int} (hm : 0 ≤ m ∧ m ≤ 4) (f : Nat → Bool) {i : Nat} (hi : i < pn m) : tabB (Tab.mk m (tbN f (pn m) : Int)) i = f i := by
  have h := tbN_at f (pn m) i hi
  unfold tabB
  show decide (((tbN f (pn m) : Nat) : Int) / 2 ^ ((i : Nat) : Int).toNat % 2 = 1) = f i
  rw [Int.toNat_natCast, nat_bit_o, h]
  cases f i <;> simp
/-- a cut's table, at the index of the values -/
theorem cut_table {n : Nt} (hn : NtOk n) {v : List Int} (hv : AndV n v) (hv0 : v.getD 0 0 = 0) {c : List Int} {node : Int} (hc : IsCut n node c) (h0 : 0 ≤ node) (h1 : node < n.cnt) {q : Int} (hq : q = pkI (fun i => v.getD (c.getD i 0).toNat 0) c.length) :
    0 ≤ q ∧ q.toNat < pn (c.length : Int) ∧ tabB (Tab.mk (c.length : Int) (tbN (fun i : Nat => decide (va n c (i : Int) node = 1)) (pn (c.length : Int)) : Int)) q.toNat = decide (v.getD node.toNat 0 = 1) := by
  have h4 := hc.len
  have hl := hv.len
  have hr : ∀ k ∈ c, 0 ≤ k ∧ k < v.length := fun k hk => by have := hc.rng hn h0 h1 hk; omega
  have hb01 : ∀ i, i < c.length → v.getD (c.getD i 0).toNat 0 = 0 ∨ v.getD (c.getD i 0).toNat 0 = 1 := fun i hi => by have := hr _ (getD_memX (d := (0 : Int)) hi); exact hv.b01 _ (by omega)
  obtain ⟨q0, q1⟩ := pkI_rng (b := fun i => v.getD (c.getD i 0).toNat 0) c.length hb01
  rw [← hq] at q0 q1
  have hpn : q.toNat < pn (c.length : Int) := by
    unfold pn; rw [Int.toNat_natCast]
    have : ((2 ^ c.length : Nat) : Int) = (2 : Int) ^ c.length := by push_cast; rfl
    omega
  refine ⟨q0, hpn, ?_⟩
  rw [tabC_at (by omega) _ hpn, Int.toNat_of_nonneg q0]
  have hval := va_val hn hv hv0 (cut := c) (idx := q) (by rw [hq]; exact pkI_cut hv.b01 hr) hc.cov h0
  simp only [hval]
set_option maxHeartbeats 4000000 in
set_option maxRecDepth 100000 in
theorem EnumCuts_ret (n : Nt) (node : Int) (w : World) (hr : RdsNt w n) (hn : NtOk n) (hnd : 0 ≤ node ∧ node < n.cnt) :
  Calls Try.prog 35 #[.agg #[.int .i64 n.ins, n.sv, n.av, n.ov], .int .i64 node] w (Ret w (fun u_ p_ => ∃ (ps : List HP) (us : List CRow), p_ = [bigE ps] ∧ (∀ w, (bigE ps).holds w → RdsCl w u_ us) ∧ CutsOk n node us)) := by
 have hi0 := hn.i0
 have hi1 := hn.i1
 have hs1 := hn.s1
 have ha1 := hn.a1
 have ho1 := hn.o1
 have hcnt : n.cnt = 1 + n.ins + n.ss.length + n.gs.length := rfl
 have hfst : n.fst = 1 + n.ins + n.ss.length := rfl
 refine calls_hc (N := 23) (args := [.agg #[.int .i64 n.ins, n.sv, n.av, n.ov], .int .i64 node]) Try.func35 rfl rfl ?_
 refine hc_less _ (sx 0 rfl (sx 1 rfl (sub_nil _))) (.refl _) ?_
 refine hc_seq ?_
 refine hc_region ?_
 refine hl_box rfl rfl rfl (rq_box rfl rfl) ?_
 intro b1
 refine hl_v rfl rfl rfl (rv_ev rfl) ?_
 refine hl_less (sx 0 rfl (sx 1 rfl (sx 2 rfl (sx 4 rfl (sub_nil _))))) (.refl _) ?_
 refine hl_nil ?_
 refine hq_then ?_
 refine hc_seq ?_
 refine hc_seq ?_
 refine hc_region ?_
 refine hl_v rfl rfl rfl (rv_loadN (cs := [.int .i64 n.ins, n.sv, n.av, n.ov]) rfl (by kernel_rfl) (by kernel_rfl) rfl rfl (box_part 0 rfl 0 rfl)) ?_
 refine hl_callV rfl rfl rfl (rq_call (by kernel_rfl) rfl (fun w hm => ret_ans (implNetOk_yes n w (hr.below hm.bel) hn))) ?_
 refine hl_v rfl rfl rfl (rv_ev rfl) ?_
 refine hl_v rfl rfl rfl (rv_ev rfl) ?_
 refine hl_v rfl rfl rfl (rv_ev rfl) ?_
 refine hl_v rfl rfl rfl (rv_loadN (cs := [.int .i64 n.ins, n.sv, n.av, n.ov]) rfl (by kernel_rfl) (by kernel_rfl) rfl rfl (box_part 0 rfl 0 rfl)) ?_
 refine hl_callV rfl rfl rfl (rq_call (by kernel_rfl) rfl (fun w hm => ret_ans (implnodeCount_yes n w (hr.below hm.bel) hn))) ?_
 refine hl_v rfl rfl rfl (rv_sub rfl rfl rfl (by constructor <;> omega)) ?_
 refine hl_callV rfl rfl rfl (rq_call (by kernel_rfl) rfl (fun w hm => ret_ans (ans_of (inRange_any _ _ _ w)))) ?_
 refine hl_bool (fun h2 => ?_) (fun h2 => absurd ((((inR_iff _ _ _).2 (by omega))).symm.trans h2) (by decide))
 refine hl_v rfl rfl rfl (rv_ev rfl) ?_
 refine hl_v rfl rfl rfl (rv_ev rfl) ?_
 refine hl_less (sx 0 rfl (sx 1 rfl (sx 2 rfl (sx 4 rfl (sx 15 rfl (sub_nil _)))))) (.refl _) ?_
 refine hl_nil ?_
 refine hq_then ?_
 refine hc_false rfl ?_
 refine hc_skip ?_
 refine hq_then ?_
 refine hc_seq ?_
 refine hc_region ?_
 refine hl_v rfl rfl rfl (rv_loadN (cs := [.int .i64 n.ins, n.sv, n.av, n.ov]) rfl (by kernel_rfl) (by kernel_rfl) rfl rfl (box_part 0 rfl 0 rfl)) ?_
 refine hl_v rfl rfl rfl (rv_ev rfl) ?_
 refine hl_q rfl rfl rfl (rq_call (by kernel_rfl) rfl (fun w hm => allCuts_ret n node w (hr.below hm.bel) hn hnd)) ?_
 intro v3 p4 hR5
 obtain ⟨ps, cs, rfl, hs, hok⟩ := hR5
 have hcl := hok.len
 refine hl_v rfl rfl rfl (rv_ev rfl) ?_
 refine hl_v rfl rfl rfl (rv_index (s := 1) rfl Try.underlying95 (by kernel_rfl) rfl rfl (fun w hm => (hs w (hm.holds _ (mem_at (i := 0) rfl))).1) (by omega) (by first | omega | (simp only [List.length_set]; omega))) ?_
 refine hl_v rfl rfl rfl (rv_loadEl (u := (cs.getD ((node).toNat) cset0).v) rfl (by kernel_rfl) rfl (fun w hm => (hs w (hm.holds _ (mem_at (i := 0) rfl))).1) (flat_one csC (fun r => r.v) (fun _ => rfl) cs cset0 (show (node).toNat < _ by first | omega | (simp only [List.length_set]; omega)))) ?_
 refine hl_q rfl rfl rfl (rq_call (by kernel_rfl) rfl (fun w hm => copyLists_ret (cs.getD (node).toNat cset0).rs _ w ((hs w (hm.holds _ (mem_at (i := 0) rfl))).2.at (k := node.toNat) (by omega)) (fun r hr2 => ((hok.ok node.toNat (by omega)).ok r hr2).len) (by have := (hok.ok node.toNat (by omega)).len; omega))) ?_
 intro v6 p7 hR8
 obtain ⟨qs, us, rfl, hq, hue⟩ := hR8
 refine hl_v rfl rfl rfl (rv_ev rfl) ?_
 refine hl_less (sx 0 rfl (sx 1 rfl (sx 2 rfl (sx 4 rfl (sx 15 rfl (sub_nil _)))))) (.refl _) ?_
 refine hl_nil ?_
 refine hq_then ?_
 refine hc_ret ?_
 exact hq_retR (post := [bigE qs]) rfl rfl ((.cons_cons _ (.cons _ (.cons _ .slnil)))) ⟨_, us, rfl, hq, (by have h9 := hok.ok node.toNat (by omega); rw [Int.toNat_of_nonneg hnd.1] at h9; exact h9.of_map hue)⟩
end Go.Proofs.Ytakbbebpimlnpaa
