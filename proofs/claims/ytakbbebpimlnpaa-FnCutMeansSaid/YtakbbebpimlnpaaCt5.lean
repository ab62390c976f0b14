/- Texts of the law FnCutMeans, part 5: what it uses. -/
import Derived.Test.YtakbbebpimlnpaaCt4
set_option linter.unusedVariables false
set_option linter.unusedSimpArgs false
namespace Go.Proofs.Ytakbbebpimlnpaa
open Go.RowKit Go.ChangeShapes
open Go.RowKit
set_option maxHeartbeats 4000000 in
set_option maxRecDepth 100000 in
theorem cutTableC_ans (n : Nt) (node : Int) (cut : List Int) (cv : Value) (b1 b2 b3 i : Nat) (w : World) (hr : RdsNt w n) (hn : NtOk n) (hcr : RdsW w cv 1 cut.length (cut.map (Value.int .i64))) (hcl : cut.length ≤ 4) (hnd : 0 ≤ node ∧ node < n.cnt) (hi : i < 16) (hb1b : b1 < w.heap.size) (hb1c : ∀ j u, ([.int .i64 n.ins, n.sv, n.av, n.ov] : List Value)[j]? = some u → w.cell? ⟨b1, 0 + j, none⟩ = some u) (hb2b : b2 < w.heap.size) (hb2c : w.cell? ⟨b2, 0, none⟩ = some (.int .i64 node)) (hb3b : b3 < w.heap.size) (hb3c : w.cell? ⟨b3, 0, none⟩ = some cv) :
  Calls Try.prog 140 #[.int .i64 (i : Int), .pointer (some ⟨b1, 0, none⟩), .pointer (some ⟨b2, 0, none⟩), .pointer (some ⟨b3, 0, none⟩)] w (Ans w (.bool (decide (va n cut (i : Int) node = 1)))) := by
 have hi0 := hn.i0
 have hi1 := hn.i1
 have hs1 := hn.s1
 have ha1 := hn.a1
 have ho1 := hn.o1
 have hcnt : n.cnt = 1 + n.ins + n.ss.length + n.gs.length := rfl
 have hfst : n.fst = 1 + n.ins + n.ss.length := rfl
 have hva := va01 n cut (i : Int) node
 refine calls_hc (N := 15) (args := [.int .i64 (i : Int), .pointer (some ⟨b1, 0, none⟩), .pointer (some ⟨b2, 0, none⟩), .pointer (some ⟨b3, 0, none⟩)]) Try.func140 rfl rfl ?_
 refine hc_less _ (sx 0 rfl (sx 1 rfl (sx 2 rfl (sx 3 rfl (sub_nil _))))) (.refl _) ?_
 refine hc_seq ?_
 refine hc_region ?_
 refine hl_v rfl rfl rfl (rv_ev rfl) ?_
 refine hl_less (sx 0 rfl (sx 1 rfl (sx 2 rfl (sx 3 rfl (sx 5 rfl (sub_nil _)))))) (.refl _) ?_
 refine hl_nil ?_
 refine hq_then ?_
 refine hc_seq ?_
 rcases Bool.eq_false_or_eq_true ((va n cut (i : Int) node) == 1) with hb5 | hb5
 ·
  have hb5p : va n cut (i : Int) node = 1 := beq_iff_eq.1 hb5
  refine hc_draw3 (l := []) (by kernel_rfl) 9 [0, 1, 2, 3, 4, 5, 6, 7, 8] (List.take 9 _) (List.drop 9 _) [[], [], [], [], [], [4], [5], [0, 1, 2, 3, 6], [6, 7]] [some 6, some 7, some 8, some 9, some 10, some 11, some 12, some 13, some 14] (fun i_ vs_ v_ p_ => match i_ with | 0 => v_ = .agg #[.int .i64 n.ins, n.sv, n.av, n.ov] ∧ p_ = [] | 1 => v_ = .int .i64 node ∧ p_ = [] | 2 => v_ = cv ∧ p_ = [] | 3 => v_ = .int .i64 (i : Int) ∧ p_ = [] | 4 => v_ = .agg #[.int .i64 n.ins, n.sv, n.av, n.ov] ∧ p_ = [] | 5 => v_ = .int .i64 n.cnt ∧ p_ = [] | 6 => IsRow_o 3 1 ((List.replicate (n.cnt).toNat (0 : Int)).length) ((List.replicate (n.cnt).toNat (0 : Int)).map (Value.int .i64)) v_ p_ | 7 => (∃ pm_, p_ = [pm_] ∧ (fun v_ p_ => v_ = .int .i64 (va n cut (i : Int) node) ∧ ∃ ms' : List Int, p_ = rowE 3 1 ((List.getD vs_ 4 undef)) (ms').length ((ms').map (Value.int .i64)) ∧ MemoOk n cut (i : Int) ms') v_ pm_) | 8 => v_ = .bool true ∧ p_ = [] | _ => True) [[], [], [], [], [], [4], [5], [0, 1, 2, 3], [7]] [none, none, none, none, none, none, none, some 6, none] [] [0, 1, 2, 3, 4, 5, 7, 8] 10 (List.take_append_drop 9 _).symm (by kernel_rfl) (by kernel_rfl) (by kernel_rfl) rfl rfl ?_ ?_
  ·
   refine ⟨?_, ?_, ?_, ?_, ?_, ?_, ?_, ?_, ?_, trivial⟩
   ·
    intro vf pf hmu hR
    refine Or.inl ⟨rfl, ?_⟩
    show RunQ _ _ _ (([] : List Nat).flatMap pf ++ _) (envOf3 _ vf [] ++ _) _ _
    refine rq_less (sx 1 rfl (sub_nil _)) (List.sublist_append_right _ _) ?_
    exact rq_v (rv_loadN (cs := [.int .i64 n.ins, n.sv, n.av, n.ov]) rfl (by kernel_rfl) (by kernel_rfl) rfl rfl (fun w2 hm2 j u hj => (hm2.bel.cell (p := ⟨b1, 0 + j, none⟩) hb1b).trans (hb1c j u hj)))
   ·
    intro vf pf hmu hR
    refine Or.inl ⟨rfl, ?_⟩
    show RunQ _ _ _ (([] : List Nat).flatMap pf ++ _) (envOf3 _ vf [] ++ _) _ _
    refine rq_less (sx 2 rfl (sub_nil _)) (List.sublist_append_right _ _) ?_
    exact rq_v (rv_load rfl (by kernel_rfl) rfl (fun w hm => (hm.bel.cell (p := ⟨b2, 0, none⟩) hb2b).trans hb2c))
   ·
    intro vf pf hmu hR
    refine Or.inl ⟨rfl, ?_⟩
    show RunQ _ _ _ (([] : List Nat).flatMap pf ++ _) (envOf3 _ vf [] ++ _) _ _
    refine rq_less (sx 3 rfl (sub_nil _)) (List.sublist_append_right _ _) ?_
    exact rq_v (rv_load rfl (by kernel_rfl) rfl (fun w hm => (hm.bel.cell (p := ⟨b3, 0, none⟩) hb3b).trans hb3c))
   ·
    intro vf pf hmu hR
    refine Or.inl ⟨rfl, ?_⟩
    show RunQ _ _ _ (([] : List Nat).flatMap pf ++ _) (envOf3 _ vf [] ++ _) _ _
    refine rq_less (sx 0 rfl (sub_nil _)) (List.sublist_append_right _ _) ?_
    exact rq_v (rv_ev rfl)
   ·
    intro vf pf hmu hR
    refine Or.inl ⟨rfl, ?_⟩
    show RunQ _ _ _ (([] : List Nat).flatMap pf ++ _) (envOf3 _ vf [] ++ _) _ _
    refine rq_less (sx 1 rfl (sub_nil _)) (List.sublist_append_right _ _) ?_
    exact rq_v (rv_loadN (cs := [.int .i64 n.ins, n.sv, n.av, n.ov]) rfl (by kernel_rfl) (by kernel_rfl) rfl rfl (fun w2 hm2 j u hj => (hm2.bel.cell (p := ⟨b1, 0 + j, none⟩) hb1b).trans (hb1c j u hj)))
   ·
    intro vf pf hmu hR
    have e4 : (vf 4) = .agg #[.int .i64 n.ins, n.sv, n.av, n.ov] ∧ (pf 4) = [] := hR 4 (by decide)
    refine Or.inl ⟨rfl, ?_⟩
    show RunQ _ _ _ (([4] : List Nat).flatMap pf ++ _) (envOf3 _ vf [4] ++ _) _ _
    refine rq_less (sx 10 (congrArg some e4.1) (sub_nil _)) (List.sublist_append_right _ _) ?_
    exact (rq_call (by kernel_rfl) rfl (fun w hm => ret_ans (implnodeCount_yes n w (hr.below hm.bel) hn)))
   ·
    intro vf pf hmu hR
    have e5 : (vf 5) = .int .i64 n.cnt ∧ (pf 5) = [] := hR 5 (by decide)
    refine Or.inl ⟨rfl, ?_⟩
    show RunQ _ _ _ (([5] : List Nat).flatMap pf ++ _) (envOf3 _ vf [5] ++ _) _ _
    refine rq_less (sx 11 (congrArg some e5.1) (sub_nil _)) (List.sublist_append_right _ _) ?_
    exact rq_make (z := .int .i64 0) (s := 1) (bytes := 8) (n := (List.replicate (n.cnt).toNat (0 : Int)).length) (cs := ((List.replicate (n.cnt).toNat (0 : Int)).map (Value.int .i64))) rfl Try.underlying26 (by kernel_rfl) (by decide) rfl rfl (by first | (rw [List.length_replicate]; done) | (rw [List.length_replicate]; omega)) (by first | (rw [List.length_replicate]; done) | (rw [List.length_replicate]; omega)) (by rw [List.length_replicate]; omega) (ints_make _)
   ·
    intro vf pf hmu hR
    have e0 : (vf 0) = .agg #[.int .i64 n.ins, n.sv, n.av, n.ov] ∧ (pf 0) = [] := hR 0 (by decide)
    have e1 : (vf 1) = .int .i64 node ∧ (pf 1) = [] := hR 1 (by decide)
    have e2 : (vf 2) = cv ∧ (pf 2) = [] := hR 2 (by decide)
    have e3 : (vf 3) = .int .i64 (i : Int) ∧ (pf 3) = [] := hR 3 (by decide)
    have e6 : IsRow_o 3 1 ((List.replicate (n.cnt).toNat (0 : Int)).length) ((List.replicate (n.cnt).toNat (0 : Int)).map (Value.int .i64)) (vf 6) (pf 6) := hR 6 (by decide)
    obtain ⟨g6, vE6, pE6⟩ := e6
    refine Or.inl ⟨rfl, ?_⟩
    show RunM _ _ _ (pf 6) (([0, 1, 2, 3] : List Nat).flatMap pf ++ _) (envOf3 _ vf [0, 1, 2, 3, 6] ++ _) _ _
    rw [pE6]; rw [vE6]
    refine rm_less (X' := []) (sx 6 (congrArg some e0.1) (sx 7 (congrArg some e1.1) (sx 8 (congrArg some e2.1) (sx 9 (congrArg some e3.1) (sx 12 (congrArg some vE6) (sub_nil _)))))) (by first | (simp only [e0.2, e1.2, e2.2, e3.2, List.flatMap_cons, List.flatMap_nil, List.append_nil, List.nil_append, List.cons_append]; exact List.Sublist.refl _) | simp [e0.2, e1.2, e2.2, e3.2]) ?_
    exact rm_mono (rq_callM (R := (fun v_ p_ => v_ = .int .i64 (va n cut (i : Int) node) ∧ ∃ ms' : List Int, p_ = rowE 3 1 (.slice (some ⟨g6, 0, none⟩) ((List.replicate (n.cnt).toNat (0 : Int)).length) ((List.replicate (n.cnt).toNat (0 : Int)).length)) (ms').length ((ms').map (Value.int .i64)) ∧ MemoOk n cut (i : Int) ms')) (by kernel_rfl) rfl (fun L w hX hm => valueAbove_mut n cut (i : Int) cv _ _ hr hn hcr hcl (by omega) (node.toNat + 1) node (List.replicate (n.cnt).toNat (0 : Int)) _ _ (by omega) hnd.1 hnd.2 (memo_start (by omega) _ _) hm)) (fun v_ p_ h => by show (∃ pm_, p_ = [pm_] ∧ (fun v_ p_ => v_ = .int .i64 (va n cut (i : Int) node) ∧ ∃ ms' : List Int, p_ = rowE 3 1 ((vf 6)) (ms').length ((ms').map (Value.int .i64)) ∧ MemoOk n cut (i : Int) ms') v_ pm_); rw [vE6]; exact h)
   ·
    intro vf pf hmu hR
    have e6 : IsRow_o 3 1 ((List.replicate (n.cnt).toNat (0 : Int)).length) ((List.replicate (n.cnt).toNat (0 : Int)).map (Value.int .i64)) (vf 6) (pf 6) := hR 6 (by decide)
    obtain ⟨g6, vE6, pE6⟩ := e6
    have e7 : (∃ pm_, (pf 7) = [pm_] ∧ (fun v_ p_ => v_ = .int .i64 (va n cut (i : Int) node) ∧ ∃ ms' : List Int, p_ = rowE 3 1 ((vf 6)) (ms').length ((ms').map (Value.int .i64)) ∧ MemoOk n cut (i : Int) ms') (vf 7) pm_) := hR 7 (by decide)
    rw [vE6] at e7
    obtain ⟨p8, pE7, hR9⟩ := e7
    obtain ⟨v7, vE7⟩ : ∃ x, vf 7 = x := ⟨_, rfl⟩
    rw [vE7] at hR9
    obtain ⟨rfl, ms, rfl, hms⟩ := hR9
    refine Or.inl ⟨rfl, ?_⟩
    show RunQ _ _ _ (([7] : List Nat).flatMap pf ++ _) (envOf3 _ vf [6, 7] ++ _) _ _
    refine rq_less (l' := [rowE 3 1 (.slice (some ⟨g6, 0, none⟩) ((List.replicate (n.cnt).toNat (0 : Int)).length) ((List.replicate (n.cnt).toNat (0 : Int)).length)) ms.length (ms.map (Value.int .i64))]) (sx 13 (congrArg some vE7) (sub_nil _)) (by first | (simp only [pE7, vE7, List.flatMap_cons, List.flatMap_nil, List.append_nil, List.nil_append, List.cons_append]; exact List.Sublist.refl _) | simp [pE7, vE7]) ?_
    exact rq_mono (rq_v (rv_cmp rfl rfl rfl rfl)) (fun _ _ h => ⟨h.1.trans (congrArg Value.bool hb5), h.2⟩)
  ·
   intro vf pf hmu hR
   have e6 : IsRow_o 3 1 ((List.replicate (n.cnt).toNat (0 : Int)).length) ((List.replicate (n.cnt).toNat (0 : Int)).map (Value.int .i64)) (vf 6) (pf 6) := hR 6 (by decide)
   obtain ⟨g6, vE6, pE6⟩ := e6
   have e7 : (∃ pm_, (pf 7) = [pm_] ∧ (fun v_ p_ => v_ = .int .i64 (va n cut (i : Int) node) ∧ ∃ ms' : List Int, p_ = rowE 3 1 ((vf 6)) (ms').length ((ms').map (Value.int .i64)) ∧ MemoOk n cut (i : Int) ms') (vf 7) pm_) := hR 7 (by decide)
   rw [vE6] at e7
   obtain ⟨p8, pE7, hR9⟩ := e7
   obtain ⟨v7, vE7⟩ : ∃ x, vf 7 = x := ⟨_, rfl⟩
   rw [vE7] at hR9
   obtain ⟨rfl, ms, rfl, hms⟩ := hR9
   have e8 : (vf 8) = .bool true ∧ (pf 8) = [] := hR 8 (by decide)
   have q0 : (vf 0) = .agg #[.int .i64 n.ins, n.sv, n.av, n.ov] ∧ (pf 0) = [] := hR 0 (by decide)
   have q1 : (vf 1) = .int .i64 node ∧ (pf 1) = [] := hR 1 (by decide)
   have q2 : (vf 2) = cv ∧ (pf 2) = [] := hR 2 (by decide)
   have q3 : (vf 3) = .int .i64 (i : Int) ∧ (pf 3) = [] := hR 3 (by decide)
   have q4 : (vf 4) = .agg #[.int .i64 n.ins, n.sv, n.av, n.ov] ∧ (pf 4) = [] := hR 4 (by decide)
   have q5 : (vf 5) = .int .i64 n.cnt ∧ (pf 5) = [] := hR 5 (by decide)
   have q8 : (vf 8) = .bool true ∧ (pf 8) = [] := hR 8 (by decide)
   refine hl_less (l' := [rowE 3 1 (.slice (some ⟨g6, 0, none⟩) ((List.replicate (n.cnt).toNat (0 : Int)).length) ((List.replicate (n.cnt).toNat (0 : Int)).length)) ms.length (ms.map (Value.int .i64))]) (sx 0 rfl (sx 1 rfl (sx 2 rfl (sx 3 rfl (sx 5 rfl (sx 14 (congrArg some e8.1) (sub_nil _))))))) (by first | (simp only [pE7, vE7, q0.2, q1.2, q2.2, q3.2, q4.2, q5.2, q8.2, List.flatMap_cons, List.flatMap_nil, List.append_nil, List.nil_append, List.cons_append]; exact List.Sublist.refl _) | simp [pE7, vE7, q0.2, q1.2, q2.2, q3.2, q4.2, q5.2, q8.2]) ?_
   simp only [List.drop_succ_cons, List.drop_zero]
   refine hl_v rfl rfl rfl (rv_ev rfl) ?_
   refine hl_less (sx 0 rfl (sx 1 rfl (sx 2 rfl (sx 3 rfl (sx 5 rfl (sub_nil _)))))) (.refl _) ?_
   refine hl_nil ?_
   refine hq_then ?_
   refine hc_ret ?_
   exact hq_ans rfl rfl (congrArg _ (decide_eq_true (by omega)).symm)
 ·
  have hb5p : va n cut (i : Int) node ≠ 1 := beq_eq_false_iff_ne.1 hb5
  refine hc_draw3 (l := []) (by kernel_rfl) 9 [0, 1, 2, 3, 4, 5, 6, 7, 8] (List.take 9 _) (List.drop 9 _) [[], [], [], [], [], [4], [5], [0, 1, 2, 3, 6], [6, 7]] [some 6, some 7, some 8, some 9, some 10, some 11, some 12, some 13, some 14] (fun i_ vs_ v_ p_ => match i_ with | 0 => v_ = .agg #[.int .i64 n.ins, n.sv, n.av, n.ov] ∧ p_ = [] | 1 => v_ = .int .i64 node ∧ p_ = [] | 2 => v_ = cv ∧ p_ = [] | 3 => v_ = .int .i64 (i : Int) ∧ p_ = [] | 4 => v_ = .agg #[.int .i64 n.ins, n.sv, n.av, n.ov] ∧ p_ = [] | 5 => v_ = .int .i64 n.cnt ∧ p_ = [] | 6 => IsRow_o 3 1 ((List.replicate (n.cnt).toNat (0 : Int)).length) ((List.replicate (n.cnt).toNat (0 : Int)).map (Value.int .i64)) v_ p_ | 7 => (∃ pm_, p_ = [pm_] ∧ (fun v_ p_ => v_ = .int .i64 (va n cut (i : Int) node) ∧ ∃ ms' : List Int, p_ = rowE 3 1 ((List.getD vs_ 4 undef)) (ms').length ((ms').map (Value.int .i64)) ∧ MemoOk n cut (i : Int) ms') v_ pm_) | 8 => v_ = .bool false ∧ p_ = [] | _ => True) [[], [], [], [], [], [4], [5], [0, 1, 2, 3], [7]] [none, none, none, none, none, none, none, some 6, none] [] [0, 1, 2, 3, 4, 5, 7, 8] 10 (List.take_append_drop 9 _).symm (by kernel_rfl) (by kernel_rfl) (by kernel_rfl) rfl rfl ?_ ?_
  ·
   refine ⟨?_, ?_, ?_, ?_, ?_, ?_, ?_, ?_, ?_, trivial⟩
   ·
    intro vf pf hmu hR
    refine Or.inl ⟨rfl, ?_⟩
    show RunQ _ _ _ (([] : List Nat).flatMap pf ++ _) (envOf3 _ vf [] ++ _) _ _
    refine rq_less (sx 1 rfl (sub_nil _)) (List.sublist_append_right _ _) ?_
    exact rq_v (rv_loadN (cs := [.int .i64 n.ins, n.sv, n.av, n.ov]) rfl (by kernel_rfl) (by kernel_rfl) rfl rfl (fun w2 hm2 j u hj => (hm2.bel.cell (p := ⟨b1, 0 + j, none⟩) hb1b).trans (hb1c j u hj)))
   ·
    intro vf pf hmu hR
    refine Or.inl ⟨rfl, ?_⟩
    show RunQ _ _ _ (([] : List Nat).flatMap pf ++ _) (envOf3 _ vf [] ++ _) _ _
    refine rq_less (sx 2 rfl (sub_nil _)) (List.sublist_append_right _ _) ?_
    exact rq_v (rv_load rfl (by kernel_rfl) rfl (fun w hm => (hm.bel.cell (p := ⟨b2, 0, none⟩) hb2b).trans hb2c))
   ·
    intro vf pf hmu hR
    refine Or.inl ⟨rfl, ?_⟩
    show RunQ _ _ _ (([] : List Nat).flatMap pf ++ _) (envOf3 _ vf [] ++ _) _ _
    refine rq_less (sx 3 rfl (sub_nil _)) (List.sublist_append_right _ _) ?_
    exact rq_v (rv_load rfl (by kernel_rfl) rfl (fun w hm => (hm.bel.cell (p := ⟨b3, 0, none⟩) hb3b).trans hb3c))
   ·
    intro vf pf hmu hR
    refine Or.inl ⟨rfl, ?_⟩
    show RunQ _ _ _ (([] : List Nat).flatMap pf ++ _) (envOf3 _ vf [] ++ _) _ _
    refine rq_less (sx 0 rfl (sub_nil _)) (List.sublist_append_right _ _) ?_
    exact rq_v (rv_ev rfl)
   ·
    intro vf pf hmu hR
    refine Or.inl ⟨rfl, ?_⟩
    show RunQ _ _ _ (([] : List Nat).flatMap pf ++ _) (envOf3 _ vf [] ++ _) _ _
    refine rq_less (sx 1 rfl (sub_nil _)) (List.sublist_append_right _ _) ?_
    exact rq_v (rv_loadN (cs := [.int .i64 n.ins, n.sv, n.av, n.ov]) rfl (by kernel_rfl) (by kernel_rfl) rfl rfl (fun w2 hm2 j u hj => (hm2.bel.cell (p := ⟨b1, 0 + j, none⟩) hb1b).trans (hb1c j u hj)))
   ·
    intro vf pf hmu hR
    have e4 : (vf 4) = .agg #[.int .i64 n.ins, n.sv, n.av, n.ov] ∧ (pf 4) = [] := hR 4 (by decide)
    refine Or.inl ⟨rfl, ?_⟩
    show RunQ _ _ _ (([4] : List Nat).flatMap pf ++ _) (envOf3 _ vf [4] ++ _) _ _
    refine rq_less (sx 10 (congrArg some e4.1) (sub_nil _)) (List.sublist_append_right _ _) ?_
    exact (rq_call (by kernel_rfl) rfl (fun w hm => ret_ans (implnodeCount_yes n w (hr.below hm.bel) hn)))
   ·
    intro vf pf hmu hR
    have e5 : (vf 5) = .int .i64 n.cnt ∧ (pf 5) = [] := hR 5 (by decide)
    refine Or.inl ⟨rfl, ?_⟩
    show RunQ _ _ _ (([5] : List Nat).flatMap pf ++ _) (envOf3 _ vf [5] ++ _) _ _
    refine rq_less (sx 11 (congrArg some e5.1) (sub_nil _)) (List.sublist_append_right _ _) ?_
    exact rq_make (z := .int .i64 0) (s := 1) (bytes := 8) (n := (List.replicate (n.cnt).toNat (0 : Int)).length) (cs := ((List.replicate (n.cnt).toNat (0 : Int)).map (Value.int .i64))) rfl Try.underlying26 (by kernel_rfl) (by decide) rfl rfl (by first | (rw [List.length_replicate]; done) | (rw [List.length_replicate]; omega)) (by first | (rw [List.length_replicate]; done) | (rw [List.length_replicate]; omega)) (by rw [List.length_replicate]; omega) (ints_make _)
   ·
    intro vf pf hmu hR
    have e0 : (vf 0) = .agg #[.int .i64 n.ins, n.sv, n.av, n.ov] ∧ (pf 0) = [] := hR 0 (by decide)
    have e1 : (vf 1) = .int .i64 node ∧ (pf 1) = [] := hR 1 (by decide)
    have e2 : (vf 2) = cv ∧ (pf 2) = [] := hR 2 (by decide)
    have e3 : (vf 3) = .int .i64 (i : Int) ∧ (pf 3) = [] := hR 3 (by decide)
    have e6 : IsRow_o 3 1 ((List.replicate (n.cnt).toNat (0 : Int)).length) ((List.replicate (n.cnt).toNat (0 : Int)).map (Value.int .i64)) (vf 6) (pf 6) := hR 6 (by decide)
    obtain ⟨g10, vE6, pE6⟩ := e6
    refine Or.inl ⟨rfl, ?_⟩
    show RunM _ _ _ (pf 6) (([0, 1, 2, 3] : List Nat).flatMap pf ++ _) (envOf3 _ vf [0, 1, 2, 3, 6] ++ _) _ _
    rw [pE6]; rw [vE6]
    refine rm_less (X' := []) (sx 6 (congrArg some e0.1) (sx 7 (congrArg some e1.1) (sx 8 (congrArg some e2.1) (sx 9 (congrArg some e3.1) (sx 12 (congrArg some vE6) (sub_nil _)))))) (by first | (simp only [e0.2, e1.2, e2.2, e3.2, List.flatMap_cons, List.flatMap_nil, List.append_nil, List.nil_append, List.cons_append]; exact List.Sublist.refl _) | simp [e0.2, e1.2, e2.2, e3.2]) ?_
    exact rm_mono (rq_callM (R := (fun v_ p_ => v_ = .int .i64 (va n cut (i : Int) node) ∧ ∃ ms' : List Int, p_ = rowE 3 1 (.slice (some ⟨g10, 0, none⟩) ((List.replicate (n.cnt).toNat (0 : Int)).length) ((List.replicate (n.cnt).toNat (0 : Int)).length)) (ms').length ((ms').map (Value.int .i64)) ∧ MemoOk n cut (i : Int) ms')) (by kernel_rfl) rfl (fun L w hX hm => valueAbove_mut n cut (i : Int) cv _ _ hr hn hcr hcl (by omega) (node.toNat + 1) node (List.replicate (n.cnt).toNat (0 : Int)) _ _ (by omega) hnd.1 hnd.2 (memo_start (by omega) _ _) hm)) (fun v_ p_ h => by show (∃ pm_, p_ = [pm_] ∧ (fun v_ p_ => v_ = .int .i64 (va n cut (i : Int) node) ∧ ∃ ms' : List Int, p_ = rowE 3 1 ((vf 6)) (ms').length ((ms').map (Value.int .i64)) ∧ MemoOk n cut (i : Int) ms') v_ pm_); rw [vE6]; exact h)
   ·
    intro vf pf hmu hR
    have e6 : IsRow_o 3 1 ((List.replicate (n.cnt).toNat (0 : Int)).length) ((List.replicate (n.cnt).toNat (0 : Int)).map (Value.int .i64)) (vf 6) (pf 6) := hR 6 (by decide)
    obtain ⟨g10, vE6, pE6⟩ := e6
    have e7 : (∃ pm_, (pf 7) = [pm_] ∧ (fun v_ p_ => v_ = .int .i64 (va n cut (i : Int) node) ∧ ∃ ms' : List Int, p_ = rowE 3 1 ((vf 6)) (ms').length ((ms').map (Value.int .i64)) ∧ MemoOk n cut (i : Int) ms') (vf 7) pm_) := hR 7 (by decide)
    rw [vE6] at e7
    obtain ⟨p12, pE7, hR13⟩ := e7
    obtain ⟨v11, vE7⟩ : ∃ x, vf 7 = x := ⟨_, rfl⟩
    rw [vE7] at hR13
    obtain ⟨rfl, ms, rfl, hms⟩ := hR13
    refine Or.inl ⟨rfl, ?_⟩
    show RunQ _ _ _ (([7] : List Nat).flatMap pf ++ _) (envOf3 _ vf [6, 7] ++ _) _ _
    refine rq_less (l' := [rowE 3 1 (.slice (some ⟨g10, 0, none⟩) ((List.replicate (n.cnt).toNat (0 : Int)).length) ((List.replicate (n.cnt).toNat (0 : Int)).length)) ms.length (ms.map (Value.int .i64))]) (sx 13 (congrArg some vE7) (sub_nil _)) (by first | (simp only [pE7, vE7, List.flatMap_cons, List.flatMap_nil, List.append_nil, List.nil_append, List.cons_append]; exact List.Sublist.refl _) | simp [pE7, vE7]) ?_
    exact rq_mono (rq_v (rv_cmp rfl rfl rfl rfl)) (fun _ _ h => ⟨h.1.trans (congrArg Value.bool hb5), h.2⟩)
  ·
   intro vf pf hmu hR
   have e6 : IsRow_o 3 1 ((List.replicate (n.cnt).toNat (0 : Int)).length) ((List.replicate (n.cnt).toNat (0 : Int)).map (Value.int .i64)) (vf 6) (pf 6) := hR 6 (by decide)
   obtain ⟨g10, vE6, pE6⟩ := e6
   have e7 : (∃ pm_, (pf 7) = [pm_] ∧ (fun v_ p_ => v_ = .int .i64 (va n cut (i : Int) node) ∧ ∃ ms' : List Int, p_ = rowE 3 1 ((vf 6)) (ms').length ((ms').map (Value.int .i64)) ∧ MemoOk n cut (i : Int) ms') (vf 7) pm_) := hR 7 (by decide)
   rw [vE6] at e7
   obtain ⟨p12, pE7, hR13⟩ := e7
   obtain ⟨v11, vE7⟩ : ∃ x, vf 7 = x := ⟨_, rfl⟩
   rw [vE7] at hR13
   obtain ⟨rfl, ms, rfl, hms⟩ := hR13
   have e8 : (vf 8) = .bool false ∧ (pf 8) = [] := hR 8 (by decide)
   have q0 : (vf 0) = .agg #[.int .i64 n.ins, n.sv, n.av, n.ov] ∧ (pf 0) = [] := hR 0 (by decide)
   have q1 : (vf 1) = .int .i64 node ∧ (pf 1) = [] := hR 1 (by decide)
   have q2 : (vf 2) = cv ∧ (pf 2) = [] := hR 2 (by decide)
   have q3 : (vf 3) = .int .i64 (i : Int) ∧ (pf 3) = [] := hR 3 (by decide)
   have q4 : (vf 4) = .agg #[.int .i64 n.ins, n.sv, n.av, n.ov] ∧ (pf 4) = [] := hR 4 (by decide)
   have q5 : (vf 5) = .int .i64 n.cnt ∧ (pf 5) = [] := hR 5 (by decide)
   have q8 : (vf 8) = .bool false ∧ (pf 8) = [] := hR 8 (by decide)
   refine hl_less (l' := [rowE 3 1 (.slice (some ⟨g10, 0, none⟩) ((List.replicate (n.cnt).toNat (0 : Int)).length) ((List.replicate (n.cnt).toNat (0 : Int)).length)) ms.length (ms.map (Value.int .i64))]) (sx 0 rfl (sx 1 rfl (sx 2 rfl (sx 3 rfl (sx 5 rfl (sx 14 (congrArg some e8.1) (sub_nil _))))))) (by first | (simp only [pE7, vE7, q0.2, q1.2, q2.2, q3.2, q4.2, q5.2, q8.2, List.flatMap_cons, List.flatMap_nil, List.append_nil, List.nil_append, List.cons_append]; exact List.Sublist.refl _) | simp [pE7, vE7, q0.2, q1.2, q2.2, q3.2, q4.2, q5.2, q8.2]) ?_
   simp only [List.drop_succ_cons, List.drop_zero]
   refine hl_v rfl rfl rfl (rv_ev rfl) ?_
   refine hl_less (sx 0 rfl (sx 1 rfl (sx 2 rfl (sx 3 rfl (sx 5 rfl (sub_nil _)))))) (.refl _) ?_
   refine hl_nil ?_
   refine hq_then ?_
   refine hc_ret ?_
   exact hq_ans rfl rfl (congrArg _ (decide_eq_false (by omega)).symm)
set_option maxHeartbeats 4000000 in
set_option maxRecDepth 100000 in
theorem cutTable_ret (n : Nt) (node : Int) (cut : List Int) (cv : Value) (w : World) (hr : RdsNt w n) (hn : NtOk n) (hcr : RdsW w cv 1 cut.length (cut.map (Value.int .i64))) (hcl : cut.length ≤ 4) (hnd : 0 ≤ node ∧ node < n.cnt) :
  Calls Try.prog 94 #[.agg #[.int .i64 n.ins, n.sv, n.av, n.ov], .int .i64 node, cv] w (Ret w (fun u_ p_ => u_ = .agg #[.int .i64 (cut.length : Int), .int .i64 (tbN (fun i7 : Nat => decide (va n cut (i7 : Int) node = 1)) (pn (cut.length : Int)) : Int)] ∧ p_ = [])) := by
 have hi0 := hn.i0
 have hi1 := hn.i1
 have hs1 := hn.s1
 have ha1 := hn.a1
 have ho1 := hn.o1
 have hcnt : n.cnt = 1 + n.ins + n.ss.length + n.gs.length := rfl
 have hfst : n.fst = 1 + n.ins + n.ss.length := rfl
 refine calls_hc (N := 11) (args := [.agg #[.int .i64 n.ins, n.sv, n.av, n.ov], .int .i64 node, cv]) Try.func94 rfl rfl ?_
 refine hc_less _ (sx 0 rfl (sx 1 rfl (sx 2 rfl (sub_nil _)))) (.refl _) ?_
 refine hc_seq ?_
 refine hc_region ?_
 refine hl_box rfl rfl rfl (rq_box rfl rfl) ?_
 intro b1
 refine hl_box rfl rfl rfl (rq_box rfl rfl) ?_
 intro b2
 refine hl_box rfl rfl rfl (rq_box1 rfl rfl hcr.one) ?_
 intro b3
 refine hl_box rfl rfl rfl (rq_alloc (z := .agg #[.int .i64 0, .int .i64 0]) rfl (by kernel_rfl)) ?_
 intro b4
 refine hl_less (sx 0 rfl (sx 1 rfl (sx 2 rfl (sx 3 rfl (sx 4 rfl (sx 5 rfl (sx 6 rfl (sub_nil _)))))))) (.refl _) ?_
 refine hl_nil ?_
 refine hq_then ?_
 refine hc_seq ?_
 refine hc_region ?_
 refine hl_v rfl rfl rfl (rv_load rfl (by kernel_rfl) rfl (box_cell 1 rfl rfl)) ?_
 refine hl_v rfl rfl rfl (rv_len rfl Try.underlying26 rfl (rd_old hcr)) ?_
 refine hl_v rfl rfl rfl (rv_makeFunc (us := []) (vs := [.pointer (some ⟨b1, 0, none⟩), .pointer (some ⟨b2, 0, none⟩), .pointer (some ⟨b3, 0, none⟩)]) rfl rfl rfl) ?_
 refine hl_q rfl rfl rfl (rq_call (by kernel_rfl) rfl (fun w hm => tableOf_ret (cut.length : Int) 140 [.pointer (some ⟨b1, 0, none⟩), .pointer (some ⟨b2, 0, none⟩), .pointer (some ⟨b3, 0, none⟩)] (fun i7 : Nat => decide (va n cut (i7 : Int) node = 1)) w (by omega) (by kernel_rfl) (fun i w1 hi hb => cutTableC_ans n node cut cv b1 b2 b3 i w1 ((hr.below hm.bel).below hb) hn ((hcr.below hm.bel).below hb) hcl hnd (by have := pn_rng (n := (cut.length : Int)) (by omega); omega) (Nat.lt_of_lt_of_le (box_lt 3 rfl hm) hb.size) (fun j u hj => (hb.cell (p := ⟨b1, 0 + j, none⟩) (box_lt 3 rfl hm)).trans (box_part 3 rfl 0 rfl w hm j u hj)) (Nat.lt_of_lt_of_le (box_lt 2 rfl hm) hb.size) ((hb.cell (p := ⟨b2, 0, none⟩) (box_lt 2 rfl hm)).trans (cellW hm 2 rfl rfl)) (Nat.lt_of_lt_of_le (box_lt 1 rfl hm) hb.size) ((hb.cell (p := ⟨b3, 0, none⟩) (box_lt 1 rfl hm)).trans (cellW hm 1 rfl rfl))))) ?_
 intro v5 p6 hR7
 obtain ⟨rfl, rfl⟩ := hR7
 refine hl_storeBoxN (i := 0) (off := 0) (us := [.int .i64 (cut.length : Int), .int .i64 (tbN (fun i7 : Nat => decide (va n cut (i7 : Int) node = 1)) (pn (cut.length : Int)) : Int)])  (l' := [boxE b4 #[.int .i64 (cut.length : Int), .int .i64 (tbN (fun i7 : Nat => decide (va n cut (i7 : Int) node = 1)) (pn (cut.length : Int)) : Int)] 55, boxE b3 #[cv] 26, boxE b2 #[.int .i64 node] 3, boxE b1 #[.int .i64 n.ins, n.sv, n.av, n.ov] 28]) rfl rfl rfl (by kernel_rfl) rfl rfl rfl (all_cons rfl (all_cons rfl all_nil)) rfl rfl rfl ?_
 refine hl_less (sx 0 rfl (sx 1 rfl (sx 2 rfl (sx 3 rfl (sx 4 rfl (sx 5 rfl (sx 6 rfl (sub_nil _)))))))) (.refl _) ?_
 refine hl_nil ?_
 refine hq_then ?_
 refine hc_ret ?_
 exact hq_retM (rs := [.cell 6 55]) (vs := [.agg #[.int .i64 (cut.length : Int), .int .i64 (tbN (fun i7 : Nat => decide (va n cut (i7 : Int) node = 1)) (pn (cut.length : Int)) : Int)]]) (post := []) rfl ⟨⟨b4, 0, [.int .i64 (cut.length : Int), .int .i64 (tbN (fun i7 : Nat => decide (va n cut (i7 : Int) node = 1)) (pn (cut.length : Int)) : Int)], rfl, rfl, by kernel_rfl, by kernel_rfl, box_part 0 rfl 0 rfl⟩, trivial⟩ rfl ((.cons _ (.cons _ (.cons _ (.cons _ .slnil))))) ⟨rfl, rfl⟩
set_option maxHeartbeats 4000000 in
set_option maxRecDepth 100000 in
theorem CutTable_ret (n : Nt) (node : Int) (cut : List Int) (cv : Value) (w : World) (hr : RdsNt w n) (hn : NtOk n) (hcr : RdsW w cv 1 cut.length (cut.map (Value.int .i64))) (hcut : IsCut n node cut) (hnd : 0 ≤ node ∧ node < n.cnt) :
  Calls Try.prog 37 #[.agg #[.int .i64 n.ins, n.sv, n.av, n.ov], .int .i64 node, cv] w (Ret w (fun u_ p_ => u_ = .agg #[.int .i64 (cut.length : Int), .int .i64 (tbN (fun i7 : Nat => decide (va n cut (i7 : Int) node = 1)) (pn (cut.length : Int)) : Int)] ∧ p_ = [])) := by
 have hi0 := hn.i0
 have hi1 := hn.i1
 have hs1 := hn.s1
 have ha1 := hn.a1
 have ho1 := hn.o1
 have hcnt : n.cnt = 1 + n.ins + n.ss.length + n.gs.length := rfl
 have hfst : n.fst = 1 + n.ins + n.ss.length := rfl
 refine calls_hc (N := 17) (args := [.agg #[.int .i64 n.ins, n.sv, n.av, n.ov], .int .i64 node, cv]) Try.func37 rfl rfl ?_
 refine hc_less _ (sx 0 rfl (sx 1 rfl (sx 2 rfl (sub_nil _)))) (.refl _) ?_
 refine hc_seq ?_
 refine hc_region ?_
 refine hl_box rfl rfl rfl (rq_box rfl rfl) ?_
 intro b1
 refine hl_box rfl rfl rfl (rq_alloc (z := .agg #[.int .i64 0, .int .i64 0]) rfl (by kernel_rfl)) ?_
 intro b2
 refine hl_less (sx 0 rfl (sx 1 rfl (sx 2 rfl (sx 3 rfl (sx 6 rfl (sub_nil _)))))) (.refl _) ?_
 refine hl_nil ?_
 refine hq_then ?_
 refine hc_seq ?_
 refine hc_seq ?_
 refine hc_region ?_
 refine hl_v rfl rfl rfl (rv_loadN (cs := [.int .i64 n.ins, n.sv, n.av, n.ov]) rfl (by kernel_rfl) (by kernel_rfl) rfl rfl (box_part 1 rfl 0 rfl)) ?_
 refine hl_v rfl rfl rfl (rv_ev rfl) ?_
 refine hl_v rfl rfl rfl (rv_ev rfl) ?_
 refine hl_callV rfl rfl rfl (rq_call (by kernel_rfl) rfl (fun w hm => ret_ans (implCutOk_yes n node cut cv w (hr.below hm.bel) hn (hcr.below hm.bel) hcut hnd))) ?_
 refine hl_v rfl rfl rfl (rv_ev rfl) ?_
 refine hl_less (sx 0 rfl (sx 1 rfl (sx 2 rfl (sx 3 rfl (sx 6 rfl (sx 11 rfl (sub_nil _))))))) (.refl _) ?_
 refine hl_nil ?_
 refine hq_then ?_
 refine hc_false rfl ?_
 refine hc_skip ?_
 refine hq_then ?_
 refine hc_seq ?_
 refine hc_region ?_
 refine hl_v rfl rfl rfl (rv_loadN (cs := [.int .i64 n.ins, n.sv, n.av, n.ov]) rfl (by kernel_rfl) (by kernel_rfl) rfl rfl (box_part 1 rfl 0 rfl)) ?_
 refine hl_v rfl rfl rfl (rv_ev rfl) ?_
 refine hl_v rfl rfl rfl (rv_ev rfl) ?_
 refine hl_q rfl rfl rfl (rq_call (by kernel_rfl) rfl (fun w hm => cutTable_ret n node cut cv w (hr.below hm.bel) hn (hcr.below hm.bel) hcut.len hnd)) ?_
 intro v3 p4 hR5
 obtain ⟨rfl, rfl⟩ := hR5
 refine hl_storeBoxN (i := 0) (off := 0) (us := [.int .i64 (cut.length : Int), .int .i64 (tbN (fun i7 : Nat => decide (va n cut (i7 : Int) node = 1)) (pn (cut.length : Int)) : Int)])  (l' := [boxE b2 #[.int .i64 (cut.length : Int), .int .i64 (tbN (fun i7 : Nat => decide (va n cut (i7 : Int) node = 1)) (pn (cut.length : Int)) : Int)] 55, boxE b1 #[.int .i64 n.ins, n.sv, n.av, n.ov] 28]) rfl rfl rfl (by kernel_rfl) rfl rfl rfl (all_cons rfl (all_cons rfl all_nil)) rfl rfl rfl ?_
 refine hl_less (sx 0 rfl (sx 1 rfl (sx 2 rfl (sx 3 rfl (sx 6 rfl (sx 11 rfl (sub_nil _))))))) (.refl _) ?_
 refine hl_nil ?_
 refine hq_then ?_
 refine hc_ret ?_
 exact hq_retM (rs := [.cell 6 55]) (vs := [.agg #[.int .i64 (cut.length : Int), .int .i64 (tbN (fun i7 : Nat => decide (va n cut (i7 : Int) node = 1)) (pn (cut.length : Int)) : Int)]]) (post := []) rfl ⟨⟨b2, 0, [.int .i64 (cut.length : Int), .int .i64 (tbN (fun i7 : Nat => decide (va n cut (i7 : Int) node = 1)) (pn (cut.length : Int)) : Int)], rfl, rfl, by kernel_rfl, by kernel_rfl, box_part 0 rfl 0 rfl⟩, trivial⟩ rfl ((.cons _ (.cons _ .slnil))) ⟨rfl, rfl⟩
set_option maxHeartbeats 4000000 in
set_option maxRecDepth 100000 in
theorem lawsGet_ans (xs : List Int) (x : Int) (v : Value) (w : World) (hv : RdsW w v 1 xs.length (xs.map (Value.int .i64))) (hlen : xs.length ≤ 1000000000) :
  Calls Try.prog 26 #[v, .int .i64 x] w (Ans w (.int .i64 (getI xs x))) := by
 refine calls_hc (N := 17) (args := [v, .int .i64 x]) Try.func26 rfl rfl ?_
 refine hc_less _ (sx 0 rfl (sx 1 rfl (sub_nil _))) (.refl _) ?_
 refine hc_seq ?_
 refine hc_region ?_
 refine hl_v rfl rfl rfl (rv_ev rfl) ?_
 refine hl_less (sx 0 rfl (sx 1 rfl (sx 4 rfl (sub_nil _)))) (.refl _) ?_
 refine hl_nil ?_
 refine hq_then ?_
 refine hc_seq ?_
 refine hc_seq ?_
 refine hc_region ?_
 refine hl_v rfl rfl rfl (rv_ev rfl) ?_
 refine hl_lss rfl rfl rfl rfl rfl rfl (fun h1 => ?_) (fun h1 => ?_)
 ·
  refine hl_v rfl rfl rfl (rv_ev rfl) ?_
  refine hl_skip rfl rfl rfl ?_
  refine hl_skip rfl rfl rfl ?_
  refine hl_skip rfl rfl rfl ?_
  refine hl_skip rfl rfl rfl ?_
  refine hl_v rfl rfl rfl (rv_ev rfl) ?_
  refine hl_less (sx 0 rfl (sx 1 rfl (sx 4 rfl (sx 12 rfl (sub_nil _))))) (.refl _) ?_
  refine hl_nil ?_
  refine hq_then ?_
  refine hc_true rfl ?_
  refine hc_seq ?_
  refine hc_region ?_
  refine hl_v rfl rfl rfl (rv_ev rfl) ?_
  refine hl_less (sx 0 rfl (sx 1 rfl (sx 4 rfl (sx 12 rfl (sub_nil _))))) (.refl _) ?_
  refine hl_nil ?_
  refine hq_then ?_
  refine hc_ret ?_
  refine hq_then_ret ?_
  exact hq_ans rfl rfl (by unfold getI; rw [if_neg (by omega)])
 ·
  refine hl_v rfl rfl rfl (rv_ev rfl) ?_
  refine hl_v rfl rfl rfl (rv_ev rfl) ?_
  refine hl_v rfl rfl rfl (rv_ev rfl) ?_
  refine hl_v rfl rfl rfl (rv_len rfl Try.underlying26 rfl (rd_old hv)) ?_
  refine hl_geq rfl rfl rfl rfl rfl rfl (fun h2 => ?_) (fun h2 => ?_)
  ·
   refine hl_v rfl rfl rfl (rv_ev rfl) ?_
   refine hl_less (sx 0 rfl (sx 1 rfl (sx 4 rfl (sx 12 rfl (sub_nil _))))) (.refl _) ?_
   refine hl_nil ?_
   refine hq_then ?_
   refine hc_true rfl ?_
   refine hc_seq ?_
   refine hc_region ?_
   refine hl_v rfl rfl rfl (rv_ev rfl) ?_
   refine hl_less (sx 0 rfl (sx 1 rfl (sx 4 rfl (sx 12 rfl (sub_nil _))))) (.refl _) ?_
   refine hl_nil ?_
   refine hq_then ?_
   refine hc_ret ?_
   refine hq_then_ret ?_
   exact hq_ans rfl rfl (by unfold getI; rw [if_neg (by omega)])
  ·
   refine hl_v rfl rfl rfl (rv_ev rfl) ?_
   refine hl_less (sx 0 rfl (sx 1 rfl (sx 4 rfl (sx 12 rfl (sub_nil _))))) (.refl _) ?_
   refine hl_nil ?_
   refine hq_then ?_
   refine hc_false rfl ?_
   refine hc_skip ?_
   refine hq_then ?_
   refine hc_seq ?_
   refine hc_region ?_
   refine hl_v rfl rfl rfl (rv_ev rfl) ?_
   refine hl_v rfl rfl rfl (rv_ev rfl) ?_
   refine hl_v rfl rfl rfl (rv_index (s := 1) rfl Try.underlying26 (by kernel_rfl) rfl rfl (rd_old hv) (by omega) (by first | omega | (simp only [List.length_set]; omega))) ?_
   refine hl_v rfl rfl rfl (rv_loadEl (u := .int .i64 (xs.getD ((x).toNat) 0)) rfl (by kernel_rfl) rfl (rd_old hv) (ints_at1 (show _ < xs.length by first | omega | (simp only [List.length_set]; omega)))) ?_
   refine hl_v rfl rfl rfl (rv_ev rfl) ?_
   refine hl_less (sx 0 rfl (sx 1 rfl (sx 4 rfl (sx 12 rfl (sub_nil _))))) (.refl _) ?_
   refine hl_nil ?_
   refine hq_then ?_
   refine hc_ret ?_
   exact hq_ans rfl rfl (by unfold getI; rw [if_pos (by omega)])
set_option maxHeartbeats 4000000 in
set_option maxRecDepth 100000 in
theorem btoi_t  (w : World)  :
  Calls Try.prog 38 #[.bool true] w (Ans w (.int .i64 1)) := by
 refine calls_hc (N := 4) (args := [.bool true]) Try.func38 rfl rfl ?_
 refine hc_less _ (sx 0 rfl (sub_nil _)) (.refl _) ?_
 refine hc_seq ?_
 refine hc_region ?_
 refine hl_v rfl rfl rfl (rv_ev rfl) ?_
 refine hl_less (sx 0 rfl (sx 2 rfl (sub_nil _))) (.refl _) ?_
 refine hl_nil ?_
 refine hq_then ?_
 refine hc_seq ?_
 refine hc_seq ?_
 refine hc_region ?_
 refine hl_v rfl rfl rfl (rv_ev rfl) ?_
 refine hl_less (sx 0 rfl (sx 2 rfl (sx 3 rfl (sub_nil _)))) (.refl _) ?_
 refine hl_nil ?_
 refine hq_then ?_
 refine hc_true rfl ?_
 refine hc_seq ?_
 refine hc_region ?_
 refine hl_v rfl rfl rfl (rv_ev rfl) ?_
 refine hl_less (sx 0 rfl (sx 2 rfl (sx 3 rfl (sub_nil _)))) (.refl _) ?_
 refine hl_nil ?_
 refine hq_then ?_
 refine hc_ret ?_
 refine hq_then_ret ?_
 exact hq_ans rfl rfl rfl
set_option maxHeartbeats 4000000 in
set_option maxRecDepth 100000 in
theorem btoi_f  (w : World)  :
  Calls Try.prog 38 #[.bool false] w (Ans w (.int .i64 0)) := by
 refine calls_hc (N := 4) (args := [.bool false]) Try.func38 rfl rfl ?_
 refine hc_less _ (sx 0 rfl (sub_nil _)) (.refl _) ?_
 refine hc_seq ?_
 refine hc_region ?_
 refine hl_v rfl rfl rfl (rv_ev rfl) ?_
 refine hl_less (sx 0 rfl (sx 2 rfl (sub_nil _))) (.refl _) ?_
 refine hl_nil ?_
 refine hq_then ?_
 refine hc_seq ?_
 refine hc_seq ?_
 refine hc_region ?_
 refine hl_v rfl rfl rfl (rv_ev rfl) ?_
 refine hl_less (sx 0 rfl (sx 2 rfl (sx 3 rfl (sub_nil _)))) (.refl _) ?_
 refine hl_nil ?_
 refine hq_then ?_
 refine hc_false rfl ?_
 refine hc_skip ?_
 refine hq_then ?_
 refine hc_seq ?_
 refine hc_region ?_
 refine hl_v rfl rfl rfl (rv_ev rfl) ?_
 refine hl_less (sx 0 rfl (sx 2 rfl (sx 3 rfl (sub_nil _)))) (.refl _) ?_
 refine hl_nil ?_
 refine hq_then ?_
 refine hc_ret ?_
 exact hq_ans rfl rfl rfl
set_option maxHeartbeats 4000000 in
set_option maxRecDepth 100000 in
theorem walk_FnCutMeans (a0 : Option Addr) (len0 cap0 : Nat) (z0 : List Int) (w : World) (hbr : BRow .u8 w a0 len0 cap0 z0) :
  Calls Try.prog 7 #[.slice a0 len0 cap0] w (Ans w (.bool true)) := by
 have hcd0 := cod_le hbr 0
 refine calls_hc (N := 92) (args := [.slice a0 len0 cap0]) Try.func7 rfl rfl ?_
 refine hc_less _ (sx 0 rfl (sub_nil _)) (.refl _) ?_
 refine hc_seq ?_
 refine hc_region ?_
 refine hl_v rfl rfl rfl (rv_ev rfl) ?_
 refine hl_less (sx 0 rfl (sx 2 rfl (sub_nil _))) (.refl _) ?_
 refine hl_nil ?_
 refine hq_then ?_
 refine hc_seq ?_
 refine hc_seq ?_
 refine hc_region ?_
 refine hl_v rfl rfl rfl (rv_ev rfl) ?_
 refine hl_callV rfl rfl rfl (rq_call (by kernel_rfl) rfl (fun w hm => ret_ans (ans_of (big_any a0 len0 cap0 w (hbr.len_le))))) ?_
 refine hl_bool (fun h1 => ?_) (fun h1 => ?_)
 ·
  have h1p := of_decide_eq_true h1
  refine hl_less (sx 0 rfl (sx 2 rfl (sx 12 rfl (sub_nil _)))) (.refl _) ?_
  refine hl_nil ?_
  refine hq_then ?_
  refine hc_true rfl ?_
  refine hc_seq ?_
  refine hc_region ?_
  refine hl_v rfl rfl rfl (rv_ev rfl) ?_
  refine hl_less (sx 0 rfl (sx 2 rfl (sx 12 rfl (sub_nil _)))) (.refl _) ?_
  refine hl_nil ?_
  refine hq_then ?_
  refine hc_ret ?_
  refine hq_then_ret ?_
  exact hq_ans rfl rfl rfl
 ·
  have h1p := of_decide_eq_false h1
  refine hl_less (sx 0 rfl (sx 2 rfl (sx 12 rfl (sub_nil _)))) (.refl _) ?_
  refine hl_nil ?_
  refine hq_then ?_
  refine hc_false rfl ?_
  refine hc_skip ?_
  refine hq_then ?_
  refine hc_seq ?_
  refine hc_region ?_
  refine hl_v rfl rfl rfl (rv_ev rfl) ?_
  refine hl_q rfl rfl rfl (rq_call (by kernel_rfl) rfl (fun w hm => DrawNode_ret _ _ _ z0 w (hbr.below hm.bel) (by omega))) ?_
  intro v2 p3 hR4
  obtain ⟨n, node, rfl, rfl, ⟨o1n, o2n, o3n⟩, hn, ⟨hnq1, hnq2, hnq3⟩, hnd0, hnd1⟩ := hR4
  have hi0 := hn.i0
  have hi1 := hn.i1
  have hs1 := hn.s1
  have ha1 := hn.a1
  have ho1 := hn.o1
  have hcnt : n.cnt = 1 + n.ins + n.ss.length + n.gs.length := rfl
  have hfst : n.fst = 1 + n.ins + n.ss.length := rfl
  refine hl_v rfl rfl rfl (rv_ev rfl) ?_
  refine hl_v rfl rfl rfl (rv_ev rfl) ?_
  refine hl_v rfl rfl rfl (rv_ev rfl) ?_
  refine hl_box rfl rfl rfl (rq_alloc (z := .agg #[.int .i64 0, .slice none 0 0, .slice none 0 0, .slice none 0 0]) rfl (by kernel_rfl)) ?_
  intro b5
  refine hl_storeBoxN (i := 0) (off := 0) (us := [.int .i64 n.ins, n.sv, n.av, n.ov])  (l' := [boxE b5 #[.int .i64 n.ins, n.sv, n.av, n.ov] 28, ntE n]) rfl rfl rfl (by kernel_rfl) rfl rfl rfl (all_cons rfl (all_cons o1n (all_cons o2n (all_cons o3n all_nil)))) rfl rfl rfl ?_
  refine hl_v rfl rfl rfl (rv_ev rfl) ?_
  refine hl_less (sx 0 rfl (sx 2 rfl (sx 3 rfl (sx 4 rfl (sx 12 rfl (sub_nil _)))))) (.refl _) ?_
  refine hl_nil ?_
  refine hq_then ?_
  refine hc_seq ?_
  refine hc_draw (by kernel_rfl) 6 [0, 1, 2, 3, 4, 5] (List.take 6 _) (List.drop 6 _) [[], [], [1], [], [3], [0, 2, 4]] [18, 19, 20, 21, 22, 23] (fun i_ vs_ v_ p_ => match i_ with | 0 => v_ = .agg #[.int .i64 n.ins, n.sv, n.av, n.ov] ∧ p_ = [] | 1 => v_ = .agg #[.int .i64 n.ins, n.sv, n.av, n.ov] ∧ p_ = [] | 2 => (fun v' post => post = [rowE 3 1 v' (stL n).length ((stL n).map (Value.int .i64))]) v_ p_ | 3 => v_ = .slice a0 len0 cap0 ∧ p_ = [] | 4 => v_ = .int .i64 (cod z0 len0 0 : Int) ∧ p_ = [] | 5 => (fun v' post => post = [rowE 3 1 v' (valsL n (stL n) (cod z0 len0 0 : Int)).length ((valsL n (stL n) (cod z0 len0 0 : Int)).map (Value.int .i64))]) v_ p_ | _ => True) (List.take_append_drop 6 _).symm (by kernel_rfl) (by kernel_rfl) rfl rfl ?_ ?_
  ·
   refine ⟨?_, ?_, ?_, ?_, ?_, ?_, trivial⟩
   ·
    intro vf pf hR
    refine Or.inl ⟨rfl, ?_⟩
    refine rq_less (sx 3 rfl (sub_nil _)) (List.sublist_append_right _ _) ?_
    exact rq_v (rv_loadN (cs := [.int .i64 n.ins, n.sv, n.av, n.ov]) rfl (by kernel_rfl) (by kernel_rfl) rfl rfl (box_part 0 rfl 0 rfl))
   ·
    intro vf pf hR
    refine Or.inl ⟨rfl, ?_⟩
    refine rq_less (sx 3 rfl (sub_nil _)) (List.sublist_append_right _ _) ?_
    exact rq_v (rv_loadN (cs := [.int .i64 n.ins, n.sv, n.av, n.ov]) rfl (by kernel_rfl) (by kernel_rfl) rfl rfl (box_part 0 rfl 0 rfl))
   ·
    intro vf pf hR
    have e1 : (vf 1) = .agg #[.int .i64 n.ins, n.sv, n.av, n.ov] ∧ (pf 1) = [] := hR 1 (by decide)
    refine Or.inl ⟨rfl, ?_⟩
    refine rq_less (sx 19 (congrArg some e1.1) (sub_nil _)) (List.sublist_append_right _ _) ?_
    exact rq_call (by kernel_rfl) rfl (fun w hm => NetStart_ret n w (nt_rds 1 rfl w hm) hn)
   ·
    intro vf pf hR
    refine Or.inl ⟨rfl, ?_⟩
    refine rq_less (sx 0 rfl (sub_nil _)) (List.sublist_append_right _ _) ?_
    exact rq_v (rv_ev rfl)
   ·
    intro vf pf hR
    have e3 : (vf 3) = .slice a0 len0 cap0 ∧ (pf 3) = [] := hR 3 (by decide)
    refine Or.inl ⟨rfl, ?_⟩
    refine rq_less (sx 21 (congrArg some e3.1) (sub_nil _)) (List.sublist_append_right _ _) ?_
    exact (rq_call (by kernel_rfl) rfl (fun w hm => ret_ans (at_ans hbr 0 (by omega) w hm)))
   ·
    intro vf pf hR
    have e0 : (vf 0) = .agg #[.int .i64 n.ins, n.sv, n.av, n.ov] ∧ (pf 0) = [] := hR 0 (by decide)
    have e2 : (fun v' post => post = [rowE 3 1 v' (stL n).length ((stL n).map (Value.int .i64))]) (vf 2) (pf 2) := hR 2 (by decide)
    obtain ⟨v6, vE2⟩ : ∃ x, vf 2 = x := ⟨_, rfl⟩
    obtain ⟨p7, pE2⟩ : ∃ x, pf 2 = x := ⟨_, rfl⟩
    have hR8 := e2
    rw [vE2, pE2] at hR8
    subst hR8
    have e4 : (vf 4) = .int .i64 (cod z0 len0 0 : Int) ∧ (pf 4) = [] := hR 4 (by decide)
    refine Or.inl ⟨rfl, ?_⟩
    refine rq_less (l' := [rowE 3 1 v6 ((stL n).length) ((stL n).map (Value.int .i64)), boxE b5 #[.int .i64 n.ins, n.sv, n.av, n.ov] 28, ntE n]) (sx 18 (congrArg some e0.1) (sx 20 (congrArg some vE2) (sx 22 (congrArg some e4.1) (sub_nil _)))) (by first | (simp only [pE2, vE2, e0.2, e4.2, List.flatMap_cons, List.flatMap_nil, List.append_nil, List.nil_append, List.cons_append]; exact List.Sublist.refl _) | simp [pE2, vE2, e0.2, e4.2]) ?_
    exact rq_call (by kernel_rfl) rfl (fun w hm => specNodeValues_ret n (stL n) _ (cod z0 len0 0 : Int) w (nt_rds 2 rfl w hm) hn ((rd_row 0 rfl) w hm) (start_ok hn) (by omega))
  ·
   intro vf pf hR
   have e2 : (fun v' post => post = [rowE 3 1 v' (stL n).length ((stL n).map (Value.int .i64))]) (vf 2) (pf 2) := hR 2 (by decide)
   obtain ⟨v6, vE2⟩ : ∃ x, vf 2 = x := ⟨_, rfl⟩
   obtain ⟨p7, pE2⟩ : ∃ x, pf 2 = x := ⟨_, rfl⟩
   have hR8 := e2
   rw [vE2, pE2] at hR8
   subst hR8
   have e5 : (fun v' post => post = [rowE 3 1 v' (valsL n (stL n) (cod z0 len0 0 : Int)).length ((valsL n (stL n) (cod z0 len0 0 : Int)).map (Value.int .i64))]) (vf 5) (pf 5) := hR 5 (by decide)
   obtain ⟨v9, vE5⟩ : ∃ x, vf 5 = x := ⟨_, rfl⟩
   obtain ⟨p10, pE5⟩ : ∃ x, pf 5 = x := ⟨_, rfl⟩
   have hR11 := e5
   rw [vE5, pE5] at hR11
   subst hR11
   have q0 : (vf 0) = .agg #[.int .i64 n.ins, n.sv, n.av, n.ov] ∧ (pf 0) = [] := hR 0 (by decide)
   have q1 : (vf 1) = .agg #[.int .i64 n.ins, n.sv, n.av, n.ov] ∧ (pf 1) = [] := hR 1 (by decide)
   have q3 : (vf 3) = .slice a0 len0 cap0 ∧ (pf 3) = [] := hR 3 (by decide)
   have q4 : (vf 4) = .int .i64 (cod z0 len0 0 : Int) ∧ (pf 4) = [] := hR 4 (by decide)
   refine hl_less (l' := [rowE 3 1 v6 ((stL n).length) ((stL n).map (Value.int .i64)), rowE 3 1 v9 ((valsL n (stL n) (cod z0 len0 0 : Int)).length) ((valsL n (stL n) (cod z0 len0 0 : Int)).map (Value.int .i64)), boxE b5 #[.int .i64 n.ins, n.sv, n.av, n.ov] 28, ntE n]) (sx 0 rfl (sx 2 rfl (sx 3 rfl (sx 4 rfl (sx 12 rfl (sx 23 (congrArg some vE5) (sub_nil _))))))) (by first | (simp only [pE2, vE2, pE5, vE5, q0.2, q1.2, q3.2, q4.2, List.flatMap_cons, List.flatMap_nil, List.append_nil, List.nil_append, List.cons_append]; exact List.Sublist.refl _) | simp [pE2, vE2, pE5, vE5, q0.2, q1.2, q3.2, q4.2]) ?_
   simp only [List.drop_succ_cons, List.drop_zero]
   refine hl_v rfl rfl rfl (rv_ev rfl) ?_
   refine hl_less (sx 0 rfl (sx 2 rfl (sx 3 rfl (sx 4 rfl (sx 5 rfl (sx 12 rfl (sub_nil _))))))) (.refl _) ?_
   refine hl_nil ?_
   refine hq_then ?_
   refine hc_seq ?_
   refine hc_region ?_
   refine hl_v rfl rfl rfl (rv_loadN (cs := [.int .i64 n.ins, n.sv, n.av, n.ov]) rfl (by kernel_rfl) (by kernel_rfl) rfl rfl (box_part 2 rfl 0 rfl)) ?_
   refine hl_v rfl rfl rfl (rv_ev rfl) ?_
   have hv : AndV n (valsL n (stL n) (cod z0 len0 0 : Int)) := vals_and hn (str_len n (Nat.le_refl _)) _
   have hvl := hv.len
   have hv01 := hv.b01
   have hvl2 : ((valsL n (stL n) (cod z0 len0 0 : Int)).length : Int) = n.cnt := hvl
   have hvz : (valsL n (stL n) (cod z0 len0 0 : Int)).getD 0 0 = 0 := val0 _ _
   refine hl_q rfl rfl rfl (rq_call (by kernel_rfl) rfl (fun w hm => EnumCuts_ret n node w (nt_rds 3 rfl w hm) hn ⟨hnd0, hnd1⟩)) ?_
   intro v12 p13 hR14
   obtain ⟨qs, us, rfl, hq, hcs⟩ := hR14
   have hus0 := hcs.pos
   have hus8 := hcs.len
   refine hl_v rfl rfl rfl (rv_ev rfl) ?_
   refine hl_less (sx 0 rfl (sx 2 rfl (sx 3 rfl (sx 4 rfl (sx 5 rfl (sx 6 rfl (sx 12 rfl (sub_nil _)))))))) (.refl _) ?_
   refine hl_nil ?_
   refine hq_then ?_
   refine hc_seq ?_
   refine hc_seq ?_
   refine hc_region ?_
   refine hl_v rfl rfl rfl (rv_ev rfl) ?_
   refine hl_less (sx 0 rfl (sx 2 rfl (sx 3 rfl (sx 4 rfl (sx 5 rfl (sx 6 rfl (sx 7 rfl (sx 12 rfl (sub_nil _))))))))) (.refl _) ?_
   refine hl_nil ?_
   refine hq_then ?_
   refine hc_block ?_
   refine hc_loop1 (α := Nat) (fun i => [bigE qs, rowE 3 1 v6 ((stL n).length) ((stL n).map (Value.int .i64)), rowE 3 1 v9 ((valsL n (stL n) (cod z0 len0 0 : Int)).length) ((valsL n (stL n) (cod z0 len0 0 : Int)).map (Value.int .i64)), boxE b5 #[.int .i64 n.ins, n.sv, n.av, n.ov] 28, ntE n]) (fun i => [(0, .slice a0 len0 cap0), (2, .bool false), (3, .pointer (some ⟨b5, 0, none⟩)), (4, .int .i64 node), (5, v9), (6, v12), (7, .int .i64 (i : Int)), (12, .bool false)]) (fun i => i ≤ us.length) (fun i => us.length - i) 0 (Nat.zero_le _) (sx 0 rfl (sx 2 rfl (sx 3 rfl (sx 4 rfl (sx 5 rfl (sx 6 rfl (sx 7 rfl (sx 12 rfl (sub_nil _))))))))) ((.cons_cons _ (.cons_cons _ (.cons_cons _ (.cons_cons _ (.cons_cons _ .slnil)))))) ?_
   intro i hi15
   have hi := hi15
   refine hc_seq ?_
   refine hc_seq ?_
   refine hc_region ?_
   refine hl_v rfl rfl rfl (rv_ev rfl) ?_
   refine hl_v rfl rfl rfl (rv_ev rfl) ?_
   refine hl_v rfl rfl rfl (rv_len rfl Try.underlying40 rfl (fun w hm => (hq w (hm.holds _ (mem_at (i := 0) rfl))).row)) ?_
   refine hl_lss rfl rfl rfl rfl rfl rfl (fun h16 => ?_) (fun h16 => ?_)
   ·
    refine hl_less (sx 0 rfl (sx 2 rfl (sx 3 rfl (sx 4 rfl (sx 5 rfl (sx 6 rfl (sx 7 rfl (sx 12 rfl (sx 30 rfl (sub_nil _)))))))))) (.refl _) ?_
    refine hl_nil ?_
    refine hq_then ?_
    refine hc_true rfl ?_
    refine hc_skip ?_
    refine hq_then ?_
    refine hc_seq ?_
    refine hc_block ?_
    refine hc_seq ?_
    refine hc_seq ?_
    have hic := hcs.ok _ (getD_mem' (es := us) (i := i) (d := crow0) (by omega))
    have hi4 := hic.len
    have hgr : ∀ j, j < ((us.getD i crow0).xs).length → 0 ≤ ((us.getD i crow0).xs).getD j 0 ∧ ((us.getD i crow0).xs).getD j 0 ≤ node := fun j hj => hic.rng hn hnd0 hnd1 (getD_memX hj)
    have hgb : ∀ j, j < ((us.getD i crow0).xs).length → (valsL n (stL n) (cod z0 len0 0 : Int)).getD (((us.getD i crow0).xs).getD j 0).toNat 0 = 0 ∨ (valsL n (stL n) (cod z0 len0 0 : Int)).getD (((us.getD i crow0).xs).getD j 0).toNat 0 = 1 := fun j hj => hv01 _ (by have := hgr j hj; omega)
    refine hc_draw (by kernel_rfl) 8 [0, 1, 2, 3, 4, 5, 6, 7] (List.take 8 _) (List.drop 8 _) [[], [], [], [], [2, 3], [4], [0, 1, 5], [6]] [33, 34, 35, 36, 37, 38, 39, 40] (fun i_ vs_ v_ p_ => match i_ with | 0 => v_ = .agg #[.int .i64 n.ins, n.sv, n.av, n.ov] ∧ p_ = [] | 1 => v_ = .int .i64 node ∧ p_ = [] | 2 => v_ = v12 ∧ p_ = [] | 3 => v_ = .int .i64 (i : Int) ∧ p_ = [] | 4 => v_ = elP v12 (((i : Int)).toNat * 1) ∧ p_ = [] | 5 => v_ = (us.getD i crow0).v ∧ p_ = [] | 6 => v_ = .bool true ∧ p_ = [] | 7 => v_ = .bool false ∧ p_ = [] | _ => True) (List.take_append_drop 8 _).symm (by kernel_rfl) (by kernel_rfl) rfl rfl ?_ ?_
    ·
     refine ⟨?_, ?_, ?_, ?_, ?_, ?_, ?_, ?_, trivial⟩
     ·
      intro vf pf hR
      refine Or.inl ⟨rfl, ?_⟩
      refine rq_less (sx 3 rfl (sub_nil _)) (List.sublist_append_right _ _) ?_
      exact rq_v (rv_loadN (cs := [.int .i64 n.ins, n.sv, n.av, n.ov]) rfl (by kernel_rfl) (by kernel_rfl) rfl rfl (box_part 3 rfl 0 rfl))
     ·
      intro vf pf hR
      refine Or.inl ⟨rfl, ?_⟩
      refine rq_less (sx 4 rfl (sub_nil _)) (List.sublist_append_right _ _) ?_
      exact rq_v (rv_ev rfl)
     ·
      intro vf pf hR
      refine Or.inl ⟨rfl, ?_⟩
      refine rq_less (sx 6 rfl (sub_nil _)) (List.sublist_append_right _ _) ?_
      exact rq_v (rv_ev rfl)
     ·
      intro vf pf hR
      refine Or.inl ⟨rfl, ?_⟩
      refine rq_less (sx 7 rfl (sub_nil _)) (List.sublist_append_right _ _) ?_
      exact rq_v (rv_ev rfl)
     ·
      intro vf pf hR
      have e2 : (vf 2) = v12 ∧ (pf 2) = [] := hR 2 (by decide)
      have e3 : (vf 3) = .int .i64 (i : Int) ∧ (pf 3) = [] := hR 3 (by decide)
      refine Or.inl ⟨rfl, ?_⟩
      refine rq_less (sx 35 (congrArg some e2.1) (sx 36 (congrArg some e3.1) (sub_nil _))) (List.sublist_append_right _ _) ?_
      exact rq_v (rv_index (s := 1) rfl Try.underlying40 (by kernel_rfl) rfl rfl (fun w hm => (hq w (hm.holds _ (mem_at (i := 0) rfl))).row) (by omega) (by first | omega | (simp only [List.length_set]; omega)))
     ·
      intro vf pf hR
      have e4 : (vf 4) = elP v12 (((i : Int)).toNat * 1) ∧ (pf 4) = [] := hR 4 (by decide)
      refine Or.inl ⟨rfl, ?_⟩
      refine rq_less (sx 37 (congrArg some e4.1) (sub_nil _)) (List.sublist_append_right _ _) ?_
      exact rq_v (rv_loadEl (u := (us.getD i crow0).v) rfl (by kernel_rfl) rfl (fun w hm => (hq w (hm.holds _ (mem_at (i := 0) rfl))).row) (flat_one crowC (fun r => r.v) (fun _ => rfl) us crow0 (show i < _ by first | omega | (simp only [List.length_set]; omega))))
     ·
      intro vf pf hR
      have e0 : (vf 0) = .agg #[.int .i64 n.ins, n.sv, n.av, n.ov] ∧ (pf 0) = [] := hR 0 (by decide)
      have e1 : (vf 1) = .int .i64 node ∧ (pf 1) = [] := hR 1 (by decide)
      have e5 : (vf 5) = (us.getD i crow0).v ∧ (pf 5) = [] := hR 5 (by decide)
      refine Or.inl ⟨rfl, ?_⟩
      refine rq_less (sx 33 (congrArg some e0.1) (sx 34 (congrArg some e1.1) (sx 38 (congrArg some e5.1) (sub_nil _)))) (List.sublist_append_right _ _) ?_
      exact (rq_call (by kernel_rfl) rfl (fun w hm => ret_ans (implCutOk_yes n node (us.getD i crow0).xs _ w (nt_rds 4 rfl w hm) hn ((hq w (hm.holds _ (mem_at (i := 0) rfl))).at (k := i) (by omega)) hic ⟨hnd0, hnd1⟩)))
     ·
      intro vf pf hR
      have e6 : (vf 6) = .bool true ∧ (pf 6) = [] := hR 6 (by decide)
      refine Or.inl ⟨rfl, ?_⟩
      refine rq_less (sx 39 (congrArg some e6.1) (sub_nil _)) (List.sublist_append_right _ _) ?_
      exact rq_v (rv_ev rfl)
    ·
     intro vf pf hR
     have e7 : (vf 7) = .bool false ∧ (pf 7) = [] := hR 7 (by decide)
     refine hl_less (l' := [bigE qs, rowE 3 1 v6 ((stL n).length) ((stL n).map (Value.int .i64)), rowE 3 1 v9 ((valsL n (stL n) (cod z0 len0 0 : Int)).length) ((valsL n (stL n) (cod z0 len0 0 : Int)).map (Value.int .i64)), boxE b5 #[.int .i64 n.ins, n.sv, n.av, n.ov] 28, ntE n]) (sx 0 rfl (sx 2 rfl (sx 3 rfl (sx 4 rfl (sx 5 rfl (sx 6 rfl (sx 7 rfl (sx 12 rfl (sx 30 rfl (sx 40 (congrArg some e7.1) (sub_nil _))))))))))) (List.sublist_append_right _ _) ?_
     simp only [List.drop_succ_cons, List.drop_zero]
     refine hl_less (sx 0 rfl (sx 2 rfl (sx 3 rfl (sx 4 rfl (sx 5 rfl (sx 6 rfl (sx 7 rfl (sx 12 rfl (sx 30 rfl (sx 40 rfl (sub_nil _))))))))))) (.refl _) ?_
     refine hl_nil ?_
     refine hq_then ?_
     refine hc_false rfl ?_
     refine hc_skip ?_
     refine hq_then ?_
     refine hc_seq ?_
     refine hc_region ?_
     refine hl_v rfl rfl rfl (rv_ev rfl) ?_
     refine hl_less (sx 0 rfl (sx 2 rfl (sx 3 rfl (sx 4 rfl (sx 5 rfl (sx 6 rfl (sx 7 rfl (sx 8 rfl (sx 12 rfl (sx 30 rfl (sx 40 rfl (sub_nil _)))))))))))) (.refl _) ?_
     refine hl_nil ?_
     refine hq_then ?_
     refine hc_seq ?_
     refine hc_seq ?_
     refine hc_region ?_
     refine hl_v rfl rfl rfl (rv_ev rfl) ?_
     refine hl_less (sx 0 rfl (sx 2 rfl (sx 3 rfl (sx 4 rfl (sx 5 rfl (sx 6 rfl (sx 7 rfl (sx 8 rfl (sx 9 rfl (sx 12 rfl (sx 30 rfl (sx 40 rfl (sub_nil _))))))))))))) (.refl _) ?_
     refine hl_nil ?_
     refine hq_then ?_
     refine hc_block ?_
     refine hc_loop2 (α := Nat) (β := Int) (fun k q => [bigE qs, rowE 3 1 v6 ((stL n).length) ((stL n).map (Value.int .i64)), rowE 3 1 v9 ((valsL n (stL n) (cod z0 len0 0 : Int)).length) ((valsL n (stL n) (cod z0 len0 0 : Int)).map (Value.int .i64)), boxE b5 #[.int .i64 n.ins, n.sv, n.av, n.ov] 28, ntE n]) (fun k q => [(0, .slice a0 len0 cap0), (2, .bool false), (3, .pointer (some ⟨b5, 0, none⟩)), (4, .int .i64 node), (5, v9), (6, v12), (7, .int .i64 (i : Int)), (8, .int .i64 q), (9, .int .i64 (k : Int)), (12, .bool false), (30, .bool true), (40, .bool false)]) (fun k q => k ≤ ((us.getD i crow0).xs).length ∧ q = pkI (fun i2 => (valsL n (stL n) (cod z0 len0 0 : Int)).getD (((us.getD i crow0).xs).getD i2 0).toNat 0) k) (fun k q => ((us.getD i crow0).xs).length - k) 0 0 ⟨by omega, rfl⟩ (sx 0 rfl (sx 2 rfl (sx 3 rfl (sx 4 rfl (sx 5 rfl (sx 6 rfl (sx 7 rfl (sx 8 rfl (sx 9 rfl (sx 12 rfl (sx 30 rfl (sx 40 rfl (sub_nil _))))))))))))) ((.cons_cons _ (.cons_cons _ (.cons_cons _ (.cons_cons _ (.cons_cons _ .slnil)))))) ?_
     intro k q hi17
     obtain ⟨hk, hqe⟩ := hi17
     have hkb := pkI_rng (b := (fun i2 => (valsL n (stL n) (cod z0 len0 0 : Int)).getD (((us.getD i crow0).xs).getD i2 0).toNat 0)) k (fun j hj => hgb j (by omega))
     have hp := pow_small (k := k) (by omega)
     rw [← hqe] at hkb
     refine hc_seq ?_
     refine hc_seq ?_
     refine hc_region ?_
     refine hl_v rfl rfl rfl (rv_ev rfl) ?_
     refine hl_v rfl rfl rfl (rv_ev rfl) ?_
     refine hl_v rfl rfl rfl (rv_ev rfl) ?_
     refine hl_v rfl rfl rfl (rv_index (s := 1) rfl Try.underlying40 (by kernel_rfl) rfl rfl (fun w hm => (hq w (hm.holds _ (mem_at (i := 0) rfl))).row) (by omega) (by first | omega | (simp only [List.length_set]; omega))) ?_
     refine hl_v rfl rfl rfl (rv_loadEl (u := (us.getD i crow0).v) rfl (by kernel_rfl) rfl (fun w hm => (hq w (hm.holds _ (mem_at (i := 0) rfl))).row) (flat_one crowC (fun r => r.v) (fun _ => rfl) us crow0 (show i < _ by first | omega | (simp only [List.length_set]; omega)))) ?_
     refine hl_v rfl rfl rfl (rv_len rfl Try.underlying26 rfl (fun w hm => (hq w (hm.holds _ (mem_at (i := 0) rfl))).at (k := i) (by omega))) ?_
     refine hl_lss rfl rfl rfl rfl rfl rfl (fun h18 => ?_) (fun h18 => ?_)
     ·
      refine hl_less (sx 0 rfl (sx 2 rfl (sx 3 rfl (sx 4 rfl (sx 5 rfl (sx 6 rfl (sx 7 rfl (sx 8 rfl (sx 9 rfl (sx 12 rfl (sx 30 rfl (sx 40 rfl (sx 47 rfl (sub_nil _)))))))))))))) (.refl _) ?_
      refine hl_nil ?_
      refine hq_then ?_
      refine hc_true rfl ?_
      refine hc_skip ?_
      refine hq_then ?_
      refine hc_seq ?_
      refine hc_block ?_
      refine hc_region ?_
      refine hl_v rfl rfl rfl (rv_ev rfl) ?_
      refine hl_v rfl rfl rfl (rv_ev rfl) ?_
      refine hl_v rfl rfl rfl (rv_ev rfl) ?_
      refine hl_v rfl rfl rfl (rv_ev rfl) ?_
      refine hl_v rfl rfl rfl (rv_index (s := 1) rfl Try.underlying40 (by kernel_rfl) rfl rfl (fun w hm => (hq w (hm.holds _ (mem_at (i := 0) rfl))).row) (by omega) (by first | omega | (simp only [List.length_set]; omega))) ?_
      refine hl_v rfl rfl rfl (rv_loadEl (u := (us.getD i crow0).v) rfl (by kernel_rfl) rfl (fun w hm => (hq w (hm.holds _ (mem_at (i := 0) rfl))).row) (flat_one crowC (fun r => r.v) (fun _ => rfl) us crow0 (show i < _ by first | omega | (simp only [List.length_set]; omega)))) ?_
      refine hl_v rfl rfl rfl (rv_ev rfl) ?_
      refine hl_v rfl rfl rfl (rv_index (s := 1) rfl Try.underlying26 (by kernel_rfl) rfl rfl (fun w hm => (hq w (hm.holds _ (mem_at (i := 0) rfl))).at (k := i) (by omega)) (by omega) (by first | omega | (simp only [List.length_set]; omega))) ?_
      refine hl_v rfl rfl rfl (rv_loadEl (u := .int .i64 (((us.getD i crow0).xs).getD k 0)) rfl (by kernel_rfl) rfl (fun w hm => (hq w (hm.holds _ (mem_at (i := 0) rfl))).at (k := i) (by omega)) (ints_at1 (show _ < ((us.getD i crow0).xs).length by first | omega | (simp only [List.length_set]; omega)))) ?_
      have hgk := hgr k (by omega)
      refine hl_callV rfl rfl rfl (rq_call (by kernel_rfl) rfl (fun w hm => ret_ans (by have h9 := lawsGet_ans (valsL n (stL n) (cod z0 len0 0 : Int)) (((us.getD i crow0).xs).getD k 0) _ w ((rd_row 2 rfl) w hm) (by omega); rw [getI_at (by omega) (by omega)] at h9; exact h9))) ?_
      refine hl_v rfl rfl rfl (rv_ev rfl) ?_
      refine hl_v rfl rfl rfl (rv_shlG (k := .i64) (kk := .i64) (r := (valsL n (stL n) (cod z0 len0 0 : Int)).getD (((us.getD i crow0).xs).getD k 0).toNat 0 * 2 ^ k) rfl rfl rfl rfl (by omega) (shl_bitC (hgb k (by omega)) (by omega))) ?_
      refine hl_v rfl rfl rfl (rv_add rfl rfl rfl (by rcases hgb k (by omega) with e9 | e9 <;> rw [e9] <;> constructor <;> omega)) ?_
      refine hl_v rfl rfl rfl (rv_ev rfl) ?_
      refine hl_less (sx 0 rfl (sx 2 rfl (sx 3 rfl (sx 4 rfl (sx 5 rfl (sx 6 rfl (sx 7 rfl (sx 8 rfl (sx 9 rfl (sx 12 rfl (sx 30 rfl (sx 40 rfl (sx 47 rfl (sub_nil _)))))))))))))) (.refl _) ?_
      refine hl_nil ?_
      refine hq_block_normal ?_
      refine hq_then ?_
      refine hc_region ?_
      refine hl_v rfl rfl rfl (rv_ev rfl) ?_
      refine hl_v rfl rfl rfl (rv_add rfl rfl rfl (by constructor <;> omega)) ?_
      refine hl_v rfl rfl rfl (rv_ev rfl) ?_
      refine hl_less (sx 0 rfl (sx 2 rfl (sx 3 rfl (sx 4 rfl (sx 5 rfl (sx 6 rfl (sx 7 rfl (sx 8 rfl (sx 9 rfl (sx 12 rfl (sx 30 rfl (sx 40 rfl (sx 47 rfl (sub_nil _)))))))))))))) (.refl _) ?_
      refine hl_nil ?_
      exact hq_round2 (k + 1) _ ⟨by omega, by rw [hqe]; rfl⟩ (by omega) (sx 0 rfl (sx 2 rfl (sx 3 rfl (sx 4 rfl (sx 5 rfl (sx 6 rfl (sx 7 rfl (sx 8 rfl (sx 9 rfl (sx 12 rfl (sx 30 rfl (sx 40 rfl (sub_nil _))))))))))))) ((.cons_cons _ (.cons_cons _ (.cons_cons _ (.cons_cons _ (.cons_cons _ .slnil))))))
     ·
      refine hl_less (sx 0 rfl (sx 2 rfl (sx 3 rfl (sx 4 rfl (sx 5 rfl (sx 6 rfl (sx 7 rfl (sx 8 rfl (sx 9 rfl (sx 12 rfl (sx 30 rfl (sx 40 rfl (sx 47 rfl (sub_nil _)))))))))))))) (.refl _) ?_
      refine hl_nil ?_
      refine hq_then ?_
      refine hc_false rfl ?_
      refine hc_exit ?_
      refine hq_then_exit ?_
      refine hq_then_exit ?_
      refine hq_block_exit ?_
      refine hq_then ?_
      refine hc_seq ?_
      have hct := cut_table hn hv hvz hic hnd0 hnd1 (q := q) (by rw [hqe, show k = ((us.getD i crow0).xs).length by omega])
      have hvn := hv01 node.toNat (by omega)
      refine hc_draw (by kernel_rfl) 8 [0, 1, 2, 3, 4, 5, 6, 7] (List.take 8 _) (List.drop 8 _) [[], [], [], [], [2, 3], [4], [0, 1, 5], []] [63, 64, 65, 66, 67, 68, 69, 10] (fun i_ vs_ v_ p_ => match i_ with | 0 => v_ = .agg #[.int .i64 n.ins, n.sv, n.av, n.ov] ∧ p_ = [] | 1 => v_ = .int .i64 node ∧ p_ = [] | 2 => v_ = v12 ∧ p_ = [] | 3 => v_ = .int .i64 (i : Int) ∧ p_ = [] | 4 => v_ = elP v12 (((i : Int)).toNat * 1) ∧ p_ = [] | 5 => v_ = (us.getD i crow0).v ∧ p_ = [] | 6 => (fun u_ p_ => u_ = .agg #[.int .i64 (((us.getD i crow0).xs).length : Int), .int .i64 (tbN (fun i7 : Nat => decide (va n ((us.getD i crow0).xs) (i7 : Int) node = 1)) (pn (((us.getD i crow0).xs).length : Int)) : Int)] ∧ p_ = []) v_ p_ | 7 => IsBox #[.int .i64 0, .int .i64 0] 55 v_ p_ | _ => True) (List.take_append_drop 8 _).symm (by kernel_rfl) (by kernel_rfl) rfl rfl ?_ ?_
      ·
       refine ⟨?_, ?_, ?_, ?_, ?_, ?_, ?_, ?_, trivial⟩
       ·
        intro vf pf hR
        refine Or.inl ⟨rfl, ?_⟩
        refine rq_less (sx 3 rfl (sub_nil _)) (List.sublist_append_right _ _) ?_
        exact rq_v (rv_loadN (cs := [.int .i64 n.ins, n.sv, n.av, n.ov]) rfl (by kernel_rfl) (by kernel_rfl) rfl rfl (box_part 3 rfl 0 rfl))
       ·
        intro vf pf hR
        refine Or.inl ⟨rfl, ?_⟩
        refine rq_less (sx 4 rfl (sub_nil _)) (List.sublist_append_right _ _) ?_
        exact rq_v (rv_ev rfl)
       ·
        intro vf pf hR
        refine Or.inl ⟨rfl, ?_⟩
        refine rq_less (sx 6 rfl (sub_nil _)) (List.sublist_append_right _ _) ?_
        exact rq_v (rv_ev rfl)
       ·
        intro vf pf hR
        refine Or.inl ⟨rfl, ?_⟩
        refine rq_less (sx 7 rfl (sub_nil _)) (List.sublist_append_right _ _) ?_
        exact rq_v (rv_ev rfl)
       ·
        intro vf pf hR
        have e2 : (vf 2) = v12 ∧ (pf 2) = [] := hR 2 (by decide)
        have e3 : (vf 3) = .int .i64 (i : Int) ∧ (pf 3) = [] := hR 3 (by decide)
        refine Or.inl ⟨rfl, ?_⟩
        refine rq_less (sx 65 (congrArg some e2.1) (sx 66 (congrArg some e3.1) (sub_nil _))) (List.sublist_append_right _ _) ?_
        exact rq_v (rv_index (s := 1) rfl Try.underlying40 (by kernel_rfl) rfl rfl (fun w hm => (hq w (hm.holds _ (mem_at (i := 0) rfl))).row) (by omega) (by first | omega | (simp only [List.length_set]; omega)))
       ·
        intro vf pf hR
        have e4 : (vf 4) = elP v12 (((i : Int)).toNat * 1) ∧ (pf 4) = [] := hR 4 (by decide)
        refine Or.inl ⟨rfl, ?_⟩
        refine rq_less (sx 67 (congrArg some e4.1) (sub_nil _)) (List.sublist_append_right _ _) ?_
        exact rq_v (rv_loadEl (u := (us.getD i crow0).v) rfl (by kernel_rfl) rfl (fun w hm => (hq w (hm.holds _ (mem_at (i := 0) rfl))).row) (flat_one crowC (fun r => r.v) (fun _ => rfl) us crow0 (show i < _ by first | omega | (simp only [List.length_set]; omega))))
       ·
        intro vf pf hR
        have e0 : (vf 0) = .agg #[.int .i64 n.ins, n.sv, n.av, n.ov] ∧ (pf 0) = [] := hR 0 (by decide)
        have e1 : (vf 1) = .int .i64 node ∧ (pf 1) = [] := hR 1 (by decide)
        have e5 : (vf 5) = (us.getD i crow0).v ∧ (pf 5) = [] := hR 5 (by decide)
        refine Or.inl ⟨rfl, ?_⟩
        refine rq_less (sx 63 (congrArg some e0.1) (sx 64 (congrArg some e1.1) (sx 68 (congrArg some e5.1) (sub_nil _)))) (List.sublist_append_right _ _) ?_
        exact rq_call (by kernel_rfl) rfl (fun w hm => CutTable_ret n node (us.getD i crow0).xs _ w (nt_rds 4 rfl w hm) hn ((hq w (hm.holds _ (mem_at (i := 0) rfl))).at (k := i) (by omega)) hic ⟨hnd0, hnd1⟩)
       ·
        intro vf pf hR
        refine Or.inl ⟨rfl, ?_⟩
        refine rq_less (sub_nil _) (List.sublist_append_right _ _) ?_
        exact rq_alloc (z := .agg #[.int .i64 0, .int .i64 0]) rfl (by kernel_rfl)
      ·
       intro vf pf hR
       have e6 : (fun u_ p_ => u_ = .agg #[.int .i64 (((us.getD i crow0).xs).length : Int), .int .i64 (tbN (fun i7 : Nat => decide (va n ((us.getD i crow0).xs) (i7 : Int) node = 1)) (pn (((us.getD i crow0).xs).length : Int)) : Int)] ∧ p_ = []) (vf 6) (pf 6) := hR 6 (by decide)
       obtain ⟨v19, vE6⟩ : ∃ x, vf 6 = x := ⟨_, rfl⟩
       obtain ⟨p20, pE6⟩ : ∃ x, pf 6 = x := ⟨_, rfl⟩
       have hR21 := e6
       rw [vE6, pE6] at hR21
       obtain ⟨rfl, rfl⟩ := hR21
       have e7 : IsBox #[.int .i64 0, .int .i64 0] 55 (vf 7) (pf 7) := hR 7 (by decide)
       obtain ⟨b22, vE7, pE7⟩ := e7
       have q0 : (vf 0) = .agg #[.int .i64 n.ins, n.sv, n.av, n.ov] ∧ (pf 0) = [] := hR 0 (by decide)
       have q1 : (vf 1) = .int .i64 node ∧ (pf 1) = [] := hR 1 (by decide)
       have q2 : (vf 2) = v12 ∧ (pf 2) = [] := hR 2 (by decide)
       have q3 : (vf 3) = .int .i64 (i : Int) ∧ (pf 3) = [] := hR 3 (by decide)
       have q4 : (vf 4) = elP v12 (((i : Int)).toNat * 1) ∧ (pf 4) = [] := hR 4 (by decide)
       have q5 : (vf 5) = (us.getD i crow0).v ∧ (pf 5) = [] := hR 5 (by decide)
       refine hl_less (l' := [boxE b22 #[.int .i64 0, .int .i64 0] 55, bigE qs, rowE 3 1 v6 ((stL n).length) ((stL n).map (Value.int .i64)), rowE 3 1 v9 ((valsL n (stL n) (cod z0 len0 0 : Int)).length) ((valsL n (stL n) (cod z0 len0 0 : Int)).map (Value.int .i64)), boxE b5 #[.int .i64 n.ins, n.sv, n.av, n.ov] 28, ntE n]) (sx 0 rfl (sx 2 rfl (sx 3 rfl (sx 4 rfl (sx 5 rfl (sx 6 rfl (sx 7 rfl (sx 8 rfl (sx 9 rfl (sx 10 (congrArg some vE7) (sx 12 rfl (sx 30 rfl (sx 40 rfl (sx 47 rfl (sx 69 (congrArg some vE6) (sub_nil _)))))))))))))))) (by first | (simp only [pE6, vE6, pE7, vE7, q0.2, q1.2, q2.2, q3.2, q4.2, q5.2, List.flatMap_cons, List.flatMap_nil, List.append_nil, List.nil_append, List.cons_append]; exact List.Sublist.refl _) | simp [pE6, vE6, pE7, vE7, q0.2, q1.2, q2.2, q3.2, q4.2, q5.2]) ?_
       simp only [List.drop_succ_cons, List.drop_zero]
       refine hl_storeBoxN (i := 0) (off := 0) (us := [.int .i64 (((us.getD i crow0).xs).length : Int), .int .i64 (tbN (fun i7 : Nat => decide (va n ((us.getD i crow0).xs) (i7 : Int) node = 1)) (pn (((us.getD i crow0).xs).length : Int)) : Int)])  (l' := [boxE b22 #[.int .i64 (((us.getD i crow0).xs).length : Int), .int .i64 (tbN (fun i7 : Nat => decide (va n ((us.getD i crow0).xs) (i7 : Int) node = 1)) (pn (((us.getD i crow0).xs).length : Int)) : Int)] 55, bigE qs, rowE 3 1 v6 ((stL n).length) ((stL n).map (Value.int .i64)), rowE 3 1 v9 ((valsL n (stL n) (cod z0 len0 0 : Int)).length) ((valsL n (stL n) (cod z0 len0 0 : Int)).map (Value.int .i64)), boxE b5 #[.int .i64 n.ins, n.sv, n.av, n.ov] 28, ntE n]) rfl rfl rfl (by kernel_rfl) rfl rfl rfl (all_cons rfl (all_cons rfl all_nil)) rfl rfl rfl ?_
       refine hl_less (sx 0 rfl (sx 2 rfl (sx 3 rfl (sx 4 rfl (sx 5 rfl (sx 6 rfl (sx 7 rfl (sx 8 rfl (sx 9 rfl (sx 10 rfl (sx 12 rfl (sx 30 rfl (sx 40 rfl (sx 47 rfl (sub_nil _))))))))))))))) (.refl _) ?_
       refine hl_nil ?_
       refine hq_then ?_
       refine hc_seq ?_
       rcases Bool.eq_false_or_eq_true ((((us.getD i crow0).xs).length : Int) != (((us.getD i crow0).xs).length : Int)) with hb23 | hb23
       ·
        have hb23p : (((us.getD i crow0).xs).length : Int) ≠ (((us.getD i crow0).xs).length : Int) := bne_iff_ne.1 hb23
        refine hc_draw (by kernel_rfl) 19 [0, 1, 2, 3, 4, 5, 6, 7, 8, 9, 10, 11, 12, 13, 14, 15, 16, 17, 18] (List.take 19 _) (List.drop 19 _) [[], [0], [], [], [2, 3], [4], [5], [1, 6], [7], [8], [8], [8], [8], [8], [8], [8], [8], [8], [8, 17]] [70, 71, 72, 73, 74, 75, 76, 77, 78, 79, 80, 81, 82, 83, 84, 85, 86, 87, 88] (fun i_ vs_ v_ p_ => match i_ with | 0 => v_ = .pointer (some ⟨b22, 0 + 0, none⟩) ∧ p_ = [] | 1 => v_ = .int .i64 (((us.getD i crow0).xs).length : Int) ∧ p_ = [] | 2 => v_ = v12 ∧ p_ = [] | 3 => v_ = .int .i64 (i : Int) ∧ p_ = [] | 4 => v_ = elP v12 (((i : Int)).toNat * 1) ∧ p_ = [] | 5 => v_ = (us.getD i crow0).v ∧ p_ = [] | 6 => v_ = .int .i64 (((us.getD i crow0).xs).length : Int) ∧ p_ = [] | 7 => v_ = .bool true ∧ p_ = [] | 8 => v_ = .bool true ∧ p_ = [] | 9 => v_ = undef ∧ p_ = [] | 10 => v_ = undef ∧ p_ = [] | 11 => v_ = undef ∧ p_ = [] | 12 => v_ = undef ∧ p_ = [] | 13 => v_ = undef ∧ p_ = [] | 14 => v_ = undef ∧ p_ = [] | 15 => v_ = undef ∧ p_ = [] | 16 => v_ = undef ∧ p_ = [] | 17 => v_ = undef ∧ p_ = [] | 18 => v_ = .bool true ∧ p_ = [] | _ => True) (List.take_append_drop 19 _).symm (by kernel_rfl) (by kernel_rfl) rfl rfl ?_ ?_
        ·
         refine ⟨?_, ?_, ?_, ?_, ?_, ?_, ?_, ?_, ?_, ?_, ?_, ?_, ?_, ?_, ?_, ?_, ?_, ?_, ?_, trivial⟩
         ·
          intro vf pf hR
          refine Or.inl ⟨rfl, ?_⟩
          refine rq_less (sx 10 rfl (sub_nil _)) (List.sublist_append_right _ _) ?_
          exact rq_v (rv_field (k0 := 0) rfl (by kernel_rfl) rfl)
         ·
          intro vf pf hR
          have e0 : (vf 0) = .pointer (some ⟨b22, 0 + 0, none⟩) ∧ (pf 0) = [] := hR 0 (by decide)
          refine Or.inl ⟨rfl, ?_⟩
          refine rq_less (sx 70 (congrArg some e0.1) (sub_nil _)) (List.sublist_append_right _ _) ?_
          exact rq_v (rv_load rfl (by kernel_rfl) rfl (box_cell 0 rfl rfl))
         ·
          intro vf pf hR
          refine Or.inl ⟨rfl, ?_⟩
          refine rq_less (sx 6 rfl (sub_nil _)) (List.sublist_append_right _ _) ?_
          exact rq_v (rv_ev rfl)
         ·
          intro vf pf hR
          refine Or.inl ⟨rfl, ?_⟩
          refine rq_less (sx 7 rfl (sub_nil _)) (List.sublist_append_right _ _) ?_
          exact rq_v (rv_ev rfl)
         ·
          intro vf pf hR
          have e2 : (vf 2) = v12 ∧ (pf 2) = [] := hR 2 (by decide)
          have e3 : (vf 3) = .int .i64 (i : Int) ∧ (pf 3) = [] := hR 3 (by decide)
          refine Or.inl ⟨rfl, ?_⟩
          refine rq_less (sx 72 (congrArg some e2.1) (sx 73 (congrArg some e3.1) (sub_nil _))) (List.sublist_append_right _ _) ?_
          exact rq_v (rv_index (s := 1) rfl Try.underlying40 (by kernel_rfl) rfl rfl (fun w hm => (hq w (hm.holds _ (mem_at (i := 1) rfl))).row) (by omega) (by first | omega | (simp only [List.length_set]; omega)))
         ·
          intro vf pf hR
          have e4 : (vf 4) = elP v12 (((i : Int)).toNat * 1) ∧ (pf 4) = [] := hR 4 (by decide)
          refine Or.inl ⟨rfl, ?_⟩
          refine rq_less (sx 74 (congrArg some e4.1) (sub_nil _)) (List.sublist_append_right _ _) ?_
          exact rq_v (rv_loadEl (u := (us.getD i crow0).v) rfl (by kernel_rfl) rfl (fun w hm => (hq w (hm.holds _ (mem_at (i := 1) rfl))).row) (flat_one crowC (fun r => r.v) (fun _ => rfl) us crow0 (show i < _ by first | omega | (simp only [List.length_set]; omega))))
         ·
          intro vf pf hR
          have e5 : (vf 5) = (us.getD i crow0).v ∧ (pf 5) = [] := hR 5 (by decide)
          refine Or.inl ⟨rfl, ?_⟩
          refine rq_less (sx 75 (congrArg some e5.1) (sub_nil _)) (List.sublist_append_right _ _) ?_
          exact rq_v (rv_len rfl Try.underlying26 rfl (fun w hm => (hq w (hm.holds _ (mem_at (i := 1) rfl))).at (k := i) (by omega)))
         ·
          intro vf pf hR
          have e1 : (vf 1) = .int .i64 (((us.getD i crow0).xs).length : Int) ∧ (pf 1) = [] := hR 1 (by decide)
          have e6 : (vf 6) = .int .i64 (((us.getD i crow0).xs).length : Int) ∧ (pf 6) = [] := hR 6 (by decide)
          refine Or.inl ⟨rfl, ?_⟩
          refine rq_less (sx 71 (congrArg some e1.1) (sx 76 (congrArg some e6.1) (sub_nil _))) (List.sublist_append_right _ _) ?_
          exact rq_mono (rq_v (rv_cmp rfl rfl rfl rfl)) (fun _ _ h => ⟨h.1.trans (congrArg Value.bool hb23), h.2⟩)
         ·
          intro vf pf hR
          have e7 : (vf 7) = .bool true ∧ (pf 7) = [] := hR 7 (by decide)
          refine Or.inl ⟨rfl, ?_⟩
          refine rq_less (sx 77 (congrArg some e7.1) (sub_nil _)) (List.sublist_append_right _ _) ?_
          exact rq_v (rv_ev rfl)
         ·
          intro vf pf hR
          have e8 : (vf 8) = .bool true ∧ (pf 8) = [] := hR 8 (by decide)
          exact Or.inr ⟨want_of (congrArg some e8.1) rfl, rfl, rfl⟩
         ·
          intro vf pf hR
          have e8 : (vf 8) = .bool true ∧ (pf 8) = [] := hR 8 (by decide)
          exact Or.inr ⟨want_of (congrArg some e8.1) rfl, rfl, rfl⟩
         ·
          intro vf pf hR
          have e8 : (vf 8) = .bool true ∧ (pf 8) = [] := hR 8 (by decide)
          exact Or.inr ⟨want_of (congrArg some e8.1) rfl, rfl, rfl⟩
         ·
          intro vf pf hR
          have e8 : (vf 8) = .bool true ∧ (pf 8) = [] := hR 8 (by decide)
          exact Or.inr ⟨want_of (congrArg some e8.1) rfl, rfl, rfl⟩
         ·
          intro vf pf hR
          have e8 : (vf 8) = .bool true ∧ (pf 8) = [] := hR 8 (by decide)
          exact Or.inr ⟨want_of (congrArg some e8.1) rfl, rfl, rfl⟩
         ·
          intro vf pf hR
          have e8 : (vf 8) = .bool true ∧ (pf 8) = [] := hR 8 (by decide)
          exact Or.inr ⟨want_of (congrArg some e8.1) rfl, rfl, rfl⟩
         ·
          intro vf pf hR
          have e8 : (vf 8) = .bool true ∧ (pf 8) = [] := hR 8 (by decide)
          exact Or.inr ⟨want_of (congrArg some e8.1) rfl, rfl, rfl⟩
         ·
          intro vf pf hR
          have e8 : (vf 8) = .bool true ∧ (pf 8) = [] := hR 8 (by decide)
          exact Or.inr ⟨want_of (congrArg some e8.1) rfl, rfl, rfl⟩
         ·
          intro vf pf hR
          have e8 : (vf 8) = .bool true ∧ (pf 8) = [] := hR 8 (by decide)
          exact Or.inr ⟨want_of (congrArg some e8.1) rfl, rfl, rfl⟩
         ·
          intro vf pf hR
          have e8 : (vf 8) = .bool true ∧ (pf 8) = [] := hR 8 (by decide)
          have e17 : (vf 17) = undef ∧ (pf 17) = [] := hR 17 (by decide)
          refine Or.inl ⟨rfl, ?_⟩
          refine rq_less (sx 78 (congrArg some e8.1) (sx 87 (congrArg some e17.1) (sub_nil _))) (List.sublist_append_right _ _) ?_
          exact rq_v (rv_ev rfl)
        ·
         intro vf pf hR
         have e18 : (vf 18) = .bool true ∧ (pf 18) = [] := hR 18 (by decide)
         refine hl_less (l' := [boxE b22 #[.int .i64 (((us.getD i crow0).xs).length : Int), .int .i64 (tbN (fun i7 : Nat => decide (va n ((us.getD i crow0).xs) (i7 : Int) node = 1)) (pn (((us.getD i crow0).xs).length : Int)) : Int)] 55, bigE qs, rowE 3 1 v6 ((stL n).length) ((stL n).map (Value.int .i64)), rowE 3 1 v9 ((valsL n (stL n) (cod z0 len0 0 : Int)).length) ((valsL n (stL n) (cod z0 len0 0 : Int)).map (Value.int .i64)), boxE b5 #[.int .i64 n.ins, n.sv, n.av, n.ov] 28, ntE n]) (sx 0 rfl (sx 2 rfl (sx 3 rfl (sx 4 rfl (sx 5 rfl (sx 6 rfl (sx 7 rfl (sx 8 rfl (sx 9 rfl (sx 10 rfl (sx 12 rfl (sx 30 rfl (sx 40 rfl (sx 47 rfl (sx 88 (congrArg some e18.1) (sub_nil _)))))))))))))))) (List.sublist_append_right _ _) ?_
         simp only [List.drop_succ_cons, List.drop_zero]
         refine hl_less (sx 0 rfl (sx 2 rfl (sx 3 rfl (sx 4 rfl (sx 5 rfl (sx 6 rfl (sx 7 rfl (sx 8 rfl (sx 9 rfl (sx 10 rfl (sx 12 rfl (sx 30 rfl (sx 40 rfl (sx 47 rfl (sx 88 rfl (sub_nil _)))))))))))))))) (.refl _) ?_
         refine hl_nil ?_
         refine hq_then ?_
         refine hc_true rfl ?_
         refine hc_seq ?_
         refine hc_region ?_
         refine hl_v rfl rfl rfl (rv_ev rfl) ?_
         refine hl_less (sx 0 rfl (sx 2 rfl (sx 3 rfl (sx 4 rfl (sx 5 rfl (sx 6 rfl (sx 7 rfl (sx 8 rfl (sx 9 rfl (sx 10 rfl (sx 12 rfl (sx 30 rfl (sx 40 rfl (sx 47 rfl (sx 88 rfl (sub_nil _)))))))))))))))) (.refl _) ?_
         refine hl_nil ?_
         refine hq_then ?_
         refine hc_ret ?_
         refine hq_block_ret ?_
         refine hq_then_ret ?_
         refine hq_then_ret ?_
         refine hq_block_ret ?_
         refine hq_then_ret ?_
         exfalso
         omega
       ·
        have hb23p : (((us.getD i crow0).xs).length : Int) = (((us.getD i crow0).xs).length : Int) := (bne_eq_false_iff_eq.1 hb23)
        rcases Bool.eq_false_or_eq_true (decide ((valsL n (stL n) (cod z0 len0 0 : Int)).getD node.toNat 0 = 1)) with hb24 | hb24
        ·
         have hb24p := of_decide_eq_true hb24
         rcases Bool.eq_false_or_eq_true (1 != ((valsL n (stL n) (cod z0 len0 0 : Int)).getD ((node).toNat) 0)) with hb25 | hb25
         ·
          have hb25p : 1 ≠ (valsL n (stL n) (cod z0 len0 0 : Int)).getD ((node).toNat) 0 := bne_iff_ne.1 hb25
          refine hc_draw (by kernel_rfl) 19 [0, 1, 2, 3, 4, 5, 6, 7, 8, 9, 10, 11, 12, 13, 14, 15, 16, 17, 18] (List.take 19 _) (List.drop 19 _) [[], [0], [], [], [2, 3], [4], [5], [1, 6], [7], [8], [8], [8, 9, 10], [8, 11], [8], [8], [8, 13, 14], [8, 15], [8, 12, 16], [8, 17]] [70, 71, 72, 73, 74, 75, 76, 77, 78, 79, 80, 81, 82, 83, 84, 85, 86, 87, 88] (fun i_ vs_ v_ p_ => match i_ with | 0 => v_ = .pointer (some ⟨b22, 0 + 0, none⟩) ∧ p_ = [] | 1 => v_ = .int .i64 (((us.getD i crow0).xs).length : Int) ∧ p_ = [] | 2 => v_ = v12 ∧ p_ = [] | 3 => v_ = .int .i64 (i : Int) ∧ p_ = [] | 4 => v_ = elP v12 (((i : Int)).toNat * 1) ∧ p_ = [] | 5 => v_ = (us.getD i crow0).v ∧ p_ = [] | 6 => v_ = .int .i64 (((us.getD i crow0).xs).length : Int) ∧ p_ = [] | 7 => v_ = .bool false ∧ p_ = [] | 8 => v_ = .bool false ∧ p_ = [] | 9 => v_ = .agg #[.int .i64 (((us.getD i crow0).xs).length : Int), .int .i64 (tbN (fun i7 : Nat => decide (va n ((us.getD i crow0).xs) (i7 : Int) node = 1)) (pn (((us.getD i crow0).xs).length : Int)) : Int)] ∧ p_ = [] | 10 => v_ = .int .i64 q ∧ p_ = [] | 11 => v_ = .bool true ∧ p_ = [] | 12 => v_ = .int .i64 1 ∧ p_ = [] | 13 => v_ = v9 ∧ p_ = [] | 14 => v_ = .int .i64 node ∧ p_ = [] | 15 => v_ = elP v9 ((node).toNat * 1) ∧ p_ = [] | 16 => v_ = .int .i64 ((valsL n (stL n) (cod z0 len0 0 : Int)).getD ((node).toNat) 0) ∧ p_ = [] | 17 => v_ = .bool true ∧ p_ = [] | 18 => v_ = .bool true ∧ p_ = [] | _ => True) (List.take_append_drop 19 _).symm (by kernel_rfl) (by kernel_rfl) rfl rfl ?_ ?_
          ·
           refine ⟨?_, ?_, ?_, ?_, ?_, ?_, ?_, ?_, ?_, ?_, ?_, ?_, ?_, ?_, ?_, ?_, ?_, ?_, ?_, trivial⟩
           ·
            intro vf pf hR
            refine Or.inl ⟨rfl, ?_⟩
            refine rq_less (sx 10 rfl (sub_nil _)) (List.sublist_append_right _ _) ?_
            exact rq_v (rv_field (k0 := 0) rfl (by kernel_rfl) rfl)
           ·
            intro vf pf hR
            have e0 : (vf 0) = .pointer (some ⟨b22, 0 + 0, none⟩) ∧ (pf 0) = [] := hR 0 (by decide)
            refine Or.inl ⟨rfl, ?_⟩
            refine rq_less (sx 70 (congrArg some e0.1) (sub_nil _)) (List.sublist_append_right _ _) ?_
            exact rq_v (rv_load rfl (by kernel_rfl) rfl (box_cell 0 rfl rfl))
           ·
            intro vf pf hR
            refine Or.inl ⟨rfl, ?_⟩
            refine rq_less (sx 6 rfl (sub_nil _)) (List.sublist_append_right _ _) ?_
            exact rq_v (rv_ev rfl)
           ·
            intro vf pf hR
            refine Or.inl ⟨rfl, ?_⟩
            refine rq_less (sx 7 rfl (sub_nil _)) (List.sublist_append_right _ _) ?_
            exact rq_v (rv_ev rfl)
           ·
            intro vf pf hR
            have e2 : (vf 2) = v12 ∧ (pf 2) = [] := hR 2 (by decide)
            have e3 : (vf 3) = .int .i64 (i : Int) ∧ (pf 3) = [] := hR 3 (by decide)
            refine Or.inl ⟨rfl, ?_⟩
            refine rq_less (sx 72 (congrArg some e2.1) (sx 73 (congrArg some e3.1) (sub_nil _))) (List.sublist_append_right _ _) ?_
            exact rq_v (rv_index (s := 1) rfl Try.underlying40 (by kernel_rfl) rfl rfl (fun w hm => (hq w (hm.holds _ (mem_at (i := 1) rfl))).row) (by omega) (by first | omega | (simp only [List.length_set]; omega)))
           ·
            intro vf pf hR
            have e4 : (vf 4) = elP v12 (((i : Int)).toNat * 1) ∧ (pf 4) = [] := hR 4 (by decide)
            refine Or.inl ⟨rfl, ?_⟩
            refine rq_less (sx 74 (congrArg some e4.1) (sub_nil _)) (List.sublist_append_right _ _) ?_
            exact rq_v (rv_loadEl (u := (us.getD i crow0).v) rfl (by kernel_rfl) rfl (fun w hm => (hq w (hm.holds _ (mem_at (i := 1) rfl))).row) (flat_one crowC (fun r => r.v) (fun _ => rfl) us crow0 (show i < _ by first | omega | (simp only [List.length_set]; omega))))
           ·
            intro vf pf hR
            have e5 : (vf 5) = (us.getD i crow0).v ∧ (pf 5) = [] := hR 5 (by decide)
            refine Or.inl ⟨rfl, ?_⟩
            refine rq_less (sx 75 (congrArg some e5.1) (sub_nil _)) (List.sublist_append_right _ _) ?_
            exact rq_v (rv_len rfl Try.underlying26 rfl (fun w hm => (hq w (hm.holds _ (mem_at (i := 1) rfl))).at (k := i) (by omega)))
           ·
            intro vf pf hR
            have e1 : (vf 1) = .int .i64 (((us.getD i crow0).xs).length : Int) ∧ (pf 1) = [] := hR 1 (by decide)
            have e6 : (vf 6) = .int .i64 (((us.getD i crow0).xs).length : Int) ∧ (pf 6) = [] := hR 6 (by decide)
            refine Or.inl ⟨rfl, ?_⟩
            refine rq_less (sx 71 (congrArg some e1.1) (sx 76 (congrArg some e6.1) (sub_nil _))) (List.sublist_append_right _ _) ?_
            exact rq_mono (rq_v (rv_cmp rfl rfl rfl rfl)) (fun _ _ h => ⟨h.1.trans (congrArg Value.bool hb23), h.2⟩)
           ·
            intro vf pf hR
            have e7 : (vf 7) = .bool false ∧ (pf 7) = [] := hR 7 (by decide)
            refine Or.inl ⟨rfl, ?_⟩
            refine rq_less (sx 77 (congrArg some e7.1) (sub_nil _)) (List.sublist_append_right _ _) ?_
            exact rq_v (rv_ev rfl)
           ·
            intro vf pf hR
            have e8 : (vf 8) = .bool false ∧ (pf 8) = [] := hR 8 (by decide)
            refine Or.inl ⟨want_of (congrArg some e8.1) rfl, ?_⟩
            refine rq_less (sx 10 rfl (sub_nil _)) (List.sublist_append_right _ _) ?_
            exact rq_v (rv_loadN (cs := [.int .i64 (((us.getD i crow0).xs).length : Int), .int .i64 (tbN (fun i7 : Nat => decide (va n ((us.getD i crow0).xs) (i7 : Int) node = 1)) (pn (((us.getD i crow0).xs).length : Int)) : Int)]) rfl (by kernel_rfl) (by kernel_rfl) rfl rfl (box_part 0 rfl 0 rfl))
           ·
            intro vf pf hR
            have e8 : (vf 8) = .bool false ∧ (pf 8) = [] := hR 8 (by decide)
            refine Or.inl ⟨want_of (congrArg some e8.1) rfl, ?_⟩
            refine rq_less (sx 8 rfl (sub_nil _)) (List.sublist_append_right _ _) ?_
            exact rq_v (rv_ev rfl)
           ·
            intro vf pf hR
            have e8 : (vf 8) = .bool false ∧ (pf 8) = [] := hR 8 (by decide)
            have e9 : (vf 9) = .agg #[.int .i64 (((us.getD i crow0).xs).length : Int), .int .i64 (tbN (fun i7 : Nat => decide (va n ((us.getD i crow0).xs) (i7 : Int) node = 1)) (pn (((us.getD i crow0).xs).length : Int)) : Int)] ∧ (pf 9) = [] := hR 9 (by decide)
            have e10 : (vf 10) = .int .i64 q ∧ (pf 10) = [] := hR 10 (by decide)
            refine Or.inl ⟨want_of (congrArg some e8.1) rfl, ?_⟩
            refine rq_less (sx 79 (congrArg some e9.1) (sx 80 (congrArg some e10.1) (sub_nil _))) (List.sublist_append_right _ _) ?_
            exact rq_mono (rq_call (by kernel_rfl) rfl (fun w hm => ret_ans (by have h9 := implTableEval_ans (Tab.mk (((us.getD i crow0).xs).length : Int) (tbN (fun i7 : Nat => decide (va n ((us.getD i crow0).xs) (i7 : Int) node = 1)) (pn (((us.getD i crow0).xs).length : Int)) : Int)) q.toNat w (tabC_ok (by omega) _) hct.2.1; rw [Int.toNat_of_nonneg hct.1, hct.2.2] at h9; exact h9))) (fun _ _ h => ⟨h.1.trans (congrArg Value.bool hb24), h.2⟩)
           ·
            intro vf pf hR
            have e8 : (vf 8) = .bool false ∧ (pf 8) = [] := hR 8 (by decide)
            have e11 : (vf 11) = .bool true ∧ (pf 11) = [] := hR 11 (by decide)
            refine Or.inl ⟨want_of (congrArg some e8.1) rfl, ?_⟩
            refine rq_less (sx 81 (congrArg some e11.1) (sub_nil _)) (List.sublist_append_right _ _) ?_
            exact (rq_call (by kernel_rfl) rfl (fun w hm => ret_ans (btoi_t w)))
           ·
            intro vf pf hR
            have e8 : (vf 8) = .bool false ∧ (pf 8) = [] := hR 8 (by decide)
            refine Or.inl ⟨want_of (congrArg some e8.1) rfl, ?_⟩
            refine rq_less (sx 5 rfl (sub_nil _)) (List.sublist_append_right _ _) ?_
            exact rq_v (rv_ev rfl)
           ·
            intro vf pf hR
            have e8 : (vf 8) = .bool false ∧ (pf 8) = [] := hR 8 (by decide)
            refine Or.inl ⟨want_of (congrArg some e8.1) rfl, ?_⟩
            refine rq_less (sx 4 rfl (sub_nil _)) (List.sublist_append_right _ _) ?_
            exact rq_v (rv_ev rfl)
           ·
            intro vf pf hR
            have e8 : (vf 8) = .bool false ∧ (pf 8) = [] := hR 8 (by decide)
            have e13 : (vf 13) = v9 ∧ (pf 13) = [] := hR 13 (by decide)
            have e14 : (vf 14) = .int .i64 node ∧ (pf 14) = [] := hR 14 (by decide)
            refine Or.inl ⟨want_of (congrArg some e8.1) rfl, ?_⟩
            refine rq_less (sx 83 (congrArg some e13.1) (sx 84 (congrArg some e14.1) (sub_nil _))) (List.sublist_append_right _ _) ?_
            exact rq_v (rv_index (s := 1) rfl Try.underlying26 (by kernel_rfl) rfl rfl (rd_row 3 rfl) (by omega) (by first | omega | (simp only [List.length_set]; omega)))
           ·
            intro vf pf hR
            have e8 : (vf 8) = .bool false ∧ (pf 8) = [] := hR 8 (by decide)
            have e15 : (vf 15) = elP v9 ((node).toNat * 1) ∧ (pf 15) = [] := hR 15 (by decide)
            refine Or.inl ⟨want_of (congrArg some e8.1) rfl, ?_⟩
            refine rq_less (sx 85 (congrArg some e15.1) (sub_nil _)) (List.sublist_append_right _ _) ?_
            exact rq_v (rv_loadEl (u := .int .i64 ((valsL n (stL n) (cod z0 len0 0 : Int)).getD ((node).toNat) 0)) rfl (by kernel_rfl) rfl (rd_row 3 rfl) (ints_at1 (show _ < (valsL n (stL n) (cod z0 len0 0 : Int)).length by first | omega | (simp only [List.length_set]; omega))))
           ·
            intro vf pf hR
            have e8 : (vf 8) = .bool false ∧ (pf 8) = [] := hR 8 (by decide)
            have e12 : (vf 12) = .int .i64 1 ∧ (pf 12) = [] := hR 12 (by decide)
            have e16 : (vf 16) = .int .i64 ((valsL n (stL n) (cod z0 len0 0 : Int)).getD ((node).toNat) 0) ∧ (pf 16) = [] := hR 16 (by decide)
            refine Or.inl ⟨want_of (congrArg some e8.1) rfl, ?_⟩
            refine rq_less (sx 82 (congrArg some e12.1) (sx 86 (congrArg some e16.1) (sub_nil _))) (List.sublist_append_right _ _) ?_
            exact rq_mono (rq_v (rv_cmp rfl rfl rfl rfl)) (fun _ _ h => ⟨h.1.trans (congrArg Value.bool hb25), h.2⟩)
           ·
            intro vf pf hR
            have e8 : (vf 8) = .bool false ∧ (pf 8) = [] := hR 8 (by decide)
            have e17 : (vf 17) = .bool true ∧ (pf 17) = [] := hR 17 (by decide)
            refine Or.inl ⟨rfl, ?_⟩
            refine rq_less (sx 78 (congrArg some e8.1) (sx 87 (congrArg some e17.1) (sub_nil _))) (List.sublist_append_right _ _) ?_
            exact rq_v (rv_ev rfl)
          ·
           intro vf pf hR
           have e18 : (vf 18) = .bool true ∧ (pf 18) = [] := hR 18 (by decide)
           refine hl_less (l' := [boxE b22 #[.int .i64 (((us.getD i crow0).xs).length : Int), .int .i64 (tbN (fun i7 : Nat => decide (va n ((us.getD i crow0).xs) (i7 : Int) node = 1)) (pn (((us.getD i crow0).xs).length : Int)) : Int)] 55, bigE qs, rowE 3 1 v6 ((stL n).length) ((stL n).map (Value.int .i64)), rowE 3 1 v9 ((valsL n (stL n) (cod z0 len0 0 : Int)).length) ((valsL n (stL n) (cod z0 len0 0 : Int)).map (Value.int .i64)), boxE b5 #[.int .i64 n.ins, n.sv, n.av, n.ov] 28, ntE n]) (sx 0 rfl (sx 2 rfl (sx 3 rfl (sx 4 rfl (sx 5 rfl (sx 6 rfl (sx 7 rfl (sx 8 rfl (sx 9 rfl (sx 10 rfl (sx 12 rfl (sx 30 rfl (sx 40 rfl (sx 47 rfl (sx 88 (congrArg some e18.1) (sub_nil _)))))))))))))))) (List.sublist_append_right _ _) ?_
           simp only [List.drop_succ_cons, List.drop_zero]
           refine hl_less (sx 0 rfl (sx 2 rfl (sx 3 rfl (sx 4 rfl (sx 5 rfl (sx 6 rfl (sx 7 rfl (sx 8 rfl (sx 9 rfl (sx 10 rfl (sx 12 rfl (sx 30 rfl (sx 40 rfl (sx 47 rfl (sx 88 rfl (sub_nil _)))))))))))))))) (.refl _) ?_
           refine hl_nil ?_
           refine hq_then ?_
           refine hc_true rfl ?_
           refine hc_seq ?_
           refine hc_region ?_
           refine hl_v rfl rfl rfl (rv_ev rfl) ?_
           refine hl_less (sx 0 rfl (sx 2 rfl (sx 3 rfl (sx 4 rfl (sx 5 rfl (sx 6 rfl (sx 7 rfl (sx 8 rfl (sx 9 rfl (sx 10 rfl (sx 12 rfl (sx 30 rfl (sx 40 rfl (sx 47 rfl (sx 88 rfl (sub_nil _)))))))))))))))) (.refl _) ?_
           refine hl_nil ?_
           refine hq_then ?_
           refine hc_ret ?_
           refine hq_block_ret ?_
           refine hq_then_ret ?_
           refine hq_then_ret ?_
           refine hq_block_ret ?_
           refine hq_then_ret ?_
           exfalso
           omega
         ·
          have hb25p : 1 = (valsL n (stL n) (cod z0 len0 0 : Int)).getD ((node).toNat) 0 := (bne_eq_false_iff_eq.1 hb25)
          refine hc_draw (by kernel_rfl) 19 [0, 1, 2, 3, 4, 5, 6, 7, 8, 9, 10, 11, 12, 13, 14, 15, 16, 17, 18] (List.take 19 _) (List.drop 19 _) [[], [0], [], [], [2, 3], [4], [5], [1, 6], [7], [8], [8], [8, 9, 10], [8, 11], [8], [8], [8, 13, 14], [8, 15], [8, 12, 16], [8, 17]] [70, 71, 72, 73, 74, 75, 76, 77, 78, 79, 80, 81, 82, 83, 84, 85, 86, 87, 88] (fun i_ vs_ v_ p_ => match i_ with | 0 => v_ = .pointer (some ⟨b22, 0 + 0, none⟩) ∧ p_ = [] | 1 => v_ = .int .i64 (((us.getD i crow0).xs).length : Int) ∧ p_ = [] | 2 => v_ = v12 ∧ p_ = [] | 3 => v_ = .int .i64 (i : Int) ∧ p_ = [] | 4 => v_ = elP v12 (((i : Int)).toNat * 1) ∧ p_ = [] | 5 => v_ = (us.getD i crow0).v ∧ p_ = [] | 6 => v_ = .int .i64 (((us.getD i crow0).xs).length : Int) ∧ p_ = [] | 7 => v_ = .bool false ∧ p_ = [] | 8 => v_ = .bool false ∧ p_ = [] | 9 => v_ = .agg #[.int .i64 (((us.getD i crow0).xs).length : Int), .int .i64 (tbN (fun i7 : Nat => decide (va n ((us.getD i crow0).xs) (i7 : Int) node = 1)) (pn (((us.getD i crow0).xs).length : Int)) : Int)] ∧ p_ = [] | 10 => v_ = .int .i64 q ∧ p_ = [] | 11 => v_ = .bool true ∧ p_ = [] | 12 => v_ = .int .i64 1 ∧ p_ = [] | 13 => v_ = v9 ∧ p_ = [] | 14 => v_ = .int .i64 node ∧ p_ = [] | 15 => v_ = elP v9 ((node).toNat * 1) ∧ p_ = [] | 16 => v_ = .int .i64 ((valsL n (stL n) (cod z0 len0 0 : Int)).getD ((node).toNat) 0) ∧ p_ = [] | 17 => v_ = .bool false ∧ p_ = [] | 18 => v_ = .bool false ∧ p_ = [] | _ => True) (List.take_append_drop 19 _).symm (by kernel_rfl) (by kernel_rfl) rfl rfl ?_ ?_
          ·
           refine ⟨?_, ?_, ?_, ?_, ?_, ?_, ?_, ?_, ?_, ?_, ?_, ?_, ?_, ?_, ?_, ?_, ?_, ?_, ?_, trivial⟩
           ·
            intro vf pf hR
            refine Or.inl ⟨rfl, ?_⟩
            refine rq_less (sx 10 rfl (sub_nil _)) (List.sublist_append_right _ _) ?_
            exact rq_v (rv_field (k0 := 0) rfl (by kernel_rfl) rfl)
           ·
            intro vf pf hR
            have e0 : (vf 0) = .pointer (some ⟨b22, 0 + 0, none⟩) ∧ (pf 0) = [] := hR 0 (by decide)
            refine Or.inl ⟨rfl, ?_⟩
            refine rq_less (sx 70 (congrArg some e0.1) (sub_nil _)) (List.sublist_append_right _ _) ?_
            exact rq_v (rv_load rfl (by kernel_rfl) rfl (box_cell 0 rfl rfl))
           ·
            intro vf pf hR
            refine Or.inl ⟨rfl, ?_⟩
            refine rq_less (sx 6 rfl (sub_nil _)) (List.sublist_append_right _ _) ?_
            exact rq_v (rv_ev rfl)
           ·
            intro vf pf hR
            refine Or.inl ⟨rfl, ?_⟩
            refine rq_less (sx 7 rfl (sub_nil _)) (List.sublist_append_right _ _) ?_
            exact rq_v (rv_ev rfl)
           ·
            intro vf pf hR
            have e2 : (vf 2) = v12 ∧ (pf 2) = [] := hR 2 (by decide)
            have e3 : (vf 3) = .int .i64 (i : Int) ∧ (pf 3) = [] := hR 3 (by decide)
            refine Or.inl ⟨rfl, ?_⟩
            refine rq_less (sx 72 (congrArg some e2.1) (sx 73 (congrArg some e3.1) (sub_nil _))) (List.sublist_append_right _ _) ?_
            exact rq_v (rv_index (s := 1) rfl Try.underlying40 (by kernel_rfl) rfl rfl (fun w hm => (hq w (hm.holds _ (mem_at (i := 1) rfl))).row) (by omega) (by first | omega | (simp only [List.length_set]; omega)))
           ·
            intro vf pf hR
            have e4 : (vf 4) = elP v12 (((i : Int)).toNat * 1) ∧ (pf 4) = [] := hR 4 (by decide)
            refine Or.inl ⟨rfl, ?_⟩
            refine rq_less (sx 74 (congrArg some e4.1) (sub_nil _)) (List.sublist_append_right _ _) ?_
            exact rq_v (rv_loadEl (u := (us.getD i crow0).v) rfl (by kernel_rfl) rfl (fun w hm => (hq w (hm.holds _ (mem_at (i := 1) rfl))).row) (flat_one crowC (fun r => r.v) (fun _ => rfl) us crow0 (show i < _ by first | omega | (simp only [List.length_set]; omega))))
           ·
            intro vf pf hR
            have e5 : (vf 5) = (us.getD i crow0).v ∧ (pf 5) = [] := hR 5 (by decide)
            refine Or.inl ⟨rfl, ?_⟩
            refine rq_less (sx 75 (congrArg some e5.1) (sub_nil _)) (List.sublist_append_right _ _) ?_
            exact rq_v (rv_len rfl Try.underlying26 rfl (fun w hm => (hq w (hm.holds _ (mem_at (i := 1) rfl))).at (k := i) (by omega)))
           ·
            intro vf pf hR
            have e1 : (vf 1) = .int .i64 (((us.getD i crow0).xs).length : Int) ∧ (pf 1) = [] := hR 1 (by decide)
            have e6 : (vf 6) = .int .i64 (((us.getD i crow0).xs).length : Int) ∧ (pf 6) = [] := hR 6 (by decide)
            refine Or.inl ⟨rfl, ?_⟩
            refine rq_less (sx 71 (congrArg some e1.1) (sx 76 (congrArg some e6.1) (sub_nil _))) (List.sublist_append_right _ _) ?_
            exact rq_mono (rq_v (rv_cmp rfl rfl rfl rfl)) (fun _ _ h => ⟨h.1.trans (congrArg Value.bool hb23), h.2⟩)
           ·
            intro vf pf hR
            have e7 : (vf 7) = .bool false ∧ (pf 7) = [] := hR 7 (by decide)
            refine Or.inl ⟨rfl, ?_⟩
            refine rq_less (sx 77 (congrArg some e7.1) (sub_nil _)) (List.sublist_append_right _ _) ?_
            exact rq_v (rv_ev rfl)
           ·
            intro vf pf hR
            have e8 : (vf 8) = .bool false ∧ (pf 8) = [] := hR 8 (by decide)
            refine Or.inl ⟨want_of (congrArg some e8.1) rfl, ?_⟩
            refine rq_less (sx 10 rfl (sub_nil _)) (List.sublist_append_right _ _) ?_
            exact rq_v (rv_loadN (cs := [.int .i64 (((us.getD i crow0).xs).length : Int), .int .i64 (tbN (fun i7 : Nat => decide (va n ((us.getD i crow0).xs) (i7 : Int) node = 1)) (pn (((us.getD i crow0).xs).length : Int)) : Int)]) rfl (by kernel_rfl) (by kernel_rfl) rfl rfl (box_part 0 rfl 0 rfl))
           ·
            intro vf pf hR
            have e8 : (vf 8) = .bool false ∧ (pf 8) = [] := hR 8 (by decide)
            refine Or.inl ⟨want_of (congrArg some e8.1) rfl, ?_⟩
            refine rq_less (sx 8 rfl (sub_nil _)) (List.sublist_append_right _ _) ?_
            exact rq_v (rv_ev rfl)
           ·
            intro vf pf hR
            have e8 : (vf 8) = .bool false ∧ (pf 8) = [] := hR 8 (by decide)
            have e9 : (vf 9) = .agg #[.int .i64 (((us.getD i crow0).xs).length : Int), .int .i64 (tbN (fun i7 : Nat => decide (va n ((us.getD i crow0).xs) (i7 : Int) node = 1)) (pn (((us.getD i crow0).xs).length : Int)) : Int)] ∧ (pf 9) = [] := hR 9 (by decide)
            have e10 : (vf 10) = .int .i64 q ∧ (pf 10) = [] := hR 10 (by decide)
            refine Or.inl ⟨want_of (congrArg some e8.1) rfl, ?_⟩
            refine rq_less (sx 79 (congrArg some e9.1) (sx 80 (congrArg some e10.1) (sub_nil _))) (List.sublist_append_right _ _) ?_
            exact rq_mono (rq_call (by kernel_rfl) rfl (fun w hm => ret_ans (by have h9 := implTableEval_ans (Tab.mk (((us.getD i crow0).xs).length : Int) (tbN (fun i7 : Nat => decide (va n ((us.getD i crow0).xs) (i7 : Int) node = 1)) (pn (((us.getD i crow0).xs).length : Int)) : Int)) q.toNat w (tabC_ok (by omega) _) hct.2.1; rw [Int.toNat_of_nonneg hct.1, hct.2.2] at h9; exact h9))) (fun _ _ h => ⟨h.1.trans (congrArg Value.bool hb24), h.2⟩)
           ·
            intro vf pf hR
            have e8 : (vf 8) = .bool false ∧ (pf 8) = [] := hR 8 (by decide)
            have e11 : (vf 11) = .bool true ∧ (pf 11) = [] := hR 11 (by decide)
            refine Or.inl ⟨want_of (congrArg some e8.1) rfl, ?_⟩
            refine rq_less (sx 81 (congrArg some e11.1) (sub_nil _)) (List.sublist_append_right _ _) ?_
            exact (rq_call (by kernel_rfl) rfl (fun w hm => ret_ans (btoi_t w)))
           ·
            intro vf pf hR
            have e8 : (vf 8) = .bool false ∧ (pf 8) = [] := hR 8 (by decide)
            refine Or.inl ⟨want_of (congrArg some e8.1) rfl, ?_⟩
            refine rq_less (sx 5 rfl (sub_nil _)) (List.sublist_append_right _ _) ?_
            exact rq_v (rv_ev rfl)
           ·
            intro vf pf hR
            have e8 : (vf 8) = .bool false ∧ (pf 8) = [] := hR 8 (by decide)
            refine Or.inl ⟨want_of (congrArg some e8.1) rfl, ?_⟩
            refine rq_less (sx 4 rfl (sub_nil _)) (List.sublist_append_right _ _) ?_
            exact rq_v (rv_ev rfl)
           ·
            intro vf pf hR
            have e8 : (vf 8) = .bool false ∧ (pf 8) = [] := hR 8 (by decide)
            have e13 : (vf 13) = v9 ∧ (pf 13) = [] := hR 13 (by decide)
            have e14 : (vf 14) = .int .i64 node ∧ (pf 14) = [] := hR 14 (by decide)
            refine Or.inl ⟨want_of (congrArg some e8.1) rfl, ?_⟩
            refine rq_less (sx 83 (congrArg some e13.1) (sx 84 (congrArg some e14.1) (sub_nil _))) (List.sublist_append_right _ _) ?_
            exact rq_v (rv_index (s := 1) rfl Try.underlying26 (by kernel_rfl) rfl rfl (rd_row 3 rfl) (by omega) (by first | omega | (simp only [List.length_set]; omega)))
           ·
            intro vf pf hR
            have e8 : (vf 8) = .bool false ∧ (pf 8) = [] := hR 8 (by decide)
            have e15 : (vf 15) = elP v9 ((node).toNat * 1) ∧ (pf 15) = [] := hR 15 (by decide)
            refine Or.inl ⟨want_of (congrArg some e8.1) rfl, ?_⟩
            refine rq_less (sx 85 (congrArg some e15.1) (sub_nil _)) (List.sublist_append_right _ _) ?_
            exact rq_v (rv_loadEl (u := .int .i64 ((valsL n (stL n) (cod z0 len0 0 : Int)).getD ((node).toNat) 0)) rfl (by kernel_rfl) rfl (rd_row 3 rfl) (ints_at1 (show _ < (valsL n (stL n) (cod z0 len0 0 : Int)).length by first | omega | (simp only [List.length_set]; omega))))
           ·
            intro vf pf hR
            have e8 : (vf 8) = .bool false ∧ (pf 8) = [] := hR 8 (by decide)
            have e12 : (vf 12) = .int .i64 1 ∧ (pf 12) = [] := hR 12 (by decide)
            have e16 : (vf 16) = .int .i64 ((valsL n (stL n) (cod z0 len0 0 : Int)).getD ((node).toNat) 0) ∧ (pf 16) = [] := hR 16 (by decide)
            refine Or.inl ⟨want_of (congrArg some e8.1) rfl, ?_⟩
            refine rq_less (sx 82 (congrArg some e12.1) (sx 86 (congrArg some e16.1) (sub_nil _))) (List.sublist_append_right _ _) ?_
            exact rq_mono (rq_v (rv_cmp rfl rfl rfl rfl)) (fun _ _ h => ⟨h.1.trans (congrArg Value.bool hb25), h.2⟩)
           ·
            intro vf pf hR
            have e8 : (vf 8) = .bool false ∧ (pf 8) = [] := hR 8 (by decide)
            have e17 : (vf 17) = .bool false ∧ (pf 17) = [] := hR 17 (by decide)
            refine Or.inl ⟨rfl, ?_⟩
            refine rq_less (sx 78 (congrArg some e8.1) (sx 87 (congrArg some e17.1) (sub_nil _))) (List.sublist_append_right _ _) ?_
            exact rq_v (rv_ev rfl)
          ·
           intro vf pf hR
           have e18 : (vf 18) = .bool false ∧ (pf 18) = [] := hR 18 (by decide)
           refine hl_less (l' := [boxE b22 #[.int .i64 (((us.getD i crow0).xs).length : Int), .int .i64 (tbN (fun i7 : Nat => decide (va n ((us.getD i crow0).xs) (i7 : Int) node = 1)) (pn (((us.getD i crow0).xs).length : Int)) : Int)] 55, bigE qs, rowE 3 1 v6 ((stL n).length) ((stL n).map (Value.int .i64)), rowE 3 1 v9 ((valsL n (stL n) (cod z0 len0 0 : Int)).length) ((valsL n (stL n) (cod z0 len0 0 : Int)).map (Value.int .i64)), boxE b5 #[.int .i64 n.ins, n.sv, n.av, n.ov] 28, ntE n]) (sx 0 rfl (sx 2 rfl (sx 3 rfl (sx 4 rfl (sx 5 rfl (sx 6 rfl (sx 7 rfl (sx 8 rfl (sx 9 rfl (sx 10 rfl (sx 12 rfl (sx 30 rfl (sx 40 rfl (sx 47 rfl (sx 88 (congrArg some e18.1) (sub_nil _)))))))))))))))) (List.sublist_append_right _ _) ?_
           simp only [List.drop_succ_cons, List.drop_zero]
           refine hl_less (sx 0 rfl (sx 2 rfl (sx 3 rfl (sx 4 rfl (sx 5 rfl (sx 6 rfl (sx 7 rfl (sx 8 rfl (sx 9 rfl (sx 10 rfl (sx 12 rfl (sx 30 rfl (sx 40 rfl (sx 47 rfl (sx 88 rfl (sub_nil _)))))))))))))))) (.refl _) ?_
           refine hl_nil ?_
           refine hq_then ?_
           refine hc_false rfl ?_
           refine hc_skip ?_
           refine hq_block_normal ?_
           refine hq_then ?_
           refine hc_region ?_
           refine hl_v rfl rfl rfl (rv_ev rfl) ?_
           refine hl_v rfl rfl rfl (rv_add rfl rfl rfl (by constructor <;> omega)) ?_
           refine hl_v rfl rfl rfl (rv_ev rfl) ?_
           refine hl_less (sx 0 rfl (sx 2 rfl (sx 3 rfl (sx 4 rfl (sx 5 rfl (sx 6 rfl (sx 7 rfl (sx 8 rfl (sx 9 rfl (sx 10 rfl (sx 12 rfl (sx 30 rfl (sx 40 rfl (sx 47 rfl (sx 88 rfl (sub_nil _)))))))))))))))) (.refl _) ?_
           refine hl_nil ?_
           exact hq_round1 (i + 1) (by omega) (by omega) (sx 0 rfl (sx 2 rfl (sx 3 rfl (sx 4 rfl (sx 5 rfl (sx 6 rfl (sx 7 rfl (sx 12 rfl (sub_nil _))))))))) ((.cons _ (.cons_cons _ (.cons_cons _ (.cons_cons _ (.cons_cons _ (.cons_cons _ .slnil)))))))
        ·
         have hb24p := of_decide_eq_false hb24
         rcases Bool.eq_false_or_eq_true (0 != ((valsL n (stL n) (cod z0 len0 0 : Int)).getD ((node).toNat) 0)) with hb26 | hb26
         ·
          have hb26p : 0 ≠ (valsL n (stL n) (cod z0 len0 0 : Int)).getD ((node).toNat) 0 := bne_iff_ne.1 hb26
          refine hc_draw (by kernel_rfl) 19 [0, 1, 2, 3, 4, 5, 6, 7, 8, 9, 10, 11, 12, 13, 14, 15, 16, 17, 18] (List.take 19 _) (List.drop 19 _) [[], [0], [], [], [2, 3], [4], [5], [1, 6], [7], [8], [8], [8, 9, 10], [8, 11], [8], [8], [8, 13, 14], [8, 15], [8, 12, 16], [8, 17]] [70, 71, 72, 73, 74, 75, 76, 77, 78, 79, 80, 81, 82, 83, 84, 85, 86, 87, 88] (fun i_ vs_ v_ p_ => match i_ with | 0 => v_ = .pointer (some ⟨b22, 0 + 0, none⟩) ∧ p_ = [] | 1 => v_ = .int .i64 (((us.getD i crow0).xs).length : Int) ∧ p_ = [] | 2 => v_ = v12 ∧ p_ = [] | 3 => v_ = .int .i64 (i : Int) ∧ p_ = [] | 4 => v_ = elP v12 (((i : Int)).toNat * 1) ∧ p_ = [] | 5 => v_ = (us.getD i crow0).v ∧ p_ = [] | 6 => v_ = .int .i64 (((us.getD i crow0).xs).length : Int) ∧ p_ = [] | 7 => v_ = .bool false ∧ p_ = [] | 8 => v_ = .bool false ∧ p_ = [] | 9 => v_ = .agg #[.int .i64 (((us.getD i crow0).xs).length : Int), .int .i64 (tbN (fun i7 : Nat => decide (va n ((us.getD i crow0).xs) (i7 : Int) node = 1)) (pn (((us.getD i crow0).xs).length : Int)) : Int)] ∧ p_ = [] | 10 => v_ = .int .i64 q ∧ p_ = [] | 11 => v_ = .bool false ∧ p_ = [] | 12 => v_ = .int .i64 0 ∧ p_ = [] | 13 => v_ = v9 ∧ p_ = [] | 14 => v_ = .int .i64 node ∧ p_ = [] | 15 => v_ = elP v9 ((node).toNat * 1) ∧ p_ = [] | 16 => v_ = .int .i64 ((valsL n (stL n) (cod z0 len0 0 : Int)).getD ((node).toNat) 0) ∧ p_ = [] | 17 => v_ = .bool true ∧ p_ = [] | 18 => v_ = .bool true ∧ p_ = [] | _ => True) (List.take_append_drop 19 _).symm (by kernel_rfl) (by kernel_rfl) rfl rfl ?_ ?_
          ·
           refine ⟨?_, ?_, ?_, ?_, ?_, ?_, ?_, ?_, ?_, ?_, ?_, ?_, ?_, ?_, ?_, ?_, ?_, ?_, ?_, trivial⟩
           ·
            intro vf pf hR
            refine Or.inl ⟨rfl, ?_⟩
            refine rq_less (sx 10 rfl (sub_nil _)) (List.sublist_append_right _ _) ?_
            exact rq_v (rv_field (k0 := 0) rfl (by kernel_rfl) rfl)
           ·
            intro vf pf hR
            have e0 : (vf 0) = .pointer (some ⟨b22, 0 + 0, none⟩) ∧ (pf 0) = [] := hR 0 (by decide)
            refine Or.inl ⟨rfl, ?_⟩
            refine rq_less (sx 70 (congrArg some e0.1) (sub_nil _)) (List.sublist_append_right _ _) ?_
            exact rq_v (rv_load rfl (by kernel_rfl) rfl (box_cell 0 rfl rfl))
           ·
            intro vf pf hR
            refine Or.inl ⟨rfl, ?_⟩
            refine rq_less (sx 6 rfl (sub_nil _)) (List.sublist_append_right _ _) ?_
            exact rq_v (rv_ev rfl)
           ·
            intro vf pf hR
            refine Or.inl ⟨rfl, ?_⟩
            refine rq_less (sx 7 rfl (sub_nil _)) (List.sublist_append_right _ _) ?_
            exact rq_v (rv_ev rfl)
           ·
            intro vf pf hR
            have e2 : (vf 2) = v12 ∧ (pf 2) = [] := hR 2 (by decide)
            have e3 : (vf 3) = .int .i64 (i : Int) ∧ (pf 3) = [] := hR 3 (by decide)
            refine Or.inl ⟨rfl, ?_⟩
            refine rq_less (sx 72 (congrArg some e2.1) (sx 73 (congrArg some e3.1) (sub_nil _))) (List.sublist_append_right _ _) ?_
            exact rq_v (rv_index (s := 1) rfl Try.underlying40 (by kernel_rfl) rfl rfl (fun w hm => (hq w (hm.holds _ (mem_at (i := 1) rfl))).row) (by omega) (by first | omega | (simp only [List.length_set]; omega)))
           ·
            intro vf pf hR
            have e4 : (vf 4) = elP v12 (((i : Int)).toNat * 1) ∧ (pf 4) = [] := hR 4 (by decide)
            refine Or.inl ⟨rfl, ?_⟩
            refine rq_less (sx 74 (congrArg some e4.1) (sub_nil _)) (List.sublist_append_right _ _) ?_
            exact rq_v (rv_loadEl (u := (us.getD i crow0).v) rfl (by kernel_rfl) rfl (fun w hm => (hq w (hm.holds _ (mem_at (i := 1) rfl))).row) (flat_one crowC (fun r => r.v) (fun _ => rfl) us crow0 (show i < _ by first | omega | (simp only [List.length_set]; omega))))
           ·
            intro vf pf hR
            have e5 : (vf 5) = (us.getD i crow0).v ∧ (pf 5) = [] := hR 5 (by decide)
            refine Or.inl ⟨rfl, ?_⟩
            refine rq_less (sx 75 (congrArg some e5.1) (sub_nil _)) (List.sublist_append_right _ _) ?_
            exact rq_v (rv_len rfl Try.underlying26 rfl (fun w hm => (hq w (hm.holds _ (mem_at (i := 1) rfl))).at (k := i) (by omega)))
           ·
            intro vf pf hR
            have e1 : (vf 1) = .int .i64 (((us.getD i crow0).xs).length : Int) ∧ (pf 1) = [] := hR 1 (by decide)
            have e6 : (vf 6) = .int .i64 (((us.getD i crow0).xs).length : Int) ∧ (pf 6) = [] := hR 6 (by decide)
            refine Or.inl ⟨rfl, ?_⟩
            refine rq_less (sx 71 (congrArg some e1.1) (sx 76 (congrArg some e6.1) (sub_nil _))) (List.sublist_append_right _ _) ?_
            exact rq_mono (rq_v (rv_cmp rfl rfl rfl rfl)) (fun _ _ h => ⟨h.1.trans (congrArg Value.bool hb23), h.2⟩)
           ·
            intro vf pf hR
            have e7 : (vf 7) = .bool false ∧ (pf 7) = [] := hR 7 (by decide)
            refine Or.inl ⟨rfl, ?_⟩
            refine rq_less (sx 77 (congrArg some e7.1) (sub_nil _)) (List.sublist_append_right _ _) ?_
            exact rq_v (rv_ev rfl)
           ·
            intro vf pf hR
            have e8 : (vf 8) = .bool false ∧ (pf 8) = [] := hR 8 (by decide)
            refine Or.inl ⟨want_of (congrArg some e8.1) rfl, ?_⟩
            refine rq_less (sx 10 rfl (sub_nil _)) (List.sublist_append_right _ _) ?_
            exact rq_v (rv_loadN (cs := [.int .i64 (((us.getD i crow0).xs).length : Int), .int .i64 (tbN (fun i7 : Nat => decide (va n ((us.getD i crow0).xs) (i7 : Int) node = 1)) (pn (((us.getD i crow0).xs).length : Int)) : Int)]) rfl (by kernel_rfl) (by kernel_rfl) rfl rfl (box_part 0 rfl 0 rfl))
           ·
            intro vf pf hR
            have e8 : (vf 8) = .bool false ∧ (pf 8) = [] := hR 8 (by decide)
            refine Or.inl ⟨want_of (congrArg some e8.1) rfl, ?_⟩
            refine rq_less (sx 8 rfl (sub_nil _)) (List.sublist_append_right _ _) ?_
            exact rq_v (rv_ev rfl)
           ·
            intro vf pf hR
            have e8 : (vf 8) = .bool false ∧ (pf 8) = [] := hR 8 (by decide)
            have e9 : (vf 9) = .agg #[.int .i64 (((us.getD i crow0).xs).length : Int), .int .i64 (tbN (fun i7 : Nat => decide (va n ((us.getD i crow0).xs) (i7 : Int) node = 1)) (pn (((us.getD i crow0).xs).length : Int)) : Int)] ∧ (pf 9) = [] := hR 9 (by decide)
            have e10 : (vf 10) = .int .i64 q ∧ (pf 10) = [] := hR 10 (by decide)
            refine Or.inl ⟨want_of (congrArg some e8.1) rfl, ?_⟩
            refine rq_less (sx 79 (congrArg some e9.1) (sx 80 (congrArg some e10.1) (sub_nil _))) (List.sublist_append_right _ _) ?_
            exact rq_mono (rq_call (by kernel_rfl) rfl (fun w hm => ret_ans (by have h9 := implTableEval_ans (Tab.mk (((us.getD i crow0).xs).length : Int) (tbN (fun i7 : Nat => decide (va n ((us.getD i crow0).xs) (i7 : Int) node = 1)) (pn (((us.getD i crow0).xs).length : Int)) : Int)) q.toNat w (tabC_ok (by omega) _) hct.2.1; rw [Int.toNat_of_nonneg hct.1, hct.2.2] at h9; exact h9))) (fun _ _ h => ⟨h.1.trans (congrArg Value.bool hb24), h.2⟩)
           ·
            intro vf pf hR
            have e8 : (vf 8) = .bool false ∧ (pf 8) = [] := hR 8 (by decide)
            have e11 : (vf 11) = .bool false ∧ (pf 11) = [] := hR 11 (by decide)
            refine Or.inl ⟨want_of (congrArg some e8.1) rfl, ?_⟩
            refine rq_less (sx 81 (congrArg some e11.1) (sub_nil _)) (List.sublist_append_right _ _) ?_
            exact (rq_call (by kernel_rfl) rfl (fun w hm => ret_ans (btoi_f w)))
           ·
            intro vf pf hR
            have e8 : (vf 8) = .bool false ∧ (pf 8) = [] := hR 8 (by decide)
            refine Or.inl ⟨want_of (congrArg some e8.1) rfl, ?_⟩
            refine rq_less (sx 5 rfl (sub_nil _)) (List.sublist_append_right _ _) ?_
            exact rq_v (rv_ev rfl)
           ·
            intro vf pf hR
            have e8 : (vf 8) = .bool false ∧ (pf 8) = [] := hR 8 (by decide)
            refine Or.inl ⟨want_of (congrArg some e8.1) rfl, ?_⟩
            refine rq_less (sx 4 rfl (sub_nil _)) (List.sublist_append_right _ _) ?_
            exact rq_v (rv_ev rfl)
           ·
            intro vf pf hR
            have e8 : (vf 8) = .bool false ∧ (pf 8) = [] := hR 8 (by decide)
            have e13 : (vf 13) = v9 ∧ (pf 13) = [] := hR 13 (by decide)
            have e14 : (vf 14) = .int .i64 node ∧ (pf 14) = [] := hR 14 (by decide)
            refine Or.inl ⟨want_of (congrArg some e8.1) rfl, ?_⟩
            refine rq_less (sx 83 (congrArg some e13.1) (sx 84 (congrArg some e14.1) (sub_nil _))) (List.sublist_append_right _ _) ?_
            exact rq_v (rv_index (s := 1) rfl Try.underlying26 (by kernel_rfl) rfl rfl (rd_row 3 rfl) (by omega) (by first | omega | (simp only [List.length_set]; omega)))
           ·
            intro vf pf hR
            have e8 : (vf 8) = .bool false ∧ (pf 8) = [] := hR 8 (by decide)
            have e15 : (vf 15) = elP v9 ((node).toNat * 1) ∧ (pf 15) = [] := hR 15 (by decide)
            refine Or.inl ⟨want_of (congrArg some e8.1) rfl, ?_⟩
            refine rq_less (sx 85 (congrArg some e15.1) (sub_nil _)) (List.sublist_append_right _ _) ?_
            exact rq_v (rv_loadEl (u := .int .i64 ((valsL n (stL n) (cod z0 len0 0 : Int)).getD ((node).toNat) 0)) rfl (by kernel_rfl) rfl (rd_row 3 rfl) (ints_at1 (show _ < (valsL n (stL n) (cod z0 len0 0 : Int)).length by first | omega | (simp only [List.length_set]; omega))))
           ·
            intro vf pf hR
            have e8 : (vf 8) = .bool false ∧ (pf 8) = [] := hR 8 (by decide)
            have e12 : (vf 12) = .int .i64 0 ∧ (pf 12) = [] := hR 12 (by decide)
            have e16 : (vf 16) = .int .i64 ((valsL n (stL n) (cod z0 len0 0 : Int)).getD ((node).toNat) 0) ∧ (pf 16) = [] := hR 16 (by decide)
            refine Or.inl ⟨want_of (congrArg some e8.1) rfl, ?_⟩
            refine rq_less (sx 82 (congrArg some e12.1) (sx 86 (congrArg some e16.1) (sub_nil _))) (List.sublist_append_right _ _) ?_
            exact rq_mono (rq_v (rv_cmp rfl rfl rfl rfl)) (fun _ _ h => ⟨h.1.trans (congrArg Value.bool hb26), h.2⟩)
           ·
            intro vf pf hR
            have e8 : (vf 8) = .bool false ∧ (pf 8) = [] := hR 8 (by decide)
            have e17 : (vf 17) = .bool true ∧ (pf 17) = [] := hR 17 (by decide)
            refine Or.inl ⟨rfl, ?_⟩
            refine rq_less (sx 78 (congrArg some e8.1) (sx 87 (congrArg some e17.1) (sub_nil _))) (List.sublist_append_right _ _) ?_
            exact rq_v (rv_ev rfl)
          ·
           intro vf pf hR
           have e18 : (vf 18) = .bool true ∧ (pf 18) = [] := hR 18 (by decide)
           refine hl_less (l' := [boxE b22 #[.int .i64 (((us.getD i crow0).xs).length : Int), .int .i64 (tbN (fun i7 : Nat => decide (va n ((us.getD i crow0).xs) (i7 : Int) node = 1)) (pn (((us.getD i crow0).xs).length : Int)) : Int)] 55, bigE qs, rowE 3 1 v6 ((stL n).length) ((stL n).map (Value.int .i64)), rowE 3 1 v9 ((valsL n (stL n) (cod z0 len0 0 : Int)).length) ((valsL n (stL n) (cod z0 len0 0 : Int)).map (Value.int .i64)), boxE b5 #[.int .i64 n.ins, n.sv, n.av, n.ov] 28, ntE n]) (sx 0 rfl (sx 2 rfl (sx 3 rfl (sx 4 rfl (sx 5 rfl (sx 6 rfl (sx 7 rfl (sx 8 rfl (sx 9 rfl (sx 10 rfl (sx 12 rfl (sx 30 rfl (sx 40 rfl (sx 47 rfl (sx 88 (congrArg some e18.1) (sub_nil _)))))))))))))))) (List.sublist_append_right _ _) ?_
           simp only [List.drop_succ_cons, List.drop_zero]
           refine hl_less (sx 0 rfl (sx 2 rfl (sx 3 rfl (sx 4 rfl (sx 5 rfl (sx 6 rfl (sx 7 rfl (sx 8 rfl (sx 9 rfl (sx 10 rfl (sx 12 rfl (sx 30 rfl (sx 40 rfl (sx 47 rfl (sx 88 rfl (sub_nil _)))))))))))))))) (.refl _) ?_
           refine hl_nil ?_
           refine hq_then ?_
           refine hc_true rfl ?_
           refine hc_seq ?_
           refine hc_region ?_
           refine hl_v rfl rfl rfl (rv_ev rfl) ?_
           refine hl_less (sx 0 rfl (sx 2 rfl (sx 3 rfl (sx 4 rfl (sx 5 rfl (sx 6 rfl (sx 7 rfl (sx 8 rfl (sx 9 rfl (sx 10 rfl (sx 12 rfl (sx 30 rfl (sx 40 rfl (sx 47 rfl (sx 88 rfl (sub_nil _)))))))))))))))) (.refl _) ?_
           refine hl_nil ?_
           refine hq_then ?_
           refine hc_ret ?_
           refine hq_block_ret ?_
           refine hq_then_ret ?_
           refine hq_then_ret ?_
           refine hq_block_ret ?_
           refine hq_then_ret ?_
           exfalso
           omega
         ·
          have hb26p : 0 = (valsL n (stL n) (cod z0 len0 0 : Int)).getD ((node).toNat) 0 := (bne_eq_false_iff_eq.1 hb26)
          refine hc_draw (by kernel_rfl) 19 [0, 1, 2, 3, 4, 5, 6, 7, 8, 9, 10, 11, 12, 13, 14, 15, 16, 17, 18] (List.take 19 _) (List.drop 19 _) [[], [0], [], [], [2, 3], [4], [5], [1, 6], [7], [8], [8], [8, 9, 10], [8, 11], [8], [8], [8, 13, 14], [8, 15], [8, 12, 16], [8, 17]] [70, 71, 72, 73, 74, 75, 76, 77, 78, 79, 80, 81, 82, 83, 84, 85, 86, 87, 88] (fun i_ vs_ v_ p_ => match i_ with | 0 => v_ = .pointer (some ⟨b22, 0 + 0, none⟩) ∧ p_ = [] | 1 => v_ = .int .i64 (((us.getD i crow0).xs).length : Int) ∧ p_ = [] | 2 => v_ = v12 ∧ p_ = [] | 3 => v_ = .int .i64 (i : Int) ∧ p_ = [] | 4 => v_ = elP v12 (((i : Int)).toNat * 1) ∧ p_ = [] | 5 => v_ = (us.getD i crow0).v ∧ p_ = [] | 6 => v_ = .int .i64 (((us.getD i crow0).xs).length : Int) ∧ p_ = [] | 7 => v_ = .bool false ∧ p_ = [] | 8 => v_ = .bool false ∧ p_ = [] | 9 => v_ = .agg #[.int .i64 (((us.getD i crow0).xs).length : Int), .int .i64 (tbN (fun i7 : Nat => decide (va n ((us.getD i crow0).xs) (i7 : Int) node = 1)) (pn (((us.getD i crow0).xs).length : Int)) : Int)] ∧ p_ = [] | 10 => v_ = .int .i64 q ∧ p_ = [] | 11 => v_ = .bool false ∧ p_ = [] | 12 => v_ = .int .i64 0 ∧ p_ = [] | 13 => v_ = v9 ∧ p_ = [] | 14 => v_ = .int .i64 node ∧ p_ = [] | 15 => v_ = elP v9 ((node).toNat * 1) ∧ p_ = [] | 16 => v_ = .int .i64 ((valsL n (stL n) (cod z0 len0 0 : Int)).getD ((node).toNat) 0) ∧ p_ = [] | 17 => v_ = .bool false ∧ p_ = [] | 18 => v_ = .bool false ∧ p_ = [] | _ => True) (List.take_append_drop 19 _).symm (by kernel_rfl) (by kernel_rfl) rfl rfl ?_ ?_
          ·
           refine ⟨?_, ?_, ?_, ?_, ?_, ?_, ?_, ?_, ?_, ?_, ?_, ?_, ?_, ?_, ?_, ?_, ?_, ?_, ?_, trivial⟩
           ·
            intro vf pf hR
            refine Or.inl ⟨rfl, ?_⟩
            refine rq_less (sx 10 rfl (sub_nil _)) (List.sublist_append_right _ _) ?_
            exact rq_v (rv_field (k0 := 0) rfl (by kernel_rfl) rfl)
           ·
            intro vf pf hR
            have e0 : (vf 0) = .pointer (some ⟨b22, 0 + 0, none⟩) ∧ (pf 0) = [] := hR 0 (by decide)
            refine Or.inl ⟨rfl, ?_⟩
            refine rq_less (sx 70 (congrArg some e0.1) (sub_nil _)) (List.sublist_append_right _ _) ?_
            exact rq_v (rv_load rfl (by kernel_rfl) rfl (box_cell 0 rfl rfl))
           ·
            intro vf pf hR
            refine Or.inl ⟨rfl, ?_⟩
            refine rq_less (sx 6 rfl (sub_nil _)) (List.sublist_append_right _ _) ?_
            exact rq_v (rv_ev rfl)
           ·
            intro vf pf hR
            refine Or.inl ⟨rfl, ?_⟩
            refine rq_less (sx 7 rfl (sub_nil _)) (List.sublist_append_right _ _) ?_
            exact rq_v (rv_ev rfl)
           ·
            intro vf pf hR
            have e2 : (vf 2) = v12 ∧ (pf 2) = [] := hR 2 (by decide)
            have e3 : (vf 3) = .int .i64 (i : Int) ∧ (pf 3) = [] := hR 3 (by decide)
            refine Or.inl ⟨rfl, ?_⟩
            refine rq_less (sx 72 (congrArg some e2.1) (sx 73 (congrArg some e3.1) (sub_nil _))) (List.sublist_append_right _ _) ?_
            exact rq_v (rv_index (s := 1) rfl Try.underlying40 (by kernel_rfl) rfl rfl (fun w hm => (hq w (hm.holds _ (mem_at (i := 1) rfl))).row) (by omega) (by first | omega | (simp only [List.length_set]; omega)))
           ·
            intro vf pf hR
            have e4 : (vf 4) = elP v12 (((i : Int)).toNat * 1) ∧ (pf 4) = [] := hR 4 (by decide)
            refine Or.inl ⟨rfl, ?_⟩
            refine rq_less (sx 74 (congrArg some e4.1) (sub_nil _)) (List.sublist_append_right _ _) ?_
            exact rq_v (rv_loadEl (u := (us.getD i crow0).v) rfl (by kernel_rfl) rfl (fun w hm => (hq w (hm.holds _ (mem_at (i := 1) rfl))).row) (flat_one crowC (fun r => r.v) (fun _ => rfl) us crow0 (show i < _ by first | omega | (simp only [List.length_set]; omega))))
           ·
            intro vf pf hR
            have e5 : (vf 5) = (us.getD i crow0).v ∧ (pf 5) = [] := hR 5 (by decide)
            refine Or.inl ⟨rfl, ?_⟩
            refine rq_less (sx 75 (congrArg some e5.1) (sub_nil _)) (List.sublist_append_right _ _) ?_
            exact rq_v (rv_len rfl Try.underlying26 rfl (fun w hm => (hq w (hm.holds _ (mem_at (i := 1) rfl))).at (k := i) (by omega)))
           ·
            intro vf pf hR
            have e1 : (vf 1) = .int .i64 (((us.getD i crow0).xs).length : Int) ∧ (pf 1) = [] := hR 1 (by decide)
            have e6 : (vf 6) = .int .i64 (((us.getD i crow0).xs).length : Int) ∧ (pf 6) = [] := hR 6 (by decide)
            refine Or.inl ⟨rfl, ?_⟩
            refine rq_less (sx 71 (congrArg some e1.1) (sx 76 (congrArg some e6.1) (sub_nil _))) (List.sublist_append_right _ _) ?_
            exact rq_mono (rq_v (rv_cmp rfl rfl rfl rfl)) (fun _ _ h => ⟨h.1.trans (congrArg Value.bool hb23), h.2⟩)
           ·
            intro vf pf hR
            have e7 : (vf 7) = .bool false ∧ (pf 7) = [] := hR 7 (by decide)
            refine Or.inl ⟨rfl, ?_⟩
            refine rq_less (sx 77 (congrArg some e7.1) (sub_nil _)) (List.sublist_append_right _ _) ?_
            exact rq_v (rv_ev rfl)
           ·
            intro vf pf hR
            have e8 : (vf 8) = .bool false ∧ (pf 8) = [] := hR 8 (by decide)
            refine Or.inl ⟨want_of (congrArg some e8.1) rfl, ?_⟩
            refine rq_less (sx 10 rfl (sub_nil _)) (List.sublist_append_right _ _) ?_
            exact rq_v (rv_loadN (cs := [.int .i64 (((us.getD i crow0).xs).length : Int), .int .i64 (tbN (fun i7 : Nat => decide (va n ((us.getD i crow0).xs) (i7 : Int) node = 1)) (pn (((us.getD i crow0).xs).length : Int)) : Int)]) rfl (by kernel_rfl) (by kernel_rfl) rfl rfl (box_part 0 rfl 0 rfl))
           ·
            intro vf pf hR
            have e8 : (vf 8) = .bool false ∧ (pf 8) = [] := hR 8 (by decide)
            refine Or.inl ⟨want_of (congrArg some e8.1) rfl, ?_⟩
            refine rq_less (sx 8 rfl (sub_nil _)) (List.sublist_append_right _ _) ?_
            exact rq_v (rv_ev rfl)
           ·
            intro vf pf hR
            have e8 : (vf 8) = .bool false ∧ (pf 8) = [] := hR 8 (by decide)
            have e9 : (vf 9) = .agg #[.int .i64 (((us.getD i crow0).xs).length : Int), .int .i64 (tbN (fun i7 : Nat => decide (va n ((us.getD i crow0).xs) (i7 : Int) node = 1)) (pn (((us.getD i crow0).xs).length : Int)) : Int)] ∧ (pf 9) = [] := hR 9 (by decide)
            have e10 : (vf 10) = .int .i64 q ∧ (pf 10) = [] := hR 10 (by decide)
            refine Or.inl ⟨want_of (congrArg some e8.1) rfl, ?_⟩
            refine rq_less (sx 79 (congrArg some e9.1) (sx 80 (congrArg some e10.1) (sub_nil _))) (List.sublist_append_right _ _) ?_
            exact rq_mono (rq_call (by kernel_rfl) rfl (fun w hm => ret_ans (by have h9 := implTableEval_ans (Tab.mk (((us.getD i crow0).xs).length : Int) (tbN (fun i7 : Nat => decide (va n ((us.getD i crow0).xs) (i7 : Int) node = 1)) (pn (((us.getD i crow0).xs).length : Int)) : Int)) q.toNat w (tabC_ok (by omega) _) hct.2.1; rw [Int.toNat_of_nonneg hct.1, hct.2.2] at h9; exact h9))) (fun _ _ h => ⟨h.1.trans (congrArg Value.bool hb24), h.2⟩)
           ·
            intro vf pf hR
            have e8 : (vf 8) = .bool false ∧ (pf 8) = [] := hR 8 (by decide)
            have e11 : (vf 11) = .bool false ∧ (pf 11) = [] := hR 11 (by decide)
            refine Or.inl ⟨want_of (congrArg some e8.1) rfl, ?_⟩
            refine rq_less (sx 81 (congrArg some e11.1) (sub_nil _)) (List.sublist_append_right _ _) ?_
            exact (rq_call (by kernel_rfl) rfl (fun w hm => ret_ans (btoi_f w)))
           ·
            intro vf pf hR
            have e8 : (vf 8) = .bool false ∧ (pf 8) = [] := hR 8 (by decide)
            refine Or.inl ⟨want_of (congrArg some e8.1) rfl, ?_⟩
            refine rq_less (sx 5 rfl (sub_nil _)) (List.sublist_append_right _ _) ?_
            exact rq_v (rv_ev rfl)
           ·
            intro vf pf hR
            have e8 : (vf 8) = .bool false ∧ (pf 8) = [] := hR 8 (by decide)
            refine Or.inl ⟨want_of (congrArg some e8.1) rfl, ?_⟩
            refine rq_less (sx 4 rfl (sub_nil _)) (List.sublist_append_right _ _) ?_
            exact rq_v (rv_ev rfl)
           ·
            intro vf pf hR
            have e8 : (vf 8) = .bool false ∧ (pf 8) = [] := hR 8 (by decide)
            have e13 : (vf 13) = v9 ∧ (pf 13) = [] := hR 13 (by decide)
            have e14 : (vf 14) = .int .i64 node ∧ (pf 14) = [] := hR 14 (by decide)
            refine Or.inl ⟨want_of (congrArg some e8.1) rfl, ?_⟩
            refine rq_less (sx 83 (congrArg some e13.1) (sx 84 (congrArg some e14.1) (sub_nil _))) (List.sublist_append_right _ _) ?_
            exact rq_v (rv_index (s := 1) rfl Try.underlying26 (by kernel_rfl) rfl rfl (rd_row 3 rfl) (by omega) (by first | omega | (simp only [List.length_set]; omega)))
           ·
            intro vf pf hR
            have e8 : (vf 8) = .bool false ∧ (pf 8) = [] := hR 8 (by decide)
            have e15 : (vf 15) = elP v9 ((node).toNat * 1) ∧ (pf 15) = [] := hR 15 (by decide)
            refine Or.inl ⟨want_of (congrArg some e8.1) rfl, ?_⟩
            refine rq_less (sx 85 (congrArg some e15.1) (sub_nil _)) (List.sublist_append_right _ _) ?_
            exact rq_v (rv_loadEl (u := .int .i64 ((valsL n (stL n) (cod z0 len0 0 : Int)).getD ((node).toNat) 0)) rfl (by kernel_rfl) rfl (rd_row 3 rfl) (ints_at1 (show _ < (valsL n (stL n) (cod z0 len0 0 : Int)).length by first | omega | (simp only [List.length_set]; omega))))
           ·
            intro vf pf hR
            have e8 : (vf 8) = .bool false ∧ (pf 8) = [] := hR 8 (by decide)
            have e12 : (vf 12) = .int .i64 0 ∧ (pf 12) = [] := hR 12 (by decide)
            have e16 : (vf 16) = .int .i64 ((valsL n (stL n) (cod z0 len0 0 : Int)).getD ((node).toNat) 0) ∧ (pf 16) = [] := hR 16 (by decide)
            refine Or.inl ⟨want_of (congrArg some e8.1) rfl, ?_⟩
            refine rq_less (sx 82 (congrArg some e12.1) (sx 86 (congrArg some e16.1) (sub_nil _))) (List.sublist_append_right _ _) ?_
            exact rq_mono (rq_v (rv_cmp rfl rfl rfl rfl)) (fun _ _ h => ⟨h.1.trans (congrArg Value.bool hb26), h.2⟩)
           ·
            intro vf pf hR
            have e8 : (vf 8) = .bool false ∧ (pf 8) = [] := hR 8 (by decide)
            have e17 : (vf 17) = .bool false ∧ (pf 17) = [] := hR 17 (by decide)
            refine Or.inl ⟨rfl, ?_⟩
            refine rq_less (sx 78 (congrArg some e8.1) (sx 87 (congrArg some e17.1) (sub_nil _))) (List.sublist_append_right _ _) ?_
            exact rq_v (rv_ev rfl)
          ·
           intro vf pf hR
           have e18 : (vf 18) = .bool false ∧ (pf 18) = [] := hR 18 (by decide)
           refine hl_less (l' := [boxE b22 #[.int .i64 (((us.getD i crow0).xs).length : Int), .int .i64 (tbN (fun i7 : Nat => decide (va n ((us.getD i crow0).xs) (i7 : Int) node = 1)) (pn (((us.getD i crow0).xs).length : Int)) : Int)] 55, bigE qs, rowE 3 1 v6 ((stL n).length) ((stL n).map (Value.int .i64)), rowE 3 1 v9 ((valsL n (stL n) (cod z0 len0 0 : Int)).length) ((valsL n (stL n) (cod z0 len0 0 : Int)).map (Value.int .i64)), boxE b5 #[.int .i64 n.ins, n.sv, n.av, n.ov] 28, ntE n]) (sx 0 rfl (sx 2 rfl (sx 3 rfl (sx 4 rfl (sx 5 rfl (sx 6 rfl (sx 7 rfl (sx 8 rfl (sx 9 rfl (sx 10 rfl (sx 12 rfl (sx 30 rfl (sx 40 rfl (sx 47 rfl (sx 88 (congrArg some e18.1) (sub_nil _)))))))))))))))) (List.sublist_append_right _ _) ?_
           simp only [List.drop_succ_cons, List.drop_zero]
           refine hl_less (sx 0 rfl (sx 2 rfl (sx 3 rfl (sx 4 rfl (sx 5 rfl (sx 6 rfl (sx 7 rfl (sx 8 rfl (sx 9 rfl (sx 10 rfl (sx 12 rfl (sx 30 rfl (sx 40 rfl (sx 47 rfl (sx 88 rfl (sub_nil _)))))))))))))))) (.refl _) ?_
           refine hl_nil ?_
           refine hq_then ?_
           refine hc_false rfl ?_
           refine hc_skip ?_
           refine hq_block_normal ?_
           refine hq_then ?_
           refine hc_region ?_
           refine hl_v rfl rfl rfl (rv_ev rfl) ?_
           refine hl_v rfl rfl rfl (rv_add rfl rfl rfl (by constructor <;> omega)) ?_
           refine hl_v rfl rfl rfl (rv_ev rfl) ?_
           refine hl_less (sx 0 rfl (sx 2 rfl (sx 3 rfl (sx 4 rfl (sx 5 rfl (sx 6 rfl (sx 7 rfl (sx 8 rfl (sx 9 rfl (sx 10 rfl (sx 12 rfl (sx 30 rfl (sx 40 rfl (sx 47 rfl (sx 88 rfl (sub_nil _)))))))))))))))) (.refl _) ?_
           refine hl_nil ?_
           exact hq_round1 (i + 1) (by omega) (by omega) (sx 0 rfl (sx 2 rfl (sx 3 rfl (sx 4 rfl (sx 5 rfl (sx 6 rfl (sx 7 rfl (sx 12 rfl (sub_nil _))))))))) ((.cons _ (.cons_cons _ (.cons_cons _ (.cons_cons _ (.cons_cons _ (.cons_cons _ .slnil)))))))
   ·
    refine hl_less (sx 0 rfl (sx 2 rfl (sx 3 rfl (sx 4 rfl (sx 5 rfl (sx 6 rfl (sx 7 rfl (sx 12 rfl (sx 30 rfl (sub_nil _)))))))))) (.refl _) ?_
    refine hl_nil ?_
    refine hq_then ?_
    refine hc_false rfl ?_
    refine hc_exit ?_
    refine hq_then_exit ?_
    refine hq_then_exit ?_
    refine hq_block_exit ?_
    refine hq_then ?_
    refine hc_seq ?_
    refine hc_region ?_
    refine hl_v rfl rfl rfl (rv_ev rfl) ?_
    refine hl_v rfl rfl rfl (rv_len rfl Try.underlying40 rfl (fun w hm => (hq w (hm.holds _ (mem_at (i := 0) rfl))).row)) ?_
    refine hl_gtr rfl rfl rfl rfl rfl rfl (fun h27 => ?_) (fun h27 => ?_)
    ·
     refine hl_v rfl rfl rfl (rv_ev rfl) ?_
     refine hl_less (sx 0 rfl (sx 2 rfl (sx 3 rfl (sx 4 rfl (sx 5 rfl (sx 6 rfl (sx 7 rfl (sx 12 rfl (sx 30 rfl (sub_nil _)))))))))) (.refl _) ?_
     refine hl_nil ?_
     refine hq_then ?_
     refine hc_ret ?_
     exact hq_ans rfl rfl rfl
    ·
     refine hl_v rfl rfl rfl (rv_ev rfl) ?_
     refine hl_less (sx 0 rfl (sx 2 rfl (sx 3 rfl (sx 4 rfl (sx 5 rfl (sx 6 rfl (sx 7 rfl (sx 12 rfl (sx 30 rfl (sub_nil _)))))))))) (.refl _) ?_
     refine hl_nil ?_
     refine hq_then ?_
     refine hc_ret ?_
     exfalso
     omega
end Go.Proofs.Ytakbbebpimlnpaa
