/- Formulas: the walks of the reference's functions; drawn formulas. -/
import Derived.Test.YteccnnpcigkmhaaCnf2
set_option linter.unusedVariables false
set_option linter.unusedSimpArgs false
namespace Go.Proofs.Yteccnnpcigkmhaa
open Go.RowKit

theorem rv_to {P : Program} {N : Nat} {w0 : World} {l : List HP} {env : List (Nat × Value)} {o : Oper} {v v' : Value} (h : RunV P N w0 l env o v) (e : v = v') : RunV P N w0 l env o v' := e ▸ h
theorem mul01 {a b : Int} (ha : 0 ≤ a ∧ a < 2) (hb : 0 ≤ b ∧ b < 2) : 0 ≤ a * b ∧ a * b ≤ 1 := by
  rcases (show a = 0 ∨ a = 1 by omega) with e | e <;> rw [e] <;> omega
theorem lit_app {n : Int} {xs : List Int} {x : Int} (h : LitOk n xs) (hl : xs.length < 400) (hx : x ≠ 0 ∧ -n ≤ x ∧ x ≤ n) : LitOk n (xs ++ [x]) := ⟨by rw [List.length_append, List.length_singleton]; omega, fun i hi => by
  rw [List.length_append, List.length_singleton] at hi
  by_cases hij : i = xs.length
  · subst hij; rw [List.getD_eq_getElem?_getD, List.getElem?_append_right (by omega), Nat.sub_self]; exact hx
  · rw [List.getD_eq_getElem?_getD, List.getElem?_append_left (by omega), ← List.getD_eq_getElem?_getD]; exact h.2 i (by omega)⟩
theorem cl_app {n : Int} {rs : List CRow} {r : CRow} (h : ClOk n rs) (hl : rs.length < 1600) (hr : LitOk n r.xs) : ClOk n (rs ++ [r]) := ⟨h.n0, h.n1, by rw [List.length_append, List.length_singleton]; omega, fun i hi => by
  rw [List.length_append, List.length_singleton] at hi
  by_cases hij : i = rs.length
  · subst hij; rw [List.getD_eq_getElem?_getD, List.getElem?_append_right (by omega), Nat.sub_self]; exact hr
  · rw [List.getD_eq_getElem?_getD, List.getElem?_append_left (by omega), ← List.getD_eq_getElem?_getD]; exact h.ok i (by omega)⟩
set_option maxHeartbeats 4000000 in
set_option maxRecDepth 100000 in
theorem l21Clause_yes (n : Int) (xs : List Int) (v : Value) (w : World) (hv : RdsW w v 1 xs.length (xs.map (Value.int .i64))) (hx : LitOk n xs) (hn : 0 ≤ n ∧ n ≤ 400) :
    Calls Try.prog 66 #[.int .i64 n, v] w (Ans w (.bool true)) := by
  have hxl := hx.1
  refine calls_hc (N := 31) (args := [.int .i64 n, v]) Try.func66 rfl rfl ?_
  refine hc_less _ (sub_cons (d := 0) rfl (sub_cons (d := 1) rfl (sub_nil _))) (.refl _) ?_
  refine hc_seq ?_
  refine hc_region ?_
  refine hl_v rfl rfl rfl (rv_ev rfl) ?_
  refine hl_less (sub_cons (d := 0) rfl (sub_cons (d := 1) rfl (sub_cons (d := 4) rfl (sub_nil _)))) (.refl _) ?_
  refine hl_nil ?_
  refine hq_then ?_
  refine hc_seq ?_
  refine hc_seq ?_
  refine hc_region ?_
  refine hl_v rfl rfl rfl (rv_ev rfl) ?_
  refine hl_v rfl rfl rfl (rv_len rfl Try.underlying43 rfl (rd_old hv)) ?_
  refine hl_gtr rfl rfl rfl rfl rfl rfl (fun h1 => absurd h1 (by omega)) (fun h1 => ?_)
  refine hl_less (sub_cons (d := 0) rfl (sub_cons (d := 1) rfl (sub_cons (d := 4) rfl (sub_cons (d := 8) rfl (sub_nil _))))) (.refl _) ?_
  refine hl_nil ?_
  refine hq_then ?_
  refine hc_false rfl ?_
  refine hc_skip ?_
  refine hq_then ?_
  refine hc_seq ?_
  refine hc_seq ?_
  refine hc_region ?_
  refine hl_v rfl rfl rfl (rv_ev rfl) ?_
  refine hl_less (sub_cons (d := 0) rfl (sub_cons (d := 1) rfl (sub_cons (d := 4) rfl (sub_cons (d := 5) rfl (sub_cons (d := 8) rfl (sub_nil _)))))) (.refl _) ?_
  refine hl_nil ?_
  refine hq_then ?_
  refine hc_block ?_
  refine hc_loop1 (α := Nat) (fun j => []) (fun j => [(0, .int .i64 n), (1, v), (4, .bool false), (5, .int .i64 (j : Int)), (8, .bool false)]) (fun j => j ≤ xs.length) (fun j => xs.length - j) 0 (Nat.zero_le _) (sub_cons (d := 0) rfl (sub_cons (d := 1) rfl (sub_cons (d := 4) rfl (sub_cons (d := 5) rfl (sub_cons (d := 8) rfl (sub_nil _)))))) (.slnil) ?_
  intro j hi2
  have hj := hi2
  refine hc_seq ?_
  refine hc_seq ?_
  refine hc_region ?_
  refine hl_v rfl rfl rfl (rv_ev rfl) ?_
  refine hl_v rfl rfl rfl (rv_ev rfl) ?_
  refine hl_v rfl rfl rfl (rv_len rfl Try.underlying43 rfl (rd_old hv)) ?_
  refine hl_lss rfl rfl rfl rfl rfl rfl (fun h3 => ?_) (fun h3 => ?_)
  ·
    refine hl_less (sub_cons (d := 0) rfl (sub_cons (d := 1) rfl (sub_cons (d := 4) rfl (sub_cons (d := 5) rfl (sub_cons (d := 8) rfl (sub_cons (d := 12) rfl (sub_nil _))))))) (.refl _) ?_
    refine hl_nil ?_
    refine hq_then ?_
    refine hc_true rfl ?_
    refine hc_skip ?_
    refine hq_then ?_
    refine hc_seq ?_
    refine hc_block ?_
    refine hc_seq ?_
    refine hc_region ?_
    have hxj := hx.2 j (by omega)
    refine hl_v rfl rfl rfl (rv_ev rfl) ?_
    refine hl_v rfl rfl rfl (rv_ev rfl) ?_
    refine hl_v rfl rfl rfl (rv_index (s := 1) rfl Try.underlying43 (by kernel_rfl) rfl rfl (rd_old hv) (by omega) (by first | omega | (simp only [List.length_set]; omega))) ?_
    refine hl_v rfl rfl rfl (rv_loadEl (u := .int .i64 (xs.getD j 0)) rfl (by kernel_rfl) rfl (rd_old hv) (ints_at1 (show _ < xs.length by first | omega | (simp only [List.length_set]; omega)))) ?_
    refine hl_eql rfl rfl rfl rfl rfl rfl (fun h4 => absurd h4 (by omega)) (fun h4 => ?_)
    refine hl_v rfl rfl rfl (rv_ev rfl) ?_
    refine hl_v rfl rfl rfl (rv_ev rfl) ?_
    refine hl_v rfl rfl rfl (rv_ev rfl) ?_
    refine hl_v rfl rfl rfl (rv_index (s := 1) rfl Try.underlying43 (by kernel_rfl) rfl rfl (rd_old hv) (by omega) (by first | omega | (simp only [List.length_set]; omega))) ?_
    refine hl_v rfl rfl rfl (rv_loadEl (u := .int .i64 (xs.getD j 0)) rfl (by kernel_rfl) rfl (rd_old hv) (ints_at1 (show _ < xs.length by first | omega | (simp only [List.length_set]; omega)))) ?_
    refine hl_v rfl rfl rfl (rv_ev rfl) ?_
    refine hl_v rfl rfl rfl (rv_neg rfl rfl (by omega) (by omega)) ?_
    refine hl_v rfl rfl rfl (rv_ev rfl) ?_
    refine hl_callV rfl rfl rfl (rq_call (by kernel_rfl) rfl (fun w hm => ret_ans (l01In_yes3 (by omega) (by omega) w))) ?_
    refine hl_v rfl rfl rfl (rv_ev rfl) ?_
    refine hl_v rfl rfl rfl (rv_ev rfl) ?_
    refine hl_less (sub_cons (d := 0) rfl (sub_cons (d := 1) rfl (sub_cons (d := 4) rfl (sub_cons (d := 5) rfl (sub_cons (d := 8) rfl (sub_cons (d := 12) rfl (sub_cons (d := 30) rfl (sub_nil _)))))))) (.refl _) ?_
    refine hl_nil ?_
    refine hq_then ?_
    refine hc_false rfl ?_
    refine hc_skip ?_
    refine hq_block_normal ?_
    refine hq_then ?_
    refine hc_region ?_
    refine hl_v rfl rfl rfl (rv_ev rfl) ?_
    refine hl_v rfl rfl rfl (rv_add rfl rfl rfl (by constructor <;> omega)) ?_
    refine hl_v rfl rfl rfl (rv_ev rfl) ?_
    refine hl_less (sub_cons (d := 0) rfl (sub_cons (d := 1) rfl (sub_cons (d := 4) rfl (sub_cons (d := 5) rfl (sub_cons (d := 8) rfl (sub_cons (d := 12) rfl (sub_cons (d := 30) rfl (sub_nil _)))))))) (.refl _) ?_
    refine hl_nil ?_
    exact hq_round1 (j + 1) (by omega) (by omega) (sub_cons (d := 0) rfl (sub_cons (d := 1) rfl (sub_cons (d := 4) rfl (sub_cons (d := 5) rfl (sub_cons (d := 8) rfl (sub_nil _)))))) (.slnil)
  ·
    refine hl_less (sub_cons (d := 0) rfl (sub_cons (d := 1) rfl (sub_cons (d := 4) rfl (sub_cons (d := 5) rfl (sub_cons (d := 8) rfl (sub_cons (d := 12) rfl (sub_nil _))))))) (.refl _) ?_
    refine hl_nil ?_
    refine hq_then ?_
    refine hc_false rfl ?_
    refine hc_exit ?_
    refine hq_then_exit ?_
    refine hq_then_exit ?_
    refine hq_block_exit ?_
    refine hq_then ?_
    refine hc_seq ?_
    refine hc_region ?_
    refine hl_v rfl rfl rfl (rv_ev rfl) ?_
    refine hl_less (sub_cons (d := 0) rfl (sub_cons (d := 1) rfl (sub_cons (d := 4) rfl (sub_cons (d := 5) rfl (sub_cons (d := 8) rfl (sub_cons (d := 12) rfl (sub_nil _))))))) (.refl _) ?_
    refine hl_nil ?_
    refine hq_then ?_
    refine hc_ret ?_
    exact hq_ans rfl rfl rfl
set_option maxHeartbeats 4000000 in
set_option maxRecDepth 100000 in
theorem specCnfOk_yes (n : Int) (rs : List CRow) (v : Value) (w : World) (hr : ClOk n rs) (hv : RdsCl w v rs) :
    Calls Try.prog 50 #[.agg #[.int .i64 n, v]] w (Ans w (.bool true)) := by
  have hn0 := hr.n0
  have hn1 := hr.n1
  have hrl := hr.len
  refine calls_hc (N := 30) (args := [.agg #[.int .i64 n, v]]) Try.func50 rfl rfl ?_
  refine hc_less _ (sub_cons (d := 0) rfl (sub_nil _)) (.refl _) ?_
  refine hc_seq ?_
  refine hc_region ?_
  refine hl_box rfl rfl rfl (rq_box rfl rfl) ?_
  intro b1
  refine hl_v rfl rfl rfl (rv_ev rfl) ?_
  refine hl_less (sub_cons (d := 0) rfl (sub_cons (d := 1) rfl (sub_cons (d := 2) rfl (sub_nil _)))) (.refl _) ?_
  refine hl_nil ?_
  refine hq_then ?_
  refine hc_seq ?_
  refine hc_seq ?_
  refine hc_region ?_
  refine hl_v rfl rfl rfl (rv_field (k0 := 0) rfl (by kernel_rfl) rfl) ?_
  refine hl_v rfl rfl rfl (rv_load rfl (by kernel_rfl) rfl (box_cell 0 rfl rfl)) ?_
  refine hl_callV rfl rfl rfl (rq_call (by kernel_rfl) rfl (fun w hm => ret_ans (l01In_yes3 (by omega) (by omega) w))) ?_
  refine hl_v rfl rfl rfl (rv_ev rfl) ?_
  refine hl_v rfl rfl rfl (rv_ev rfl) ?_
  refine hl_v rfl rfl rfl (rv_field (k0 := 1) rfl (by kernel_rfl) rfl) ?_
  refine hl_v rfl rfl rfl (rv_load rfl (by kernel_rfl) rfl (box_cell 0 rfl rfl)) ?_
  refine hl_v rfl rfl rfl (rv_len rfl Try.underlying52 rfl (rd_old hv.row)) ?_
  refine hl_gtr rfl rfl rfl rfl rfl rfl (fun h2 => absurd h2 (by omega)) (fun h2 => ?_)
  refine hl_v rfl rfl rfl (rv_ev rfl) ?_
  refine hl_less (sub_cons (d := 0) rfl (sub_cons (d := 1) rfl (sub_cons (d := 2) rfl (sub_cons (d := 13) rfl (sub_nil _))))) (.refl _) ?_
  refine hl_nil ?_
  refine hq_then ?_
  refine hc_false rfl ?_
  refine hc_skip ?_
  refine hq_then ?_
  refine hc_seq ?_
  refine hc_seq ?_
  refine hc_region ?_
  refine hl_v rfl rfl rfl (rv_ev rfl) ?_
  refine hl_less (sub_cons (d := 0) rfl (sub_cons (d := 1) rfl (sub_cons (d := 2) rfl (sub_cons (d := 3) rfl (sub_cons (d := 13) rfl (sub_nil _)))))) (.refl _) ?_
  refine hl_nil ?_
  refine hq_then ?_
  refine hc_block ?_
  refine hc_loop1 (α := Nat) (fun k => [boxE b1 #[.int .i64 n, v] 54]) (fun k => [(0, .agg #[.int .i64 n, v]), (1, .pointer (some ⟨b1, 0, none⟩)), (2, .bool false), (3, .int .i64 (k : Int)), (13, .bool false)]) (fun k => k ≤ rs.length) (fun k => rs.length - k) 0 (Nat.zero_le _) (sub_cons (d := 0) rfl (sub_cons (d := 1) rfl (sub_cons (d := 2) rfl (sub_cons (d := 3) rfl (sub_cons (d := 13) rfl (sub_nil _)))))) ((.cons_cons _ .slnil)) ?_
  intro k hi3
  have hk := hi3
  refine hc_seq ?_
  refine hc_seq ?_
  refine hc_region ?_
  refine hl_v rfl rfl rfl (rv_ev rfl) ?_
  refine hl_v rfl rfl rfl (rv_field (k0 := 1) rfl (by kernel_rfl) rfl) ?_
  refine hl_v rfl rfl rfl (rv_load rfl (by kernel_rfl) rfl (box_cell 0 rfl rfl)) ?_
  refine hl_v rfl rfl rfl (rv_len rfl Try.underlying52 rfl (rd_old hv.row)) ?_
  refine hl_lss rfl rfl rfl rfl rfl rfl (fun h4 => ?_) (fun h4 => ?_)
  ·
    refine hl_less (sub_cons (d := 0) rfl (sub_cons (d := 1) rfl (sub_cons (d := 2) rfl (sub_cons (d := 3) rfl (sub_cons (d := 13) rfl (sub_cons (d := 18) rfl (sub_nil _))))))) (.refl _) ?_
    refine hl_nil ?_
    refine hq_then ?_
    refine hc_true rfl ?_
    refine hc_skip ?_
    refine hq_then ?_
    refine hc_seq ?_
    refine hc_block ?_
    refine hc_seq ?_
    refine hc_draw (by kernel_rfl) 9 [0, 1, 2, 3, 4, 5, 6, 7, 8] (List.take 9 _) (List.drop 9 _) [[], [0], [], [2], [], [3, 4], [5], [1, 6], [7]] [21, 22, 23, 24, 25, 26, 27, 28, 29] (fun i_ vs_ v_ p_ => match i_ with | 0 => v_ = .pointer (some ⟨b1, 0 + 0, none⟩) ∧ p_ = [] | 1 => v_ = .int .i64 n ∧ p_ = [] | 2 => v_ = .pointer (some ⟨b1, 0 + 1, none⟩) ∧ p_ = [] | 3 => v_ = v ∧ p_ = [] | 4 => v_ = .int .i64 (k : Int) ∧ p_ = [] | 5 => v_ = elP v (((k : Int)).toNat * 1) ∧ p_ = [] | 6 => v_ = (rs.getD k crow0).v ∧ p_ = [] | 7 => v_ = .bool true ∧ p_ = [] | 8 => v_ = .bool false ∧ p_ = [] | _ => True) (List.take_append_drop 9 _).symm (by kernel_rfl) (by kernel_rfl) rfl rfl ?_ ?_
    ·
      refine ⟨?_, ?_, ?_, ?_, ?_, ?_, ?_, ?_, ?_, trivial⟩
      ·
        intro vf pf hR
        refine Or.inl ⟨rfl, ?_⟩
        refine rq_less (l' := [boxE b1 #[.int .i64 n, v] 54]) (sub_cons (d := 1) rfl (sub_nil _)) (List.sublist_append_right _ _) ?_
        exact rq_v (rv_field (k0 := 0) rfl (by kernel_rfl) rfl)
      ·
        intro vf pf hR
        have e0 : (vf 0) = .pointer (some ⟨b1, 0 + 0, none⟩) ∧ (pf 0) = [] := hR 0 (by decide)
        refine Or.inl ⟨rfl, ?_⟩
        refine rq_less (l' := [boxE b1 #[.int .i64 n, v] 54]) (sub_cons (d := 21) (congrArg some e0.1) (sub_nil _)) (List.sublist_append_right _ _) ?_
        exact rq_v (rv_load rfl (by kernel_rfl) rfl (box_cell 0 rfl rfl))
      ·
        intro vf pf hR
        refine Or.inl ⟨rfl, ?_⟩
        refine rq_less (l' := [boxE b1 #[.int .i64 n, v] 54]) (sub_cons (d := 1) rfl (sub_nil _)) (List.sublist_append_right _ _) ?_
        exact rq_v (rv_field (k0 := 1) rfl (by kernel_rfl) rfl)
      ·
        intro vf pf hR
        have e2 : (vf 2) = .pointer (some ⟨b1, 0 + 1, none⟩) ∧ (pf 2) = [] := hR 2 (by decide)
        refine Or.inl ⟨rfl, ?_⟩
        refine rq_less (l' := [boxE b1 #[.int .i64 n, v] 54]) (sub_cons (d := 23) (congrArg some e2.1) (sub_nil _)) (List.sublist_append_right _ _) ?_
        exact rq_v (rv_load rfl (by kernel_rfl) rfl (box_cell 0 rfl rfl))
      ·
        intro vf pf hR
        refine Or.inl ⟨rfl, ?_⟩
        refine rq_less (l' := [boxE b1 #[.int .i64 n, v] 54]) (sub_cons (d := 3) rfl (sub_nil _)) (List.sublist_append_right _ _) ?_
        exact rq_v (rv_ev rfl)
      ·
        intro vf pf hR
        have e3 : (vf 3) = v ∧ (pf 3) = [] := hR 3 (by decide)
        have e4 : (vf 4) = .int .i64 (k : Int) ∧ (pf 4) = [] := hR 4 (by decide)
        refine Or.inl ⟨rfl, ?_⟩
        refine rq_less (l' := [boxE b1 #[.int .i64 n, v] 54]) (sub_cons (d := 24) (congrArg some e3.1) (sub_cons (d := 25) (congrArg some e4.1) (sub_nil _))) (List.sublist_append_right _ _) ?_
        exact rq_v (rv_index (s := 1) rfl Try.underlying52 (by kernel_rfl) rfl rfl (rd_old hv.row) (by omega) (by first | omega | (simp only [List.length_set]; omega)))
      ·
        intro vf pf hR
        have e5 : (vf 5) = elP v (((k : Int)).toNat * 1) ∧ (pf 5) = [] := hR 5 (by decide)
        refine Or.inl ⟨rfl, ?_⟩
        refine rq_less (l' := [boxE b1 #[.int .i64 n, v] 54]) (sub_cons (d := 26) (congrArg some e5.1) (sub_nil _)) (List.sublist_append_right _ _) ?_
        exact rq_v (rv_loadEl (u := (rs.getD k crow0).v) rfl (by kernel_rfl) rfl (rd_old hv.row) (flat_one crowC (fun r => r.v) (fun _ => rfl) rs crow0 (show k < _ by first | omega | (simp only [List.length_set]; omega))))
      ·
        intro vf pf hR
        have e1 : (vf 1) = .int .i64 n ∧ (pf 1) = [] := hR 1 (by decide)
        have e6 : (vf 6) = (rs.getD k crow0).v ∧ (pf 6) = [] := hR 6 (by decide)
        refine Or.inl ⟨rfl, ?_⟩
        refine rq_less (l' := [boxE b1 #[.int .i64 n, v] 54]) (sub_cons (d := 22) (congrArg some e1.1) (sub_cons (d := 27) (congrArg some e6.1) (sub_nil _))) (List.sublist_append_right _ _) ?_
        exact (rq_call (by kernel_rfl) rfl (fun w hm => ret_ans (l21Clause_yes n (rs.getD k crow0).xs _ w ((hv.at (by omega)).below hm.bel) (hr.ok k (by omega)) ⟨hn0, hn1⟩)))
      ·
        intro vf pf hR
        have e7 : (vf 7) = .bool true ∧ (pf 7) = [] := hR 7 (by decide)
        refine Or.inl ⟨rfl, ?_⟩
        refine rq_less (l' := [boxE b1 #[.int .i64 n, v] 54]) (sub_cons (d := 28) (congrArg some e7.1) (sub_nil _)) (List.sublist_append_right _ _) ?_
        exact rq_v (rv_ev rfl)
    ·
      intro vf pf hR
      have e8 : (vf 8) = .bool false ∧ (pf 8) = [] := hR 8 (by decide)
      refine hl_less (l' := [boxE b1 #[.int .i64 n, v] 54]) (sub_cons (d := 0) rfl (sub_cons (d := 1) rfl (sub_cons (d := 2) rfl (sub_cons (d := 3) rfl (sub_cons (d := 13) rfl (sub_cons (d := 18) rfl (sub_cons (d := 29) (congrArg some e8.1) (sub_nil _)))))))) (List.sublist_append_right _ _) ?_
      simp only [List.drop_succ_cons, List.drop_zero]
      refine hl_less (sub_cons (d := 0) rfl (sub_cons (d := 1) rfl (sub_cons (d := 2) rfl (sub_cons (d := 3) rfl (sub_cons (d := 13) rfl (sub_cons (d := 18) rfl (sub_cons (d := 29) rfl (sub_nil _)))))))) (.refl _) ?_
      refine hl_nil ?_
      refine hq_then ?_
      refine hc_false rfl ?_
      refine hc_skip ?_
      refine hq_block_normal ?_
      refine hq_then ?_
      refine hc_region ?_
      refine hl_v rfl rfl rfl (rv_ev rfl) ?_
      refine hl_v rfl rfl rfl (rv_add rfl rfl rfl (by constructor <;> omega)) ?_
      refine hl_v rfl rfl rfl (rv_ev rfl) ?_
      refine hl_less (sub_cons (d := 0) rfl (sub_cons (d := 1) rfl (sub_cons (d := 2) rfl (sub_cons (d := 3) rfl (sub_cons (d := 13) rfl (sub_cons (d := 18) rfl (sub_cons (d := 29) rfl (sub_nil _)))))))) (.refl _) ?_
      refine hl_nil ?_
      exact hq_round1 (k + 1) (by omega) (by omega) (sub_cons (d := 0) rfl (sub_cons (d := 1) rfl (sub_cons (d := 2) rfl (sub_cons (d := 3) rfl (sub_cons (d := 13) rfl (sub_nil _)))))) ((.cons_cons _ .slnil))
  ·
    refine hl_less (sub_cons (d := 0) rfl (sub_cons (d := 1) rfl (sub_cons (d := 2) rfl (sub_cons (d := 3) rfl (sub_cons (d := 13) rfl (sub_cons (d := 18) rfl (sub_nil _))))))) (.refl _) ?_
    refine hl_nil ?_
    refine hq_then ?_
    refine hc_false rfl ?_
    refine hc_exit ?_
    refine hq_then_exit ?_
    refine hq_then_exit ?_
    refine hq_block_exit ?_
    refine hq_then ?_
    refine hc_seq ?_
    refine hc_region ?_
    refine hl_v rfl rfl rfl (rv_ev rfl) ?_
    refine hl_less (sub_cons (d := 0) rfl (sub_cons (d := 1) rfl (sub_cons (d := 2) rfl (sub_cons (d := 3) rfl (sub_cons (d := 13) rfl (sub_cons (d := 18) rfl (sub_nil _))))))) (.refl _) ?_
    refine hl_nil ?_
    refine hq_then ?_
    refine hc_ret ?_
    exact hq_ans rfl rfl rfl
set_option maxHeartbeats 4000000 in
set_option maxRecDepth 100000 in
theorem ClauseTrue_ans (n : Int) (xs : List Int) (bs : List Bl) (v bv : Value) (w : World) (hv : RdsW w v 1 xs.length (xs.map (Value.int .i64))) (hbv : RdsW w bv 1 bs.length (bs.flatMap blC)) (hx : LitOk n xs) (hbl : (bs.length : Int) = n) (hn : n ≤ 400) :
    Calls Try.prog 51 #[v, bv] w (Ans w (.bool (clB bs xs))) := by
  have hxl := hx.1
  refine calls_hc (N := 52) (args := [v, bv]) Try.func51 rfl rfl ?_
  refine hc_less _ (sub_cons (d := 0) rfl (sub_cons (d := 1) rfl (sub_nil _))) (.refl _) ?_
  refine hc_seq ?_
  refine hc_region ?_
  refine hl_v rfl rfl rfl (rv_ev rfl) ?_
  refine hl_less (sub_cons (d := 0) rfl (sub_cons (d := 1) rfl (sub_cons (d := 4) rfl (sub_nil _)))) (.refl _) ?_
  refine hl_nil ?_
  refine hq_then ?_
  refine hc_seq ?_
  refine hc_seq ?_
  refine hc_region ?_
  refine hl_v rfl rfl rfl (rv_ev rfl) ?_
  refine hl_less (sub_cons (d := 0) rfl (sub_cons (d := 1) rfl (sub_cons (d := 4) rfl (sub_cons (d := 5) rfl (sub_nil _))))) (.refl _) ?_
  refine hl_nil ?_
  refine hq_then ?_
  refine hc_block ?_
  refine hc_loop1 (α := Nat) (fun k => []) (fun k => [(0, v), (1, bv), (4, .bool false), (5, .int .i64 (k : Int))]) (fun k => k ≤ xs.length ∧ ∀ i, i < k → litB bs (xs.getD i 0) = false) (fun k => xs.length - k) 0 ⟨by omega, fun i hi => absurd hi (by omega)⟩ (sub_cons (d := 0) rfl (sub_cons (d := 1) rfl (sub_cons (d := 4) rfl (sub_cons (d := 5) rfl (sub_nil _))))) (.slnil) ?_
  intro k hi1
  obtain ⟨hk, hno⟩ := hi1
  refine hc_seq ?_
  refine hc_seq ?_
  refine hc_region ?_
  refine hl_v rfl rfl rfl (rv_ev rfl) ?_
  refine hl_v rfl rfl rfl (rv_ev rfl) ?_
  refine hl_v rfl rfl rfl (rv_len rfl Try.underlying43 rfl (rd_old hv)) ?_
  refine hl_lss rfl rfl rfl rfl rfl rfl (fun h2 => ?_) (fun h2 => ?_)
  ·
    refine hl_less (sub_cons (d := 0) rfl (sub_cons (d := 1) rfl (sub_cons (d := 4) rfl (sub_cons (d := 5) rfl (sub_cons (d := 10) rfl (sub_nil _)))))) (.refl _) ?_
    refine hl_nil ?_
    refine hq_then ?_
    refine hc_true rfl ?_
    refine hc_skip ?_
    refine hq_then ?_
    refine hc_seq ?_
    refine hc_block ?_
    refine hc_seq ?_
    refine hc_region ?_
    refine hl_v rfl rfl rfl (rv_ev rfl) ?_
    refine hl_v rfl rfl rfl (rv_ev rfl) ?_
    refine hl_v rfl rfl rfl (rv_index (s := 1) rfl Try.underlying43 (by kernel_rfl) rfl rfl (rd_old hv) (by omega) (by first | omega | (simp only [List.length_set]; omega))) ?_
    refine hl_v rfl rfl rfl (rv_loadEl (u := .int .i64 (xs.getD k 0)) rfl (by kernel_rfl) rfl (rd_old hv) (ints_at1 (show _ < xs.length by first | omega | (simp only [List.length_set]; omega)))) ?_
    refine hl_v rfl rfl rfl (rv_ev rfl) ?_
    refine hl_less (sub_cons (d := 0) rfl (sub_cons (d := 1) rfl (sub_cons (d := 4) rfl (sub_cons (d := 5) rfl (sub_cons (d := 6) rfl (sub_cons (d := 10) rfl (sub_nil _))))))) (.refl _) ?_
    refine hl_nil ?_
    refine hq_then ?_
    refine hc_seq ?_
    refine hc_region ?_
    have hxk := hx.2 k (by omega)
    refine hl_v rfl rfl rfl (rv_ev rfl) ?_
    refine hl_gtr rfl rfl rfl rfl rfl rfl (fun h3 => ?_) (fun h3 => ?_)
    ·
      refine hl_v rfl rfl rfl (rv_ev rfl) ?_
      refine hl_v rfl rfl rfl (rv_ev rfl) ?_
      refine hl_v rfl rfl rfl (rv_ev rfl) ?_
      refine hl_v rfl rfl rfl (rv_len rfl Try.underlying55 rfl (rd_old hbv)) ?_
      refine hl_leq rfl rfl rfl rfl rfl rfl (fun h4 => ?_) (fun h4 => ?_)
      ·
        refine hl_v rfl rfl rfl (rv_ev rfl) ?_
        refine hl_v rfl rfl rfl (rv_ev rfl) ?_
        refine hl_v rfl rfl rfl (rv_ev rfl) ?_
        refine hl_v rfl rfl rfl (rv_ev rfl) ?_
        refine hl_v rfl rfl rfl (rv_sub rfl rfl rfl (by constructor <;> omega)) ?_
        refine hl_v rfl rfl rfl (rv_index (s := 1) rfl Try.underlying55 (by kernel_rfl) rfl rfl (rd_old hbv) (by omega) (by first | omega | (simp only [List.length_set]; omega))) ?_
        refine hl_v rfl rfl rfl (rv_loadEl (u := .bool ((bs.getD (((xs.getD k 0) - 1).toNat) bl0).b)) rfl (by kernel_rfl) rfl (rd_old hbv) (flat_one blC (fun r => .bool r.b) (fun _ => rfl) bs bl0 (show ((xs.getD k 0) - 1).toNat < _ by first | omega | (simp only [List.length_set]; omega)))) ?_
        refine hl_bool (fun h5 => ?_) (fun h5 => ?_)
        ·
          refine hl_v rfl rfl rfl (rv_ev rfl) ?_
          refine hl_v rfl rfl rfl (rv_ev rfl) ?_
          refine hl_skip rfl rfl rfl ?_
          refine hl_skip rfl rfl rfl ?_
          refine hl_skip rfl rfl rfl ?_
          refine hl_skip rfl rfl rfl ?_
          refine hl_skip rfl rfl rfl ?_
          refine hl_skip rfl rfl rfl ?_
          refine hl_skip rfl rfl rfl ?_
          refine hl_skip rfl rfl rfl ?_
          refine hl_skip rfl rfl rfl ?_
          refine hl_skip rfl rfl rfl ?_
          refine hl_skip rfl rfl rfl ?_
          refine hl_skip rfl rfl rfl ?_
          refine hl_skip rfl rfl rfl ?_
          refine hl_skip rfl rfl rfl ?_
          refine hl_skip rfl rfl rfl ?_
          refine hl_skip rfl rfl rfl ?_
          refine hl_skip rfl rfl rfl ?_
          refine hl_skip rfl rfl rfl ?_
          refine hl_v rfl rfl rfl (rv_ev rfl) ?_
          refine hl_less (sub_cons (d := 0) rfl (sub_cons (d := 1) rfl (sub_cons (d := 4) rfl (sub_cons (d := 5) rfl (sub_cons (d := 6) rfl (sub_cons (d := 10) rfl (sub_cons (d := 51) rfl (sub_nil _)))))))) (.refl _) ?_
          refine hl_nil ?_
          refine hq_then ?_
          refine hc_true rfl ?_
          refine hc_seq ?_
          refine hc_region ?_
          refine hl_v rfl rfl rfl (rv_ev rfl) ?_
          refine hl_less (sub_cons (d := 0) rfl (sub_cons (d := 1) rfl (sub_cons (d := 4) rfl (sub_cons (d := 5) rfl (sub_cons (d := 6) rfl (sub_cons (d := 10) rfl (sub_cons (d := 51) rfl (sub_nil _)))))))) (.refl _) ?_
          refine hl_nil ?_
          refine hq_then ?_
          refine hc_ret ?_
          refine hq_block_ret ?_
          refine hq_then_ret ?_
          refine hq_then_ret ?_
          refine hq_block_ret ?_
          refine hq_then_ret ?_
          exact hq_ans rfl rfl (congrArg _ (List.any_eq_true.2 ⟨_, getD_mem' (es := xs) (i := k) (d := 0) (by omega), (by first | (exfalso; omega) | skip; unfold litB; first | (rw [if_pos (by omega)]; assumption) | (rw [if_neg (by omega), show (bs.getD (-(xs.getD k 0) - 1).toNat bl0).b = false by assumption]; rfl))⟩).symm)
        ·
          refine hl_v rfl rfl rfl (rv_ev rfl) ?_
          refine hl_v rfl rfl rfl (rv_ev rfl) ?_
          refine hl_v rfl rfl rfl (rv_ev rfl) ?_
          refine hl_lss rfl rfl rfl rfl rfl rfl (fun h6 => ?_) (fun h6 => ?_)
          ·
            refine hl_v rfl rfl rfl (rv_ev rfl) ?_
            refine hl_v rfl rfl rfl (rv_ev rfl) ?_
            refine hl_v rfl rfl rfl (rv_ev rfl) ?_
            refine hl_v rfl rfl rfl (rv_len rfl Try.underlying55 rfl (rd_old hbv)) ?_
            refine hl_v rfl rfl rfl (rv_neg rfl rfl (by omega) (by omega)) ?_
            refine hl_geq rfl rfl rfl rfl rfl rfl (fun h7 => ?_) (fun h7 => ?_)
            ·
              refine hl_v rfl rfl rfl (rv_ev rfl) ?_
              refine hl_v rfl rfl rfl (rv_ev rfl) ?_
              refine hl_v rfl rfl rfl (rv_ev rfl) ?_
              refine hl_v rfl rfl rfl (rv_ev rfl) ?_
              refine hl_v rfl rfl rfl (rv_neg rfl rfl (by omega) (by omega)) ?_
              refine hl_v rfl rfl rfl (rv_sub rfl rfl rfl (by constructor <;> omega)) ?_
              refine hl_v rfl rfl rfl (rv_index (s := 1) rfl Try.underlying55 (by kernel_rfl) rfl rfl (rd_old hbv) (by omega) (by first | omega | (simp only [List.length_set]; omega))) ?_
              refine hl_v rfl rfl rfl (rv_loadEl (u := .bool ((bs.getD (((-(xs.getD k 0)) - 1).toNat) bl0).b)) rfl (by kernel_rfl) rfl (rd_old hbv) (flat_one blC (fun r => .bool r.b) (fun _ => rfl) bs bl0 (show ((-(xs.getD k 0)) - 1).toNat < _ by first | omega | (simp only [List.length_set]; omega)))) ?_
              refine hl_bool (fun h8 => ?_) (fun h8 => ?_)
              ·
                refine hl_v rfl rfl rfl (rv_ev rfl) ?_
                refine hl_v rfl rfl rfl (rv_ev rfl) ?_
                refine hl_v rfl rfl rfl (rv_ev rfl) ?_
                refine hl_less (sub_cons (d := 0) rfl (sub_cons (d := 1) rfl (sub_cons (d := 4) rfl (sub_cons (d := 5) rfl (sub_cons (d := 6) rfl (sub_cons (d := 10) rfl (sub_cons (d := 51) rfl (sub_nil _)))))))) (.refl _) ?_
                refine hl_nil ?_
                refine hq_then ?_
                refine hc_false rfl ?_
                refine hc_skip ?_
                refine hq_block_normal ?_
                refine hq_then ?_
                refine hc_region ?_
                refine hl_v rfl rfl rfl (rv_ev rfl) ?_
                refine hl_v rfl rfl rfl (rv_add rfl rfl rfl (by constructor <;> omega)) ?_
                refine hl_v rfl rfl rfl (rv_ev rfl) ?_
                refine hl_less (sub_cons (d := 0) rfl (sub_cons (d := 1) rfl (sub_cons (d := 4) rfl (sub_cons (d := 5) rfl (sub_cons (d := 6) rfl (sub_cons (d := 10) rfl (sub_cons (d := 51) rfl (sub_nil _)))))))) (.refl _) ?_
                refine hl_nil ?_
                have hlk : litB bs (xs.getD k 0) = false := (by first | (exfalso; omega) | skip; unfold litB; first | (rw [if_pos (by omega)]; assumption) | (rw [if_neg (by omega), show (bs.getD (-(xs.getD k 0) - 1).toNat bl0).b = true by assumption]; rfl))
                exact hq_round1 (k + 1) ⟨by omega, fun i hi => by by_cases hik : i = k; (subst hik; exact hlk); exact hno i (by omega)⟩ (by omega) (sub_cons (d := 0) rfl (sub_cons (d := 1) rfl (sub_cons (d := 4) rfl (sub_cons (d := 5) rfl (sub_nil _))))) (.slnil)
              ·
                refine hl_v rfl rfl rfl (rv_ev rfl) ?_
                refine hl_v rfl rfl rfl (rv_ev rfl) ?_
                refine hl_v rfl rfl rfl (rv_ev rfl) ?_
                refine hl_less (sub_cons (d := 0) rfl (sub_cons (d := 1) rfl (sub_cons (d := 4) rfl (sub_cons (d := 5) rfl (sub_cons (d := 6) rfl (sub_cons (d := 10) rfl (sub_cons (d := 51) rfl (sub_nil _)))))))) (.refl _) ?_
                refine hl_nil ?_
                refine hq_then ?_
                refine hc_true rfl ?_
                refine hc_seq ?_
                refine hc_region ?_
                refine hl_v rfl rfl rfl (rv_ev rfl) ?_
                refine hl_less (sub_cons (d := 0) rfl (sub_cons (d := 1) rfl (sub_cons (d := 4) rfl (sub_cons (d := 5) rfl (sub_cons (d := 6) rfl (sub_cons (d := 10) rfl (sub_cons (d := 51) rfl (sub_nil _)))))))) (.refl _) ?_
                refine hl_nil ?_
                refine hq_then ?_
                refine hc_ret ?_
                refine hq_block_ret ?_
                refine hq_then_ret ?_
                refine hq_then_ret ?_
                refine hq_block_ret ?_
                refine hq_then_ret ?_
                exact hq_ans rfl rfl (congrArg _ (List.any_eq_true.2 ⟨_, getD_mem' (es := xs) (i := k) (d := 0) (by omega), (by first | (exfalso; omega) | skip; unfold litB; first | (rw [if_pos (by omega)]; assumption) | (rw [if_neg (by omega), show (bs.getD (-(xs.getD k 0) - 1).toNat bl0).b = false by assumption]; rfl))⟩).symm)
            ·
              refine hl_v rfl rfl rfl (rv_ev rfl) ?_
              refine hl_v rfl rfl rfl (rv_ev rfl) ?_
              refine hl_skip rfl rfl rfl ?_
              refine hl_skip rfl rfl rfl ?_
              refine hl_skip rfl rfl rfl ?_
              refine hl_skip rfl rfl rfl ?_
              refine hl_skip rfl rfl rfl ?_
              refine hl_skip rfl rfl rfl ?_
              refine hl_skip rfl rfl rfl ?_
              refine hl_v rfl rfl rfl (rv_ev rfl) ?_
              refine hl_v rfl rfl rfl (rv_ev rfl) ?_
              refine hl_less (sub_cons (d := 0) rfl (sub_cons (d := 1) rfl (sub_cons (d := 4) rfl (sub_cons (d := 5) rfl (sub_cons (d := 6) rfl (sub_cons (d := 10) rfl (sub_cons (d := 51) rfl (sub_nil _)))))))) (.refl _) ?_
              refine hl_nil ?_
              refine hq_then ?_
              refine hc_false rfl ?_
              refine hc_skip ?_
              refine hq_block_normal ?_
              refine hq_then ?_
              refine hc_region ?_
              refine hl_v rfl rfl rfl (rv_ev rfl) ?_
              refine hl_v rfl rfl rfl (rv_add rfl rfl rfl (by constructor <;> omega)) ?_
              refine hl_v rfl rfl rfl (rv_ev rfl) ?_
              refine hl_less (sub_cons (d := 0) rfl (sub_cons (d := 1) rfl (sub_cons (d := 4) rfl (sub_cons (d := 5) rfl (sub_cons (d := 6) rfl (sub_cons (d := 10) rfl (sub_cons (d := 51) rfl (sub_nil _)))))))) (.refl _) ?_
              refine hl_nil ?_
              have hlk : litB bs (xs.getD k 0) = false := (by first | (exfalso; omega) | skip; unfold litB; first | (rw [if_pos (by omega)]; assumption) | (rw [if_neg (by omega), show (bs.getD (-(xs.getD k 0) - 1).toNat bl0).b = true by assumption]; rfl))
              exact hq_round1 (k + 1) ⟨by omega, fun i hi => by by_cases hik : i = k; (subst hik; exact hlk); exact hno i (by omega)⟩ (by omega) (sub_cons (d := 0) rfl (sub_cons (d := 1) rfl (sub_cons (d := 4) rfl (sub_cons (d := 5) rfl (sub_nil _))))) (.slnil)
          ·
            refine hl_v rfl rfl rfl (rv_ev rfl) ?_
            refine hl_skip rfl rfl rfl ?_
            refine hl_skip rfl rfl rfl ?_
            refine hl_skip rfl rfl rfl ?_
            refine hl_skip rfl rfl rfl ?_
            refine hl_skip rfl rfl rfl ?_
            refine hl_v rfl rfl rfl (rv_ev rfl) ?_
            refine hl_v rfl rfl rfl (rv_ev rfl) ?_
            refine hl_skip rfl rfl rfl ?_
            refine hl_skip rfl rfl rfl ?_
            refine hl_skip rfl rfl rfl ?_
            refine hl_skip rfl rfl rfl ?_
            refine hl_skip rfl rfl rfl ?_
            refine hl_skip rfl rfl rfl ?_
            refine hl_skip rfl rfl rfl ?_
            refine hl_v rfl rfl rfl (rv_ev rfl) ?_
            refine hl_v rfl rfl rfl (rv_ev rfl) ?_
            refine hl_less (sub_cons (d := 0) rfl (sub_cons (d := 1) rfl (sub_cons (d := 4) rfl (sub_cons (d := 5) rfl (sub_cons (d := 6) rfl (sub_cons (d := 10) rfl (sub_cons (d := 51) rfl (sub_nil _)))))))) (.refl _) ?_
            refine hl_nil ?_
            refine hq_then ?_
            refine hc_false rfl ?_
            refine hc_skip ?_
            refine hq_block_normal ?_
            refine hq_then ?_
            refine hc_region ?_
            refine hl_v rfl rfl rfl (rv_ev rfl) ?_
            refine hl_v rfl rfl rfl (rv_add rfl rfl rfl (by constructor <;> omega)) ?_
            refine hl_v rfl rfl rfl (rv_ev rfl) ?_
            refine hl_less (sub_cons (d := 0) rfl (sub_cons (d := 1) rfl (sub_cons (d := 4) rfl (sub_cons (d := 5) rfl (sub_cons (d := 6) rfl (sub_cons (d := 10) rfl (sub_cons (d := 51) rfl (sub_nil _)))))))) (.refl _) ?_
            refine hl_nil ?_
            have hlk : litB bs (xs.getD k 0) = false := (by first | (exfalso; omega) | skip; unfold litB; first | (rw [if_pos (by omega)]; assumption) | (rw [if_neg (by omega), show (bs.getD (-(xs.getD k 0) - 1).toNat bl0).b = true by assumption]; rfl))
            exact hq_round1 (k + 1) ⟨by omega, fun i hi => by by_cases hik : i = k; (subst hik; exact hlk); exact hno i (by omega)⟩ (by omega) (sub_cons (d := 0) rfl (sub_cons (d := 1) rfl (sub_cons (d := 4) rfl (sub_cons (d := 5) rfl (sub_nil _))))) (.slnil)
      ·
        refine hl_v rfl rfl rfl (rv_ev rfl) ?_
        refine hl_v rfl rfl rfl (rv_ev rfl) ?_
        refine hl_skip rfl rfl rfl ?_
        refine hl_skip rfl rfl rfl ?_
        refine hl_skip rfl rfl rfl ?_
        refine hl_skip rfl rfl rfl ?_
        refine hl_skip rfl rfl rfl ?_
        refine hl_v rfl rfl rfl (rv_ev rfl) ?_
        refine hl_v rfl rfl rfl (rv_ev rfl) ?_
        refine hl_v rfl rfl rfl (rv_ev rfl) ?_
        refine hl_lss rfl rfl rfl rfl rfl rfl (fun h9 => ?_) (fun h9 => ?_)
        ·
          refine hl_v rfl rfl rfl (rv_ev rfl) ?_
          refine hl_v rfl rfl rfl (rv_ev rfl) ?_
          refine hl_v rfl rfl rfl (rv_ev rfl) ?_
          refine hl_v rfl rfl rfl (rv_len rfl Try.underlying55 rfl (rd_old hbv)) ?_
          refine hl_v rfl rfl rfl (rv_neg rfl rfl (by omega) (by omega)) ?_
          refine hl_geq rfl rfl rfl rfl rfl rfl (fun h10 => ?_) (fun h10 => ?_)
          ·
            refine hl_v rfl rfl rfl (rv_ev rfl) ?_
            refine hl_v rfl rfl rfl (rv_ev rfl) ?_
            refine hl_v rfl rfl rfl (rv_ev rfl) ?_
            refine hl_v rfl rfl rfl (rv_ev rfl) ?_
            refine hl_v rfl rfl rfl (rv_neg rfl rfl (by omega) (by omega)) ?_
            refine hl_v rfl rfl rfl (rv_sub rfl rfl rfl (by constructor <;> omega)) ?_
            refine hl_v rfl rfl rfl (rv_index (s := 1) rfl Try.underlying55 (by kernel_rfl) rfl rfl (rd_old hbv) (by omega) (by first | omega | (simp only [List.length_set]; omega))) ?_
            refine hl_v rfl rfl rfl (rv_loadEl (u := .bool ((bs.getD (((-(xs.getD k 0)) - 1).toNat) bl0).b)) rfl (by kernel_rfl) rfl (rd_old hbv) (flat_one blC (fun r => .bool r.b) (fun _ => rfl) bs bl0 (show ((-(xs.getD k 0)) - 1).toNat < _ by first | omega | (simp only [List.length_set]; omega)))) ?_
            refine hl_bool (fun h11 => ?_) (fun h11 => ?_)
            ·
              refine hl_v rfl rfl rfl (rv_ev rfl) ?_
              refine hl_v rfl rfl rfl (rv_ev rfl) ?_
              refine hl_v rfl rfl rfl (rv_ev rfl) ?_
              refine hl_less (sub_cons (d := 0) rfl (sub_cons (d := 1) rfl (sub_cons (d := 4) rfl (sub_cons (d := 5) rfl (sub_cons (d := 6) rfl (sub_cons (d := 10) rfl (sub_cons (d := 51) rfl (sub_nil _)))))))) (.refl _) ?_
              refine hl_nil ?_
              refine hq_then ?_
              refine hc_false rfl ?_
              refine hc_skip ?_
              refine hq_block_normal ?_
              refine hq_then ?_
              refine hc_region ?_
              refine hl_v rfl rfl rfl (rv_ev rfl) ?_
              refine hl_v rfl rfl rfl (rv_add rfl rfl rfl (by constructor <;> omega)) ?_
              refine hl_v rfl rfl rfl (rv_ev rfl) ?_
              refine hl_less (sub_cons (d := 0) rfl (sub_cons (d := 1) rfl (sub_cons (d := 4) rfl (sub_cons (d := 5) rfl (sub_cons (d := 6) rfl (sub_cons (d := 10) rfl (sub_cons (d := 51) rfl (sub_nil _)))))))) (.refl _) ?_
              refine hl_nil ?_
              have hlk : litB bs (xs.getD k 0) = false := (by first | (exfalso; omega) | skip; unfold litB; first | (rw [if_pos (by omega)]; assumption) | (rw [if_neg (by omega), show (bs.getD (-(xs.getD k 0) - 1).toNat bl0).b = true by assumption]; rfl))
              exact hq_round1 (k + 1) ⟨by omega, fun i hi => by by_cases hik : i = k; (subst hik; exact hlk); exact hno i (by omega)⟩ (by omega) (sub_cons (d := 0) rfl (sub_cons (d := 1) rfl (sub_cons (d := 4) rfl (sub_cons (d := 5) rfl (sub_nil _))))) (.slnil)
            ·
              refine hl_v rfl rfl rfl (rv_ev rfl) ?_
              refine hl_v rfl rfl rfl (rv_ev rfl) ?_
              refine hl_v rfl rfl rfl (rv_ev rfl) ?_
              refine hl_less (sub_cons (d := 0) rfl (sub_cons (d := 1) rfl (sub_cons (d := 4) rfl (sub_cons (d := 5) rfl (sub_cons (d := 6) rfl (sub_cons (d := 10) rfl (sub_cons (d := 51) rfl (sub_nil _)))))))) (.refl _) ?_
              refine hl_nil ?_
              refine hq_then ?_
              refine hc_true rfl ?_
              refine hc_seq ?_
              refine hc_region ?_
              refine hl_v rfl rfl rfl (rv_ev rfl) ?_
              refine hl_less (sub_cons (d := 0) rfl (sub_cons (d := 1) rfl (sub_cons (d := 4) rfl (sub_cons (d := 5) rfl (sub_cons (d := 6) rfl (sub_cons (d := 10) rfl (sub_cons (d := 51) rfl (sub_nil _)))))))) (.refl _) ?_
              refine hl_nil ?_
              refine hq_then ?_
              refine hc_ret ?_
              refine hq_block_ret ?_
              refine hq_then_ret ?_
              refine hq_then_ret ?_
              refine hq_block_ret ?_
              refine hq_then_ret ?_
              exact hq_ans rfl rfl (congrArg _ (List.any_eq_true.2 ⟨_, getD_mem' (es := xs) (i := k) (d := 0) (by omega), (by first | (exfalso; omega) | skip; unfold litB; first | (rw [if_pos (by omega)]; assumption) | (rw [if_neg (by omega), show (bs.getD (-(xs.getD k 0) - 1).toNat bl0).b = false by assumption]; rfl))⟩).symm)
          ·
            refine hl_v rfl rfl rfl (rv_ev rfl) ?_
            refine hl_v rfl rfl rfl (rv_ev rfl) ?_
            refine hl_skip rfl rfl rfl ?_
            refine hl_skip rfl rfl rfl ?_
            refine hl_skip rfl rfl rfl ?_
            refine hl_skip rfl rfl rfl ?_
            refine hl_skip rfl rfl rfl ?_
            refine hl_skip rfl rfl rfl ?_
            refine hl_skip rfl rfl rfl ?_
            refine hl_v rfl rfl rfl (rv_ev rfl) ?_
            refine hl_v rfl rfl rfl (rv_ev rfl) ?_
            refine hl_less (sub_cons (d := 0) rfl (sub_cons (d := 1) rfl (sub_cons (d := 4) rfl (sub_cons (d := 5) rfl (sub_cons (d := 6) rfl (sub_cons (d := 10) rfl (sub_cons (d := 51) rfl (sub_nil _)))))))) (.refl _) ?_
            refine hl_nil ?_
            refine hq_then ?_
            refine hc_false rfl ?_
            refine hc_skip ?_
            refine hq_block_normal ?_
            refine hq_then ?_
            refine hc_region ?_
            refine hl_v rfl rfl rfl (rv_ev rfl) ?_
            refine hl_v rfl rfl rfl (rv_add rfl rfl rfl (by constructor <;> omega)) ?_
            refine hl_v rfl rfl rfl (rv_ev rfl) ?_
            refine hl_less (sub_cons (d := 0) rfl (sub_cons (d := 1) rfl (sub_cons (d := 4) rfl (sub_cons (d := 5) rfl (sub_cons (d := 6) rfl (sub_cons (d := 10) rfl (sub_cons (d := 51) rfl (sub_nil _)))))))) (.refl _) ?_
            refine hl_nil ?_
            have hlk : litB bs (xs.getD k 0) = false := (by first | (exfalso; omega) | skip; unfold litB; first | (rw [if_pos (by omega)]; assumption) | (rw [if_neg (by omega), show (bs.getD (-(xs.getD k 0) - 1).toNat bl0).b = true by assumption]; rfl))
            exact hq_round1 (k + 1) ⟨by omega, fun i hi => by by_cases hik : i = k; (subst hik; exact hlk); exact hno i (by omega)⟩ (by omega) (sub_cons (d := 0) rfl (sub_cons (d := 1) rfl (sub_cons (d := 4) rfl (sub_cons (d := 5) rfl (sub_nil _))))) (.slnil)
        ·
          refine hl_v rfl rfl rfl (rv_ev rfl) ?_
          refine hl_skip rfl rfl rfl ?_
          refine hl_skip rfl rfl rfl ?_
          refine hl_skip rfl rfl rfl ?_
          refine hl_skip rfl rfl rfl ?_
          refine hl_skip rfl rfl rfl ?_
          refine hl_v rfl rfl rfl (rv_ev rfl) ?_
          refine hl_v rfl rfl rfl (rv_ev rfl) ?_
          refine hl_skip rfl rfl rfl ?_
          refine hl_skip rfl rfl rfl ?_
          refine hl_skip rfl rfl rfl ?_
          refine hl_skip rfl rfl rfl ?_
          refine hl_skip rfl rfl rfl ?_
          refine hl_skip rfl rfl rfl ?_
          refine hl_skip rfl rfl rfl ?_
          refine hl_v rfl rfl rfl (rv_ev rfl) ?_
          refine hl_v rfl rfl rfl (rv_ev rfl) ?_
          refine hl_less (sub_cons (d := 0) rfl (sub_cons (d := 1) rfl (sub_cons (d := 4) rfl (sub_cons (d := 5) rfl (sub_cons (d := 6) rfl (sub_cons (d := 10) rfl (sub_cons (d := 51) rfl (sub_nil _)))))))) (.refl _) ?_
          refine hl_nil ?_
          refine hq_then ?_
          refine hc_false rfl ?_
          refine hc_skip ?_
          refine hq_block_normal ?_
          refine hq_then ?_
          refine hc_region ?_
          refine hl_v rfl rfl rfl (rv_ev rfl) ?_
          refine hl_v rfl rfl rfl (rv_add rfl rfl rfl (by constructor <;> omega)) ?_
          refine hl_v rfl rfl rfl (rv_ev rfl) ?_
          refine hl_less (sub_cons (d := 0) rfl (sub_cons (d := 1) rfl (sub_cons (d := 4) rfl (sub_cons (d := 5) rfl (sub_cons (d := 6) rfl (sub_cons (d := 10) rfl (sub_cons (d := 51) rfl (sub_nil _)))))))) (.refl _) ?_
          refine hl_nil ?_
          have hlk : litB bs (xs.getD k 0) = false := (by first | (exfalso; omega) | skip; unfold litB; first | (rw [if_pos (by omega)]; assumption) | (rw [if_neg (by omega), show (bs.getD (-(xs.getD k 0) - 1).toNat bl0).b = true by assumption]; rfl))
          exact hq_round1 (k + 1) ⟨by omega, fun i hi => by by_cases hik : i = k; (subst hik; exact hlk); exact hno i (by omega)⟩ (by omega) (sub_cons (d := 0) rfl (sub_cons (d := 1) rfl (sub_cons (d := 4) rfl (sub_cons (d := 5) rfl (sub_nil _))))) (.slnil)
    ·
      refine hl_v rfl rfl rfl (rv_ev rfl) ?_
      refine hl_skip rfl rfl rfl ?_
      refine hl_skip rfl rfl rfl ?_
      refine hl_skip rfl rfl rfl ?_
      refine hl_skip rfl rfl rfl ?_
      refine hl_v rfl rfl rfl (rv_ev rfl) ?_
      refine hl_v rfl rfl rfl (rv_ev rfl) ?_
      refine hl_skip rfl rfl rfl ?_
      refine hl_skip rfl rfl rfl ?_
      refine hl_skip rfl rfl rfl ?_
      refine hl_skip rfl rfl rfl ?_
      refine hl_skip rfl rfl rfl ?_
      refine hl_v rfl rfl rfl (rv_ev rfl) ?_
      refine hl_v rfl rfl rfl (rv_ev rfl) ?_
      refine hl_v rfl rfl rfl (rv_ev rfl) ?_
      refine hl_lss rfl rfl rfl rfl rfl rfl (fun h12 => ?_) (fun h12 => ?_)
      ·
        refine hl_v rfl rfl rfl (rv_ev rfl) ?_
        refine hl_v rfl rfl rfl (rv_ev rfl) ?_
        refine hl_v rfl rfl rfl (rv_ev rfl) ?_
        refine hl_v rfl rfl rfl (rv_len rfl Try.underlying55 rfl (rd_old hbv)) ?_
        refine hl_v rfl rfl rfl (rv_neg rfl rfl (by omega) (by omega)) ?_
        refine hl_geq rfl rfl rfl rfl rfl rfl (fun h13 => ?_) (fun h13 => ?_)
        ·
          refine hl_v rfl rfl rfl (rv_ev rfl) ?_
          refine hl_v rfl rfl rfl (rv_ev rfl) ?_
          refine hl_v rfl rfl rfl (rv_ev rfl) ?_
          refine hl_v rfl rfl rfl (rv_ev rfl) ?_
          refine hl_v rfl rfl rfl (rv_neg rfl rfl (by omega) (by omega)) ?_
          refine hl_v rfl rfl rfl (rv_sub rfl rfl rfl (by constructor <;> omega)) ?_
          refine hl_v rfl rfl rfl (rv_index (s := 1) rfl Try.underlying55 (by kernel_rfl) rfl rfl (rd_old hbv) (by omega) (by first | omega | (simp only [List.length_set]; omega))) ?_
          refine hl_v rfl rfl rfl (rv_loadEl (u := .bool ((bs.getD (((-(xs.getD k 0)) - 1).toNat) bl0).b)) rfl (by kernel_rfl) rfl (rd_old hbv) (flat_one blC (fun r => .bool r.b) (fun _ => rfl) bs bl0 (show ((-(xs.getD k 0)) - 1).toNat < _ by first | omega | (simp only [List.length_set]; omega)))) ?_
          refine hl_bool (fun h14 => ?_) (fun h14 => ?_)
          ·
            refine hl_v rfl rfl rfl (rv_ev rfl) ?_
            refine hl_v rfl rfl rfl (rv_ev rfl) ?_
            refine hl_v rfl rfl rfl (rv_ev rfl) ?_
            refine hl_less (sub_cons (d := 0) rfl (sub_cons (d := 1) rfl (sub_cons (d := 4) rfl (sub_cons (d := 5) rfl (sub_cons (d := 6) rfl (sub_cons (d := 10) rfl (sub_cons (d := 51) rfl (sub_nil _)))))))) (.refl _) ?_
            refine hl_nil ?_
            refine hq_then ?_
            refine hc_false rfl ?_
            refine hc_skip ?_
            refine hq_block_normal ?_
            refine hq_then ?_
            refine hc_region ?_
            refine hl_v rfl rfl rfl (rv_ev rfl) ?_
            refine hl_v rfl rfl rfl (rv_add rfl rfl rfl (by constructor <;> omega)) ?_
            refine hl_v rfl rfl rfl (rv_ev rfl) ?_
            refine hl_less (sub_cons (d := 0) rfl (sub_cons (d := 1) rfl (sub_cons (d := 4) rfl (sub_cons (d := 5) rfl (sub_cons (d := 6) rfl (sub_cons (d := 10) rfl (sub_cons (d := 51) rfl (sub_nil _)))))))) (.refl _) ?_
            refine hl_nil ?_
            have hlk : litB bs (xs.getD k 0) = false := (by first | (exfalso; omega) | skip; unfold litB; first | (rw [if_pos (by omega)]; assumption) | (rw [if_neg (by omega), show (bs.getD (-(xs.getD k 0) - 1).toNat bl0).b = true by assumption]; rfl))
            exact hq_round1 (k + 1) ⟨by omega, fun i hi => by by_cases hik : i = k; (subst hik; exact hlk); exact hno i (by omega)⟩ (by omega) (sub_cons (d := 0) rfl (sub_cons (d := 1) rfl (sub_cons (d := 4) rfl (sub_cons (d := 5) rfl (sub_nil _))))) (.slnil)
          ·
            refine hl_v rfl rfl rfl (rv_ev rfl) ?_
            refine hl_v rfl rfl rfl (rv_ev rfl) ?_
            refine hl_v rfl rfl rfl (rv_ev rfl) ?_
            refine hl_less (sub_cons (d := 0) rfl (sub_cons (d := 1) rfl (sub_cons (d := 4) rfl (sub_cons (d := 5) rfl (sub_cons (d := 6) rfl (sub_cons (d := 10) rfl (sub_cons (d := 51) rfl (sub_nil _)))))))) (.refl _) ?_
            refine hl_nil ?_
            refine hq_then ?_
            refine hc_true rfl ?_
            refine hc_seq ?_
            refine hc_region ?_
            refine hl_v rfl rfl rfl (rv_ev rfl) ?_
            refine hl_less (sub_cons (d := 0) rfl (sub_cons (d := 1) rfl (sub_cons (d := 4) rfl (sub_cons (d := 5) rfl (sub_cons (d := 6) rfl (sub_cons (d := 10) rfl (sub_cons (d := 51) rfl (sub_nil _)))))))) (.refl _) ?_
            refine hl_nil ?_
            refine hq_then ?_
            refine hc_ret ?_
            refine hq_block_ret ?_
            refine hq_then_ret ?_
            refine hq_then_ret ?_
            refine hq_block_ret ?_
            refine hq_then_ret ?_
            exact hq_ans rfl rfl (congrArg _ (List.any_eq_true.2 ⟨_, getD_mem' (es := xs) (i := k) (d := 0) (by omega), (by first | (exfalso; omega) | skip; unfold litB; first | (rw [if_pos (by omega)]; assumption) | (rw [if_neg (by omega), show (bs.getD (-(xs.getD k 0) - 1).toNat bl0).b = false by assumption]; rfl))⟩).symm)
        ·
          refine hl_v rfl rfl rfl (rv_ev rfl) ?_
          refine hl_v rfl rfl rfl (rv_ev rfl) ?_
          refine hl_skip rfl rfl rfl ?_
          refine hl_skip rfl rfl rfl ?_
          refine hl_skip rfl rfl rfl ?_
          refine hl_skip rfl rfl rfl ?_
          refine hl_skip rfl rfl rfl ?_
          refine hl_skip rfl rfl rfl ?_
          refine hl_skip rfl rfl rfl ?_
          refine hl_v rfl rfl rfl (rv_ev rfl) ?_
          refine hl_v rfl rfl rfl (rv_ev rfl) ?_
          refine hl_less (sub_cons (d := 0) rfl (sub_cons (d := 1) rfl (sub_cons (d := 4) rfl (sub_cons (d := 5) rfl (sub_cons (d := 6) rfl (sub_cons (d := 10) rfl (sub_cons (d := 51) rfl (sub_nil _)))))))) (.refl _) ?_
          refine hl_nil ?_
          refine hq_then ?_
          refine hc_false rfl ?_
          refine hc_skip ?_
          refine hq_block_normal ?_
          refine hq_then ?_
          refine hc_region ?_
          refine hl_v rfl rfl rfl (rv_ev rfl) ?_
          refine hl_v rfl rfl rfl (rv_add rfl rfl rfl (by constructor <;> omega)) ?_
          refine hl_v rfl rfl rfl (rv_ev rfl) ?_
          refine hl_less (sub_cons (d := 0) rfl (sub_cons (d := 1) rfl (sub_cons (d := 4) rfl (sub_cons (d := 5) rfl (sub_cons (d := 6) rfl (sub_cons (d := 10) rfl (sub_cons (d := 51) rfl (sub_nil _)))))))) (.refl _) ?_
          refine hl_nil ?_
          have hlk : litB bs (xs.getD k 0) = false := (by first | (exfalso; omega) | skip; unfold litB; first | (rw [if_pos (by omega)]; assumption) | (rw [if_neg (by omega), show (bs.getD (-(xs.getD k 0) - 1).toNat bl0).b = true by assumption]; rfl))
          exact hq_round1 (k + 1) ⟨by omega, fun i hi => by by_cases hik : i = k; (subst hik; exact hlk); exact hno i (by omega)⟩ (by omega) (sub_cons (d := 0) rfl (sub_cons (d := 1) rfl (sub_cons (d := 4) rfl (sub_cons (d := 5) rfl (sub_nil _))))) (.slnil)
      ·
        refine hl_v rfl rfl rfl (rv_ev rfl) ?_
        refine hl_skip rfl rfl rfl ?_
        refine hl_skip rfl rfl rfl ?_
        refine hl_skip rfl rfl rfl ?_
        refine hl_skip rfl rfl rfl ?_
        refine hl_skip rfl rfl rfl ?_
        refine hl_v rfl rfl rfl (rv_ev rfl) ?_
        refine hl_v rfl rfl rfl (rv_ev rfl) ?_
        refine hl_skip rfl rfl rfl ?_
        refine hl_skip rfl rfl rfl ?_
        refine hl_skip rfl rfl rfl ?_
        refine hl_skip rfl rfl rfl ?_
        refine hl_skip rfl rfl rfl ?_
        refine hl_skip rfl rfl rfl ?_
        refine hl_skip rfl rfl rfl ?_
        refine hl_v rfl rfl rfl (rv_ev rfl) ?_
        refine hl_v rfl rfl rfl (rv_ev rfl) ?_
        refine hl_less (sub_cons (d := 0) rfl (sub_cons (d := 1) rfl (sub_cons (d := 4) rfl (sub_cons (d := 5) rfl (sub_cons (d := 6) rfl (sub_cons (d := 10) rfl (sub_cons (d := 51) rfl (sub_nil _)))))))) (.refl _) ?_
        refine hl_nil ?_
        refine hq_then ?_
        refine hc_false rfl ?_
        refine hc_skip ?_
        refine hq_block_normal ?_
        refine hq_then ?_
        refine hc_region ?_
        refine hl_v rfl rfl rfl (rv_ev rfl) ?_
        refine hl_v rfl rfl rfl (rv_add rfl rfl rfl (by constructor <;> omega)) ?_
        refine hl_v rfl rfl rfl (rv_ev rfl) ?_
        refine hl_less (sub_cons (d := 0) rfl (sub_cons (d := 1) rfl (sub_cons (d := 4) rfl (sub_cons (d := 5) rfl (sub_cons (d := 6) rfl (sub_cons (d := 10) rfl (sub_cons (d := 51) rfl (sub_nil _)))))))) (.refl _) ?_
        refine hl_nil ?_
        have hlk : litB bs (xs.getD k 0) = false := (by first | (exfalso; omega) | skip; unfold litB; first | (rw [if_pos (by omega)]; assumption) | (rw [if_neg (by omega), show (bs.getD (-(xs.getD k 0) - 1).toNat bl0).b = true by assumption]; rfl))
        exact hq_round1 (k + 1) ⟨by omega, fun i hi => by by_cases hik : i = k; (subst hik; exact hlk); exact hno i (by omega)⟩ (by omega) (sub_cons (d := 0) rfl (sub_cons (d := 1) rfl (sub_cons (d := 4) rfl (sub_cons (d := 5) rfl (sub_nil _))))) (.slnil)
  ·
    refine hl_less (sub_cons (d := 0) rfl (sub_cons (d := 1) rfl (sub_cons (d := 4) rfl (sub_cons (d := 5) rfl (sub_cons (d := 10) rfl (sub_nil _)))))) (.refl _) ?_
    refine hl_nil ?_
    refine hq_then ?_
    refine hc_false rfl ?_
    refine hc_exit ?_
    refine hq_then_exit ?_
    refine hq_then_exit ?_
    refine hq_block_exit ?_
    refine hq_then ?_
    refine hc_seq ?_
    refine hc_region ?_
    refine hl_v rfl rfl rfl (rv_ev rfl) ?_
    refine hl_less (sub_cons (d := 0) rfl (sub_cons (d := 1) rfl (sub_cons (d := 4) rfl (sub_cons (d := 5) rfl (sub_cons (d := 10) rfl (sub_nil _)))))) (.refl _) ?_
    refine hl_nil ?_
    refine hq_then ?_
    refine hc_ret ?_
    exact hq_ans rfl rfl (congrArg _ (Bool.eq_false_iff.2 (fun h => by obtain ⟨x, hx2, hl⟩ := List.any_eq_true.1 h; obtain ⟨i, hi, rfl⟩ := List.mem_iff_getElem.1 hx2; have := hno i (by omega); rw [List.getD_eq_getElem?_getD, List.getElem?_eq_getElem hi] at this; rw [Option.getD_some, hl] at this; cases this)).symm)
set_option maxHeartbeats 4000000 in
set_option maxRecDepth 100000 in
theorem CnfTrue_ans (n : Int) (rs : List CRow) (v : Value) (bs : List Bl) (bv : Value) (w : World) (hr : ClOk n rs) (hv : RdsCl w v rs) (hbv : RdsW w bv 1 bs.length (bs.flatMap blC)) (hbl : (bs.length : Int) = n) :
    Calls Try.prog 25 #[.agg #[.int .i64 n, v], bv] w (Ans w (.bool (cnfB bs rs))) := by
  have hn0 := hr.n0
  have hn1 := hr.n1
  have hrl := hr.len
  refine calls_hc (N := 31) (args := [.agg #[.int .i64 n, v], bv]) Try.func25 rfl rfl ?_
  refine hc_less _ (sub_cons (d := 0) rfl (sub_cons (d := 1) rfl (sub_nil _))) (.refl _) ?_
  refine hc_seq ?_
  refine hc_region ?_
  refine hl_box rfl rfl rfl (rq_box rfl rfl) ?_
  intro b1
  refine hl_v rfl rfl rfl (rv_ev rfl) ?_
  refine hl_less (sub_cons (d := 0) rfl (sub_cons (d := 1) rfl (sub_cons (d := 2) rfl (sub_cons (d := 4) rfl (sub_nil _))))) (.refl _) ?_
  refine hl_nil ?_
  refine hq_then ?_
  refine hc_seq ?_
  refine hc_seq ?_
  refine hc_region ?_
  refine hl_v rfl rfl rfl (rv_loadN (cs := [.int .i64 n, v]) rfl (by kernel_rfl) (by kernel_rfl) rfl rfl (box_part 0 rfl 0 rfl)) ?_
  refine hl_callV rfl rfl rfl (rq_call (by kernel_rfl) rfl (fun w hm => ret_ans (specCnfOk_yes n rs v w hr (hv.below hm.bel)))) ?_
  refine hl_v rfl rfl rfl (rv_ev rfl) ?_
  refine hl_v rfl rfl rfl (rv_ev rfl) ?_
  refine hl_v rfl rfl rfl (rv_ev rfl) ?_
  refine hl_v rfl rfl rfl (rv_len rfl Try.underlying55 rfl (rd_old hbv)) ?_
  refine hl_v rfl rfl rfl (rv_field (k0 := 0) rfl (by kernel_rfl) rfl) ?_
  refine hl_v rfl rfl rfl (rv_load rfl (by kernel_rfl) rfl (box_cell 0 rfl rfl)) ?_
  refine hl_neq rfl rfl rfl rfl rfl rfl (fun h2 => absurd h2 (by omega)) (fun h2 => ?_)
  refine hl_v rfl rfl rfl (rv_ev rfl) ?_
  refine hl_less (sub_cons (d := 0) rfl (sub_cons (d := 1) rfl (sub_cons (d := 2) rfl (sub_cons (d := 4) rfl (sub_cons (d := 15) rfl (sub_nil _)))))) (.refl _) ?_
  refine hl_nil ?_
  refine hq_then ?_
  refine hc_false rfl ?_
  refine hc_skip ?_
  refine hq_then ?_
  refine hc_seq ?_
  refine hc_seq ?_
  refine hc_region ?_
  refine hl_v rfl rfl rfl (rv_ev rfl) ?_
  refine hl_less (sub_cons (d := 0) rfl (sub_cons (d := 1) rfl (sub_cons (d := 2) rfl (sub_cons (d := 4) rfl (sub_cons (d := 5) rfl (sub_cons (d := 15) rfl (sub_nil _))))))) (.refl _) ?_
  refine hl_nil ?_
  refine hq_then ?_
  refine hc_block ?_
  refine hc_loop1 (α := Nat) (fun k => [boxE b1 #[.int .i64 n, v] 54]) (fun k => [(0, .agg #[.int .i64 n, v]), (1, bv), (2, .pointer (some ⟨b1, 0, none⟩)), (4, .bool false), (5, .int .i64 (k : Int)), (15, .bool false)]) (fun k => k ≤ rs.length ∧ ∀ i, i < k → clB bs (rs.getD i crow0).xs = true) (fun k => rs.length - k) 0 ⟨by omega, fun i hi => absurd hi (by omega)⟩ (sub_cons (d := 0) rfl (sub_cons (d := 1) rfl (sub_cons (d := 2) rfl (sub_cons (d := 4) rfl (sub_cons (d := 5) rfl (sub_cons (d := 15) rfl (sub_nil _))))))) ((.cons_cons _ .slnil)) ?_
  intro k hi3
  obtain ⟨hk, hyes⟩ := hi3
  refine hc_seq ?_
  refine hc_seq ?_
  refine hc_region ?_
  refine hl_v rfl rfl rfl (rv_ev rfl) ?_
  refine hl_v rfl rfl rfl (rv_field (k0 := 1) rfl (by kernel_rfl) rfl) ?_
  refine hl_v rfl rfl rfl (rv_load rfl (by kernel_rfl) rfl (box_cell 0 rfl rfl)) ?_
  refine hl_v rfl rfl rfl (rv_len rfl Try.underlying52 rfl (rd_old hv.row)) ?_
  refine hl_lss rfl rfl rfl rfl rfl rfl (fun h4 => ?_) (fun h4 => ?_)
  ·
    refine hl_less (sub_cons (d := 0) rfl (sub_cons (d := 1) rfl (sub_cons (d := 2) rfl (sub_cons (d := 4) rfl (sub_cons (d := 5) rfl (sub_cons (d := 15) rfl (sub_cons (d := 20) rfl (sub_nil _)))))))) (.refl _) ?_
    refine hl_nil ?_
    refine hq_then ?_
    refine hc_true rfl ?_
    refine hc_skip ?_
    refine hq_then ?_
    refine hc_seq ?_
    refine hc_block ?_
    refine hc_seq ?_
    refine hc_region ?_
    refine hl_v rfl rfl rfl (rv_field (k0 := 1) rfl (by kernel_rfl) rfl) ?_
    refine hl_v rfl rfl rfl (rv_load rfl (by kernel_rfl) rfl (box_cell 0 rfl rfl)) ?_
    refine hl_v rfl rfl rfl (rv_ev rfl) ?_
    refine hl_v rfl rfl rfl (rv_index (s := 1) rfl Try.underlying52 (by kernel_rfl) rfl rfl (rd_old hv.row) (by omega) (by first | omega | (simp only [List.length_set]; omega))) ?_
    refine hl_v rfl rfl rfl (rv_loadEl (u := (rs.getD k crow0).v) rfl (by kernel_rfl) rfl (rd_old hv.row) (flat_one crowC (fun r => r.v) (fun _ => rfl) rs crow0 (show k < _ by first | omega | (simp only [List.length_set]; omega)))) ?_
    refine hl_v rfl rfl rfl (rv_ev rfl) ?_
    refine hl_callV rfl rfl rfl (rq_call (by kernel_rfl) rfl (fun w hm => ret_ans (ClauseTrue_ans n (rs.getD k crow0).xs bs _ bv w ((hv.at (by omega)).below hm.bel) (hbv.below hm.bel) (hr.ok k (by omega)) hbl hn1))) ?_
    refine hl_bool (fun h5 => ?_) (fun h5 => ?_)
    ·
      refine hl_v rfl rfl rfl (rv_ev rfl) ?_
      refine hl_less (sub_cons (d := 0) rfl (sub_cons (d := 1) rfl (sub_cons (d := 2) rfl (sub_cons (d := 4) rfl (sub_cons (d := 5) rfl (sub_cons (d := 15) rfl (sub_cons (d := 20) rfl (sub_cons (d := 30) rfl (sub_nil _))))))))) (.refl _) ?_
      refine hl_nil ?_
      refine hq_then ?_
      refine hc_false rfl ?_
      refine hc_skip ?_
      refine hq_block_normal ?_
      refine hq_then ?_
      refine hc_region ?_
      refine hl_v rfl rfl rfl (rv_ev rfl) ?_
      refine hl_v rfl rfl rfl (rv_add rfl rfl rfl (by constructor <;> omega)) ?_
      refine hl_v rfl rfl rfl (rv_ev rfl) ?_
      refine hl_less (sub_cons (d := 0) rfl (sub_cons (d := 1) rfl (sub_cons (d := 2) rfl (sub_cons (d := 4) rfl (sub_cons (d := 5) rfl (sub_cons (d := 15) rfl (sub_cons (d := 20) rfl (sub_cons (d := 30) rfl (sub_nil _))))))))) (.refl _) ?_
      refine hl_nil ?_
      exact hq_round1 (k + 1) ⟨by omega, fun i hi => by by_cases hik : i = k; (subst hik; assumption); exact hyes i (by omega)⟩ (by omega) (sub_cons (d := 0) rfl (sub_cons (d := 1) rfl (sub_cons (d := 2) rfl (sub_cons (d := 4) rfl (sub_cons (d := 5) rfl (sub_cons (d := 15) rfl (sub_nil _))))))) ((.cons_cons _ .slnil))
    ·
      refine hl_v rfl rfl rfl (rv_ev rfl) ?_
      refine hl_less (sub_cons (d := 0) rfl (sub_cons (d := 1) rfl (sub_cons (d := 2) rfl (sub_cons (d := 4) rfl (sub_cons (d := 5) rfl (sub_cons (d := 15) rfl (sub_cons (d := 20) rfl (sub_cons (d := 30) rfl (sub_nil _))))))))) (.refl _) ?_
      refine hl_nil ?_
      refine hq_then ?_
      refine hc_true rfl ?_
      refine hc_seq ?_
      refine hc_region ?_
      refine hl_v rfl rfl rfl (rv_ev rfl) ?_
      refine hl_less (sub_cons (d := 0) rfl (sub_cons (d := 1) rfl (sub_cons (d := 2) rfl (sub_cons (d := 4) rfl (sub_cons (d := 5) rfl (sub_cons (d := 15) rfl (sub_cons (d := 20) rfl (sub_cons (d := 30) rfl (sub_nil _))))))))) (.refl _) ?_
      refine hl_nil ?_
      refine hq_then ?_
      refine hc_ret ?_
      refine hq_block_ret ?_
      refine hq_then_ret ?_
      refine hq_then_ret ?_
      refine hq_block_ret ?_
      refine hq_then_ret ?_
      exact hq_ans rfl rfl (congrArg _ (Bool.eq_false_iff.2 (fun h => by have h2 := List.all_eq_true.1 h _ (getD_mem' (es := rs) (i := k) (d := crow0) (by omega)); rw [show clB bs (rs.getD k crow0).xs = false by assumption] at h2; cases h2)).symm)
  ·
    refine hl_less (sub_cons (d := 0) rfl (sub_cons (d := 1) rfl (sub_cons (d := 2) rfl (sub_cons (d := 4) rfl (sub_cons (d := 5) rfl (sub_cons (d := 15) rfl (sub_cons (d := 20) rfl (sub_nil _)))))))) (.refl _) ?_
    refine hl_nil ?_
    refine hq_then ?_
    refine hc_false rfl ?_
    refine hc_exit ?_
    refine hq_then_exit ?_
    refine hq_then_exit ?_
    refine hq_block_exit ?_
    refine hq_then ?_
    refine hc_seq ?_
    refine hc_region ?_
    refine hl_v rfl rfl rfl (rv_ev rfl) ?_
    refine hl_less (sub_cons (d := 0) rfl (sub_cons (d := 1) rfl (sub_cons (d := 2) rfl (sub_cons (d := 4) rfl (sub_cons (d := 5) rfl (sub_cons (d := 15) rfl (sub_cons (d := 20) rfl (sub_nil _)))))))) (.refl _) ?_
    refine hl_nil ?_
    refine hq_then ?_
    refine hc_ret ?_
    exact hq_ans rfl rfl (congrArg _ (List.all_eq_true.2 (fun r hr2 => by obtain ⟨i, hi, rfl⟩ := List.mem_iff_getElem.1 hr2; have := hyes i (by omega); rwa [List.getD_eq_getElem?_getD, List.getElem?_eq_getElem hi] at this)).symm)
set_option maxHeartbeats 4000000 in
set_option maxRecDepth 100000 in
theorem l21Clauses_mut (g : Nat) (a : Option Addr) (len cap : Nat) (z : List Int) (n cnt : Int) (w0 : World) (l : List HP) (w : World) (hm0 : Mem w0 (curE g a len cap :: l) w) (hb : BRow .u8 w0 a len cap z) (hn : 1 ≤ n ∧ n ≤ 6) (hc : 0 ≤ cnt ∧ cnt ≤ 15) :
    Calls Try.prog 62 #[.pointer (some ⟨g, 0, none⟩), .int .i64 n, .int .i64 cnt] w (fun e_ w_ => ∃ v_ p_, e_ = .returned v_ ∧ (fun u_ p_ => ∃ rs : List CRow, p_ = bigE [curE g a len cap, clE u_ rs] ∧ ClOk n rs ∧ (rs.length : Int) ≤ cnt) v_ p_ ∧ Mem w0 (p_ :: l) w_) := by
  refine calls_hcM (N := 56) (args := [.pointer (some ⟨g, 0, none⟩), .int .i64 n, .int .i64 cnt]) Try.func62 rfl rfl hm0 ?_
  refine hc_less _ (sub_cons (d := 0) rfl (sub_cons (d := 1) rfl (sub_cons (d := 2) rfl (sub_nil _)))) (.refl _) ?_
  refine hc_seq ?_
  refine hc_region ?_
  refine hl_v rfl rfl rfl (rv_ev rfl) ?_
  refine hl_less (sub_cons (d := 0) rfl (sub_cons (d := 1) rfl (sub_cons (d := 2) rfl (sub_cons (d := 6) rfl (sub_nil _))))) (.refl _) ?_
  refine hl_nil ?_
  refine hq_then ?_
  refine hc_seq ?_
  refine hc_region ?_
  refine hl_row rfl rfl rfl (rq_slice0 (s := 1) rfl Try.underlying52 (by kernel_rfl)) ?_
  intro g1
  refine hl_v rfl rfl rfl (rv_ev rfl) ?_
  refine hl_less (sub_cons (d := 0) rfl (sub_cons (d := 1) rfl (sub_cons (d := 2) rfl (sub_cons (d := 6) rfl (sub_cons (d := 7) rfl (sub_nil _)))))) (.refl _) ?_
  refine hl_nil ?_
  refine hq_then ?_
  refine hc_seq ?_
  refine hc_seq ?_
  refine hc_region ?_
  refine hl_v rfl rfl rfl (rv_ev rfl) ?_
  refine hl_less (sub_cons (d := 0) rfl (sub_cons (d := 1) rfl (sub_cons (d := 2) rfl (sub_cons (d := 6) rfl (sub_cons (d := 7) rfl (sub_cons (d := 8) rfl (sub_nil _))))))) (.refl _) ?_
  refine hl_nil ?_
  refine hq_then ?_
  refine hc_block ?_
  refine hc_conv (bigE ([] : List HP) :: rowE 43 1 (.slice (some ⟨g1, 0, none⟩) 0 0) 0 ([]) :: curE g a len cap :: l) (fun w hm => Mem.big (ps := []) hm) ?_
  refine hc_loop3 (α := Nat) (β := Value) (γ := List CRow) (fun i u rs => (bigE (rs.map cPart) :: rowE 43 1 u rs.length (rs.flatMap crowC) :: curE g a len cap :: l)) (fun i u rs => [(0, .pointer (some ⟨g, 0, none⟩)), (1, .int .i64 n), (2, .int .i64 cnt), (6, .slice none 0 0), (7, u), (8, .int .i64 (i : Int))]) (fun i u rs => (i : Int) ≤ cnt ∧ rs.length ≤ i ∧ ClOk n rs) (fun i u rs => cnt.toNat - i) 0 _ [] ⟨by omega, by simp, ⟨by omega, by omega, by simp, fun k hk => absurd hk (by simp)⟩⟩ (sub_cons (d := 0) rfl (sub_cons (d := 1) rfl (sub_cons (d := 2) rfl (sub_cons (d := 6) rfl (sub_cons (d := 7) rfl (sub_cons (d := 8) rfl (sub_nil _))))))) ((.cons_cons _ (.cons_cons _ (.cons_cons _ (.refl _))))) ?_
  intro i u rs hi2
  obtain ⟨hi, hrl, hr⟩ := hi2
  refine hc_seq ?_
  refine hc_seq ?_
  refine hc_region ?_
  refine hl_v rfl rfl rfl (rv_ev rfl) ?_
  refine hl_v rfl rfl rfl (rv_ev rfl) ?_
  refine hl_lss rfl rfl rfl rfl rfl rfl (fun h3 => ?_) (fun h3 => ?_)
  ·
    refine hl_less (sub_cons (d := 0) rfl (sub_cons (d := 1) rfl (sub_cons (d := 2) rfl (sub_cons (d := 6) rfl (sub_cons (d := 7) rfl (sub_cons (d := 8) rfl (sub_cons (d := 15) rfl (sub_nil _)))))))) (.refl _) ?_
    refine hl_nil ?_
    refine hq_then ?_
    refine hc_true rfl ?_
    refine hc_skip ?_
    refine hq_then ?_
    refine hc_seq ?_
    refine hc_block ?_
    refine hc_seq ?_
    refine hc_region ?_
    refine hl_row rfl rfl rfl (rq_slice0 (s := 1) rfl Try.underlying43 (by kernel_rfl)) ?_
    intro g4
    refine hl_v rfl rfl rfl (rv_ev rfl) ?_
    refine hl_less (sub_cons (d := 0) rfl (sub_cons (d := 1) rfl (sub_cons (d := 2) rfl (sub_cons (d := 6) rfl (sub_cons (d := 7) rfl (sub_cons (d := 8) rfl (sub_cons (d := 9) rfl (sub_cons (d := 15) rfl (sub_nil _))))))))) (.refl _) ?_
    refine hl_nil ?_
    refine hq_then ?_
    refine hc_seq ?_
    refine hc_seq ?_
    refine hc_region ?_
    refine hl_v rfl rfl rfl (rv_ev rfl) ?_
    refine hl_callM (R := (fun u_ p_ => (∃ x_ : Int, u_ = .int .i64 x_ ∧ 0 ≤ x_ ∧ x_ < 4) ∧ p_ = curE g a len cap)) 3 rfl rfl (by kernel_rfl) rfl rfl (fun l' w hm => belowN_mut g a len cap z 4 _ _ _ hm hb (by constructor <;> omega)) ?_
    intro v5 p6 hR7
    obtain ⟨⟨xhR7, rfl, xhR70, xhR71⟩, rfl⟩ := hR7
    refine hl_eqL (l' := (rowE 3 1 (.slice (some ⟨g4, 0, none⟩) 0 0) 0 ([]) :: bigE (rs.map cPart) :: rowE 43 1 u rs.length (rs.flatMap crowC) :: curE g a len cap :: l)) rfl ?_
    refine hl_v rfl rfl rfl (rv_ev rfl) ?_
    refine hl_callM (R := (fun u_ p_ => (∃ x_ : Int, u_ = .int .i64 x_ ∧ 0 ≤ x_ ∧ x_ < 2) ∧ p_ = curE g a len cap)) 3 rfl rfl (by kernel_rfl) rfl rfl (fun l' w hm => belowN_mut g a len cap z 2 _ _ _ hm hb (by constructor <;> omega)) ?_
    intro v8 p9 hR10
    obtain ⟨⟨xhR10, rfl, xhR100, xhR101⟩, rfl⟩ := hR10
    refine hl_eqL (l' := (rowE 3 1 (.slice (some ⟨g4, 0, none⟩) 0 0) 0 ([]) :: bigE (rs.map cPart) :: rowE 43 1 u rs.length (rs.flatMap crowC) :: curE g a len cap :: l)) rfl ?_
    refine hl_v rfl rfl rfl (rv_ev rfl) ?_
    refine hl_callM (R := (fun u_ p_ => (∃ x_ : Int, u_ = .int .i64 x_ ∧ 0 ≤ x_ ∧ x_ < 2) ∧ p_ = curE g a len cap)) 3 rfl rfl (by kernel_rfl) rfl rfl (fun l' w hm => belowN_mut g a len cap z 2 _ _ _ hm hb (by constructor <;> omega)) ?_
    intro v11 p12 hR13
    obtain ⟨⟨xhR13, rfl, xhR130, xhR131⟩, rfl⟩ := hR13
    refine hl_eqL (l' := (rowE 3 1 (.slice (some ⟨g4, 0, none⟩) 0 0) 0 ([]) :: bigE (rs.map cPart) :: rowE 43 1 u rs.length (rs.flatMap crowC) :: curE g a len cap :: l)) rfl ?_
    refine hl_v rfl rfl rfl (rv_mul rfl rfl rfl (by have := mul01 (a := xhR10) (b := xhR13) (by omega) (by omega); constructor <;> omega)) ?_
    have hpr := mul01 (a := xhR10) (b := xhR13) (by omega) (by omega)
    refine hl_v rfl rfl rfl (rv_add rfl rfl rfl (by constructor <;> omega)) ?_
    refine hl_v rfl rfl rfl (rv_ev rfl) ?_
    refine hl_less (sub_cons (d := 0) rfl (sub_cons (d := 1) rfl (sub_cons (d := 2) rfl (sub_cons (d := 6) rfl (sub_cons (d := 7) rfl (sub_cons (d := 8) rfl (sub_cons (d := 9) rfl (sub_cons (d := 10) rfl (sub_cons (d := 15) rfl (sub_nil _)))))))))) (.refl _) ?_
    refine hl_nil ?_
    refine hq_then ?_
    refine hc_block ?_
    refine hc_loop3 (α := Int) (β := Value) (γ := List Int) (fun k u2 xs => (rowE 3 1 u2 xs.length (xs.map (Value.int .i64)) :: bigE (rs.map cPart) :: rowE 43 1 u rs.length (rs.flatMap crowC) :: curE g a len cap :: l)) (fun k u2 xs => [(0, .pointer (some ⟨g, 0, none⟩)), (1, .int .i64 n), (2, .int .i64 cnt), (6, .slice none 0 0), (7, u), (8, .int .i64 (i : Int)), (9, u2), (10, .int .i64 k), (15, .bool true)]) (fun k u2 xs => (0 ≤ k ∧ k ≤ 5) ∧ (xs.length : Int) + k ≤ 5 ∧ LitOk n xs) (fun k u2 xs => k.toNat) _ _ [] ⟨by omega, by simp; omega, ⟨by simp, fun q hq => absurd hq (by simp)⟩⟩ (sub_cons (d := 0) rfl (sub_cons (d := 1) rfl (sub_cons (d := 2) rfl (sub_cons (d := 6) rfl (sub_cons (d := 7) rfl (sub_cons (d := 8) rfl (sub_cons (d := 9) rfl (sub_cons (d := 10) rfl (sub_cons (d := 15) rfl (sub_nil _)))))))))) ((.cons_cons _ (.cons_cons _ (.cons_cons _ (.cons_cons _ (.refl _)))))) ?_
    intro k u2 xs hi14
    obtain ⟨⟨hk0, hk1⟩, hxl, hxs⟩ := hi14
    refine hc_seq ?_
    refine hc_seq ?_
    refine hc_region ?_
    refine hl_v rfl rfl rfl (rv_ev rfl) ?_
    refine hl_gtr rfl rfl rfl rfl rfl rfl (fun h15 => ?_) (fun h15 => ?_)
    ·
      refine hl_less (sub_cons (d := 0) rfl (sub_cons (d := 1) rfl (sub_cons (d := 2) rfl (sub_cons (d := 6) rfl (sub_cons (d := 7) rfl (sub_cons (d := 8) rfl (sub_cons (d := 9) rfl (sub_cons (d := 10) rfl (sub_cons (d := 15) rfl (sub_cons (d := 28) rfl (sub_nil _))))))))))) (.refl _) ?_
      refine hl_nil ?_
      refine hq_then ?_
      refine hc_true rfl ?_
      refine hc_skip ?_
      refine hq_then ?_
      refine hc_seq ?_
      refine hc_block ?_
      refine hc_seq ?_
      refine hc_region ?_
      refine hl_v rfl rfl rfl (rv_ev rfl) ?_
      refine hl_v rfl rfl rfl (rv_ev rfl) ?_
      refine hl_v rfl rfl rfl (rv_to (rv_max rfl rfl rfl) (show Value.int .i64 (if (1 : Int) < n then n else 1) = .int .i64 n by split <;> congr 1; omega)) ?_
      refine hl_callM (R := (fun u_ p_ => (∃ x_ : Int, u_ = .int .i64 x_ ∧ 0 ≤ x_ ∧ x_ < n) ∧ p_ = curE g a len cap)) 3 rfl rfl (by kernel_rfl) rfl rfl (fun l' w hm => belowN_mut g a len cap z n _ _ _ hm hb (by constructor <;> omega)) ?_
      intro v16 p17 hR18
      obtain ⟨⟨xhR18, rfl, xhR180, xhR181⟩, rfl⟩ := hR18
      refine hl_eqL (l' := (rowE 3 1 u2 xs.length (xs.map (Value.int .i64)) :: bigE (rs.map cPart) :: rowE 43 1 u rs.length (rs.flatMap crowC) :: curE g a len cap :: l)) rfl ?_
      refine hl_v rfl rfl rfl (rv_add rfl rfl rfl (by constructor <;> omega)) ?_
      refine hl_v rfl rfl rfl (rv_ev rfl) ?_
      refine hl_less (sub_cons (d := 0) rfl (sub_cons (d := 1) rfl (sub_cons (d := 2) rfl (sub_cons (d := 6) rfl (sub_cons (d := 7) rfl (sub_cons (d := 8) rfl (sub_cons (d := 9) rfl (sub_cons (d := 10) rfl (sub_cons (d := 11) rfl (sub_cons (d := 15) rfl (sub_cons (d := 28) rfl (sub_nil _)))))))))))) (.refl _) ?_
      refine hl_nil ?_
      refine hq_then ?_
      refine hc_meet1 (α := Int) (fun y => (rowE 3 1 u2 xs.length (xs.map (Value.int .i64)) :: bigE (rs.map cPart) :: rowE 43 1 u rs.length (rs.flatMap crowC) :: curE g a len cap :: l)) (fun y => [(0, .pointer (some ⟨g, 0, none⟩)), (1, .int .i64 n), (2, .int .i64 cnt), (6, .slice none 0 0), (7, u), (8, .int .i64 (i : Int)), (9, u2), (10, .int .i64 k), (11, .int .i64 y), (15, .bool true), (28, .bool true)]) (fun y => y ≠ 0 ∧ -n ≤ y ∧ y ≤ n) ?_ ?_
      ·
        refine hc_seq ?_
        refine hc_region ?_
        refine hl_v rfl rfl rfl (rv_ev rfl) ?_
        refine hl_callM (R := (fun u_ p_ => (∃ b : Bool, u_ = .bool b) ∧ p_ = curE g a len cap)) 3 rfl rfl (by kernel_rfl) rfl rfl (fun l' w hm => once_mut hm hb (2) (by omega) (by omega)) ?_
        intro v19 p20 hR21
        obtain ⟨⟨xhR21, rfl⟩, rfl⟩ := hR21
        refine hl_eqL (l' := (rowE 3 1 u2 xs.length (xs.map (Value.int .i64)) :: bigE (rs.map cPart) :: rowE 43 1 u rs.length (rs.flatMap crowC) :: curE g a len cap :: l)) rfl ?_
        refine hl_bool (fun h22 => ?_) (fun h22 => ?_)
        ·
          refine hl_less (sub_cons (d := 0) rfl (sub_cons (d := 1) rfl (sub_cons (d := 2) rfl (sub_cons (d := 6) rfl (sub_cons (d := 7) rfl (sub_cons (d := 8) rfl (sub_cons (d := 9) rfl (sub_cons (d := 10) rfl (sub_cons (d := 11) rfl (sub_cons (d := 15) rfl (sub_cons (d := 28) rfl (sub_cons (d := 37) rfl (sub_nil _))))))))))))) (.refl _) ?_
          refine hl_nil ?_
          refine hq_then ?_
          refine hc_true rfl ?_
          refine hc_region ?_
          refine hl_v rfl rfl rfl (rv_ev rfl) ?_
          refine hl_v rfl rfl rfl (rv_neg rfl rfl (by omega) (by omega)) ?_
          refine hl_v rfl rfl rfl (rv_ev rfl) ?_
          refine hl_less (sub_cons (d := 0) rfl (sub_cons (d := 1) rfl (sub_cons (d := 2) rfl (sub_cons (d := 6) rfl (sub_cons (d := 7) rfl (sub_cons (d := 8) rfl (sub_cons (d := 9) rfl (sub_cons (d := 10) rfl (sub_cons (d := 11) rfl (sub_cons (d := 15) rfl (sub_cons (d := 28) rfl (sub_cons (d := 37) rfl (sub_nil _))))))))))))) (.refl _) ?_
          refine hl_nil ?_
          exact hq_meet1 (-(1 + xhR18)) (by omega) (sub_cons (d := 0) rfl (sub_cons (d := 1) rfl (sub_cons (d := 2) rfl (sub_cons (d := 6) rfl (sub_cons (d := 7) rfl (sub_cons (d := 8) rfl (sub_cons (d := 9) rfl (sub_cons (d := 10) rfl (sub_cons (d := 11) rfl (sub_cons (d := 15) rfl (sub_cons (d := 28) rfl (sub_nil _)))))))))))) ((.cons_cons _ (.cons_cons _ (.cons_cons _ (.cons_cons _ (.refl _))))))
        ·
          refine hl_less (sub_cons (d := 0) rfl (sub_cons (d := 1) rfl (sub_cons (d := 2) rfl (sub_cons (d := 6) rfl (sub_cons (d := 7) rfl (sub_cons (d := 8) rfl (sub_cons (d := 9) rfl (sub_cons (d := 10) rfl (sub_cons (d := 11) rfl (sub_cons (d := 15) rfl (sub_cons (d := 28) rfl (sub_cons (d := 37) rfl (sub_nil _))))))))))))) (.refl _) ?_
          refine hl_nil ?_
          refine hq_then ?_
          refine hc_false rfl ?_
          refine hc_skip ?_
          exact hq_meet1 (1 + xhR18) (by omega) (sub_cons (d := 0) rfl (sub_cons (d := 1) rfl (sub_cons (d := 2) rfl (sub_cons (d := 6) rfl (sub_cons (d := 7) rfl (sub_cons (d := 8) rfl (sub_cons (d := 9) rfl (sub_cons (d := 10) rfl (sub_cons (d := 11) rfl (sub_cons (d := 15) rfl (sub_cons (d := 28) rfl (sub_nil _)))))))))))) ((.cons_cons _ (.cons_cons _ (.cons_cons _ (.cons_cons _ (.refl _))))))
      intro y hm23
      have hy := hm23
      refine hc_region ?_
      refine hl_v rfl rfl rfl (rv_ev rfl) ?_
      refine hl_v rfl rfl rfl (rv_ev rfl) ?_
      refine hl_row rfl rfl rfl (rq_buildSlice (z := .int .i64 0) (s := 1) (cs := ([y].map (Value.int .i64))) rfl Try.underlying43 (by kernel_rfl) (by decide) rfl (by kernel_rfl) rfl) ?_
      intro g24
      refine hl_append (i := 1) (z := .int .i64 0) (bytes := 8) (n' := (xs ++ ([y])).length) (xs' := ((xs ++ ([y])).map (Value.int .i64))) (L := fun v25 => (rowE 3 1 (.slice (some ⟨g24, 0, none⟩) 1 1) 1 ([y].map (Value.int .i64)) :: rowE 3 1 v25 ((xs ++ ([y])).length) ((xs ++ ([y])).map (Value.int .i64)) :: bigE (rs.map cPart) :: rowE 43 1 u rs.length (rs.flatMap crowC) :: curE g a len cap :: l)) rfl rfl rfl rfl Try.underlying43 (by kernel_rfl) (by kernel_rfl) rfl rfl rfl (rd_row 0 rfl) (ints_one _) (by first | omega | (simp; omega)) (len_app xs ([y])) (ints_app xs ([y])) (fun _ => rfl) ?_
      intro v25
      refine hl_v rfl rfl rfl (rv_ev rfl) ?_
      refine hl_less (sub_cons (d := 0) rfl (sub_cons (d := 1) rfl (sub_cons (d := 2) rfl (sub_cons (d := 6) rfl (sub_cons (d := 7) rfl (sub_cons (d := 8) rfl (sub_cons (d := 9) rfl (sub_cons (d := 10) rfl (sub_cons (d := 11) rfl (sub_cons (d := 15) rfl (sub_cons (d := 28) rfl (sub_nil _)))))))))))) (.refl _) ?_
      refine hl_nil ?_
      refine hq_block_normal ?_
      refine hq_then ?_
      refine hc_region ?_
      refine hl_v rfl rfl rfl (rv_ev rfl) ?_
      refine hl_v rfl rfl rfl (rv_sub rfl rfl rfl (by constructor <;> omega)) ?_
      refine hl_v rfl rfl rfl (rv_ev rfl) ?_
      refine hl_less (sub_cons (d := 0) rfl (sub_cons (d := 1) rfl (sub_cons (d := 2) rfl (sub_cons (d := 6) rfl (sub_cons (d := 7) rfl (sub_cons (d := 8) rfl (sub_cons (d := 9) rfl (sub_cons (d := 10) rfl (sub_cons (d := 11) rfl (sub_cons (d := 15) rfl (sub_cons (d := 28) rfl (sub_nil _)))))))))))) (.refl _) ?_
      refine hl_nil ?_
      exact hq_round3 (k - 1) v25 (xs ++ ([y])) ⟨by omega, by rw [List.length_append, List.length_singleton]; omega, lit_app hxs (by omega) (by omega)⟩ (by omega) (sub_cons (d := 0) rfl (sub_cons (d := 1) rfl (sub_cons (d := 2) rfl (sub_cons (d := 6) rfl (sub_cons (d := 7) rfl (sub_cons (d := 8) rfl (sub_cons (d := 9) rfl (sub_cons (d := 10) rfl (sub_cons (d := 15) rfl (sub_nil _)))))))))) ((.cons _ (.cons_cons _ (.cons_cons _ (.cons_cons _ (.cons_cons _ (.refl _)))))))
    ·
      refine hl_less (sub_cons (d := 0) rfl (sub_cons (d := 1) rfl (sub_cons (d := 2) rfl (sub_cons (d := 6) rfl (sub_cons (d := 7) rfl (sub_cons (d := 8) rfl (sub_cons (d := 9) rfl (sub_cons (d := 10) rfl (sub_cons (d := 15) rfl (sub_cons (d := 28) rfl (sub_nil _))))))))))) (.refl _) ?_
      refine hl_nil ?_
      refine hq_then ?_
      refine hc_false rfl ?_
      refine hc_exit ?_
      refine hq_then_exit ?_
      refine hq_then_exit ?_
      refine hq_block_exit ?_
      refine hq_then ?_
      refine hc_seq ?_
      refine hc_region ?_
      refine hl_v rfl rfl rfl (rv_ev rfl) ?_
      refine hl_v rfl rfl rfl (rv_len rfl Try.underlying43 rfl (rd_row 0 rfl)) ?_
      refine hl_gtr rfl rfl rfl rfl rfl rfl (fun h26 => ?_) (fun h26 => ?_)
      ·
        refine hl_v rfl rfl rfl (rv_ev rfl) ?_
        refine hl_skip rfl rfl rfl ?_
        refine hl_skip rfl rfl rfl ?_
        refine hl_v rfl rfl rfl (rv_ev rfl) ?_
        refine hl_less (sub_cons (d := 0) rfl (sub_cons (d := 1) rfl (sub_cons (d := 2) rfl (sub_cons (d := 6) rfl (sub_cons (d := 7) rfl (sub_cons (d := 8) rfl (sub_cons (d := 9) rfl (sub_cons (d := 10) rfl (sub_cons (d := 15) rfl (sub_cons (d := 28) rfl (sub_cons (d := 50) rfl (sub_nil _)))))))))))) (.refl _) ?_
        refine hl_nil ?_
        refine hq_then ?_
        refine hc_true rfl ?_
        refine hc_region ?_
        refine hl_one (i := 0) rfl (fun hone => ?_)
        refine hl_v rfl rfl rfl (rv_ev rfl) ?_
        refine hl_v rfl rfl rfl (rv_ev rfl) ?_
        refine hl_row rfl rfl rfl (rq_buildSlice1 rfl Try.underlying52 (by kernel_rfl) rfl hone) ?_
        intro g27
        refine hl_append (i := 3) (z := .slice none 0 0) (bytes := 24) (n' := (rs ++ [CRow.mk u2 xs]).length) (xs' := ((rs ++ [CRow.mk u2 xs]).flatMap crowC)) (L := fun v28 => (rowE 43 1 (.slice (some ⟨g27, 0, none⟩) 1 1) 1 ([u2]) :: rowE 3 1 u2 xs.length (xs.map (Value.int .i64)) :: bigE (rs.map cPart) :: rowE 43 1 v28 ((rs ++ [CRow.mk u2 xs]).length) ((rs ++ [CRow.mk u2 xs]).flatMap crowC) :: curE g a len cap :: l)) rfl rfl rfl rfl Try.underlying52 (by kernel_rfl) (by kernel_rfl) rfl rfl rfl (rd_row 0 rfl) (all_cons hone all_nil) (by first | omega | (simp only [List.length_append, List.length_cons, List.length_nil]; omega)) (len_app rs [CRow.mk u2 xs]) (flat_app1 crowC rs (CRow.mk u2 xs) _ rfl) (fun _ => rfl) ?_
        intro v28
        refine hl_v rfl rfl rfl (rv_ev rfl) ?_
        refine hl_less (sub_cons (d := 0) rfl (sub_cons (d := 1) rfl (sub_cons (d := 2) rfl (sub_cons (d := 6) rfl (sub_cons (d := 7) rfl (sub_cons (d := 8) rfl (sub_cons (d := 9) rfl (sub_cons (d := 10) rfl (sub_cons (d := 15) rfl (sub_cons (d := 28) rfl (sub_cons (d := 50) rfl (sub_nil _)))))))))))) (.refl _) ?_
        refine hl_nil ?_
        refine hq_block_normal ?_
        refine hq_then ?_
        refine hc_region ?_
        refine hl_v rfl rfl rfl (rv_ev rfl) ?_
        refine hl_v rfl rfl rfl (rv_add rfl rfl rfl (by constructor <;> omega)) ?_
        refine hl_v rfl rfl rfl (rv_ev rfl) ?_
        refine hl_less (sub_cons (d := 0) rfl (sub_cons (d := 1) rfl (sub_cons (d := 2) rfl (sub_cons (d := 6) rfl (sub_cons (d := 7) rfl (sub_cons (d := 8) rfl (sub_cons (d := 9) rfl (sub_cons (d := 10) rfl (sub_cons (d := 15) rfl (sub_cons (d := 28) rfl (sub_cons (d := 50) rfl (sub_nil _)))))))))))) (.refl _) ?_
        refine hl_nil ?_
        refine hq_conv (bigE (rs.map cPart) :: rowE 3 1 u2 xs.length (xs.map (Value.int .i64)) :: rowE 43 1 (.slice (some ⟨g27, 0, none⟩) 1 1) 1 ([u2]) :: rowE 43 1 v28 ((rs ++ [CRow.mk u2 xs]).length) ((rs ++ [CRow.mk u2 xs]).flatMap crowC) :: curE g a len cap :: l) (conv_pick (src := [rowE 43 1 (.slice (some ⟨g27, 0, none⟩) 1 1) 1 ([u2]), rowE 3 1 u2 xs.length (xs.map (Value.int .i64)), bigE (rs.map cPart), rowE 43 1 v28 ((rs ++ [CRow.mk u2 xs]).length) ((rs ++ [CRow.mk u2 xs]).flatMap crowC), curE g a len cap]) (dst := [bigE (rs.map cPart), rowE 3 1 u2 xs.length (xs.map (Value.int .i64)), rowE 43 1 (.slice (some ⟨g27, 0, none⟩) 1 1) 1 ([u2]), rowE 43 1 v28 ((rs ++ [CRow.mk u2 xs]).length) ((rs ++ [CRow.mk u2 xs]).flatMap crowC), curE g a len cap]) (l := l) [2, 1, 0, 3, 4] (by decide) rfl) ?_
        refine hq_conv (bigE ((rs ++ [CRow.mk u2 xs]).map cPart) :: rowE 43 1 (.slice (some ⟨g27, 0, none⟩) 1 1) 1 ([u2]) :: rowE 43 1 v28 ((rs ++ [CRow.mk u2 xs]).length) ((rs ++ [CRow.mk u2 xs]).flatMap crowC) :: curE g a len cap :: l) (fun w hm => by rw [List.map_append]; exact conv_snoc w hm) ?_
        exact hq_round3 (i + 1) v28 (rs ++ [CRow.mk u2 xs]) ⟨by omega, by rw [List.length_append, List.length_singleton]; omega, cl_app hr (by omega) hxs⟩ (by omega) (sub_cons (d := 0) rfl (sub_cons (d := 1) rfl (sub_cons (d := 2) rfl (sub_cons (d := 6) rfl (sub_cons (d := 7) rfl (sub_cons (d := 8) rfl (sub_nil _))))))) ((.cons_cons _ (.cons _ (.cons_cons _ (.cons_cons _ (.refl _))))))
      ·
        refine hl_v rfl rfl rfl (rv_ev rfl) ?_
        refine hl_v rfl rfl rfl (rv_ev rfl) ?_
        refine hl_callM (R := (fun u_ p_ => (∃ b : Bool, u_ = .bool b) ∧ p_ = curE g a len cap)) 3 rfl rfl (by kernel_rfl) rfl rfl (fun l' w hm => once_mut hm hb (12) (by omega) (by omega)) ?_
        intro v29 p30 hR31
        obtain ⟨⟨xhR31, rfl⟩, rfl⟩ := hR31
        refine hl_eqL (l' := (rowE 3 1 u2 xs.length (xs.map (Value.int .i64)) :: bigE (rs.map cPart) :: rowE 43 1 u rs.length (rs.flatMap crowC) :: curE g a len cap :: l)) rfl ?_
        refine hl_bool (fun h32 => ?_) (fun h32 => ?_)
        ·
          refine hl_v rfl rfl rfl (rv_ev rfl) ?_
          refine hl_less (sub_cons (d := 0) rfl (sub_cons (d := 1) rfl (sub_cons (d := 2) rfl (sub_cons (d := 6) rfl (sub_cons (d := 7) rfl (sub_cons (d := 8) rfl (sub_cons (d := 9) rfl (sub_cons (d := 10) rfl (sub_cons (d := 15) rfl (sub_cons (d := 28) rfl (sub_cons (d := 50) rfl (sub_nil _)))))))))))) (.refl _) ?_
          refine hl_nil ?_
          refine hq_then ?_
          refine hc_true rfl ?_
          refine hc_region ?_
          refine hl_one (i := 0) rfl (fun hone => ?_)
          refine hl_v rfl rfl rfl (rv_ev rfl) ?_
          refine hl_v rfl rfl rfl (rv_ev rfl) ?_
          refine hl_row rfl rfl rfl (rq_buildSlice1 rfl Try.underlying52 (by kernel_rfl) rfl hone) ?_
          intro g33
          refine hl_append (i := 3) (z := .slice none 0 0) (bytes := 24) (n' := (rs ++ [CRow.mk u2 xs]).length) (xs' := ((rs ++ [CRow.mk u2 xs]).flatMap crowC)) (L := fun v34 => (rowE 43 1 (.slice (some ⟨g33, 0, none⟩) 1 1) 1 ([u2]) :: rowE 3 1 u2 xs.length (xs.map (Value.int .i64)) :: bigE (rs.map cPart) :: rowE 43 1 v34 ((rs ++ [CRow.mk u2 xs]).length) ((rs ++ [CRow.mk u2 xs]).flatMap crowC) :: curE g a len cap :: l)) rfl rfl rfl rfl Try.underlying52 (by kernel_rfl) (by kernel_rfl) rfl rfl rfl (rd_row 0 rfl) (all_cons hone all_nil) (by first | omega | (simp only [List.length_append, List.length_cons, List.length_nil]; omega)) (len_app rs [CRow.mk u2 xs]) (flat_app1 crowC rs (CRow.mk u2 xs) _ rfl) (fun _ => rfl) ?_
          intro v34
          refine hl_v rfl rfl rfl (rv_ev rfl) ?_
          refine hl_less (sub_cons (d := 0) rfl (sub_cons (d := 1) rfl (sub_cons (d := 2) rfl (sub_cons (d := 6) rfl (sub_cons (d := 7) rfl (sub_cons (d := 8) rfl (sub_cons (d := 9) rfl (sub_cons (d := 10) rfl (sub_cons (d := 15) rfl (sub_cons (d := 28) rfl (sub_cons (d := 50) rfl (sub_nil _)))))))))))) (.refl _) ?_
          refine hl_nil ?_
          refine hq_block_normal ?_
          refine hq_then ?_
          refine hc_region ?_
          refine hl_v rfl rfl rfl (rv_ev rfl) ?_
          refine hl_v rfl rfl rfl (rv_add rfl rfl rfl (by constructor <;> omega)) ?_
          refine hl_v rfl rfl rfl (rv_ev rfl) ?_
          refine hl_less (sub_cons (d := 0) rfl (sub_cons (d := 1) rfl (sub_cons (d := 2) rfl (sub_cons (d := 6) rfl (sub_cons (d := 7) rfl (sub_cons (d := 8) rfl (sub_cons (d := 9) rfl (sub_cons (d := 10) rfl (sub_cons (d := 15) rfl (sub_cons (d := 28) rfl (sub_cons (d := 50) rfl (sub_nil _)))))))))))) (.refl _) ?_
          refine hl_nil ?_
          refine hq_conv (bigE (rs.map cPart) :: rowE 3 1 u2 xs.length (xs.map (Value.int .i64)) :: rowE 43 1 (.slice (some ⟨g33, 0, none⟩) 1 1) 1 ([u2]) :: rowE 43 1 v34 ((rs ++ [CRow.mk u2 xs]).length) ((rs ++ [CRow.mk u2 xs]).flatMap crowC) :: curE g a len cap :: l) (conv_pick (src := [rowE 43 1 (.slice (some ⟨g33, 0, none⟩) 1 1) 1 ([u2]), rowE 3 1 u2 xs.length (xs.map (Value.int .i64)), bigE (rs.map cPart), rowE 43 1 v34 ((rs ++ [CRow.mk u2 xs]).length) ((rs ++ [CRow.mk u2 xs]).flatMap crowC), curE g a len cap]) (dst := [bigE (rs.map cPart), rowE 3 1 u2 xs.length (xs.map (Value.int .i64)), rowE 43 1 (.slice (some ⟨g33, 0, none⟩) 1 1) 1 ([u2]), rowE 43 1 v34 ((rs ++ [CRow.mk u2 xs]).length) ((rs ++ [CRow.mk u2 xs]).flatMap crowC), curE g a len cap]) (l := l) [2, 1, 0, 3, 4] (by decide) rfl) ?_
          refine hq_conv (bigE ((rs ++ [CRow.mk u2 xs]).map cPart) :: rowE 43 1 (.slice (some ⟨g33, 0, none⟩) 1 1) 1 ([u2]) :: rowE 43 1 v34 ((rs ++ [CRow.mk u2 xs]).length) ((rs ++ [CRow.mk u2 xs]).flatMap crowC) :: curE g a len cap :: l) (fun w hm => by rw [List.map_append]; exact conv_snoc w hm) ?_
          exact hq_round3 (i + 1) v34 (rs ++ [CRow.mk u2 xs]) ⟨by omega, by rw [List.length_append, List.length_singleton]; omega, cl_app hr (by omega) hxs⟩ (by omega) (sub_cons (d := 0) rfl (sub_cons (d := 1) rfl (sub_cons (d := 2) rfl (sub_cons (d := 6) rfl (sub_cons (d := 7) rfl (sub_cons (d := 8) rfl (sub_nil _))))))) ((.cons_cons _ (.cons _ (.cons_cons _ (.cons_cons _ (.refl _))))))
        ·
          refine hl_v rfl rfl rfl (rv_ev rfl) ?_
          refine hl_less (sub_cons (d := 0) rfl (sub_cons (d := 1) rfl (sub_cons (d := 2) rfl (sub_cons (d := 6) rfl (sub_cons (d := 7) rfl (sub_cons (d := 8) rfl (sub_cons (d := 9) rfl (sub_cons (d := 10) rfl (sub_cons (d := 15) rfl (sub_cons (d := 28) rfl (sub_cons (d := 50) rfl (sub_nil _)))))))))))) (.refl _) ?_
          refine hl_nil ?_
          refine hq_then ?_
          refine hc_false rfl ?_
          refine hc_skip ?_
          refine hq_block_normal ?_
          refine hq_then ?_
          refine hc_region ?_
          refine hl_v rfl rfl rfl (rv_ev rfl) ?_
          refine hl_v rfl rfl rfl (rv_add rfl rfl rfl (by constructor <;> omega)) ?_
          refine hl_v rfl rfl rfl (rv_ev rfl) ?_
          refine hl_less (sub_cons (d := 0) rfl (sub_cons (d := 1) rfl (sub_cons (d := 2) rfl (sub_cons (d := 6) rfl (sub_cons (d := 7) rfl (sub_cons (d := 8) rfl (sub_cons (d := 9) rfl (sub_cons (d := 10) rfl (sub_cons (d := 15) rfl (sub_cons (d := 28) rfl (sub_cons (d := 50) rfl (sub_nil _)))))))))))) (.refl _) ?_
          refine hl_nil ?_
          exact hq_round3 (i + 1) u rs ⟨by omega, by omega, hr⟩ (by omega) (sub_cons (d := 0) rfl (sub_cons (d := 1) rfl (sub_cons (d := 2) rfl (sub_cons (d := 6) rfl (sub_cons (d := 7) rfl (sub_cons (d := 8) rfl (sub_nil _))))))) ((.cons _ (.cons_cons _ (.cons_cons _ (.cons_cons _ (.refl _))))))
  ·
    refine hl_less (sub_cons (d := 0) rfl (sub_cons (d := 1) rfl (sub_cons (d := 2) rfl (sub_cons (d := 6) rfl (sub_cons (d := 7) rfl (sub_cons (d := 8) rfl (sub_cons (d := 15) rfl (sub_nil _)))))))) (.refl _) ?_
    refine hl_nil ?_
    refine hq_then ?_
    refine hc_false rfl ?_
    refine hc_exit ?_
    refine hq_then_exit ?_
    refine hq_then_exit ?_
    refine hq_block_exit ?_
    refine hq_then ?_
    refine hc_seq ?_
    refine hc_region ?_
    refine hl_v rfl rfl rfl (rv_ev rfl) ?_
    refine hl_v rfl rfl rfl (rv_ev rfl) ?_
    refine hl_less (sub_cons (d := 0) rfl (sub_cons (d := 1) rfl (sub_cons (d := 2) rfl (sub_cons (d := 6) rfl (sub_cons (d := 7) rfl (sub_cons (d := 8) rfl (sub_cons (d := 15) rfl (sub_nil _)))))))) (.refl _) ?_
    refine hl_nil ?_
    refine hq_then ?_
    refine hc_ret ?_
    refine hq_conv (bigE (rs.map cPart) :: rowE 43 1 u rs.length (rs.flatMap crowC) :: curE g a len cap :: l) (conv_pick (src := [bigE (rs.map cPart), rowE 43 1 u rs.length (rs.flatMap crowC), curE g a len cap]) (dst := [bigE (rs.map cPart), rowE 43 1 u rs.length (rs.flatMap crowC), curE g a len cap]) (l := l) [0, 1, 2] (by decide) rfl) ?_
    refine hq_conv (clE u rs :: curE g a len cap :: l) (conv_big (ps := [bigE (rs.map cPart), rowE 43 1 u rs.length (rs.flatMap crowC)])) ?_
    refine hq_conv (curE g a len cap :: clE u rs :: l) (conv_pick (src := [clE u rs, curE g a len cap]) (dst := [curE g a len cap, clE u rs]) (l := l) [1, 0] (by decide) rfl) ?_
    refine hq_conv (bigE [curE g a len cap, clE u rs] :: l) (conv_big (ps := [curE g a len cap, clE u rs])) ?_
    exact hq_ret (rs := [.tmp 6]) (vs := [u]) rfl ⟨rfl, trivial⟩ rfl (fun w hm => ⟨_, bigE [curE g a len cap, clE u rs], rfl, ⟨rs, rfl, hr, by omega⟩, hm.sub ((.cons_cons _ (.refl _)))⟩)
theorem clb_one {w0 w : World} {l : List HP} {i : Nat} {c : HP} {v : Value} {rs : List CRow} (hi : l[i]? = some (bigE [c, clE v rs])) (hm : Mem w0 l w) : v.oneCell' = true := by
  obtain ⟨b1, -⟩ := hm.holds _ (mem_at hi)
  have c2 := (b1 _ (List.mem_cons_of_mem _ List.mem_cons_self)).2
  have d2 := (c2.1 _ (List.mem_cons_of_mem _ List.mem_cons_self)).2
  exact (rdsW_own d2).one
section
variable {P : Program} {N : Nat} {w0 : World} {l l' : List HP} {env : List (Nat × Value)} {Q : Post} {ops : Array Oper} {rest : List Oper}
theorem hl_clb {i : Nat} {c : HP} {v : Value} {rs : List CRow} (hi : l[i]? = some (bigE [c, clE v rs])) (k : v.oneCell' = true → HL P N ops w0 l env rest Q) : HL P N ops w0 l env rest Q := hl_know (fun w hm => clb_one hi hm) k
end
theorem built_cnf (n : Int) (v : Value) (h : v.oneCell' = true) : Try.prog.built 54 [(0, .int .i64 n), (1, v)] = some #[.int .i64 n, v] := by
  cases v <;> first | (exact absurd h Bool.false_ne_true) | kernel_rfl
set_option maxHeartbeats 4000000 in
set_option maxRecDepth 100000 in
theorem l21Cnf_mut (g : Nat) (a : Option Addr) (len cap : Nat) (z : List Int) (w0 : World) (l : List HP) (w : World) (hm0 : Mem w0 (curE g a len cap :: l) w) (hb : BRow .u8 w0 a len cap z) :
    Calls Try.prog 46 #[.pointer (some ⟨g, 0, none⟩)] w (fun e_ w_ => ∃ v_ p_, e_ = .returned v_ ∧ (fun u_ p_ => ∃ (n : Int) (v : Value) (rs : List CRow), u_ = .agg #[.int .i64 n, v] ∧ p_ = bigE [curE g a len cap, clE v rs] ∧ ClOk n rs ∧ (1 ≤ n ∧ n ≤ 6) ∧ rs.length ≤ 15) v_ p_ ∧ Mem w0 (p_ :: l) w_) := by
  refine calls_hcM (N := 14) (args := [.pointer (some ⟨g, 0, none⟩)]) Try.func46 rfl rfl hm0 ?_
  refine hc_less _ (sub_cons (d := 0) rfl (sub_nil _)) (.refl _) ?_
  refine hc_seq ?_
  refine hc_region ?_
  refine hl_box rfl rfl rfl (rq_alloc (z := .agg #[.int .i64 0, .slice none 0 0]) rfl (by kernel_rfl)) ?_
  intro b1
  refine hl_less (sub_cons (d := 0) rfl (sub_cons (d := 2) rfl (sub_nil _))) (.refl _) ?_
  refine hl_nil ?_
  refine hq_then ?_
  refine hc_seq ?_
  refine hc_region ?_
  refine hl_v rfl rfl rfl (rv_ev rfl) ?_
  refine hl_callM (R := (fun u_ p_ => (∃ x_ : Int, u_ = .int .i64 x_ ∧ 0 ≤ x_ ∧ x_ < 6) ∧ p_ = curE g a len cap)) 1 rfl rfl (by kernel_rfl) rfl rfl (fun l' w hm => belowN_mut g a len cap z 6 _ _ _ hm hb (by constructor <;> omega)) ?_
  intro v2 p3 hR4
  obtain ⟨⟨xhR4, rfl, xhR40, xhR41⟩, rfl⟩ := hR4
  refine hl_eqL (l' := (boxE b1 #[.int .i64 0, .slice none 0 0] 54 :: curE g a len cap :: l)) rfl ?_
  refine hl_v rfl rfl rfl (rv_add rfl rfl rfl (by constructor <;> omega)) ?_
  refine hl_v rfl rfl rfl (rv_ev rfl) ?_
  refine hl_less (sub_cons (d := 0) rfl (sub_cons (d := 2) rfl (sub_cons (d := 3) rfl (sub_nil _)))) (.refl _) ?_
  refine hl_nil ?_
  refine hq_then ?_
  refine hc_seq ?_
  refine hc_region ?_
  refine hl_v rfl rfl rfl (rv_ev rfl) ?_
  refine hl_v rfl rfl rfl (rv_ev rfl) ?_
  refine hl_v rfl rfl rfl (rv_ev rfl) ?_
  refine hl_v rfl rfl rfl (rv_ev rfl) ?_
  refine hl_callM (R := (fun u_ p_ => (∃ x_ : Int, u_ = .int .i64 x_ ∧ 0 ≤ x_ ∧ x_ < 16) ∧ p_ = curE g a len cap)) 1 rfl rfl (by kernel_rfl) rfl rfl (fun l' w hm => belowN_mut g a len cap z 16 _ _ _ hm hb (by constructor <;> omega)) ?_
  intro v5 p6 hR7
  obtain ⟨⟨xhR7, rfl, xhR70, xhR71⟩, rfl⟩ := hR7
  refine hl_eqL (l' := (boxE b1 #[.int .i64 0, .slice none 0 0] 54 :: curE g a len cap :: l)) rfl ?_
  refine hl_callM (R := (fun u_ p_ => ∃ rs : List CRow, p_ = bigE [curE g a len cap, clE u_ rs] ∧ ClOk (1 + xhR4) rs ∧ (rs.length : Int) ≤ xhR7)) 1 rfl rfl (by kernel_rfl) rfl rfl (fun l' w hm => l21Clauses_mut g a len cap z (1 + xhR4) xhR7 _ _ _ hm hb (by omega) (by omega)) ?_
  intro v8 p9 hR10
  obtain ⟨rs, rfl, hr, hrl⟩ := hR10
  refine hl_eqL (l' := (boxE b1 #[.int .i64 0, .slice none 0 0] 54 :: bigE [curE g a len cap, clE v8 rs] :: l)) rfl ?_
  refine hl_clb (i := 1) rfl (fun hcone => ?_)
  refine hl_v rfl rfl rfl (rv_build (cs := #[.int .i64 (1 + xhR4), v8]) rfl rfl (built_cnf _ _ hcone)) ?_
  refine hl_storeBoxN (i := 0) (off := 0) (us := [.int .i64 (1 + xhR4), v8]) (l' := (boxE b1 #[.int .i64 (1 + xhR4), v8] 54 :: bigE [curE g a len cap, clE v8 rs] :: l)) rfl rfl rfl (by kernel_rfl) rfl rfl rfl (all_cons rfl (all_cons hcone all_nil)) rfl rfl rfl ?_
  refine hl_less (sub_cons (d := 0) rfl (sub_cons (d := 2) rfl (sub_cons (d := 3) rfl (sub_nil _)))) (.refl _) ?_
  refine hl_nil ?_
  refine hq_then ?_
  refine hc_ret ?_
  exact hq_ret (rs := [.cell 2 54]) (vs := [.agg #[.int .i64 (1 + xhR4), v8]]) rfl ⟨⟨b1, 0, [.int .i64 (1 + xhR4), v8], rfl, rfl, by kernel_rfl, by kernel_rfl, box_part 0 rfl 0 rfl⟩, trivial⟩ rfl (fun w hm => ⟨_, bigE [curE g a len cap, clE v8 rs], rfl, ⟨1 + xhR4, v8, rs, rfl, rfl, hr, by omega, by omega⟩, hm.sub ((.cons _ (.cons_cons _ (.refl _))))⟩)
set_option maxHeartbeats 4000000 in
set_option maxRecDepth 100000 in
theorem l21Assignment_mut (g : Nat) (a : Option Addr) (len cap : Nat) (z : List Int) (n : Int) (w0 : World) (l : List HP) (w : World) (hm0 : Mem w0 (curE g a len cap :: l) w) (hb : BRow .u8 w0 a len cap z) (hn : 1 ≤ n ∧ n ≤ 6) :
    Calls Try.prog 47 #[.pointer (some ⟨g, 0, none⟩), .int .i64 n] w (fun e_ w_ => ∃ v_ p_, e_ = .returned v_ ∧ (fun u_ p_ => ∃ bs : List Bl, p_ = bigE [curE g a len cap, rowE 4 1 u_ bs.length (bs.flatMap blC)] ∧ (bs.length : Int) = n) v_ p_ ∧ Mem w0 (p_ :: l) w_) := by
  refine calls_hcM (N := 23) (args := [.pointer (some ⟨g, 0, none⟩), .int .i64 n]) Try.func47 rfl rfl hm0 ?_
  refine hc_less _ (sub_cons (d := 0) rfl (sub_cons (d := 1) rfl (sub_nil _))) (.refl _) ?_
  refine hc_seq ?_
  refine hc_region ?_
  refine hl_v rfl rfl rfl (rv_ev rfl) ?_
  refine hl_less (sub_cons (d := 0) rfl (sub_cons (d := 1) rfl (sub_cons (d := 4) rfl (sub_nil _)))) (.refl _) ?_
  refine hl_nil ?_
  refine hq_then ?_
  refine hc_seq ?_
  refine hc_region ?_
  refine hl_row rfl rfl rfl (rq_slice0 (s := 1) rfl Try.underlying55 (by kernel_rfl)) ?_
  intro g1
  refine hl_v rfl rfl rfl (rv_ev rfl) ?_
  refine hl_less (sub_cons (d := 0) rfl (sub_cons (d := 1) rfl (sub_cons (d := 4) rfl (sub_cons (d := 5) rfl (sub_nil _))))) (.refl _) ?_
  refine hl_nil ?_
  refine hq_then ?_
  refine hc_seq ?_
  refine hc_seq ?_
  refine hc_region ?_
  refine hl_v rfl rfl rfl (rv_ev rfl) ?_
  refine hl_less (sub_cons (d := 0) rfl (sub_cons (d := 1) rfl (sub_cons (d := 4) rfl (sub_cons (d := 5) rfl (sub_cons (d := 6) rfl (sub_nil _)))))) (.refl _) ?_
  refine hl_nil ?_
  refine hq_then ?_
  refine hc_block ?_
  refine hc_loop3 (α := Nat) (β := Value) (γ := List Bl) (fun k u bs => (rowE 4 1 u bs.length (bs.flatMap blC) :: curE g a len cap :: l)) (fun k u bs => [(0, .pointer (some ⟨g, 0, none⟩)), (1, .int .i64 n), (4, .slice none 0 0), (5, u), (6, .int .i64 (k : Int))]) (fun k u bs => (k : Int) ≤ n ∧ bs.length = k) (fun k u bs => n.toNat - k) 0 _ [] ⟨by omega, rfl⟩ (sub_cons (d := 0) rfl (sub_cons (d := 1) rfl (sub_cons (d := 4) rfl (sub_cons (d := 5) rfl (sub_cons (d := 6) rfl (sub_nil _)))))) ((.cons_cons _ (.cons_cons _ (.refl _)))) ?_
  intro k u bs hi2
  obtain ⟨hk, hbl⟩ := hi2
  refine hc_seq ?_
  refine hc_seq ?_
  refine hc_region ?_
  refine hl_v rfl rfl rfl (rv_ev rfl) ?_
  refine hl_v rfl rfl rfl (rv_ev rfl) ?_
  refine hl_lss rfl rfl rfl rfl rfl rfl (fun h3 => ?_) (fun h3 => ?_)
  ·
    refine hl_v rfl rfl rfl (rv_ev rfl) ?_
    refine hl_v rfl rfl rfl (rv_ev rfl) ?_
    refine hl_lss rfl rfl rfl rfl rfl rfl (fun h4 => ?_) (fun h4 => absurd h4 (by omega))
    refine hl_v rfl rfl rfl (rv_ev rfl) ?_
    refine hl_less (sub_cons (d := 0) rfl (sub_cons (d := 1) rfl (sub_cons (d := 4) rfl (sub_cons (d := 5) rfl (sub_cons (d := 6) rfl (sub_cons (d := 14) rfl (sub_nil _))))))) (.refl _) ?_
    refine hl_nil ?_
    refine hq_then ?_
    refine hc_true rfl ?_
    refine hc_skip ?_
    refine hq_then ?_
    refine hc_seq ?_
    refine hc_block ?_
    refine hc_region ?_
    refine hl_v rfl rfl rfl (rv_ev rfl) ?_
    refine hl_v rfl rfl rfl (rv_ev rfl) ?_
    refine hl_callM (R := (fun u_ p_ => (∃ b : Bool, u_ = .bool b) ∧ p_ = curE g a len cap)) 1 rfl rfl (by kernel_rfl) rfl rfl (fun l' w hm => once_mut hm hb (2) (by omega) (by omega)) ?_
    intro v5 p6 hR7
    obtain ⟨⟨xhR7, rfl⟩, rfl⟩ := hR7
    refine hl_eqL (l' := (rowE 4 1 u bs.length (bs.flatMap blC) :: curE g a len cap :: l)) rfl ?_
    refine hl_bool (fun h8 => ?_) (fun h8 => ?_)
    ·
      refine hl_row rfl rfl rfl (rq_buildSlice (z := .bool false) (s := 1) (cs := [.bool true]) rfl Try.underlying55 (by kernel_rfl) (by decide) rfl (by kernel_rfl) rfl) ?_
      intro g9
      refine hl_append (i := 1) (z := .bool false) (bytes := 1) (n' := (bs ++ [Bl.mk true]).length) (xs' := ((bs ++ [Bl.mk true]).flatMap blC)) (L := fun v10 => (rowE 4 1 (.slice (some ⟨g9, 0, none⟩) 1 1) 1 ([.bool true]) :: rowE 4 1 v10 ((bs ++ [Bl.mk true]).length) ((bs ++ [Bl.mk true]).flatMap blC) :: curE g a len cap :: l)) rfl rfl rfl rfl Try.underlying55 (by kernel_rfl) (by kernel_rfl) rfl rfl rfl (rd_row 0 rfl) (by simp [Value.oneCell']) (by first | omega | (simp only [List.length_append, List.length_cons, List.length_nil]; omega)) (len_app bs [Bl.mk true]) (flat_app1 blC bs (Bl.mk true) _ rfl) (fun _ => rfl) ?_
      intro v10
      refine hl_v rfl rfl rfl (rv_ev rfl) ?_
      refine hl_less (sub_cons (d := 0) rfl (sub_cons (d := 1) rfl (sub_cons (d := 4) rfl (sub_cons (d := 5) rfl (sub_cons (d := 6) rfl (sub_cons (d := 14) rfl (sub_nil _))))))) (.refl _) ?_
      refine hl_nil ?_
      refine hq_block_normal ?_
      refine hq_then ?_
      refine hc_region ?_
      refine hl_v rfl rfl rfl (rv_ev rfl) ?_
      refine hl_v rfl rfl rfl (rv_add rfl rfl rfl (by constructor <;> omega)) ?_
      refine hl_v rfl rfl rfl (rv_ev rfl) ?_
      refine hl_less (sub_cons (d := 0) rfl (sub_cons (d := 1) rfl (sub_cons (d := 4) rfl (sub_cons (d := 5) rfl (sub_cons (d := 6) rfl (sub_cons (d := 14) rfl (sub_nil _))))))) (.refl _) ?_
      refine hl_nil ?_
      exact hq_round3 (k + 1) v10 (bs ++ [Bl.mk true]) ⟨by omega, by rw [List.length_append, List.length_singleton]; omega⟩ (by omega) (sub_cons (d := 0) rfl (sub_cons (d := 1) rfl (sub_cons (d := 4) rfl (sub_cons (d := 5) rfl (sub_cons (d := 6) rfl (sub_nil _)))))) ((.cons _ (.cons_cons _ (.cons_cons _ (.refl _)))))
    ·
      refine hl_row rfl rfl rfl (rq_buildSlice (z := .bool false) (s := 1) (cs := [.bool false]) rfl Try.underlying55 (by kernel_rfl) (by decide) rfl (by kernel_rfl) rfl) ?_
      intro g11
      refine hl_append (i := 1) (z := .bool false) (bytes := 1) (n' := (bs ++ [Bl.mk false]).length) (xs' := ((bs ++ [Bl.mk false]).flatMap blC)) (L := fun v12 => (rowE 4 1 (.slice (some ⟨g11, 0, none⟩) 1 1) 1 ([.bool false]) :: rowE 4 1 v12 ((bs ++ [Bl.mk false]).length) ((bs ++ [Bl.mk false]).flatMap blC) :: curE g a len cap :: l)) rfl rfl rfl rfl Try.underlying55 (by kernel_rfl) (by kernel_rfl) rfl rfl rfl (rd_row 0 rfl) (by simp [Value.oneCell']) (by first | omega | (simp only [List.length_append, List.length_cons, List.length_nil]; omega)) (len_app bs [Bl.mk false]) (flat_app1 blC bs (Bl.mk false) _ rfl) (fun _ => rfl) ?_
      intro v12
      refine hl_v rfl rfl rfl (rv_ev rfl) ?_
      refine hl_less (sub_cons (d := 0) rfl (sub_cons (d := 1) rfl (sub_cons (d := 4) rfl (sub_cons (d := 5) rfl (sub_cons (d := 6) rfl (sub_cons (d := 14) rfl (sub_nil _))))))) (.refl _) ?_
      refine hl_nil ?_
      refine hq_block_normal ?_
      refine hq_then ?_
      refine hc_region ?_
      refine hl_v rfl rfl rfl (rv_ev rfl) ?_
      refine hl_v rfl rfl rfl (rv_add rfl rfl rfl (by constructor <;> omega)) ?_
      refine hl_v rfl rfl rfl (rv_ev rfl) ?_
      refine hl_less (sub_cons (d := 0) rfl (sub_cons (d := 1) rfl (sub_cons (d := 4) rfl (sub_cons (d := 5) rfl (sub_cons (d := 6) rfl (sub_cons (d := 14) rfl (sub_nil _))))))) (.refl _) ?_
      refine hl_nil ?_
      exact hq_round3 (k + 1) v12 (bs ++ [Bl.mk false]) ⟨by omega, by rw [List.length_append, List.length_singleton]; omega⟩ (by omega) (sub_cons (d := 0) rfl (sub_cons (d := 1) rfl (sub_cons (d := 4) rfl (sub_cons (d := 5) rfl (sub_cons (d := 6) rfl (sub_nil _)))))) ((.cons _ (.cons_cons _ (.cons_cons _ (.refl _)))))
  ·
    refine hl_v rfl rfl rfl (rv_ev rfl) ?_
    refine hl_skip rfl rfl rfl ?_
    refine hl_skip rfl rfl rfl ?_
    refine hl_v rfl rfl rfl (rv_ev rfl) ?_
    refine hl_less (sub_cons (d := 0) rfl (sub_cons (d := 1) rfl (sub_cons (d := 4) rfl (sub_cons (d := 5) rfl (sub_cons (d := 6) rfl (sub_cons (d := 14) rfl (sub_nil _))))))) (.refl _) ?_
    refine hl_nil ?_
    refine hq_then ?_
    refine hc_false rfl ?_
    refine hc_exit ?_
    refine hq_then_exit ?_
    refine hq_then_exit ?_
    refine hq_block_exit ?_
    refine hq_then ?_
    refine hc_seq ?_
    refine hc_region ?_
    refine hl_v rfl rfl rfl (rv_ev rfl) ?_
    refine hl_v rfl rfl rfl (rv_ev rfl) ?_
    refine hl_less (sub_cons (d := 0) rfl (sub_cons (d := 1) rfl (sub_cons (d := 4) rfl (sub_cons (d := 5) rfl (sub_cons (d := 6) rfl (sub_cons (d := 14) rfl (sub_nil _))))))) (.refl _) ?_
    refine hl_nil ?_
    refine hq_then ?_
    refine hc_ret ?_
    refine hq_conv (curE g a len cap :: rowE 4 1 u bs.length (bs.flatMap blC) :: l) (conv_pick (src := [rowE 4 1 u bs.length (bs.flatMap blC), curE g a len cap]) (dst := [curE g a len cap, rowE 4 1 u bs.length (bs.flatMap blC)]) (l := l) [1, 0] (by decide) rfl) ?_
    refine hq_conv (bigE [curE g a len cap, rowE 4 1 u bs.length (bs.flatMap blC)] :: l) (conv_big (ps := [curE g a len cap, rowE 4 1 u bs.length (bs.flatMap blC)])) ?_
    exact hq_ret (rs := [.tmp 4]) (vs := [u]) rfl ⟨rfl, trivial⟩ rfl (fun w hm => ⟨_, bigE [curE g a len cap, rowE 4 1 u bs.length (bs.flatMap blC)], rfl, ⟨bs, rfl, by omega⟩, hm.sub ((.cons_cons _ (.refl _)))⟩)
set_option maxHeartbeats 4000000 in
set_option maxRecDepth 100000 in
theorem DrawCnf_ret (a : Option Addr) (len cap : Nat) (z : List Int) (w : World) (hb : BRow .u8 w a len cap z) (hlen : len ≤ 1048576) :
    Calls Try.prog 22 #[.slice a len cap] w (Ret w (fun v' post => ∃ (n : Int) (cv av : Value) (rs : List CRow) (bs : List Bl), v' = .tuple #[.agg #[.int .i64 n, cv], av] ∧ post = [clE cv rs, rowE 4 1 av bs.length (bs.flatMap blC)] ∧ ClOk n rs ∧ (1 ≤ n ∧ n ≤ 6) ∧ rs.length ≤ 15 ∧ (bs.length : Int) = n)) := by
  refine calls_hc (N := 15) (args := [.slice a len cap]) Try.func22 rfl rfl ?_
  refine hc_less _ (sub_cons (d := 0) rfl (sub_nil _)) (.refl _) ?_
  refine hc_seq ?_
  refine hc_region ?_
  refine hl_box rfl rfl rfl (rq_alloc (z := .agg #[.int .i64 0, .slice none 0 0]) rfl (by kernel_rfl)) ?_
  intro b1
  refine hl_v rfl rfl rfl (rv_ev rfl) ?_
  refine hl_less (sub_cons (d := 0) rfl (sub_cons (d := 2) rfl (sub_cons (d := 3) rfl (sub_nil _)))) (.refl _) ?_
  refine hl_nil ?_
  refine hq_then ?_
  refine hc_seq ?_
  refine hc_region ?_
  refine hl_v rfl rfl rfl (rv_ev rfl) ?_
  refine hl_q rfl rfl rfl (rq_call (by kernel_rfl) rfl (fun w hm => new_ret (hb.below hm.bel) hlen)) ?_
  intro v2 p3 hR4
  obtain ⟨ghR4, rfl, rfl⟩ := hR4
  refine hl_v rfl rfl rfl (rv_ev rfl) ?_
  refine hl_less (sub_cons (d := 0) rfl (sub_cons (d := 2) rfl (sub_cons (d := 3) rfl (sub_cons (d := 4) rfl (sub_nil _))))) (.refl _) ?_
  refine hl_nil ?_
  refine hq_then ?_
  refine hc_seq ?_
  refine hc_region ?_
  refine hl_v rfl rfl rfl (rv_ev rfl) ?_
  refine hl_callM (R := (fun u_ p_ => ∃ (n : Int) (v : Value) (rs : List CRow), u_ = .agg #[.int .i64 n, v] ∧ p_ = bigE [curE ghR4 a len cap, clE v rs] ∧ ClOk n rs ∧ (1 ≤ n ∧ n ≤ 6) ∧ rs.length ≤ 15)) 0 rfl rfl (by kernel_rfl) rfl rfl (fun l' w hm => l21Cnf_mut ghR4 a len cap z _ _ _ hm hb) ?_
  intro v5 p6 hR7
  obtain ⟨n, cv, rs, rfl, rfl, hr, hn, hrl⟩ := hR7
  refine hl_eqL (l' := [bigE [curE ghR4 a len cap, clE cv rs], boxE b1 #[.int .i64 0, .slice none 0 0] 54]) rfl ?_
  refine hl_box rfl rfl rfl (rq_alloc (z := .agg #[.int .i64 0, .slice none 0 0]) rfl (by kernel_rfl)) ?_
  intro b8
  refine hl_clb (i := 1) rfl (fun hcone => ?_)
  refine hl_conv [bigE [curE ghR4 a len cap, clE cv rs], boxE b8 #[.int .i64 0, .slice none 0 0] 54, boxE b1 #[.int .i64 0, .slice none 0 0] 54] (conv_pick (src := [boxE b8 #[.int .i64 0, .slice none 0 0] 54, bigE [curE ghR4 a len cap, clE cv rs], boxE b1 #[.int .i64 0, .slice none 0 0] 54]) (dst := [bigE [curE ghR4 a len cap, clE cv rs], boxE b8 #[.int .i64 0, .slice none 0 0] 54, boxE b1 #[.int .i64 0, .slice none 0 0] 54]) (l := []) [1, 0, 2] (by decide) rfl) ?_
  refine hl_conv [curE ghR4 a len cap, clE cv rs, boxE b8 #[.int .i64 0, .slice none 0 0] 54, boxE b1 #[.int .i64 0, .slice none 0 0] 54] conv_unbig ?_
  refine hl_storeBoxN (i := 2) (off := 0) (us := [.int .i64 n, cv]) (l' := [curE ghR4 a len cap, clE cv rs, boxE b8 #[.int .i64 n, cv] 54, boxE b1 #[.int .i64 0, .slice none 0 0] 54]) rfl rfl rfl (by kernel_rfl) rfl rfl rfl (all_cons rfl (all_cons hcone all_nil)) rfl rfl rfl ?_
  refine hl_less (sub_cons (d := 0) rfl (sub_cons (d := 2) rfl (sub_cons (d := 3) rfl (sub_cons (d := 4) rfl (sub_cons (d := 5) rfl (sub_nil _)))))) (.refl _) ?_
  refine hl_nil ?_
  refine hq_then ?_
  refine hc_seq ?_
  refine hc_draw2 (l := [clE cv rs, boxE b8 #[.int .i64 n, cv] 54, boxE b1 #[.int .i64 0, .slice none 0 0] 54]) (by kernel_rfl) 5 [0, 1, 2, 3, 4] (List.take 5 _) (List.drop 5 _) [[], [], [], [2], [1, 3]] [10, 11, 12, 13, 14] (fun i_ vs_ v_ p_ => match i_ with | 0 => v_ = .agg #[.int .i64 n, cv] ∧ p_ = [] | 1 => v_ = .pointer (some ⟨ghR4, 0, none⟩) ∧ p_ = [] | 2 => v_ = .pointer (some ⟨b8, 0 + 0, none⟩) ∧ p_ = [] | 3 => v_ = .int .i64 n ∧ p_ = [] | 4 => (∃ pm_, p_ = [pm_] ∧ (fun u_ p_ => ∃ bs : List Bl, p_ = bigE [curE ghR4 a len cap, rowE 4 1 u_ bs.length (bs.flatMap blC)] ∧ (bs.length : Int) = n) v_ pm_) | _ => True) [[], [], [], [2], [1, 3]] [none, none, none, none, some 7] [curE ghR4 a len cap] [0, 1, 2, 3, 4] 7 (List.take_append_drop 5 _).symm (by kernel_rfl) (by kernel_rfl) (by kernel_rfl) rfl rfl ?_ ?_
  ·
    refine ⟨?_, ?_, ?_, ?_, ?_, trivial⟩
    ·
      intro vf pf hmu hR
      refine Or.inl ⟨rfl, ?_⟩
      show RunQ _ _ _ (([] : List Nat).flatMap pf ++ _) (envOf _ vf [] ++ _) _ _
      refine rq_less (l' := [clE cv rs, boxE b8 #[.int .i64 n, cv] 54, boxE b1 #[.int .i64 0, .slice none 0 0] 54]) (sub_cons (d := 5) rfl (sub_nil _)) (List.sublist_append_right _ _) ?_
      exact rq_v (rv_loadN (cs := [.int .i64 n, cv]) rfl (by kernel_rfl) (by kernel_rfl) rfl rfl (box_part 1 rfl 0 rfl))
    ·
      intro vf pf hmu hR
      refine Or.inl ⟨rfl, ?_⟩
      show RunQ _ _ _ (([] : List Nat).flatMap pf ++ _) (envOf _ vf [] ++ _) _ _
      refine rq_less (l' := [clE cv rs, boxE b8 #[.int .i64 n, cv] 54, boxE b1 #[.int .i64 0, .slice none 0 0] 54]) (sub_cons (d := 4) rfl (sub_nil _)) (List.sublist_append_right _ _) ?_
      exact rq_v (rv_ev rfl)
    ·
      intro vf pf hmu hR
      refine Or.inl ⟨rfl, ?_⟩
      show RunQ _ _ _ (([] : List Nat).flatMap pf ++ _) (envOf _ vf [] ++ _) _ _
      refine rq_less (l' := [clE cv rs, boxE b8 #[.int .i64 n, cv] 54, boxE b1 #[.int .i64 0, .slice none 0 0] 54]) (sub_cons (d := 5) rfl (sub_nil _)) (List.sublist_append_right _ _) ?_
      exact rq_v (rv_field (k0 := 0) rfl (by kernel_rfl) rfl)
    ·
      intro vf pf hmu hR
      have e2 : (vf 2) = .pointer (some ⟨b8, 0 + 0, none⟩) ∧ (pf 2) = [] := hR 2 (by decide)
      refine Or.inl ⟨rfl, ?_⟩
      show RunQ _ _ _ (([2] : List Nat).flatMap pf ++ _) (envOf _ vf [2] ++ _) _ _
      refine rq_less (l' := [clE cv rs, boxE b8 #[.int .i64 n, cv] 54, boxE b1 #[.int .i64 0, .slice none 0 0] 54]) (sub_cons (d := 12) (congrArg some e2.1) (sub_nil _)) (List.sublist_append_right _ _) ?_
      exact rq_v (rv_load rfl (by kernel_rfl) rfl (box_cell 1 rfl rfl))
    ·
      intro vf pf hmu hR
      have e1 : (vf 1) = .pointer (some ⟨ghR4, 0, none⟩) ∧ (pf 1) = [] := hR 1 (by decide)
      have e3 : (vf 3) = .int .i64 n ∧ (pf 3) = [] := hR 3 (by decide)
      refine Or.inl ⟨rfl, ?_⟩
      show RunM _ _ _ (pf 7) (([1, 3] : List Nat).flatMap pf ++ _) (envOf _ vf [1, 3] ++ _) _ _
      rw [hmu]
      refine rm_less (X' := [clE cv rs, boxE b8 #[.int .i64 n, cv] 54, boxE b1 #[.int .i64 0, .slice none 0 0] 54]) (sub_cons (d := 11) (congrArg some e1.1) (sub_cons (d := 13) (congrArg some e3.1) (sub_nil _))) (by first | (simp only [e1.2, e3.2, List.flatMap_cons, List.flatMap_nil, List.append_nil, List.nil_append, List.cons_append]; exact List.Sublist.refl _) | simp [e1.2, e3.2]) ?_
      exact rq_callM (R := (fun u_ p_ => ∃ bs : List Bl, p_ = bigE [curE ghR4 a len cap, rowE 4 1 u_ bs.length (bs.flatMap blC)] ∧ (bs.length : Int) = n)) (by kernel_rfl) rfl (fun L w hX hm => l21Assignment_mut ghR4 a len cap z n _ _ _ hm hb hn)
  ·
    intro vf pf hmu hR
    have e0 : (vf 0) = .agg #[.int .i64 n, cv] ∧ (pf 0) = [] := hR 0 (by decide)
    have e4 : (∃ pm_, (pf 4) = [pm_] ∧ (fun u_ p_ => ∃ bs : List Bl, p_ = bigE [curE ghR4 a len cap, rowE 4 1 u_ bs.length (bs.flatMap blC)] ∧ (bs.length : Int) = n) (vf 4) pm_) := hR 4 (by decide)
    obtain ⟨p10, p4, hR11⟩ := e4
    obtain ⟨v9, v4⟩ : ∃ x, vf 4 = x := ⟨_, rfl⟩
    rw [v4] at hR11
    obtain ⟨bs, rfl, hbl⟩ := hR11
    have q0 : (vf 0) = .agg #[.int .i64 n, cv] ∧ (pf 0) = [] := hR 0 (by decide)
    have q1 : (vf 1) = .pointer (some ⟨ghR4, 0, none⟩) ∧ (pf 1) = [] := hR 1 (by decide)
    have q2 : (vf 2) = .pointer (some ⟨b8, 0 + 0, none⟩) ∧ (pf 2) = [] := hR 2 (by decide)
    have q3 : (vf 3) = .int .i64 n ∧ (pf 3) = [] := hR 3 (by decide)
    refine hl_less (l' := [bigE [curE ghR4 a len cap, rowE 4 1 v9 bs.length (bs.flatMap blC)], clE cv rs, boxE b8 #[.int .i64 n, cv] 54, boxE b1 #[.int .i64 0, .slice none 0 0] 54]) (sub_cons (d := 0) rfl (sub_cons (d := 2) rfl (sub_cons (d := 3) rfl (sub_cons (d := 4) rfl (sub_cons (d := 5) rfl (sub_cons (d := 10) (congrArg some e0.1) (sub_cons (d := 14) (congrArg some v4) (sub_nil _)))))))) (by first | (simp only [p4, v4, q0.2, q1.2, q2.2, q3.2, List.flatMap_cons, List.flatMap_nil, List.append_nil, List.nil_append, List.cons_append]; exact List.Sublist.refl _) | simp [p4, v4, q0.2, q1.2, q2.2, q3.2]) ?_
    simp only [List.drop_succ_cons, List.drop_zero]
    refine hl_storeBoxN (i := 3) (off := 0) (us := [.int .i64 n, cv]) (l' := [bigE [curE ghR4 a len cap, rowE 4 1 v9 bs.length (bs.flatMap blC)], clE cv rs, boxE b8 #[.int .i64 n, cv] 54, boxE b1 #[.int .i64 n, cv] 54]) rfl rfl rfl (by kernel_rfl) rfl rfl rfl (all_cons rfl (all_cons hcone all_nil)) rfl rfl rfl ?_
    refine hl_v rfl rfl rfl (rv_ev rfl) ?_
    refine hl_less (sub_cons (d := 0) rfl (sub_cons (d := 2) rfl (sub_cons (d := 3) rfl (sub_cons (d := 4) rfl (sub_cons (d := 5) rfl (sub_nil _)))))) (.refl _) ?_
    refine hl_nil ?_
    refine hq_then ?_
    refine hc_ret ?_
    refine hq_conv [bigE [curE ghR4 a len cap, rowE 4 1 v9 bs.length (bs.flatMap blC)], clE cv rs, boxE b8 #[.int .i64 n, cv] 54, boxE b1 #[.int .i64 n, cv] 54] (conv_pick (src := [bigE [curE ghR4 a len cap, rowE 4 1 v9 bs.length (bs.flatMap blC)], clE cv rs, boxE b8 #[.int .i64 n, cv] 54, boxE b1 #[.int .i64 n, cv] 54]) (dst := [bigE [curE ghR4 a len cap, rowE 4 1 v9 bs.length (bs.flatMap blC)], clE cv rs, boxE b8 #[.int .i64 n, cv] 54, boxE b1 #[.int .i64 n, cv] 54]) (l := []) [0, 1, 2, 3] (by decide) rfl) ?_
    refine hq_conv [curE ghR4 a len cap, rowE 4 1 v9 bs.length (bs.flatMap blC), clE cv rs, boxE b8 #[.int .i64 n, cv] 54, boxE b1 #[.int .i64 n, cv] 54] conv_unbig ?_
    refine hq_conv [clE cv rs, rowE 4 1 v9 bs.length (bs.flatMap blC), curE ghR4 a len cap, boxE b8 #[.int .i64 n, cv] 54, boxE b1 #[.int .i64 n, cv] 54] (conv_pick (src := [curE ghR4 a len cap, rowE 4 1 v9 bs.length (bs.flatMap blC), clE cv rs, boxE b8 #[.int .i64 n, cv] 54, boxE b1 #[.int .i64 n, cv] 54]) (dst := [clE cv rs, rowE 4 1 v9 bs.length (bs.flatMap blC), curE ghR4 a len cap, boxE b8 #[.int .i64 n, cv] 54, boxE b1 #[.int .i64 n, cv] 54]) (l := []) [2, 1, 0, 3, 4] (by decide) rfl) ?_
    exact hq_retM (rs := [.cell 2 54, .tmp 3]) (vs := [.agg #[.int .i64 n, cv], v9]) (post := [clE cv rs, rowE 4 1 v9 bs.length (bs.flatMap blC)]) rfl ⟨⟨b1, 0, [.int .i64 n, cv], rfl, rfl, by kernel_rfl, by kernel_rfl, box_part 4 rfl 0 rfl⟩, rfl, trivial⟩ rfl ((.cons_cons _ (.cons_cons _ (.cons _ (.cons _ (.cons _ .slnil)))))) ⟨n, cv, v9, rs, bs, rfl, rfl, hr, hn, hrl, hbl⟩
end Go.Proofs.Yteccnnpcigkmhaa
