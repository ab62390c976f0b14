/- Tables: the walks. -/
import Derived.Test.YteccnnpcigkmhaaCovP
set_option linter.unusedVariables false
set_option linter.unusedSimpArgs false
namespace Go.Proofs.Yteccnnpcigkmhaa
open Go.RowKit

set_option maxHeartbeats 4000000 in
set_option maxRecDepth 100000 in
theorem l02Full_ans (n : Int) (w : World) (hn : 0 ≤ n ∧ n ≤ 4) :
    Calls Try.prog 52 #[.int .i64 n] w (Ans w (.int .i64 (qn n - 1))) := by
  have hp := pn_rng hn
  have hq := qn_rng hn
  refine calls_hc (N := 7) (args := [.int .i64 n]) Try.func52 rfl rfl ?_
  refine hc_less _ (sub_cons (d := 0) rfl (sub_nil _)) (.refl _) ?_
  refine hc_seq ?_
  refine hc_region ?_
  refine hl_v rfl rfl rfl (rv_ev rfl) ?_
  refine hl_less (sub_cons (d := 0) rfl (sub_cons (d := 2) rfl (sub_nil _))) (.refl _) ?_
  refine hl_nil ?_
  refine hq_then ?_
  refine hc_seq ?_
  refine hc_region ?_
  refine hl_v rfl rfl rfl (rv_ev rfl) ?_
  refine hl_v rfl rfl rfl (rv_shlG (k := .u64) (kk := .i64) (r := (pn n : Int)) rfl rfl rfl rfl (by omega) (wru hn)) ?_
  refine hl_v rfl rfl rfl (rv_shlG (k := .i64) (kk := .u64) (r := qn n) rfl rfl rfl rfl (by omega) (wr2 hn)) ?_
  refine hl_v rfl rfl rfl (rv_sub rfl rfl rfl (by constructor <;> omega)) ?_
  refine hl_v rfl rfl rfl (rv_ev rfl) ?_
  refine hl_less (sub_cons (d := 0) rfl (sub_cons (d := 2) rfl (sub_nil _))) (.refl _) ?_
  refine hl_nil ?_
  refine hq_then ?_
  refine hc_ret ?_
  exact hq_ans rfl rfl rfl
set_option maxHeartbeats 4000000 in
set_option maxRecDepth 100000 in
theorem implTableOk_yes (t : Tab) (w : World) (ht : TabOk t) :
    Calls Try.prog 32 #[.agg #[.int .i64 t.N, .int .i64 t.B]] w (Ans w (.bool true)) := by
  obtain ⟨hn, hB0, hB1⟩ := ht
  have hp := pn_rng hn
  have hq := qn_rng hn
  refine calls_hc (N := 17) (args := [.agg #[.int .i64 t.N, .int .i64 t.B]]) Try.func32 rfl rfl ?_
  refine hc_less _ (sub_cons (d := 0) rfl (sub_nil _)) (.refl _) ?_
  refine hc_seq ?_
  refine hc_region ?_
  refine hl_box rfl rfl rfl (rq_box rfl rfl) ?_
  intro b1
  refine hl_v rfl rfl rfl (rv_ev rfl) ?_
  refine hl_less (sub_cons (d := 0) rfl (sub_cons (d := 1) rfl (sub_cons (d := 2) rfl (sub_nil _)))) (.refl _) ?_
  refine hl_nil ?_
  refine hq_then ?_
  refine hc_seq ?_
  refine hc_region ?_
  refine hl_v rfl rfl rfl (rv_field (k0 := 0) rfl (by kernel_rfl) rfl) ?_
  refine hl_v rfl rfl rfl (rv_load rfl (by kernel_rfl) rfl (box_cell 0 rfl rfl)) ?_
  refine hl_callV rfl rfl rfl (rq_call (by kernel_rfl) rfl (fun w hm => ret_ans (inr_yes (by omega) (by omega) w))) ?_
  refine hl_v rfl rfl rfl (rv_ev rfl) ?_
  refine hl_v rfl rfl rfl (rv_field (k0 := 1) rfl (by kernel_rfl) rfl) ?_
  refine hl_v rfl rfl rfl (rv_load rfl (by kernel_rfl) rfl (box_cell 0 rfl rfl)) ?_
  refine hl_v rfl rfl rfl (rv_field (k0 := 0) rfl (by kernel_rfl) rfl) ?_
  refine hl_v rfl rfl rfl (rv_load rfl (by kernel_rfl) rfl (box_cell 0 rfl rfl)) ?_
  refine hl_v rfl rfl rfl (rv_conv rfl Try.underlying3 Try.underlying68 rfl (IntWalk.u64_in _ (by omega))) ?_
  refine hl_v rfl rfl rfl (rv_shlG (k := .u64) (kk := .u64) (r := (pn t.N : Int)) rfl rfl rfl rfl (by omega) (wru hn)) ?_
  refine hl_v rfl rfl rfl (rv_shlG (k := .i64) (kk := .u64) (r := qn t.N) rfl rfl rfl rfl (by omega) (wr2 hn)) ?_
  refine hl_v rfl rfl rfl (rv_sub rfl rfl rfl (by constructor <;> omega)) ?_
  refine hl_callV rfl rfl rfl (rq_call (by kernel_rfl) rfl (fun w hm => ret_ans (inr_yes (by omega) (by omega) w))) ?_
  refine hl_v rfl rfl rfl (rv_ev rfl) ?_
  refine hl_v rfl rfl rfl (rv_ev rfl) ?_
  refine hl_less (sub_cons (d := 0) rfl (sub_cons (d := 1) rfl (sub_cons (d := 2) rfl (sub_nil _)))) (.refl _) ?_
  refine hl_nil ?_
  refine hq_then ?_
  refine hc_ret ?_
  exact hq_ans rfl rfl rfl
set_option maxHeartbeats 4000000 in
set_option maxRecDepth 100000 in
theorem specTableOk_yes (t : Tab) (w : World) (ht : TabOk t) :
    Calls Try.prog 31 #[.agg #[.int .i64 t.N, .int .i64 t.B]] w (Ans w (.bool true)) := by
  obtain ⟨hn, hB0, hB1⟩ := ht
  have hp := pn_rng hn
  have hq := qn_rng hn
  refine calls_hc (N := 19) (args := [.agg #[.int .i64 t.N, .int .i64 t.B]]) Try.func31 rfl rfl ?_
  refine hc_less _ (sub_cons (d := 0) rfl (sub_nil _)) (.refl _) ?_
  refine hc_seq ?_
  refine hc_region ?_
  refine hl_box rfl rfl rfl (rq_box rfl rfl) ?_
  intro b1
  refine hl_v rfl rfl rfl (rv_ev rfl) ?_
  refine hl_less (sub_cons (d := 0) rfl (sub_cons (d := 1) rfl (sub_cons (d := 2) rfl (sub_nil _)))) (.refl _) ?_
  refine hl_nil ?_
  refine hq_then ?_
  refine hc_seq ?_
  have hb2 : (decide (0 ≤ t.B)) = true := by simp; omega
  have hb3 : (decide (t.B ≤ qn t.N - 1)) = true := by simp; omega
  refine hc_draw (by kernel_rfl) 16 [0, 1, 2, 3, 4, 5, 6, 7, 8, 9, 10, 11, 12, 13, 14, 15] (List.take 16 _) (List.drop 16 _) [[], [0], [1], [2], [3], [3, 4], [3, 5], [3, 6], [7], [8], [8, 9], [8], [8, 11], [8, 12], [8, 10, 13], [8, 14]] [3, 4, 5, 6, 7, 8, 9, 10, 11, 12, 13, 14, 15, 16, 17, 18] (fun i vs_ v_ p_ => match i with | 0 => v_ = .pointer (some ⟨b1, 0 + 0, none⟩) ∧ p_ = [] | 1 => v_ = .int .i64 t.N ∧ p_ = [] | 2 => v_ = .bool true ∧ p_ = [] | 3 => v_ = .bool true ∧ p_ = [] | 4 => v_ = .pointer (some ⟨b1, 0 + 1, none⟩) ∧ p_ = [] | 5 => v_ = .int .i64 t.B ∧ p_ = [] | 6 => v_ = .bool true ∧ p_ = [] | 7 => v_ = .bool true ∧ p_ = [] | 8 => v_ = .bool true ∧ p_ = [] | 9 => v_ = .pointer (some ⟨b1, 0 + 1, none⟩) ∧ p_ = [] | 10 => v_ = .int .i64 t.B ∧ p_ = [] | 11 => v_ = .pointer (some ⟨b1, 0 + 0, none⟩) ∧ p_ = [] | 12 => v_ = .int .i64 t.N ∧ p_ = [] | 13 => v_ = .int .i64 (qn t.N - 1) ∧ p_ = [] | 14 => v_ = .bool true ∧ p_ = [] | 15 => v_ = .bool true ∧ p_ = [] | _ => True) (List.take_append_drop 16 _).symm (by kernel_rfl) (by kernel_rfl) rfl rfl ?_ ?_
  ·
    refine ⟨?_, ?_, ?_, ?_, ?_, ?_, ?_, ?_, ?_, ?_, ?_, ?_, ?_, ?_, ?_, ?_, trivial⟩
    ·
      intro vf pf hR
      refine Or.inl ⟨rfl, ?_⟩
      refine rq_less (l' := [boxE b1 #[.int .i64 t.N, .int .i64 t.B] 25]) (sub_cons (d := 1) rfl (sub_nil _)) (List.sublist_append_right _ _) ?_
      exact rq_v (rv_field (k0 := 0) rfl (by kernel_rfl) rfl)
    ·
      intro vf pf hR
      have e0 : (vf 0) = .pointer (some ⟨b1, 0 + 0, none⟩) ∧ (pf 0) = [] := hR 0 (by decide)
      refine Or.inl ⟨rfl, ?_⟩
      refine rq_less (l' := [boxE b1 #[.int .i64 t.N, .int .i64 t.B] 25]) (sub_cons (d := 3) (congrArg some e0.1) (sub_nil _)) (List.sublist_append_right _ _) ?_
      exact rq_v (rv_load rfl (by kernel_rfl) rfl (box_cell 0 rfl rfl))
    ·
      intro vf pf hR
      have e1 : (vf 1) = .int .i64 t.N ∧ (pf 1) = [] := hR 1 (by decide)
      refine Or.inl ⟨rfl, ?_⟩
      refine rq_less (l' := [boxE b1 #[.int .i64 t.N, .int .i64 t.B] 25]) (sub_cons (d := 4) (congrArg some e1.1) (sub_nil _)) (List.sublist_append_right _ _) ?_
      exact (rq_call (by kernel_rfl) rfl (fun w hm => ret_ans (l01In_yes (by omega) (by omega) w)))
    ·
      intro vf pf hR
      have e2 : (vf 2) = .bool true ∧ (pf 2) = [] := hR 2 (by decide)
      refine Or.inl ⟨rfl, ?_⟩
      refine rq_less (l' := [boxE b1 #[.int .i64 t.N, .int .i64 t.B] 25]) (sub_cons (d := 5) (congrArg some e2.1) (sub_nil _)) (List.sublist_append_right _ _) ?_
      exact rq_v (rv_ev rfl)
    ·
      intro vf pf hR
      have e3 : (vf 3) = .bool true ∧ (pf 3) = [] := hR 3 (by decide)
      refine Or.inl ⟨want_of (congrArg some e3.1) rfl, ?_⟩
      refine rq_less (l' := [boxE b1 #[.int .i64 t.N, .int .i64 t.B] 25]) (sub_cons (d := 1) rfl (sub_nil _)) (List.sublist_append_right _ _) ?_
      exact rq_v (rv_field (k0 := 1) rfl (by kernel_rfl) rfl)
    ·
      intro vf pf hR
      have e3 : (vf 3) = .bool true ∧ (pf 3) = [] := hR 3 (by decide)
      have e4 : (vf 4) = .pointer (some ⟨b1, 0 + 1, none⟩) ∧ (pf 4) = [] := hR 4 (by decide)
      refine Or.inl ⟨want_of (congrArg some e3.1) rfl, ?_⟩
      refine rq_less (l' := [boxE b1 #[.int .i64 t.N, .int .i64 t.B] 25]) (sub_cons (d := 7) (congrArg some e4.1) (sub_nil _)) (List.sublist_append_right _ _) ?_
      exact rq_v (rv_load rfl (by kernel_rfl) rfl (box_cell 0 rfl rfl))
    ·
      intro vf pf hR
      have e3 : (vf 3) = .bool true ∧ (pf 3) = [] := hR 3 (by decide)
      have e5 : (vf 5) = .int .i64 t.B ∧ (pf 5) = [] := hR 5 (by decide)
      refine Or.inl ⟨want_of (congrArg some e3.1) rfl, ?_⟩
      refine rq_less (l' := [boxE b1 #[.int .i64 t.N, .int .i64 t.B] 25]) (sub_cons (d := 8) (congrArg some e5.1) (sub_nil _)) (List.sublist_append_right _ _) ?_
      exact rq_mono (rq_v (rv_cmp rfl rfl rfl rfl)) (fun _ _ h => ⟨h.1.trans (congrArg Value.bool hb2), h.2⟩)
    ·
      intro vf pf hR
      have e3 : (vf 3) = .bool true ∧ (pf 3) = [] := hR 3 (by decide)
      have e6 : (vf 6) = .bool true ∧ (pf 6) = [] := hR 6 (by decide)
      refine Or.inl ⟨rfl, ?_⟩
      refine rq_less (l' := [boxE b1 #[.int .i64 t.N, .int .i64 t.B] 25]) (sub_cons (d := 6) (congrArg some e3.1) (sub_cons (d := 9) (congrArg some e6.1) (sub_nil _))) (List.sublist_append_right _ _) ?_
      exact rq_v (rv_ev rfl)
    ·
      intro vf pf hR
      have e7 : (vf 7) = .bool true ∧ (pf 7) = [] := hR 7 (by decide)
      refine Or.inl ⟨rfl, ?_⟩
      refine rq_less (l' := [boxE b1 #[.int .i64 t.N, .int .i64 t.B] 25]) (sub_cons (d := 10) (congrArg some e7.1) (sub_nil _)) (List.sublist_append_right _ _) ?_
      exact rq_v (rv_ev rfl)
    ·
      intro vf pf hR
      have e8 : (vf 8) = .bool true ∧ (pf 8) = [] := hR 8 (by decide)
      refine Or.inl ⟨want_of (congrArg some e8.1) rfl, ?_⟩
      refine rq_less (l' := [boxE b1 #[.int .i64 t.N, .int .i64 t.B] 25]) (sub_cons (d := 1) rfl (sub_nil _)) (List.sublist_append_right _ _) ?_
      exact rq_v (rv_field (k0 := 1) rfl (by kernel_rfl) rfl)
    ·
      intro vf pf hR
      have e8 : (vf 8) = .bool true ∧ (pf 8) = [] := hR 8 (by decide)
      have e9 : (vf 9) = .pointer (some ⟨b1, 0 + 1, none⟩) ∧ (pf 9) = [] := hR 9 (by decide)
      refine Or.inl ⟨want_of (congrArg some e8.1) rfl, ?_⟩
      refine rq_less (l' := [boxE b1 #[.int .i64 t.N, .int .i64 t.B] 25]) (sub_cons (d := 12) (congrArg some e9.1) (sub_nil _)) (List.sublist_append_right _ _) ?_
      exact rq_v (rv_load rfl (by kernel_rfl) rfl (box_cell 0 rfl rfl))
    ·
      intro vf pf hR
      have e8 : (vf 8) = .bool true ∧ (pf 8) = [] := hR 8 (by decide)
      refine Or.inl ⟨want_of (congrArg some e8.1) rfl, ?_⟩
      refine rq_less (l' := [boxE b1 #[.int .i64 t.N, .int .i64 t.B] 25]) (sub_cons (d := 1) rfl (sub_nil _)) (List.sublist_append_right _ _) ?_
      exact rq_v (rv_field (k0 := 0) rfl (by kernel_rfl) rfl)
    ·
      intro vf pf hR
      have e8 : (vf 8) = .bool true ∧ (pf 8) = [] := hR 8 (by decide)
      have e11 : (vf 11) = .pointer (some ⟨b1, 0 + 0, none⟩) ∧ (pf 11) = [] := hR 11 (by decide)
      refine Or.inl ⟨want_of (congrArg some e8.1) rfl, ?_⟩
      refine rq_less (l' := [boxE b1 #[.int .i64 t.N, .int .i64 t.B] 25]) (sub_cons (d := 14) (congrArg some e11.1) (sub_nil _)) (List.sublist_append_right _ _) ?_
      exact rq_v (rv_load rfl (by kernel_rfl) rfl (box_cell 0 rfl rfl))
    ·
      intro vf pf hR
      have e8 : (vf 8) = .bool true ∧ (pf 8) = [] := hR 8 (by decide)
      have e12 : (vf 12) = .int .i64 t.N ∧ (pf 12) = [] := hR 12 (by decide)
      refine Or.inl ⟨want_of (congrArg some e8.1) rfl, ?_⟩
      refine rq_less (l' := [boxE b1 #[.int .i64 t.N, .int .i64 t.B] 25]) (sub_cons (d := 15) (congrArg some e12.1) (sub_nil _)) (List.sublist_append_right _ _) ?_
      exact (rq_call (by kernel_rfl) rfl (fun w hm => ret_ans (l02Full_ans _ w hn)))
    ·
      intro vf pf hR
      have e8 : (vf 8) = .bool true ∧ (pf 8) = [] := hR 8 (by decide)
      have e10 : (vf 10) = .int .i64 t.B ∧ (pf 10) = [] := hR 10 (by decide)
      have e13 : (vf 13) = .int .i64 (qn t.N - 1) ∧ (pf 13) = [] := hR 13 (by decide)
      refine Or.inl ⟨want_of (congrArg some e8.1) rfl, ?_⟩
      refine rq_less (l' := [boxE b1 #[.int .i64 t.N, .int .i64 t.B] 25]) (sub_cons (d := 13) (congrArg some e10.1) (sub_cons (d := 16) (congrArg some e13.1) (sub_nil _))) (List.sublist_append_right _ _) ?_
      exact rq_mono (rq_v (rv_cmp rfl rfl rfl rfl)) (fun _ _ h => ⟨h.1.trans (congrArg Value.bool hb3), h.2⟩)
    ·
      intro vf pf hR
      have e8 : (vf 8) = .bool true ∧ (pf 8) = [] := hR 8 (by decide)
      have e14 : (vf 14) = .bool true ∧ (pf 14) = [] := hR 14 (by decide)
      refine Or.inl ⟨rfl, ?_⟩
      refine rq_less (l' := [boxE b1 #[.int .i64 t.N, .int .i64 t.B] 25]) (sub_cons (d := 11) (congrArg some e8.1) (sub_cons (d := 17) (congrArg some e14.1) (sub_nil _))) (List.sublist_append_right _ _) ?_
      exact rq_v (rv_ev rfl)
  ·
    intro vf pf hR
    have e15 : (vf 15) = .bool true ∧ (pf 15) = [] := hR 15 (by decide)
    refine hl_less (l' := [boxE b1 #[.int .i64 t.N, .int .i64 t.B] 25]) (sub_cons (d := 0) rfl (sub_cons (d := 1) rfl (sub_cons (d := 2) rfl (sub_cons (d := 18) (congrArg some e15.1) (sub_nil _))))) (List.sublist_append_right _ _) ?_
    simp only [List.drop_succ_cons, List.drop_zero]
    refine hl_v rfl rfl rfl (rv_ev rfl) ?_
    refine hl_less (sub_cons (d := 0) rfl (sub_cons (d := 1) rfl (sub_cons (d := 2) rfl (sub_nil _)))) (.refl _) ?_
    refine hl_nil ?_
    refine hq_then ?_
    refine hc_ret ?_
    exact hq_ans rfl rfl rfl
set_option maxHeartbeats 4000000 in
set_option maxRecDepth 100000 in
theorem implTableEval_ans (t : Tab) (i : Nat) (w : World) (ht : TabOk t) (hi : i < pn t.N) :
    Calls Try.prog 59 #[.agg #[.int .i64 t.N, .int .i64 t.B], .int .i64 (i : Int)] w (Ans w (.bool (tabB t i))) := by
  obtain ⟨hn, hB0, hB1⟩ := ht
  have hp := pn_rng hn
  have hq := qn_rng hn
  refine calls_hc (N := 25) (args := [.agg #[.int .i64 t.N, .int .i64 t.B], .int .i64 (i : Int)]) Try.func59 rfl rfl ?_
  refine hc_less _ (sub_cons (d := 0) rfl (sub_cons (d := 1) rfl (sub_nil _))) (.refl _) ?_
  refine hc_seq ?_
  refine hc_region ?_
  refine hl_box rfl rfl rfl (rq_box rfl rfl) ?_
  intro b1
  refine hl_v rfl rfl rfl (rv_ev rfl) ?_
  refine hl_less (sub_cons (d := 0) rfl (sub_cons (d := 1) rfl (sub_cons (d := 2) rfl (sub_cons (d := 4) rfl (sub_nil _))))) (.refl _) ?_
  refine hl_nil ?_
  refine hq_then ?_
  refine hc_seq ?_
  refine hc_region ?_
  refine hl_v rfl rfl rfl (rv_loadN (cs := [.int .i64 t.N, .int .i64 t.B]) rfl (by kernel_rfl) (by kernel_rfl) rfl rfl (box_part 0 rfl 0 rfl)) ?_
  refine hl_callV rfl rfl rfl (rq_call (by kernel_rfl) rfl (fun w hm => ret_ans (implTableOk_yes t w ⟨hn, hB0, hB1⟩))) ?_
  refine hl_v rfl rfl rfl (rv_ev rfl) ?_
  refine hl_v rfl rfl rfl (rv_ev rfl) ?_
  refine hl_v rfl rfl rfl (rv_field (k0 := 0) rfl (by kernel_rfl) rfl) ?_
  refine hl_v rfl rfl rfl (rv_load rfl (by kernel_rfl) rfl (box_cell 0 rfl rfl)) ?_
  refine hl_v rfl rfl rfl (rv_conv rfl Try.underlying3 Try.underlying68 rfl (IntWalk.u64_in _ (by omega))) ?_
  refine hl_v rfl rfl rfl (rv_shlG (k := .i64) (kk := .u64) (r := (pn t.N : Int)) rfl rfl rfl rfl (by omega) (wr1 hn)) ?_
  refine hl_v rfl rfl rfl (rv_sub rfl rfl rfl (by constructor <;> omega)) ?_
  refine hl_callV rfl rfl rfl (rq_call (by kernel_rfl) rfl (fun w hm => ret_ans (inr_yes (by omega) (by omega) w))) ?_
  refine hl_v rfl rfl rfl (rv_ev rfl) ?_
  refine hl_v rfl rfl rfl (rv_ev rfl) ?_
  refine hl_v rfl rfl rfl (rv_field (k0 := 1) rfl (by kernel_rfl) rfl) ?_
  refine hl_v rfl rfl rfl (rv_load rfl (by kernel_rfl) rfl (box_cell 0 rfl rfl)) ?_
  refine hl_v rfl rfl rfl (rv_ev rfl) ?_
  refine hl_v rfl rfl rfl (rv_conv rfl Try.underlying3 Try.underlying68 rfl (IntWalk.u64_in _ (by omega))) ?_
  refine hl_v rfl rfl rfl (rv_shr rfl rfl rfl (by omega)) ?_
  refine hl_v rfl rfl rfl (rv_bits rfl (by decide) rfl rfl (r := (t.B / 2 ^ ((i : Int)).toNat) % 2) (andB _ (by omega))) ?_
  refine hl_eql rfl rfl rfl rfl rfl rfl (fun h2 => ?_) (fun h2 => ?_)
  ·
    refine hl_v rfl rfl rfl (rv_ev rfl) ?_
    refine hl_v rfl rfl rfl (rv_ev rfl) ?_
    refine hl_less (sub_cons (d := 0) rfl (sub_cons (d := 1) rfl (sub_cons (d := 2) rfl (sub_cons (d := 4) rfl (sub_nil _))))) (.refl _) ?_
    refine hl_nil ?_
    refine hq_then ?_
    refine hc_ret ?_
    exact hq_ans rfl rfl (congrArg _ (decide_eq_true (by assumption)).symm)
  ·
    refine hl_v rfl rfl rfl (rv_ev rfl) ?_
    refine hl_v rfl rfl rfl (rv_ev rfl) ?_
    refine hl_less (sub_cons (d := 0) rfl (sub_cons (d := 1) rfl (sub_cons (d := 2) rfl (sub_cons (d := 4) rfl (sub_nil _))))) (.refl _) ?_
    refine hl_nil ?_
    refine hq_then ?_
    refine hc_ret ?_
    exact hq_ans rfl rfl (congrArg _ (decide_eq_false (by assumption)).symm)
set_option maxHeartbeats 4000000 in
set_option maxRecDepth 100000 in
theorem specTableEval_ans (t : Tab) (i : Nat) (w : World) (ht : TabOk t) (hi : i < pn t.N) :
    Calls Try.prog 11 #[.agg #[.int .i64 t.N, .int .i64 t.B], .int .i64 (i : Int)] w (Ans w (.bool (tabB t i))) := by
  obtain ⟨hn, hB0, hB1⟩ := ht
  have hp := pn_rng hn
  have hq := qn_rng hn
  refine calls_hc (N := 26) (args := [.agg #[.int .i64 t.N, .int .i64 t.B], .int .i64 (i : Int)]) Try.func11 rfl rfl ?_
  refine hc_less _ (sub_cons (d := 0) rfl (sub_cons (d := 1) rfl (sub_nil _))) (.refl _) ?_
  refine hc_seq ?_
  refine hc_region ?_
  refine hl_box rfl rfl rfl (rq_box rfl rfl) ?_
  intro b1
  refine hl_v rfl rfl rfl (rv_ev rfl) ?_
  refine hl_less (sub_cons (d := 0) rfl (sub_cons (d := 1) rfl (sub_cons (d := 2) rfl (sub_cons (d := 4) rfl (sub_nil _))))) (.refl _) ?_
  refine hl_nil ?_
  refine hq_then ?_
  refine hc_seq ?_
  refine hc_region ?_
  refine hl_v rfl rfl rfl (rv_loadN (cs := [.int .i64 t.N, .int .i64 t.B]) rfl (by kernel_rfl) (by kernel_rfl) rfl rfl (box_part 0 rfl 0 rfl)) ?_
  refine hl_callV rfl rfl rfl (rq_call (by kernel_rfl) rfl (fun w hm => ret_ans (specTableOk_yes t w ⟨hn, hB0, hB1⟩))) ?_
  refine hl_v rfl rfl rfl (rv_ev rfl) ?_
  refine hl_v rfl rfl rfl (rv_ev rfl) ?_
  refine hl_geq rfl rfl rfl rfl rfl rfl (fun h2 => ?_) (fun h2 => absurd h2 (by omega))
  refine hl_v rfl rfl rfl (rv_ev rfl) ?_
  refine hl_v rfl rfl rfl (rv_ev rfl) ?_
  refine hl_v rfl rfl rfl (rv_ev rfl) ?_
  refine hl_v rfl rfl rfl (rv_field (k0 := 0) rfl (by kernel_rfl) rfl) ?_
  refine hl_v rfl rfl rfl (rv_load rfl (by kernel_rfl) rfl (box_cell 0 rfl rfl)) ?_
  refine hl_v rfl rfl rfl (rv_shlG (k := .i64) (kk := .i64) (r := (pn t.N : Int)) rfl rfl rfl rfl (by omega) (wr1 hn)) ?_
  refine hl_lss rfl rfl rfl rfl rfl rfl (fun h3 => ?_) (fun h3 => absurd h3 (by omega))
  refine hl_v rfl rfl rfl (rv_ev rfl) ?_
  refine hl_v rfl rfl rfl (rv_ev rfl) ?_
  refine hl_v rfl rfl rfl (rv_field (k0 := 1) rfl (by kernel_rfl) rfl) ?_
  refine hl_v rfl rfl rfl (rv_load rfl (by kernel_rfl) rfl (box_cell 0 rfl rfl)) ?_
  refine hl_v rfl rfl rfl (rv_ev rfl) ?_
  refine hl_v rfl rfl rfl (rv_shr rfl rfl rfl (by omega)) ?_
  refine hl_v rfl rfl rfl (rv_bits rfl (by decide) rfl rfl (r := (t.B / 2 ^ ((i : Int)).toNat) % 2) (andB _ (by omega))) ?_
  refine hl_eql rfl rfl rfl rfl rfl rfl (fun h4 => ?_) (fun h4 => ?_)
  ·
    refine hl_v rfl rfl rfl (rv_ev rfl) ?_
    refine hl_v rfl rfl rfl (rv_ev rfl) ?_
    refine hl_less (sub_cons (d := 0) rfl (sub_cons (d := 1) rfl (sub_cons (d := 2) rfl (sub_cons (d := 4) rfl (sub_nil _))))) (.refl _) ?_
    refine hl_nil ?_
    refine hq_then ?_
    refine hc_ret ?_
    exact hq_ans rfl rfl (congrArg _ (decide_eq_true (by assumption)).symm)
  ·
    refine hl_v rfl rfl rfl (rv_ev rfl) ?_
    refine hl_v rfl rfl rfl (rv_ev rfl) ?_
    refine hl_less (sub_cons (d := 0) rfl (sub_cons (d := 1) rfl (sub_cons (d := 2) rfl (sub_cons (d := 4) rfl (sub_nil _))))) (.refl _) ?_
    refine hl_nil ?_
    refine hq_then ?_
    refine hc_ret ?_
    exact hq_ans rfl rfl (congrArg _ (decide_eq_false (by assumption)).symm)
set_option maxHeartbeats 4000000 in
set_option maxRecDepth 100000 in
theorem implCubeOk_yes (n : Int) (c v : Nat) (w : World) (hn : 0 ≤ n ∧ n ≤ 4) (hc : c < pn n) (hv : v < pn n) (hcv : v &&& c = v) :
    Calls Try.prog 13 #[.int .i64 n, .agg #[.int .i64 (c : Int), .int .i64 (v : Int)]] w (Ans w (.bool true)) := by
  have hp := pn_rng hn
  have han : bits BinOp.andNot IntKind.i64 (v : Int) (c : Int) = 0 := (an_iff (by omega) (by omega)).2 hcv
  refine calls_hc (N := 33) (args := [.int .i64 n, .agg #[.int .i64 (c : Int), .int .i64 (v : Int)]]) Try.func13 rfl rfl ?_
  refine hc_less _ (sub_cons (d := 0) rfl (sub_cons (d := 1) rfl (sub_nil _))) (.refl _) ?_
  refine hc_seq ?_
  refine hc_region ?_
  refine hl_box rfl rfl rfl (rq_box rfl rfl) ?_
  intro b1
  refine hl_v rfl rfl rfl (rv_ev rfl) ?_
  refine hl_less (sub_cons (d := 0) rfl (sub_cons (d := 1) rfl (sub_cons (d := 3) rfl (sub_cons (d := 4) rfl (sub_nil _))))) (.refl _) ?_
  refine hl_nil ?_
  refine hq_then ?_
  refine hc_seq ?_
  refine hc_region ?_
  refine hl_v rfl rfl rfl (rv_ev rfl) ?_
  refine hl_callV rfl rfl rfl (rq_call (by kernel_rfl) rfl (fun w hm => ret_ans (inr_yes (by omega) (by omega) w))) ?_
  refine hl_v rfl rfl rfl (rv_ev rfl) ?_
  refine hl_v rfl rfl rfl (rv_field (k0 := 0) rfl (by kernel_rfl) rfl) ?_
  refine hl_v rfl rfl rfl (rv_load rfl (by kernel_rfl) rfl (box_cell 0 rfl rfl)) ?_
  refine hl_v rfl rfl rfl (rv_ev rfl) ?_
  refine hl_v rfl rfl rfl (rv_conv rfl Try.underlying3 Try.underlying68 rfl (IntWalk.u64_in _ (by omega))) ?_
  refine hl_v rfl rfl rfl (rv_shlG (k := .i64) (kk := .u64) (r := (pn n : Int)) rfl rfl rfl rfl (by omega) (wr1 hn)) ?_
  refine hl_v rfl rfl rfl (rv_sub rfl rfl rfl (by constructor <;> omega)) ?_
  refine hl_callV rfl rfl rfl (rq_call (by kernel_rfl) rfl (fun w hm => ret_ans (inr_yes (by omega) (by omega) w))) ?_
  refine hl_v rfl rfl rfl (rv_ev rfl) ?_
  refine hl_v rfl rfl rfl (rv_ev rfl) ?_
  refine hl_v rfl rfl rfl (rv_field (k0 := 1) rfl (by kernel_rfl) rfl) ?_
  refine hl_v rfl rfl rfl (rv_load rfl (by kernel_rfl) rfl (box_cell 0 rfl rfl)) ?_
  refine hl_v rfl rfl rfl (rv_ev rfl) ?_
  refine hl_v rfl rfl rfl (rv_conv rfl Try.underlying3 Try.underlying68 rfl (IntWalk.u64_in _ (by omega))) ?_
  refine hl_v rfl rfl rfl (rv_shlG (k := .i64) (kk := .u64) (r := (pn n : Int)) rfl rfl rfl rfl (by omega) (wr1 hn)) ?_
  refine hl_v rfl rfl rfl (rv_sub rfl rfl rfl (by constructor <;> omega)) ?_
  refine hl_callV rfl rfl rfl (rq_call (by kernel_rfl) rfl (fun w hm => ret_ans (inr_yes (by omega) (by omega) w))) ?_
  refine hl_v rfl rfl rfl (rv_ev rfl) ?_
  refine hl_v rfl rfl rfl (rv_ev rfl) ?_
  refine hl_v rfl rfl rfl (rv_field (k0 := 1) rfl (by kernel_rfl) rfl) ?_
  refine hl_v rfl rfl rfl (rv_load rfl (by kernel_rfl) rfl (box_cell 0 rfl rfl)) ?_
  refine hl_v rfl rfl rfl (rv_field (k0 := 0) rfl (by kernel_rfl) rfl) ?_
  refine hl_v rfl rfl rfl (rv_load rfl (by kernel_rfl) rfl (box_cell 0 rfl rfl)) ?_
  refine hl_v rfl rfl rfl (rv_bits rfl (by decide) rfl rfl (r := bits .andNot .i64 (v : Int) (c : Int)) rfl) ?_
  refine hl_eql rfl rfl rfl rfl rfl rfl (fun h2 => ?_) (fun h2 => absurd h2 (by omega))
  refine hl_v rfl rfl rfl (rv_ev rfl) ?_
  refine hl_v rfl rfl rfl (rv_ev rfl) ?_
  refine hl_less (sub_cons (d := 0) rfl (sub_cons (d := 1) rfl (sub_cons (d := 3) rfl (sub_cons (d := 4) rfl (sub_nil _))))) (.refl _) ?_
  refine hl_nil ?_
  refine hq_then ?_
  refine hc_ret ?_
  exact hq_ans rfl rfl rfl
set_option maxHeartbeats 4000000 in
set_option maxRecDepth 100000 in
theorem specCubeOk_yes (n : Int) (c v : Nat) (w : World) (hn : 0 ≤ n ∧ n ≤ 4) (hc : c < pn n) (hv : v < pn n) (hcv : v &&& c = v) :
    Calls Try.prog 29 #[.int .i64 n, .agg #[.int .i64 (c : Int), .int .i64 (v : Int)]] w (Ans w (.bool true)) := by
  have hp := pn_rng hn
  have han : bits BinOp.andNot IntKind.i64 (v : Int) (c : Int) = 0 := (an_iff (by omega) (by omega)).2 hcv
  refine calls_hc (N := 31) (args := [.int .i64 n, .agg #[.int .i64 (c : Int), .int .i64 (v : Int)]]) Try.func29 rfl rfl ?_
  refine hc_less _ (sub_cons (d := 0) rfl (sub_cons (d := 1) rfl (sub_nil _))) (.refl _) ?_
  refine hc_seq ?_
  refine hc_region ?_
  refine hl_box rfl rfl rfl (rq_box rfl rfl) ?_
  intro b1
  refine hl_v rfl rfl rfl (rv_ev rfl) ?_
  refine hl_less (sub_cons (d := 0) rfl (sub_cons (d := 1) rfl (sub_cons (d := 3) rfl (sub_cons (d := 4) rfl (sub_nil _))))) (.refl _) ?_
  refine hl_nil ?_
  refine hq_then ?_
  refine hc_seq ?_
  have hb2 : ((bits .andNot .i64 (v : Int) (c : Int)) == 0) = true := by simp; omega
  refine hc_draw (by kernel_rfl) 26 [0, 1, 2, 3, 4, 5, 6, 7, 8, 9, 10, 11, 12, 13, 14, 15, 16, 17, 18, 19, 20, 21, 22, 23, 24, 25] (List.take 26 _) (List.drop 26 _) [[], [0], [1], [2], [2, 3], [2], [2, 5], [2, 6], [2, 4, 7], [2, 8], [9], [10], [10, 11], [10], [10, 13], [10, 14], [10, 12, 15], [10, 16], [17], [18], [18, 19], [18], [18, 21], [18, 20, 22], [18, 23], [18, 24]] [5, 6, 7, 8, 9, 10, 11, 12, 13, 14, 15, 16, 17, 18, 19, 20, 21, 22, 23, 24, 25, 26, 27, 28, 29, 30] (fun i vs_ v_ p_ => match i with | 0 => v_ = .int .i64 n ∧ p_ = [] | 1 => v_ = .bool true ∧ p_ = [] | 2 => v_ = .bool true ∧ p_ = [] | 3 => v_ = .pointer (some ⟨b1, 0 + 0, none⟩) ∧ p_ = [] | 4 => v_ = .int .i64 (c : Int) ∧ p_ = [] | 5 => v_ = .int .i64 n ∧ p_ = [] | 6 => v_ = .int .i64 (pn n : Int) ∧ p_ = [] | 7 => v_ = .int .i64 ((pn n : Int) - 1) ∧ p_ = [] | 8 => v_ = .bool true ∧ p_ = [] | 9 => v_ = .bool true ∧ p_ = [] | 10 => v_ = .bool true ∧ p_ = [] | 11 => v_ = .pointer (some ⟨b1, 0 + 1, none⟩) ∧ p_ = [] | 12 => v_ = .int .i64 (v : Int) ∧ p_ = [] | 13 => v_ = .int .i64 n ∧ p_ = [] | 14 => v_ = .int .i64 (pn n : Int) ∧ p_ = [] | 15 => v_ = .int .i64 ((pn n : Int) - 1) ∧ p_ = [] | 16 => v_ = .bool true ∧ p_ = [] | 17 => v_ = .bool true ∧ p_ = [] | 18 => v_ = .bool true ∧ p_ = [] | 19 => v_ = .pointer (some ⟨b1, 0 + 1, none⟩) ∧ p_ = [] | 20 => v_ = .int .i64 (v : Int) ∧ p_ = [] | 21 => v_ = .pointer (some ⟨b1, 0 + 0, none⟩) ∧ p_ = [] | 22 => v_ = .int .i64 (c : Int) ∧ p_ = [] | 23 => v_ = .int .i64 (bits .andNot .i64 (v : Int) (c : Int)) ∧ p_ = [] | 24 => v_ = .bool true ∧ p_ = [] | 25 => v_ = .bool true ∧ p_ = [] | _ => True) (List.take_append_drop 26 _).symm (by kernel_rfl) (by kernel_rfl) rfl rfl ?_ ?_
  ·
    refine ⟨?_, ?_, ?_, ?_, ?_, ?_, ?_, ?_, ?_, ?_, ?_, ?_, ?_, ?_, ?_, ?_, ?_, ?_, ?_, ?_, ?_, ?_, ?_, ?_, ?_, ?_, trivial⟩
    ·
      intro vf pf hR
      refine Or.inl ⟨rfl, ?_⟩
      refine rq_less (l' := [boxE b1 #[.int .i64 (c : Int), .int .i64 (v : Int)] 30]) (sub_cons (d := 0) rfl (sub_nil _)) (List.sublist_append_right _ _) ?_
      exact rq_v (rv_ev rfl)
    ·
      intro vf pf hR
      have e0 : (vf 0) = .int .i64 n ∧ (pf 0) = [] := hR 0 (by decide)
      refine Or.inl ⟨rfl, ?_⟩
      refine rq_less (l' := [boxE b1 #[.int .i64 (c : Int), .int .i64 (v : Int)] 30]) (sub_cons (d := 5) (congrArg some e0.1) (sub_nil _)) (List.sublist_append_right _ _) ?_
      exact (rq_call (by kernel_rfl) rfl (fun w hm => ret_ans (l01In_yes (by omega) (by omega) w)))
    ·
      intro vf pf hR
      have e1 : (vf 1) = .bool true ∧ (pf 1) = [] := hR 1 (by decide)
      refine Or.inl ⟨rfl, ?_⟩
      refine rq_less (l' := [boxE b1 #[.int .i64 (c : Int), .int .i64 (v : Int)] 30]) (sub_cons (d := 6) (congrArg some e1.1) (sub_nil _)) (List.sublist_append_right _ _) ?_
      exact rq_v (rv_ev rfl)
    ·
      intro vf pf hR
      have e2 : (vf 2) = .bool true ∧ (pf 2) = [] := hR 2 (by decide)
      refine Or.inl ⟨want_of (congrArg some e2.1) rfl, ?_⟩
      refine rq_less (l' := [boxE b1 #[.int .i64 (c : Int), .int .i64 (v : Int)] 30]) (sub_cons (d := 3) rfl (sub_nil _)) (List.sublist_append_right _ _) ?_
      exact rq_v (rv_field (k0 := 0) rfl (by kernel_rfl) rfl)
    ·
      intro vf pf hR
      have e2 : (vf 2) = .bool true ∧ (pf 2) = [] := hR 2 (by decide)
      have e3 : (vf 3) = .pointer (some ⟨b1, 0 + 0, none⟩) ∧ (pf 3) = [] := hR 3 (by decide)
      refine Or.inl ⟨want_of (congrArg some e2.1) rfl, ?_⟩
      refine rq_less (l' := [boxE b1 #[.int .i64 (c : Int), .int .i64 (v : Int)] 30]) (sub_cons (d := 8) (congrArg some e3.1) (sub_nil _)) (List.sublist_append_right _ _) ?_
      exact rq_v (rv_load rfl (by kernel_rfl) rfl (box_cell 0 rfl rfl))
    ·
      intro vf pf hR
      have e2 : (vf 2) = .bool true ∧ (pf 2) = [] := hR 2 (by decide)
      refine Or.inl ⟨want_of (congrArg some e2.1) rfl, ?_⟩
      refine rq_less (l' := [boxE b1 #[.int .i64 (c : Int), .int .i64 (v : Int)] 30]) (sub_cons (d := 0) rfl (sub_nil _)) (List.sublist_append_right _ _) ?_
      exact rq_v (rv_ev rfl)
    ·
      intro vf pf hR
      have e2 : (vf 2) = .bool true ∧ (pf 2) = [] := hR 2 (by decide)
      have e5 : (vf 5) = .int .i64 n ∧ (pf 5) = [] := hR 5 (by decide)
      refine Or.inl ⟨want_of (congrArg some e2.1) rfl, ?_⟩
      refine rq_less (l' := [boxE b1 #[.int .i64 (c : Int), .int .i64 (v : Int)] 30]) (sub_cons (d := 10) (congrArg some e5.1) (sub_nil _)) (List.sublist_append_right _ _) ?_
      exact rq_v (rv_shlG (k := .i64) (kk := .i64) (r := (pn n : Int)) rfl rfl rfl rfl (by omega) (wr1 hn))
    ·
      intro vf pf hR
      have e2 : (vf 2) = .bool true ∧ (pf 2) = [] := hR 2 (by decide)
      have e6 : (vf 6) = .int .i64 (pn n : Int) ∧ (pf 6) = [] := hR 6 (by decide)
      refine Or.inl ⟨want_of (congrArg some e2.1) rfl, ?_⟩
      refine rq_less (l' := [boxE b1 #[.int .i64 (c : Int), .int .i64 (v : Int)] 30]) (sub_cons (d := 11) (congrArg some e6.1) (sub_nil _)) (List.sublist_append_right _ _) ?_
      exact rq_v (rv_sub rfl rfl rfl (by constructor <;> omega))
    ·
      intro vf pf hR
      have e2 : (vf 2) = .bool true ∧ (pf 2) = [] := hR 2 (by decide)
      have e4 : (vf 4) = .int .i64 (c : Int) ∧ (pf 4) = [] := hR 4 (by decide)
      have e7 : (vf 7) = .int .i64 ((pn n : Int) - 1) ∧ (pf 7) = [] := hR 7 (by decide)
      refine Or.inl ⟨want_of (congrArg some e2.1) rfl, ?_⟩
      refine rq_less (l' := [boxE b1 #[.int .i64 (c : Int), .int .i64 (v : Int)] 30]) (sub_cons (d := 9) (congrArg some e4.1) (sub_cons (d := 12) (congrArg some e7.1) (sub_nil _))) (List.sublist_append_right _ _) ?_
      exact (rq_call (by kernel_rfl) rfl (fun w hm => ret_ans (l01In_yes (by omega) (by omega) w)))
    ·
      intro vf pf hR
      have e2 : (vf 2) = .bool true ∧ (pf 2) = [] := hR 2 (by decide)
      have e8 : (vf 8) = .bool true ∧ (pf 8) = [] := hR 8 (by decide)
      refine Or.inl ⟨rfl, ?_⟩
      refine rq_less (l' := [boxE b1 #[.int .i64 (c : Int), .int .i64 (v : Int)] 30]) (sub_cons (d := 7) (congrArg some e2.1) (sub_cons (d := 13) (congrArg some e8.1) (sub_nil _))) (List.sublist_append_right _ _) ?_
      exact rq_v (rv_ev rfl)
    ·
      intro vf pf hR
      have e9 : (vf 9) = .bool true ∧ (pf 9) = [] := hR 9 (by decide)
      refine Or.inl ⟨rfl, ?_⟩
      refine rq_less (l' := [boxE b1 #[.int .i64 (c : Int), .int .i64 (v : Int)] 30]) (sub_cons (d := 14) (congrArg some e9.1) (sub_nil _)) (List.sublist_append_right _ _) ?_
      exact rq_v (rv_ev rfl)
    ·
      intro vf pf hR
      have e10 : (vf 10) = .bool true ∧ (pf 10) = [] := hR 10 (by decide)
      refine Or.inl ⟨want_of (congrArg some e10.1) rfl, ?_⟩
      refine rq_less (l' := [boxE b1 #[.int .i64 (c : Int), .int .i64 (v : Int)] 30]) (sub_cons (d := 3) rfl (sub_nil _)) (List.sublist_append_right _ _) ?_
      exact rq_v (rv_field (k0 := 1) rfl (by kernel_rfl) rfl)
    ·
      intro vf pf hR
      have e10 : (vf 10) = .bool true ∧ (pf 10) = [] := hR 10 (by decide)
      have e11 : (vf 11) = .pointer (some ⟨b1, 0 + 1, none⟩) ∧ (pf 11) = [] := hR 11 (by decide)
      refine Or.inl ⟨want_of (congrArg some e10.1) rfl, ?_⟩
      refine rq_less (l' := [boxE b1 #[.int .i64 (c : Int), .int .i64 (v : Int)] 30]) (sub_cons (d := 16) (congrArg some e11.1) (sub_nil _)) (List.sublist_append_right _ _) ?_
      exact rq_v (rv_load rfl (by kernel_rfl) rfl (box_cell 0 rfl rfl))
    ·
      intro vf pf hR
      have e10 : (vf 10) = .bool true ∧ (pf 10) = [] := hR 10 (by decide)
      refine Or.inl ⟨want_of (congrArg some e10.1) rfl, ?_⟩
      refine rq_less (l' := [boxE b1 #[.int .i64 (c : Int), .int .i64 (v : Int)] 30]) (sub_cons (d := 0) rfl (sub_nil _)) (List.sublist_append_right _ _) ?_
      exact rq_v (rv_ev rfl)
    ·
      intro vf pf hR
      have e10 : (vf 10) = .bool true ∧ (pf 10) = [] := hR 10 (by decide)
      have e13 : (vf 13) = .int .i64 n ∧ (pf 13) = [] := hR 13 (by decide)
      refine Or.inl ⟨want_of (congrArg some e10.1) rfl, ?_⟩
      refine rq_less (l' := [boxE b1 #[.int .i64 (c : Int), .int .i64 (v : Int)] 30]) (sub_cons (d := 18) (congrArg some e13.1) (sub_nil _)) (List.sublist_append_right _ _) ?_
      exact rq_v (rv_shlG (k := .i64) (kk := .i64) (r := (pn n : Int)) rfl rfl rfl rfl (by omega) (wr1 hn))
    ·
      intro vf pf hR
      have e10 : (vf 10) = .bool true ∧ (pf 10) = [] := hR 10 (by decide)
      have e14 : (vf 14) = .int .i64 (pn n : Int) ∧ (pf 14) = [] := hR 14 (by decide)
      refine Or.inl ⟨want_of (congrArg some e10.1) rfl, ?_⟩
      refine rq_less (l' := [boxE b1 #[.int .i64 (c : Int), .int .i64 (v : Int)] 30]) (sub_cons (d := 19) (congrArg some e14.1) (sub_nil _)) (List.sublist_append_right _ _) ?_
      exact rq_v (rv_sub rfl rfl rfl (by constructor <;> omega))
    ·
      intro vf pf hR
      have e10 : (vf 10) = .bool true ∧ (pf 10) = [] := hR 10 (by decide)
      have e12 : (vf 12) = .int .i64 (v : Int) ∧ (pf 12) = [] := hR 12 (by decide)
      have e15 : (vf 15) = .int .i64 ((pn n : Int) - 1) ∧ (pf 15) = [] := hR 15 (by decide)
      refine Or.inl ⟨want_of (congrArg some e10.1) rfl, ?_⟩
      refine rq_less (l' := [boxE b1 #[.int .i64 (c : Int), .int .i64 (v : Int)] 30]) (sub_cons (d := 17) (congrArg some e12.1) (sub_cons (d := 20) (congrArg some e15.1) (sub_nil _))) (List.sublist_append_right _ _) ?_
      exact (rq_call (by kernel_rfl) rfl (fun w hm => ret_ans (l01In_yes (by omega) (by omega) w)))
    ·
      intro vf pf hR
      have e10 : (vf 10) = .bool true ∧ (pf 10) = [] := hR 10 (by decide)
      have e16 : (vf 16) = .bool true ∧ (pf 16) = [] := hR 16 (by decide)
      refine Or.inl ⟨rfl, ?_⟩
      refine rq_less (l' := [boxE b1 #[.int .i64 (c : Int), .int .i64 (v : Int)] 30]) (sub_cons (d := 15) (congrArg some e10.1) (sub_cons (d := 21) (congrArg some e16.1) (sub_nil _))) (List.sublist_append_right _ _) ?_
      exact rq_v (rv_ev rfl)
    ·
      intro vf pf hR
      have e17 : (vf 17) = .bool true ∧ (pf 17) = [] := hR 17 (by decide)
      refine Or.inl ⟨rfl, ?_⟩
      refine rq_less (l' := [boxE b1 #[.int .i64 (c : Int), .int .i64 (v : Int)] 30]) (sub_cons (d := 22) (congrArg some e17.1) (sub_nil _)) (List.sublist_append_right _ _) ?_
      exact rq_v (rv_ev rfl)
    ·
      intro vf pf hR
      have e18 : (vf 18) = .bool true ∧ (pf 18) = [] := hR 18 (by decide)
      refine Or.inl ⟨want_of (congrArg some e18.1) rfl, ?_⟩
      refine rq_less (l' := [boxE b1 #[.int .i64 (c : Int), .int .i64 (v : Int)] 30]) (sub_cons (d := 3) rfl (sub_nil _)) (List.sublist_append_right _ _) ?_
      exact rq_v (rv_field (k0 := 1) rfl (by kernel_rfl) rfl)
    ·
      intro vf pf hR
      have e18 : (vf 18) = .bool true ∧ (pf 18) = [] := hR 18 (by decide)
      have e19 : (vf 19) = .pointer (some ⟨b1, 0 + 1, none⟩) ∧ (pf 19) = [] := hR 19 (by decide)
      refine Or.inl ⟨want_of (congrArg some e18.1) rfl, ?_⟩
      refine rq_less (l' := [boxE b1 #[.int .i64 (c : Int), .int .i64 (v : Int)] 30]) (sub_cons (d := 24) (congrArg some e19.1) (sub_nil _)) (List.sublist_append_right _ _) ?_
      exact rq_v (rv_load rfl (by kernel_rfl) rfl (box_cell 0 rfl rfl))
    ·
      intro vf pf hR
      have e18 : (vf 18) = .bool true ∧ (pf 18) = [] := hR 18 (by decide)
      refine Or.inl ⟨want_of (congrArg some e18.1) rfl, ?_⟩
      refine rq_less (l' := [boxE b1 #[.int .i64 (c : Int), .int .i64 (v : Int)] 30]) (sub_cons (d := 3) rfl (sub_nil _)) (List.sublist_append_right _ _) ?_
      exact rq_v (rv_field (k0 := 0) rfl (by kernel_rfl) rfl)
    ·
      intro vf pf hR
      have e18 : (vf 18) = .bool true ∧ (pf 18) = [] := hR 18 (by decide)
      have e21 : (vf 21) = .pointer (some ⟨b1, 0 + 0, none⟩) ∧ (pf 21) = [] := hR 21 (by decide)
      refine Or.inl ⟨want_of (congrArg some e18.1) rfl, ?_⟩
      refine rq_less (l' := [boxE b1 #[.int .i64 (c : Int), .int .i64 (v : Int)] 30]) (sub_cons (d := 26) (congrArg some e21.1) (sub_nil _)) (List.sublist_append_right _ _) ?_
      exact rq_v (rv_load rfl (by kernel_rfl) rfl (box_cell 0 rfl rfl))
    ·
      intro vf pf hR
      have e18 : (vf 18) = .bool true ∧ (pf 18) = [] := hR 18 (by decide)
      have e20 : (vf 20) = .int .i64 (v : Int) ∧ (pf 20) = [] := hR 20 (by decide)
      have e22 : (vf 22) = .int .i64 (c : Int) ∧ (pf 22) = [] := hR 22 (by decide)
      refine Or.inl ⟨want_of (congrArg some e18.1) rfl, ?_⟩
      refine rq_less (l' := [boxE b1 #[.int .i64 (c : Int), .int .i64 (v : Int)] 30]) (sub_cons (d := 25) (congrArg some e20.1) (sub_cons (d := 27) (congrArg some e22.1) (sub_nil _))) (List.sublist_append_right _ _) ?_
      exact rq_v (rv_bits rfl (by decide) rfl rfl (r := bits .andNot .i64 (v : Int) (c : Int)) rfl)
    ·
      intro vf pf hR
      have e18 : (vf 18) = .bool true ∧ (pf 18) = [] := hR 18 (by decide)
      have e23 : (vf 23) = .int .i64 (bits .andNot .i64 (v : Int) (c : Int)) ∧ (pf 23) = [] := hR 23 (by decide)
      refine Or.inl ⟨want_of (congrArg some e18.1) rfl, ?_⟩
      refine rq_less (l' := [boxE b1 #[.int .i64 (c : Int), .int .i64 (v : Int)] 30]) (sub_cons (d := 28) (congrArg some e23.1) (sub_nil _)) (List.sublist_append_right _ _) ?_
      exact rq_mono (rq_v (rv_cmp rfl rfl rfl rfl)) (fun _ _ h => ⟨h.1.trans (congrArg Value.bool hb2), h.2⟩)
    ·
      intro vf pf hR
      have e18 : (vf 18) = .bool true ∧ (pf 18) = [] := hR 18 (by decide)
      have e24 : (vf 24) = .bool true ∧ (pf 24) = [] := hR 24 (by decide)
      refine Or.inl ⟨rfl, ?_⟩
      refine rq_less (l' := [boxE b1 #[.int .i64 (c : Int), .int .i64 (v : Int)] 30]) (sub_cons (d := 23) (congrArg some e18.1) (sub_cons (d := 29) (congrArg some e24.1) (sub_nil _))) (List.sublist_append_right _ _) ?_
      exact rq_v (rv_ev rfl)
  ·
    intro vf pf hR
    have e25 : (vf 25) = .bool true ∧ (pf 25) = [] := hR 25 (by decide)
    refine hl_less (l' := [boxE b1 #[.int .i64 (c : Int), .int .i64 (v : Int)] 30]) (sub_cons (d := 0) rfl (sub_cons (d := 1) rfl (sub_cons (d := 3) rfl (sub_cons (d := 4) rfl (sub_cons (d := 30) (congrArg some e25.1) (sub_nil _)))))) (List.sublist_append_right _ _) ?_
    simp only [List.drop_succ_cons, List.drop_zero]
    refine hl_v rfl rfl rfl (rv_ev rfl) ?_
    refine hl_less (sub_cons (d := 0) rfl (sub_cons (d := 1) rfl (sub_cons (d := 3) rfl (sub_cons (d := 4) rfl (sub_nil _))))) (.refl _) ?_
    refine hl_nil ?_
    refine hq_then ?_
    refine hc_ret ?_
    exact hq_ans rfl rfl rfl
set_option maxHeartbeats 4000000 in
set_option maxRecDepth 100000 in
theorem specCubeHas_ans (n : Int) (c v i : Nat) (w : World) (hn : 0 ≤ n ∧ n ≤ 4) (hc : c < pn n) (hv : v < pn n) (hcv : v &&& c = v) (hi : i < pn n) :
    Calls Try.prog 10 #[.int .i64 n, .agg #[.int .i64 (c : Int), .int .i64 (v : Int)], .int .i64 (i : Int)] w (Ans w (.bool (decide (i &&& c = v)))) := by
  have hp := pn_rng hn
  have han : bits BinOp.andNot IntKind.i64 (v : Int) (c : Int) = 0 := (an_iff (by omega) (by omega)).2 hcv
  refine calls_hc (N := 26) (args := [.int .i64 n, .agg #[.int .i64 (c : Int), .int .i64 (v : Int)], .int .i64 (i : Int)]) Try.func10 rfl rfl ?_
  refine hc_less _ (sub_cons (d := 0) rfl (sub_cons (d := 1) rfl (sub_cons (d := 2) rfl (sub_nil _)))) (.refl _) ?_
  refine hc_seq ?_
  refine hc_region ?_
  refine hl_box rfl rfl rfl (rq_box rfl rfl) ?_
  intro b1
  refine hl_v rfl rfl rfl (rv_ev rfl) ?_
  refine hl_less (sub_cons (d := 0) rfl (sub_cons (d := 1) rfl (sub_cons (d := 2) rfl (sub_cons (d := 4) rfl (sub_cons (d := 6) rfl (sub_nil _)))))) (.refl _) ?_
  refine hl_nil ?_
  refine hq_then ?_
  refine hc_seq ?_
  refine hc_region ?_
  refine hl_v rfl rfl rfl (rv_ev rfl) ?_
  refine hl_v rfl rfl rfl (rv_loadN (cs := [.int .i64 (c : Int), .int .i64 (v : Int)]) rfl (by kernel_rfl) (by kernel_rfl) rfl rfl (box_part 0 rfl 0 rfl)) ?_
  refine hl_callV rfl rfl rfl (rq_call (by kernel_rfl) rfl (fun w hm => ret_ans (specCubeOk_yes _ _ _ w hn hc hv hcv))) ?_
  refine hl_v rfl rfl rfl (rv_ev rfl) ?_
  refine hl_v rfl rfl rfl (rv_ev rfl) ?_
  refine hl_v rfl rfl rfl (rv_ev rfl) ?_
  refine hl_v rfl rfl rfl (rv_shlG (k := .i64) (kk := .i64) (r := (pn n : Int)) rfl rfl rfl rfl (by omega) (wr1 hn)) ?_
  refine hl_v rfl rfl rfl (rv_sub rfl rfl rfl (by constructor <;> omega)) ?_
  refine hl_callV rfl rfl rfl (rq_call (by kernel_rfl) rfl (fun w hm => ret_ans (l01In_yes (by omega) (by omega) w))) ?_
  refine hl_v rfl rfl rfl (rv_ev rfl) ?_
  refine hl_v rfl rfl rfl (rv_ev rfl) ?_
  refine hl_v rfl rfl rfl (rv_ev rfl) ?_
  refine hl_v rfl rfl rfl (rv_field (k0 := 0) rfl (by kernel_rfl) rfl) ?_
  refine hl_v rfl rfl rfl (rv_load rfl (by kernel_rfl) rfl (box_cell 0 rfl rfl)) ?_
  refine hl_v rfl rfl rfl (rv_bits rfl (by decide) rfl rfl (r := ((i &&& c : Nat) : Int)) (Bit.and_nat _ _ (by omega) (by omega))) ?_
  refine hl_v rfl rfl rfl (rv_field (k0 := 1) rfl (by kernel_rfl) rfl) ?_
  refine hl_v rfl rfl rfl (rv_load rfl (by kernel_rfl) rfl (box_cell 0 rfl rfl)) ?_
  refine hl_eql rfl rfl rfl rfl rfl rfl (fun h2 => ?_) (fun h2 => ?_)
  ·
    refine hl_v rfl rfl rfl (rv_ev rfl) ?_
    refine hl_v rfl rfl rfl (rv_ev rfl) ?_
    refine hl_less (sub_cons (d := 0) rfl (sub_cons (d := 1) rfl (sub_cons (d := 2) rfl (sub_cons (d := 4) rfl (sub_cons (d := 6) rfl (sub_nil _)))))) (.refl _) ?_
    refine hl_nil ?_
    refine hq_then ?_
    refine hc_ret ?_
    exact hq_ans rfl rfl (congrArg _ (decide_eq_true (by omega)).symm)
  ·
    refine hl_v rfl rfl rfl (rv_ev rfl) ?_
    refine hl_v rfl rfl rfl (rv_ev rfl) ?_
    refine hl_less (sub_cons (d := 0) rfl (sub_cons (d := 1) rfl (sub_cons (d := 2) rfl (sub_cons (d := 4) rfl (sub_cons (d := 6) rfl (sub_nil _)))))) (.refl _) ?_
    refine hl_nil ?_
    refine hq_then ?_
    refine hc_ret ?_
    exact hq_ans rfl rfl (congrArg _ (decide_eq_false (by omega)).symm)
set_option maxHeartbeats 4000000 in
set_option maxRecDepth 100000 in
theorem isImplicant_ans (t : Tab) (c v : Nat) (w : World) (ht : TabOk t) (hc : c < pn t.N) (hv : v < pn t.N) :
    Calls Try.prog 33 #[.agg #[.int .i64 t.N, .int .i64 t.B], .agg #[.int .i64 (c : Int), .int .i64 (v : Int)]] w (Ans w (.bool (impN (tabB t) c v (pn t.N)))) := by
  have hn := ht.1
  have hp := pn_rng hn
  refine calls_hc (N := 27) (args := [.agg #[.int .i64 t.N, .int .i64 t.B], .agg #[.int .i64 (c : Int), .int .i64 (v : Int)]]) Try.func33 rfl rfl ?_
  refine hc_less _ (sub_cons (d := 0) rfl (sub_cons (d := 1) rfl (sub_nil _))) (.refl _) ?_
  refine hc_seq ?_
  refine hc_region ?_
  refine hl_box rfl rfl rfl (rq_box rfl rfl) ?_
  intro b1
  refine hl_box rfl rfl rfl (rq_box rfl rfl) ?_
  intro b2
  refine hl_v rfl rfl rfl (rv_ev rfl) ?_
  refine hl_less (sub_cons (d := 0) rfl (sub_cons (d := 1) rfl (sub_cons (d := 2) rfl (sub_cons (d := 3) rfl (sub_cons (d := 4) rfl (sub_nil _)))))) (.refl _) ?_
  refine hl_nil ?_
  refine hq_then ?_
  refine hc_seq ?_
  refine hc_seq ?_
  refine hc_region ?_
  refine hl_v rfl rfl rfl (rv_ev rfl) ?_
  refine hl_less (sub_cons (d := 0) rfl (sub_cons (d := 1) rfl (sub_cons (d := 2) rfl (sub_cons (d := 3) rfl (sub_cons (d := 4) rfl (sub_cons (d := 5) rfl (sub_nil _))))))) (.refl _) ?_
  refine hl_nil ?_
  refine hq_then ?_
  refine hc_block ?_
  refine hc_loop1 (α := Nat) (fun k => [boxE b2 #[.int .i64 (c : Int), .int .i64 (v : Int)] 30, boxE b1 #[.int .i64 t.N, .int .i64 t.B] 25]) (fun k => [(0, .agg #[.int .i64 t.N, .int .i64 t.B]), (1, .agg #[.int .i64 (c : Int), .int .i64 (v : Int)]), (2, .pointer (some ⟨b1, 0, none⟩)), (3, .pointer (some ⟨b2, 0, none⟩)), (4, .bool false), (5, .int .i64 (k : Int))]) (fun k => k ≤ pn t.N ∧ impN (tabB t) c v k = true) (fun k => pn t.N - k) 0 ⟨by omega, rfl⟩ (sub_cons (d := 0) rfl (sub_cons (d := 1) rfl (sub_cons (d := 2) rfl (sub_cons (d := 3) rfl (sub_cons (d := 4) rfl (sub_cons (d := 5) rfl (sub_nil _))))))) ((.cons_cons _ (.cons_cons _ .slnil))) ?_
  intro k hi3
  obtain ⟨hk, hk2⟩ := hi3
  refine hc_seq ?_
  refine hc_seq ?_
  refine hc_region ?_
  refine hl_v rfl rfl rfl (rv_ev rfl) ?_
  refine hl_v rfl rfl rfl (rv_field (k0 := 0) rfl (by kernel_rfl) rfl) ?_
  refine hl_v rfl rfl rfl (rv_load rfl (by kernel_rfl) rfl (box_cell 1 rfl rfl)) ?_
  refine hl_v rfl rfl rfl (rv_conv rfl Try.underlying3 Try.underlying68 rfl (IntWalk.u64_in _ (by omega))) ?_
  refine hl_v rfl rfl rfl (rv_shlG (k := .i64) (kk := .u64) (r := (pn t.N : Int)) rfl rfl rfl rfl (by omega) (wr1 hn)) ?_
  refine hl_lss rfl rfl rfl rfl rfl rfl (fun h4 => ?_) (fun h4 => ?_)
  ·
    refine hl_less (sub_cons (d := 0) rfl (sub_cons (d := 1) rfl (sub_cons (d := 2) rfl (sub_cons (d := 3) rfl (sub_cons (d := 4) rfl (sub_cons (d := 5) rfl (sub_cons (d := 11) rfl (sub_nil _)))))))) (.refl _) ?_
    refine hl_nil ?_
    refine hq_then ?_
    refine hc_true rfl ?_
    refine hc_skip ?_
    refine hq_then ?_
    refine hc_seq ?_
    refine hc_block ?_
    refine hc_seq ?_
    refine hc_region ?_
    refine hl_v rfl rfl rfl (rv_ev rfl) ?_
    refine hl_v rfl rfl rfl (rv_field (k0 := 0) rfl (by kernel_rfl) rfl) ?_
    refine hl_v rfl rfl rfl (rv_load rfl (by kernel_rfl) rfl (box_cell 0 rfl rfl)) ?_
    refine hl_v rfl rfl rfl (rv_bits rfl (by decide) rfl rfl (r := ((k &&& c : Nat) : Int)) (Bit.and_nat _ _ (by omega) (by omega))) ?_
    refine hl_v rfl rfl rfl (rv_field (k0 := 1) rfl (by kernel_rfl) rfl) ?_
    refine hl_v rfl rfl rfl (rv_load rfl (by kernel_rfl) rfl (box_cell 0 rfl rfl)) ?_
    refine hl_eql rfl rfl rfl rfl rfl rfl (fun h5 => ?_) (fun h5 => ?_)
    ·
      refine hl_v rfl rfl rfl (rv_ev rfl) ?_
      refine hl_v rfl rfl rfl (rv_loadN (cs := [.int .i64 t.N, .int .i64 t.B]) rfl (by kernel_rfl) (by kernel_rfl) rfl rfl (box_part 1 rfl 0 rfl)) ?_
      refine hl_v rfl rfl rfl (rv_ev rfl) ?_
      refine hl_callV rfl rfl rfl (rq_call (by kernel_rfl) rfl (fun w hm => ret_ans (implTableEval_ans t _ w ht (by omega)))) ?_
      refine hl_bool (fun h6 => ?_) (fun h6 => ?_)
      ·
        refine hl_v rfl rfl rfl (rv_ev rfl) ?_
        refine hl_v rfl rfl rfl (rv_ev rfl) ?_
        refine hl_less (sub_cons (d := 0) rfl (sub_cons (d := 1) rfl (sub_cons (d := 2) rfl (sub_cons (d := 3) rfl (sub_cons (d := 4) rfl (sub_cons (d := 5) rfl (sub_cons (d := 11) rfl (sub_cons (d := 26) rfl (sub_nil _))))))))) (.refl _) ?_
        refine hl_nil ?_
        refine hq_then ?_
        refine hc_false rfl ?_
        refine hc_skip ?_
        refine hq_block_normal ?_
        refine hq_then ?_
        refine hc_region ?_
        refine hl_v rfl rfl rfl (rv_ev rfl) ?_
        refine hl_v rfl rfl rfl (rv_add rfl rfl rfl (by constructor <;> omega)) ?_
        refine hl_v rfl rfl rfl (rv_ev rfl) ?_
        refine hl_less (sub_cons (d := 0) rfl (sub_cons (d := 1) rfl (sub_cons (d := 2) rfl (sub_cons (d := 3) rfl (sub_cons (d := 4) rfl (sub_cons (d := 5) rfl (sub_cons (d := 11) rfl (sub_cons (d := 26) rfl (sub_nil _))))))))) (.refl _) ?_
        refine hl_nil ?_
        exact hq_round1 (k + 1) ⟨by omega, by rw [impN_succ, hk2]; first | (rw [show tabB t k = true by assumption]; simp) | (rw [beq_false_of_ne (by omega)]; simp)⟩ (by omega) (sub_cons (d := 0) rfl (sub_cons (d := 1) rfl (sub_cons (d := 2) rfl (sub_cons (d := 3) rfl (sub_cons (d := 4) rfl (sub_cons (d := 5) rfl (sub_nil _))))))) ((.cons_cons _ (.cons_cons _ .slnil)))
      ·
        refine hl_v rfl rfl rfl (rv_ev rfl) ?_
        refine hl_v rfl rfl rfl (rv_ev rfl) ?_
        refine hl_less (sub_cons (d := 0) rfl (sub_cons (d := 1) rfl (sub_cons (d := 2) rfl (sub_cons (d := 3) rfl (sub_cons (d := 4) rfl (sub_cons (d := 5) rfl (sub_cons (d := 11) rfl (sub_cons (d := 26) rfl (sub_nil _))))))))) (.refl _) ?_
        refine hl_nil ?_
        refine hq_then ?_
        refine hc_true rfl ?_
        refine hc_seq ?_
        refine hc_region ?_
        refine hl_v rfl rfl rfl (rv_ev rfl) ?_
        refine hl_less (sub_cons (d := 0) rfl (sub_cons (d := 1) rfl (sub_cons (d := 2) rfl (sub_cons (d := 3) rfl (sub_cons (d := 4) rfl (sub_cons (d := 5) rfl (sub_cons (d := 11) rfl (sub_cons (d := 26) rfl (sub_nil _))))))))) (.refl _) ?_
        refine hl_nil ?_
        refine hq_then ?_
        refine hc_ret ?_
        refine hq_block_ret ?_
        refine hq_then_ret ?_
        refine hq_then_ret ?_
        refine hq_block_ret ?_
        refine hq_then_ret ?_
        exact hq_ans rfl rfl (congrArg _ (impN_false (k := k) (by omega) (by omega) (by assumption)).symm)
    ·
      refine hl_v rfl rfl rfl (rv_ev rfl) ?_
      refine hl_skip rfl rfl rfl ?_
      refine hl_skip rfl rfl rfl ?_
      refine hl_skip rfl rfl rfl ?_
      refine hl_skip rfl rfl rfl ?_
      refine hl_v rfl rfl rfl (rv_ev rfl) ?_
      refine hl_less (sub_cons (d := 0) rfl (sub_cons (d := 1) rfl (sub_cons (d := 2) rfl (sub_cons (d := 3) rfl (sub_cons (d := 4) rfl (sub_cons (d := 5) rfl (sub_cons (d := 11) rfl (sub_cons (d := 26) rfl (sub_nil _))))))))) (.refl _) ?_
      refine hl_nil ?_
      refine hq_then ?_
      refine hc_false rfl ?_
      refine hc_skip ?_
      refine hq_block_normal ?_
      refine hq_then ?_
      refine hc_region ?_
      refine hl_v rfl rfl rfl (rv_ev rfl) ?_
      refine hl_v rfl rfl rfl (rv_add rfl rfl rfl (by constructor <;> omega)) ?_
      refine hl_v rfl rfl rfl (rv_ev rfl) ?_
      refine hl_less (sub_cons (d := 0) rfl (sub_cons (d := 1) rfl (sub_cons (d := 2) rfl (sub_cons (d := 3) rfl (sub_cons (d := 4) rfl (sub_cons (d := 5) rfl (sub_cons (d := 11) rfl (sub_cons (d := 26) rfl (sub_nil _))))))))) (.refl _) ?_
      refine hl_nil ?_
      exact hq_round1 (k + 1) ⟨by omega, by rw [impN_succ, hk2]; first | (rw [show tabB t k = true by assumption]; simp) | (rw [beq_false_of_ne (by omega)]; simp)⟩ (by omega) (sub_cons (d := 0) rfl (sub_cons (d := 1) rfl (sub_cons (d := 2) rfl (sub_cons (d := 3) rfl (sub_cons (d := 4) rfl (sub_cons (d := 5) rfl (sub_nil _))))))) ((.cons_cons _ (.cons_cons _ .slnil)))
  ·
    refine hl_less (sub_cons (d := 0) rfl (sub_cons (d := 1) rfl (sub_cons (d := 2) rfl (sub_cons (d := 3) rfl (sub_cons (d := 4) rfl (sub_cons (d := 5) rfl (sub_cons (d := 11) rfl (sub_nil _)))))))) (.refl _) ?_
    refine hl_nil ?_
    refine hq_then ?_
    refine hc_false rfl ?_
    refine hc_exit ?_
    refine hq_then_exit ?_
    refine hq_then_exit ?_
    refine hq_block_exit ?_
    refine hq_then ?_
    refine hc_seq ?_
    refine hc_region ?_
    refine hl_v rfl rfl rfl (rv_ev rfl) ?_
    refine hl_less (sub_cons (d := 0) rfl (sub_cons (d := 1) rfl (sub_cons (d := 2) rfl (sub_cons (d := 3) rfl (sub_cons (d := 4) rfl (sub_cons (d := 5) rfl (sub_cons (d := 11) rfl (sub_nil _)))))))) (.refl _) ?_
    refine hl_nil ?_
    refine hq_then ?_
    refine hc_ret ?_
    have hkn : k = pn t.N := by omega
    subst hkn
    exact hq_ans rfl rfl (congrArg _ hk2.symm)
end Go.Proofs.Yteccnnpcigkmhaa
