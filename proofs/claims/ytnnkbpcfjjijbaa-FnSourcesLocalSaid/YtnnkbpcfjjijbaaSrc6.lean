/- The sources of a routing node, in the reference: the walks. -/
import Derived.Test.YtnnkbpcfjjijbaaSort
import Derived.Test.YtnnkbpcfjjijbaaSpec2
set_option linter.unusedVariables false
set_option linter.unusedSimpArgs false
namespace Go.Proofs.Ytnnkbpcfjjijbaa
open Go.RowKit

theorem tk_pos {d : Dev} {t : Int} (h : 0 ≤ tileKindI d t) : devB d = true ∧ (0 ≤ t ∧ t ≤ d.W * d.H - 1) ∧ tOk d t = true := by
  unfold tileKindI at h
  split at h
  · rename_i ht; obtain ⟨a, b, c⟩ := (tOk_iff _ _).1 ht; exact ⟨a, ⟨b, c⟩, ht⟩
  · omega
theorem tk_neg {d : Dev} {t : Int} (h : tileKindI d t < 0) : tOk d t ≠ true := by
  intro ht
  unfold tileKindI at h
  rw [if_pos ht] at h
  rcases kind_cases d t with e | e | e <;> omega
def wireNodeS (d : Dev) (t dir k : Int) : Int := if tOk d t = true ∧ 0 ≤ k ∧ k < d.T ∧ 0 ≤ tileStepI d t dir (1 + k % 2) then wireN d t dir k else -1
theorem dirT_rng {d : Dev} {dir : Int} (hv : devB d = true) (r0 : 0 ≤ dir) (r1 : dir ≤ 3) : 0 ≤ dir * d.T ∧ dir * d.T ≤ 12 := by
  obtain ⟨-, -, ⟨l1, l2⟩, -⟩ := (devB_iff d).1 hv
  exact ⟨Int.mul_nonneg r0 (by omega), Int.le_trans (Int.mul_le_mul r1 l2 (by omega) (by omega)) (by omega)⟩
set_option maxHeartbeats 4000000 in
set_option maxRecDepth 100000 in
theorem specWireNode_ans (d : Dev) (t dir k : Int) (w : World) (r0 : 0 ≤ dir) (r1 : dir ≤ 3) (k0 : -1000 ≤ k) (k1 : k ≤ 1000) :
    Calls Try.prog 124 #[.agg #[.int .i64 d.W, .int .i64 d.H, .int .i64 d.T, .int .i64 d.R], .int .i64 t, .int .i64 dir, .int .i64 k] w (Ans w (.int .i64 (wireNodeS d t dir k))) := by
  refine calls_hc (N := 45) (args := [.agg #[.int .i64 d.W, .int .i64 d.H, .int .i64 d.T, .int .i64 d.R], .int .i64 t, .int .i64 dir, .int .i64 k]) Try.func124 rfl rfl ?_
  refine hc_less _ (sub_cons (d := 0) rfl (sub_cons (d := 1) rfl (sub_cons (d := 2) rfl (sub_cons (d := 3) rfl (sub_nil _))))) (.refl _) ?_
  refine hc_seq ?_
  refine hc_region ?_
  refine hl_box rfl rfl rfl (rq_box rfl rfl) ?_
  intro b1
  refine hl_v rfl rfl rfl (rv_ev rfl) ?_
  refine hl_less (sub_cons (d := 0) rfl (sub_cons (d := 1) rfl (sub_cons (d := 2) rfl (sub_cons (d := 3) rfl (sub_cons (d := 4) rfl (sub_cons (d := 8) rfl (sub_nil _))))))) (.refl _) ?_
  refine hl_nil ?_
  refine hq_then ?_
  refine hc_seq ?_
  refine hc_seq ?_
  refine hc_region ?_
  refine hl_v rfl rfl rfl (rv_loadN (cs := [.int .i64 d.W, .int .i64 d.H, .int .i64 d.T, .int .i64 d.R]) rfl (by kernel_rfl) (by kernel_rfl) rfl rfl (box_part 0 rfl 0 rfl)) ?_
  refine hl_v rfl rfl rfl (rv_ev rfl) ?_
  refine hl_callV rfl rfl rfl (rq_call (by kernel_rfl) rfl (fun w hm => ret_ans (specTileKind_any d _ w))) ?_
  refine hl_lss rfl rfl rfl rfl rfl rfl (fun h2 => ?_) (fun h2 => ?_)
  ·
    refine hl_v rfl rfl rfl (rv_ev rfl) ?_
    refine hl_skip rfl rfl rfl ?_
    refine hl_skip rfl rfl rfl ?_
    refine hl_v rfl rfl rfl (rv_ev rfl) ?_
    refine hl_v rfl rfl rfl (rv_ev rfl) ?_
    refine hl_skip rfl rfl rfl ?_
    refine hl_skip rfl rfl rfl ?_
    refine hl_skip rfl rfl rfl ?_
    refine hl_skip rfl rfl rfl ?_
    refine hl_v rfl rfl rfl (rv_ev rfl) ?_
    refine hl_v rfl rfl rfl (rv_ev rfl) ?_
    refine hl_skip rfl rfl rfl ?_
    refine hl_skip rfl rfl rfl ?_
    refine hl_skip rfl rfl rfl ?_
    refine hl_skip rfl rfl rfl ?_
    refine hl_skip rfl rfl rfl ?_
    refine hl_skip rfl rfl rfl ?_
    refine hl_skip rfl rfl rfl ?_
    refine hl_skip rfl rfl rfl ?_
    refine hl_v rfl rfl rfl (rv_ev rfl) ?_
    refine hl_less (sub_cons (d := 0) rfl (sub_cons (d := 1) rfl (sub_cons (d := 2) rfl (sub_cons (d := 3) rfl (sub_cons (d := 4) rfl (sub_cons (d := 8) rfl (sub_cons (d := 32) rfl (sub_nil _)))))))) (.refl _) ?_
    refine hl_nil ?_
    refine hq_then ?_
    refine hc_true rfl ?_
    refine hc_seq ?_
    refine hc_region ?_
    refine hl_v rfl rfl rfl (rv_ev rfl) ?_
    refine hl_less (sub_cons (d := 0) rfl (sub_cons (d := 1) rfl (sub_cons (d := 2) rfl (sub_cons (d := 3) rfl (sub_cons (d := 4) rfl (sub_cons (d := 8) rfl (sub_cons (d := 32) rfl (sub_nil _)))))))) (.refl _) ?_
    refine hl_nil ?_
    refine hq_then ?_
    refine hc_ret ?_
    refine hq_then_ret ?_
    exact hq_ans rfl rfl (by unfold wireNodeS; rw [if_neg (by rintro ⟨q1, q2, q3, q4⟩; first | omega | exact tk_neg (by assumption) q1)])
  ·
    refine hl_v rfl rfl rfl (rv_ev rfl) ?_
    refine hl_v rfl rfl rfl (rv_ev rfl) ?_
    refine hl_lss rfl rfl rfl rfl rfl rfl (fun h3 => ?_) (fun h3 => ?_)
    ·
      refine hl_v rfl rfl rfl (rv_ev rfl) ?_
      refine hl_v rfl rfl rfl (rv_ev rfl) ?_
      refine hl_skip rfl rfl rfl ?_
      refine hl_skip rfl rfl rfl ?_
      refine hl_skip rfl rfl rfl ?_
      refine hl_skip rfl rfl rfl ?_
      refine hl_v rfl rfl rfl (rv_ev rfl) ?_
      refine hl_v rfl rfl rfl (rv_ev rfl) ?_
      refine hl_skip rfl rfl rfl ?_
      refine hl_skip rfl rfl rfl ?_
      refine hl_skip rfl rfl rfl ?_
      refine hl_skip rfl rfl rfl ?_
      refine hl_skip rfl rfl rfl ?_
      refine hl_skip rfl rfl rfl ?_
      refine hl_skip rfl rfl rfl ?_
      refine hl_skip rfl rfl rfl ?_
      refine hl_v rfl rfl rfl (rv_ev rfl) ?_
      refine hl_less (sub_cons (d := 0) rfl (sub_cons (d := 1) rfl (sub_cons (d := 2) rfl (sub_cons (d := 3) rfl (sub_cons (d := 4) rfl (sub_cons (d := 8) rfl (sub_cons (d := 32) rfl (sub_nil _)))))))) (.refl _) ?_
      refine hl_nil ?_
      refine hq_then ?_
      refine hc_true rfl ?_
      refine hc_seq ?_
      refine hc_region ?_
      refine hl_v rfl rfl rfl (rv_ev rfl) ?_
      refine hl_less (sub_cons (d := 0) rfl (sub_cons (d := 1) rfl (sub_cons (d := 2) rfl (sub_cons (d := 3) rfl (sub_cons (d := 4) rfl (sub_cons (d := 8) rfl (sub_cons (d := 32) rfl (sub_nil _)))))))) (.refl _) ?_
      refine hl_nil ?_
      refine hq_then ?_
      refine hc_ret ?_
      refine hq_then_ret ?_
      exact hq_ans rfl rfl (by unfold wireNodeS; rw [if_neg (by rintro ⟨q1, q2, q3, q4⟩; first | omega | exact tk_neg (by assumption) q1)])
    ·
      refine hl_v rfl rfl rfl (rv_ev rfl) ?_
      refine hl_v rfl rfl rfl (rv_ev rfl) ?_
      refine hl_v rfl rfl rfl (rv_ev rfl) ?_
      refine hl_v rfl rfl rfl (rv_field (k0 := 2) rfl (by kernel_rfl) rfl) ?_
      refine hl_v rfl rfl rfl (rv_load rfl (by kernel_rfl) rfl (box_cell 0 rfl rfl)) ?_
      refine hl_geq rfl rfl rfl rfl rfl rfl (fun h4 => ?_) (fun h4 => ?_)
      ·
        refine hl_v rfl rfl rfl (rv_ev rfl) ?_
        refine hl_v rfl rfl rfl (rv_ev rfl) ?_
        refine hl_skip rfl rfl rfl ?_
        refine hl_skip rfl rfl rfl ?_
        refine hl_skip rfl rfl rfl ?_
        refine hl_skip rfl rfl rfl ?_
        refine hl_skip rfl rfl rfl ?_
        refine hl_skip rfl rfl rfl ?_
        refine hl_skip rfl rfl rfl ?_
        refine hl_skip rfl rfl rfl ?_
        refine hl_v rfl rfl rfl (rv_ev rfl) ?_
        refine hl_less (sub_cons (d := 0) rfl (sub_cons (d := 1) rfl (sub_cons (d := 2) rfl (sub_cons (d := 3) rfl (sub_cons (d := 4) rfl (sub_cons (d := 8) rfl (sub_cons (d := 32) rfl (sub_nil _)))))))) (.refl _) ?_
        refine hl_nil ?_
        refine hq_then ?_
        refine hc_true rfl ?_
        refine hc_seq ?_
        refine hc_region ?_
        refine hl_v rfl rfl rfl (rv_ev rfl) ?_
        refine hl_less (sub_cons (d := 0) rfl (sub_cons (d := 1) rfl (sub_cons (d := 2) rfl (sub_cons (d := 3) rfl (sub_cons (d := 4) rfl (sub_cons (d := 8) rfl (sub_cons (d := 32) rfl (sub_nil _)))))))) (.refl _) ?_
        refine hl_nil ?_
        refine hq_then ?_
        refine hc_ret ?_
        refine hq_then_ret ?_
        exact hq_ans rfl rfl (by unfold wireNodeS; rw [if_neg (by rintro ⟨q1, q2, q3, q4⟩; first | omega | exact tk_neg (by assumption) q1)])
      ·
        refine hl_v rfl rfl rfl (rv_ev rfl) ?_
        refine hl_v rfl rfl rfl (rv_ev rfl) ?_
        refine hl_v rfl rfl rfl (rv_loadN (cs := [.int .i64 d.W, .int .i64 d.H, .int .i64 d.T, .int .i64 d.R]) rfl (by kernel_rfl) (by kernel_rfl) rfl rfl (box_part 0 rfl 0 rfl)) ?_
        refine hl_v rfl rfl rfl (rv_ev rfl) ?_
        refine hl_v rfl rfl rfl (rv_ev rfl) ?_
        refine hl_v rfl rfl rfl (rv_ev rfl) ?_
        refine hl_v rfl rfl rfl (rv_rem rfl rfl rfl (by constructor <;> omega)) ?_
        refine hl_v rfl rfl rfl (rv_add rfl rfl rfl (by constructor <;> omega)) ?_
        refine hl_callV rfl rfl rfl (rq_call (by kernel_rfl) rfl (fun w hm => ret_ans (specTileStep_any d _ _ _ w))) ?_
        refine hl_lss rfl rfl rfl rfl rfl rfl (fun h5 => ?_) (fun h5 => ?_)
        ·
          refine hl_v rfl rfl rfl (rv_ev rfl) ?_
          refine hl_less (sub_cons (d := 0) rfl (sub_cons (d := 1) rfl (sub_cons (d := 2) rfl (sub_cons (d := 3) rfl (sub_cons (d := 4) rfl (sub_cons (d := 8) rfl (sub_cons (d := 32) rfl (sub_nil _)))))))) (.refl _) ?_
          refine hl_nil ?_
          refine hq_then ?_
          refine hc_true rfl ?_
          refine hc_seq ?_
          refine hc_region ?_
          refine hl_v rfl rfl rfl (rv_ev rfl) ?_
          refine hl_less (sub_cons (d := 0) rfl (sub_cons (d := 1) rfl (sub_cons (d := 2) rfl (sub_cons (d := 3) rfl (sub_cons (d := 4) rfl (sub_cons (d := 8) rfl (sub_cons (d := 32) rfl (sub_nil _)))))))) (.refl _) ?_
          refine hl_nil ?_
          refine hq_then ?_
          refine hc_ret ?_
          refine hq_then_ret ?_
          exact hq_ans rfl rfl (by unfold wireNodeS; rw [if_neg (by rintro ⟨q1, q2, q3, q4⟩; first | omega | exact tk_neg (by assumption) q1)])
        ·
          refine hl_v rfl rfl rfl (rv_ev rfl) ?_
          refine hl_less (sub_cons (d := 0) rfl (sub_cons (d := 1) rfl (sub_cons (d := 2) rfl (sub_cons (d := 3) rfl (sub_cons (d := 4) rfl (sub_cons (d := 8) rfl (sub_cons (d := 32) rfl (sub_nil _)))))))) (.refl _) ?_
          refine hl_nil ?_
          refine hq_then ?_
          refine hc_false rfl ?_
          refine hc_skip ?_
          refine hq_then ?_
          refine hc_seq ?_
          obtain ⟨hv, ⟨ht0, ht1⟩, hto⟩ := tk_pos (by assumption)
          have hpm := per_mul hv ht0 ht1
          have hdm := dirT_rng hv r0 r1
          refine hc_draw (by kernel_rfl) 12 [0, 1, 2, 3, 4, 5, 6, 7, 8, 9, 10, 11] (List.take 12 _) (List.drop 12 _) [[], [], [1], [0, 2], [3], [], [], [6], [5, 7], [4, 8], [], [9, 10]] [33, 34, 35, 36, 37, 38, 39, 40, 41, 42, 43, 44] (fun i v p => match i with | 0 => v = .int .i64 t ∧ p = [] | 1 => v = .agg #[.int .i64 d.W, .int .i64 d.H, .int .i64 d.T, .int .i64 d.R] ∧ p = [] | 2 => v = .int .i64 (perI d) ∧ p = [] | 3 => v = .int .i64 (t * (perI d)) ∧ p = [] | 4 => v = .int .i64 ((t * (perI d)) + 7) ∧ p = [] | 5 => v = .int .i64 dir ∧ p = [] | 6 => v = .pointer (some ⟨b1, 0 + 2, none⟩) ∧ p = [] | 7 => v = .int .i64 d.T ∧ p = [] | 8 => v = .int .i64 (dir * d.T) ∧ p = [] | 9 => v = .int .i64 (((t * (perI d)) + 7) + (dir * d.T)) ∧ p = [] | 10 => v = .int .i64 k ∧ p = [] | 11 => v = .int .i64 ((((t * (perI d)) + 7) + (dir * d.T)) + k) ∧ p = [] | _ => True) (List.take_append_drop 12 _).symm (by kernel_rfl) (by kernel_rfl) rfl rfl ?_ ?_
          ·
            refine ⟨?_, ?_, ?_, ?_, ?_, ?_, ?_, ?_, ?_, ?_, ?_, ?_, trivial⟩
            ·
              intro vf pf hR
              refine Or.inl ⟨rfl, ?_⟩
              refine rq_less (l' := [boxE b1 #[.int .i64 d.W, .int .i64 d.H, .int .i64 d.T, .int .i64 d.R] 25]) (sub_cons (d := 1) rfl (sub_nil _)) (List.sublist_append_right _ _) ?_
              exact rq_v (rv_ev rfl)
            ·
              intro vf pf hR
              refine Or.inl ⟨rfl, ?_⟩
              refine rq_less (l' := [boxE b1 #[.int .i64 d.W, .int .i64 d.H, .int .i64 d.T, .int .i64 d.R] 25]) (sub_cons (d := 4) rfl (sub_nil _)) (List.sublist_append_right _ _) ?_
              exact rq_v (rv_loadN (cs := [.int .i64 d.W, .int .i64 d.H, .int .i64 d.T, .int .i64 d.R]) rfl (by kernel_rfl) (by kernel_rfl) rfl rfl (box_part 0 rfl 0 rfl))
            ·
              intro vf pf hR
              have e1 : vf 1 = .agg #[.int .i64 d.W, .int .i64 d.H, .int .i64 d.T, .int .i64 d.R] ∧ pf 1 = [] := hR 1 (by decide)
              refine Or.inl ⟨rfl, ?_⟩
              refine rq_less (l' := [boxE b1 #[.int .i64 d.W, .int .i64 d.H, .int .i64 d.T, .int .i64 d.R] 25]) (sub_cons (d := 34) (congrArg some e1.1) (sub_nil _)) (List.sublist_append_right _ _) ?_
              exact (rq_call (by kernel_rfl) rfl (fun w hm => ret_ans (specPer_any d hv w)))
            ·
              intro vf pf hR
              have e0 : vf 0 = .int .i64 t ∧ pf 0 = [] := hR 0 (by decide)
              have e2 : vf 2 = .int .i64 (perI d) ∧ pf 2 = [] := hR 2 (by decide)
              refine Or.inl ⟨rfl, ?_⟩
              refine rq_less (l' := [boxE b1 #[.int .i64 d.W, .int .i64 d.H, .int .i64 d.T, .int .i64 d.R] 25]) (sub_cons (d := 33) (congrArg some e0.1) (sub_cons (d := 35) (congrArg some e2.1) (sub_nil _))) (List.sublist_append_right _ _) ?_
              exact rq_v (rv_mul rfl rfl rfl (by constructor <;> omega))
            ·
              intro vf pf hR
              have e3 : vf 3 = .int .i64 (t * (perI d)) ∧ pf 3 = [] := hR 3 (by decide)
              refine Or.inl ⟨rfl, ?_⟩
              refine rq_less (l' := [boxE b1 #[.int .i64 d.W, .int .i64 d.H, .int .i64 d.T, .int .i64 d.R] 25]) (sub_cons (d := 36) (congrArg some e3.1) (sub_nil _)) (List.sublist_append_right _ _) ?_
              exact rq_v (rv_add rfl rfl rfl (by constructor <;> omega))
            ·
              intro vf pf hR
              refine Or.inl ⟨rfl, ?_⟩
              refine rq_less (l' := [boxE b1 #[.int .i64 d.W, .int .i64 d.H, .int .i64 d.T, .int .i64 d.R] 25]) (sub_cons (d := 2) rfl (sub_nil _)) (List.sublist_append_right _ _) ?_
              exact rq_v (rv_ev rfl)
            ·
              intro vf pf hR
              refine Or.inl ⟨rfl, ?_⟩
              refine rq_less (l' := [boxE b1 #[.int .i64 d.W, .int .i64 d.H, .int .i64 d.T, .int .i64 d.R] 25]) (sub_cons (d := 4) rfl (sub_nil _)) (List.sublist_append_right _ _) ?_
              exact rq_v (rv_field (k0 := 2) rfl (by kernel_rfl) rfl)
            ·
              intro vf pf hR
              have e6 : vf 6 = .pointer (some ⟨b1, 0 + 2, none⟩) ∧ pf 6 = [] := hR 6 (by decide)
              refine Or.inl ⟨rfl, ?_⟩
              refine rq_less (l' := [boxE b1 #[.int .i64 d.W, .int .i64 d.H, .int .i64 d.T, .int .i64 d.R] 25]) (sub_cons (d := 39) (congrArg some e6.1) (sub_nil _)) (List.sublist_append_right _ _) ?_
              exact rq_v (rv_load rfl (by kernel_rfl) rfl (box_cell 0 rfl rfl))
            ·
              intro vf pf hR
              have e5 : vf 5 = .int .i64 dir ∧ pf 5 = [] := hR 5 (by decide)
              have e7 : vf 7 = .int .i64 d.T ∧ pf 7 = [] := hR 7 (by decide)
              refine Or.inl ⟨rfl, ?_⟩
              refine rq_less (l' := [boxE b1 #[.int .i64 d.W, .int .i64 d.H, .int .i64 d.T, .int .i64 d.R] 25]) (sub_cons (d := 38) (congrArg some e5.1) (sub_cons (d := 40) (congrArg some e7.1) (sub_nil _))) (List.sublist_append_right _ _) ?_
              exact rq_v (rv_mul rfl rfl rfl (by constructor <;> omega))
            ·
              intro vf pf hR
              have e4 : vf 4 = .int .i64 ((t * (perI d)) + 7) ∧ pf 4 = [] := hR 4 (by decide)
              have e8 : vf 8 = .int .i64 (dir * d.T) ∧ pf 8 = [] := hR 8 (by decide)
              refine Or.inl ⟨rfl, ?_⟩
              refine rq_less (l' := [boxE b1 #[.int .i64 d.W, .int .i64 d.H, .int .i64 d.T, .int .i64 d.R] 25]) (sub_cons (d := 37) (congrArg some e4.1) (sub_cons (d := 41) (congrArg some e8.1) (sub_nil _))) (List.sublist_append_right _ _) ?_
              exact rq_v (rv_add rfl rfl rfl (by constructor <;> omega))
            ·
              intro vf pf hR
              refine Or.inl ⟨rfl, ?_⟩
              refine rq_less (l' := [boxE b1 #[.int .i64 d.W, .int .i64 d.H, .int .i64 d.T, .int .i64 d.R] 25]) (sub_cons (d := 3) rfl (sub_nil _)) (List.sublist_append_right _ _) ?_
              exact rq_v (rv_ev rfl)
            ·
              intro vf pf hR
              have e9 : vf 9 = .int .i64 (((t * (perI d)) + 7) + (dir * d.T)) ∧ pf 9 = [] := hR 9 (by decide)
              have e10 : vf 10 = .int .i64 k ∧ pf 10 = [] := hR 10 (by decide)
              refine Or.inl ⟨rfl, ?_⟩
              refine rq_less (l' := [boxE b1 #[.int .i64 d.W, .int .i64 d.H, .int .i64 d.T, .int .i64 d.R] 25]) (sub_cons (d := 42) (congrArg some e9.1) (sub_cons (d := 43) (congrArg some e10.1) (sub_nil _))) (List.sublist_append_right _ _) ?_
              exact rq_v (rv_add rfl rfl rfl (by constructor <;> omega))
          ·
            intro vf pf hR
            have e11 : vf 11 = .int .i64 ((((t * (perI d)) + 7) + (dir * d.T)) + k) ∧ pf 11 = [] := hR 11 (by decide)
            refine hl_less (l' := [boxE b1 #[.int .i64 d.W, .int .i64 d.H, .int .i64 d.T, .int .i64 d.R] 25]) (sub_cons (d := 0) rfl (sub_cons (d := 1) rfl (sub_cons (d := 2) rfl (sub_cons (d := 3) rfl (sub_cons (d := 4) rfl (sub_cons (d := 8) rfl (sub_cons (d := 32) rfl (sub_cons (d := 44) (congrArg some e11.1) (sub_nil _))))))))) (List.sublist_append_right _ _) ?_
            simp only [List.drop_succ_cons, List.drop_zero]
            refine hl_v rfl rfl rfl (rv_ev rfl) ?_
            refine hl_less (sub_cons (d := 0) rfl (sub_cons (d := 1) rfl (sub_cons (d := 2) rfl (sub_cons (d := 3) rfl (sub_cons (d := 4) rfl (sub_cons (d := 8) rfl (sub_cons (d := 32) rfl (sub_nil _)))))))) (.refl _) ?_
            refine hl_nil ?_
            refine hq_then ?_
            refine hc_ret ?_
            exact hq_ans rfl rfl (by unfold wireNodeS; rw [if_pos ⟨hto, by omega, by omega, by omega⟩]; unfold wireN; rfl)
set_option maxHeartbeats 4000000 in
set_option maxRecDepth 100000 in
theorem specOutPin_ans (d : Dev) (t p : Int) (w : World) (ht : tOk d t = true) (p0 : -1000 ≤ p) (p1 : p ≤ 1000) :
    Calls Try.prog 109 #[.agg #[.int .i64 d.W, .int .i64 d.H, .int .i64 d.T, .int .i64 d.R], .int .i64 t, .int .i64 p] w (Ans w (.int .i64 (outPinI d t p))) := by
  obtain ⟨hv, t0, t1⟩ := (tOk_iff _ _).1 ht
  have hpm := per_mul hv t0 t1
  have h35 := tile_35 hv t1
  refine calls_hc (N := 24) (args := [.agg #[.int .i64 d.W, .int .i64 d.H, .int .i64 d.T, .int .i64 d.R], .int .i64 t, .int .i64 p]) Try.func109 rfl rfl ?_
  refine hc_less _ (sub_cons (d := 0) rfl (sub_cons (d := 1) rfl (sub_cons (d := 2) rfl (sub_nil _)))) (.refl _) ?_
  refine hc_seq ?_
  refine hc_region ?_
  refine hl_box rfl rfl rfl (rq_box rfl rfl) ?_
  intro b1
  refine hl_v rfl rfl rfl (rv_ev rfl) ?_
  refine hl_less (sub_cons (d := 0) rfl (sub_cons (d := 1) rfl (sub_cons (d := 2) rfl (sub_cons (d := 3) rfl (sub_cons (d := 6) rfl (sub_nil _)))))) (.refl _) ?_
  refine hl_nil ?_
  refine hq_then ?_
  refine hc_seq ?_
  refine hc_seq ?_
  refine hc_region ?_
  refine hl_v rfl rfl rfl (rv_ev rfl) ?_
  refine hl_lss rfl rfl rfl rfl rfl rfl (fun h2 => ?_) (fun h2 => ?_)
  ·
    refine hl_v rfl rfl rfl (rv_ev rfl) ?_
    refine hl_skip rfl rfl rfl ?_
    refine hl_skip rfl rfl rfl ?_
    refine hl_skip rfl rfl rfl ?_
    refine hl_skip rfl rfl rfl ?_
    refine hl_skip rfl rfl rfl ?_
    refine hl_skip rfl rfl rfl ?_
    refine hl_v rfl rfl rfl (rv_ev rfl) ?_
    refine hl_less (sub_cons (d := 0) rfl (sub_cons (d := 1) rfl (sub_cons (d := 2) rfl (sub_cons (d := 3) rfl (sub_cons (d := 6) rfl (sub_cons (d := 16) rfl (sub_nil _))))))) (.refl _) ?_
    refine hl_nil ?_
    refine hq_then ?_
    refine hc_true rfl ?_
    refine hc_seq ?_
    refine hc_region ?_
    refine hl_v rfl rfl rfl (rv_ev rfl) ?_
    refine hl_less (sub_cons (d := 0) rfl (sub_cons (d := 1) rfl (sub_cons (d := 2) rfl (sub_cons (d := 3) rfl (sub_cons (d := 6) rfl (sub_cons (d := 16) rfl (sub_nil _))))))) (.refl _) ?_
    refine hl_nil ?_
    refine hq_then ?_
    refine hc_ret ?_
    refine hq_then_ret ?_
    exact hq_ans rfl rfl (by (try rw [tileKind_eq ht] at *); unfold outPinI; first | rw [if_pos ⟨ht, by omega, by omega⟩] | rw [if_neg (by rintro ⟨q1, q2, q3⟩; omega)])
  ·
    refine hl_v rfl rfl rfl (rv_ev rfl) ?_
    refine hl_v rfl rfl rfl (rv_ev rfl) ?_
    refine hl_v rfl rfl rfl (rv_loadN (cs := [.int .i64 d.W, .int .i64 d.H, .int .i64 d.T, .int .i64 d.R]) rfl (by kernel_rfl) (by kernel_rfl) rfl rfl (box_part 0 rfl 0 rfl)) ?_
    refine hl_v rfl rfl rfl (rv_ev rfl) ?_
    refine hl_callV rfl rfl rfl (rq_call (by kernel_rfl) rfl (fun w hm => ret_ans (specTileKind_any d _ w))) ?_
    refine hl_callV rfl rfl rfl (rq_call (by kernel_rfl) rfl (fun w hm => ret_ans (ans_of (specOutPins_any _ (by rw [tileKind_eq ht]; exact kind_cases d t) w)))) ?_
    refine hl_geq rfl rfl rfl rfl rfl rfl (fun h3 => ?_) (fun h3 => ?_)
    ·
      refine hl_v rfl rfl rfl (rv_ev rfl) ?_
      refine hl_less (sub_cons (d := 0) rfl (sub_cons (d := 1) rfl (sub_cons (d := 2) rfl (sub_cons (d := 3) rfl (sub_cons (d := 6) rfl (sub_cons (d := 16) rfl (sub_nil _))))))) (.refl _) ?_
      refine hl_nil ?_
      refine hq_then ?_
      refine hc_true rfl ?_
      refine hc_seq ?_
      refine hc_region ?_
      refine hl_v rfl rfl rfl (rv_ev rfl) ?_
      refine hl_less (sub_cons (d := 0) rfl (sub_cons (d := 1) rfl (sub_cons (d := 2) rfl (sub_cons (d := 3) rfl (sub_cons (d := 6) rfl (sub_cons (d := 16) rfl (sub_nil _))))))) (.refl _) ?_
      refine hl_nil ?_
      refine hq_then ?_
      refine hc_ret ?_
      refine hq_then_ret ?_
      exact hq_ans rfl rfl (by (try rw [tileKind_eq ht] at *); unfold outPinI; first | rw [if_pos ⟨ht, by omega, by omega⟩] | rw [if_neg (by rintro ⟨q1, q2, q3⟩; omega)])
    ·
      refine hl_v rfl rfl rfl (rv_ev rfl) ?_
      refine hl_less (sub_cons (d := 0) rfl (sub_cons (d := 1) rfl (sub_cons (d := 2) rfl (sub_cons (d := 3) rfl (sub_cons (d := 6) rfl (sub_cons (d := 16) rfl (sub_nil _))))))) (.refl _) ?_
      refine hl_nil ?_
      refine hq_then ?_
      refine hc_false rfl ?_
      refine hc_skip ?_
      refine hq_then ?_
      refine hc_seq ?_
      refine hc_region ?_
      refine hl_v rfl rfl rfl (rv_ev rfl) ?_
      refine hl_v rfl rfl rfl (rv_loadN (cs := [.int .i64 d.W, .int .i64 d.H, .int .i64 d.T, .int .i64 d.R]) rfl (by kernel_rfl) (by kernel_rfl) rfl rfl (box_part 0 rfl 0 rfl)) ?_
      refine hl_callV rfl rfl rfl (rq_call (by kernel_rfl) rfl (fun w hm => ret_ans (specPer_any d hv w))) ?_
      refine hl_v rfl rfl rfl (rv_mul rfl rfl rfl (by constructor <;> omega)) ?_
      refine hl_v rfl rfl rfl (rv_add rfl rfl rfl (by constructor <;> omega)) ?_
      refine hl_v rfl rfl rfl (rv_ev rfl) ?_
      refine hl_v rfl rfl rfl (rv_add rfl rfl rfl (by constructor <;> omega)) ?_
      refine hl_v rfl rfl rfl (rv_ev rfl) ?_
      refine hl_less (sub_cons (d := 0) rfl (sub_cons (d := 1) rfl (sub_cons (d := 2) rfl (sub_cons (d := 3) rfl (sub_cons (d := 6) rfl (sub_cons (d := 16) rfl (sub_nil _))))))) (.refl _) ?_
      refine hl_nil ?_
      refine hq_then ?_
      refine hc_ret ?_
      exact hq_ans rfl rfl (by (try rw [tileKind_eq ht] at *); unfold outPinI; first | rw [if_pos ⟨ht, by omega, by omega⟩] | rw [if_neg (by rintro ⟨q1, q2, q3⟩; omega)])

def dirI (d : Dev) (p : Int) : Int := if 7 ≤ p then (p - 7) / d.T else 0
def trackI (d : Dev) (p : Int) : Int := if 7 ≤ p then (p - 7) % d.T else 0
def baseS (d : Dev) (t p : Int) : List Int := if 7 ≤ p then (if 1 < outPinsI (kindI d t) then [outPinI d t 0, outPinI d t 1] else [outPinI d t 0]) else []
def sS (d : Dev) (t p r k : Int) (xs : List Int) (s : Nat) : List Int :=
  if 7 ≤ p ∧ (s : Int) + 1 < 1 + k % 2 then xs else if 0 ≤ wireNodeS d (tileStepI d t ((r + 2) % 4) ((s : Int) + 1)) r k then xs ++ [wireNodeS d (tileStepI d t ((r + 2) % 4) ((s : Int) + 1)) r k] else xs
def sK (d : Dev) (t p r k : Int) (xs : List Int) (j : Nat) : List Int := (List.range j).foldl (sS d t p r k) xs
theorem sK_succ (d : Dev) (t p r k : Int) (xs : List Int) (j : Nat) : sK d t p r k xs (j + 1) = sS d t p r k (sK d t p r k xs j) j := by unfold sK; rw [List.range_succ, List.foldl_append]; rfl
/-- (r, k) is passed over -/
def Skip (T p dir track r k : Int) : Prop := (7 ≤ p ∧ (r = (dir + 2) % 4 ∨ (k ≠ track ∧ k ≠ (track + 1) % T))) ∨ (p < 7 ∧ 1 < T ∧ (k + p) % 2 = 1)
instance (T p dir track r k : Int) : Decidable (Skip T p dir track r k) := by unfold Skip; exact inferInstance
def sR (d : Dev) (t p dir track r : Int) (xs : List Int) (j : Nat) : List Int := (List.range j).foldl (fun xs (k : Nat) => if Skip d.T p dir track r k then xs else sK d t p r k xs (1 + k % 2)) xs
theorem sR_succ (d : Dev) (t p dir track r : Int) (xs : List Int) (j : Nat) : sR d t p dir track r xs (j + 1) = if Skip d.T p dir track r j then sR d t p dir track r xs j else sK d t p r j (sR d t p dir track r xs j) (1 + j % 2) := by unfold sR; rw [List.range_succ, List.foldl_append]; rfl
def sO (d : Dev) (t p dir track : Int) (j : Nat) : List Int := (List.range j).foldl (fun xs (r : Nat) => sR d t p dir track r xs d.T.toNat) (baseS d t p)
theorem sO_succ (d : Dev) (t p dir track : Int) (j : Nat) : sO d t p dir track (j + 1) = sR d t p dir track j (sO d t p dir track j) d.T.toNat := by unfold sO; rw [List.range_succ, List.foldl_append]; rfl
def srcS (d : Dev) (n : Int) : List Int := if nodeOkI d n = true ∧ n % perI d ≠ 5 ∧ n % perI d ≠ 6 then sortR (sO d (n / perI d) (n % perI d) (dirI d (n % perI d)) (trackI d (n % perI d)) 4) else []
theorem dir_rng {d : Dev} {p : Int} (hv : devB d = true) (p0 : 0 ≤ p) (p1 : p ≤ perI d - 1) : 0 ≤ dirI d p ∧ dirI d p ≤ 3 ∧ 0 ≤ trackI d p ∧ trackI d p ≤ d.T - 1 := by
  obtain ⟨-, -, ⟨l1, l2⟩, -⟩ := (devB_iff d).1 hv
  unfold dirI trackI
  split
  · exact wire_rng hv (by assumption) p1
  · omega
set_option maxHeartbeats 4000000 in
set_option maxRecDepth 100000 in
theorem specSources_ret (d : Dev) (n : Int) (w : World)  :
    Calls Try.prog 68 #[.agg #[.int .i64 d.W, .int .i64 d.H, .int .i64 d.T, .int .i64 d.R], .int .i64 n] w (Ret w (fun v' post => post = [rowE 3 1 v' (srcS d n).length ((srcS d n).map (Value.int .i64))])) := by
  refine calls_hc (N := 144) (args := [.agg #[.int .i64 d.W, .int .i64 d.H, .int .i64 d.T, .int .i64 d.R], .int .i64 n]) Try.func68 rfl rfl ?_
  refine hc_less _ (sub_cons (d := 0) rfl (sub_cons (d := 1) rfl (sub_nil _))) (.refl _) ?_
  refine hc_seq ?_
  refine hc_region ?_
  refine hl_box rfl rfl rfl (rq_box rfl rfl) ?_
  intro b1
  refine hl_v rfl rfl rfl (rv_ev rfl) ?_
  refine hl_less (sub_cons (d := 0) rfl (sub_cons (d := 1) rfl (sub_cons (d := 2) rfl (sub_cons (d := 4) rfl (sub_nil _))))) (.refl _) ?_
  refine hl_nil ?_
  refine hq_then ?_
  refine hc_seq ?_
  refine hc_region ?_
  refine hl_row rfl rfl rfl (rq_slice0 (s := 1) rfl Try.underlying30 (by kernel_rfl)) ?_
  intro g2
  refine hl_v rfl rfl rfl (rv_ev rfl) ?_
  refine hl_less (sub_cons (d := 0) rfl (sub_cons (d := 1) rfl (sub_cons (d := 2) rfl (sub_cons (d := 4) rfl (sub_cons (d := 5) rfl (sub_nil _)))))) (.refl _) ?_
  refine hl_nil ?_
  refine hq_then ?_
  refine hc_seq ?_
  refine hc_seq ?_
  refine hc_region ?_
  refine hl_v rfl rfl rfl (rv_loadN (cs := [.int .i64 d.W, .int .i64 d.H, .int .i64 d.T, .int .i64 d.R]) rfl (by kernel_rfl) (by kernel_rfl) rfl rfl (box_part 1 rfl 0 rfl)) ?_
  refine hl_v rfl rfl rfl (rv_ev rfl) ?_
  refine hl_callV rfl rfl rfl (rq_call (by kernel_rfl) rfl (fun w hm => ret_ans (specRouteNodeOk_any d _ w))) ?_
  refine hl_bool (fun h3 => ?_) (fun h3 => ?_)
  ·
    obtain ⟨hv, n0, n1⟩ := nodeOk_rng h3
    obtain ⟨p0, p1, p2, p3, p4⟩ := place_rng hv n0 n1
    obtain ⟨m1, m2⟩ := all_rng hv
    obtain ⟨q1, q2⟩ := per_rng hv
    obtain ⟨-, -, ⟨l1, l2⟩, -⟩ := (devB_iff d).1 hv
    obtain ⟨dg0, dg1, dg2, dg3⟩ := dir_rng hv p2 p3
    have hto := outPins_rng d (n / perI d)
    refine hl_v rfl rfl rfl (rv_ev rfl) ?_
    refine hl_less (sub_cons (d := 0) rfl (sub_cons (d := 1) rfl (sub_cons (d := 2) rfl (sub_cons (d := 4) rfl (sub_cons (d := 5) rfl (sub_cons (d := 18) rfl (sub_nil _))))))) (.refl _) ?_
    refine hl_nil ?_
    refine hq_then ?_
    refine hc_false rfl ?_
    refine hc_skip ?_
    refine hq_then ?_
    refine hc_seq ?_
    refine hc_region ?_
    refine hl_v rfl rfl rfl (rv_ev rfl) ?_
    refine hl_v rfl rfl rfl (rv_loadN (cs := [.int .i64 d.W, .int .i64 d.H, .int .i64 d.T, .int .i64 d.R]) rfl (by kernel_rfl) (by kernel_rfl) rfl rfl (box_part 1 rfl 0 rfl)) ?_
    refine hl_callV rfl rfl rfl (rq_call (by kernel_rfl) rfl (fun w hm => ret_ans (specPer_any d hv w))) ?_
    refine hl_v rfl rfl rfl (rv_quo rfl rfl rfl (by refine ⟨?_, ?_, ?_⟩ <;> omega)) ?_
    refine hl_v rfl rfl rfl (rv_ev rfl) ?_
    refine hl_less (sub_cons (d := 0) rfl (sub_cons (d := 1) rfl (sub_cons (d := 2) rfl (sub_cons (d := 4) rfl (sub_cons (d := 5) rfl (sub_cons (d := 6) rfl (sub_cons (d := 18) rfl (sub_nil _)))))))) (.refl _) ?_
    refine hl_nil ?_
    refine hq_then ?_
    refine hc_seq ?_
    refine hc_region ?_
    refine hl_v rfl rfl rfl (rv_ev rfl) ?_
    refine hl_v rfl rfl rfl (rv_loadN (cs := [.int .i64 d.W, .int .i64 d.H, .int .i64 d.T, .int .i64 d.R]) rfl (by kernel_rfl) (by kernel_rfl) rfl rfl (box_part 1 rfl 0 rfl)) ?_
    refine hl_callV rfl rfl rfl (rq_call (by kernel_rfl) rfl (fun w hm => ret_ans (specPer_any d hv w))) ?_
    refine hl_v rfl rfl rfl (rv_rem rfl rfl rfl (by constructor <;> omega)) ?_
    refine hl_v rfl rfl rfl (rv_ev rfl) ?_
    refine hl_less (sub_cons (d := 0) rfl (sub_cons (d := 1) rfl (sub_cons (d := 2) rfl (sub_cons (d := 4) rfl (sub_cons (d := 5) rfl (sub_cons (d := 6) rfl (sub_cons (d := 7) rfl (sub_cons (d := 18) rfl (sub_nil _))))))))) (.refl _) ?_
    refine hl_nil ?_
    refine hq_then ?_
    refine hc_seq ?_
    refine hc_seq ?_
    refine hc_region ?_
    refine hl_v rfl rfl rfl (rv_ev rfl) ?_
    refine hl_eql rfl rfl rfl rfl rfl rfl (fun h4 => ?_) (fun h4 => ?_)
    ·
      refine hl_v rfl rfl rfl (rv_ev rfl) ?_
      refine hl_skip rfl rfl rfl ?_
      refine hl_skip rfl rfl rfl ?_
      refine hl_v rfl rfl rfl (rv_ev rfl) ?_
      refine hl_less (sub_cons (d := 0) rfl (sub_cons (d := 1) rfl (sub_cons (d := 2) rfl (sub_cons (d := 4) rfl (sub_cons (d := 5) rfl (sub_cons (d := 6) rfl (sub_cons (d := 7) rfl (sub_cons (d := 18) rfl (sub_cons (d := 33) rfl (sub_nil _)))))))))) (.refl _) ?_
      refine hl_nil ?_
      refine hq_then ?_
      refine hc_true rfl ?_
      refine hc_seq ?_
      refine hc_region ?_
      refine hl_v rfl rfl rfl (rv_ev rfl) ?_
      refine hl_v rfl rfl rfl (rv_ev rfl) ?_
      refine hl_less (sub_cons (d := 0) rfl (sub_cons (d := 1) rfl (sub_cons (d := 2) rfl (sub_cons (d := 4) rfl (sub_cons (d := 5) rfl (sub_cons (d := 6) rfl (sub_cons (d := 7) rfl (sub_cons (d := 18) rfl (sub_cons (d := 33) rfl (sub_nil _)))))))))) (.refl _) ?_
      refine hl_nil ?_
      refine hq_then ?_
      refine hc_ret ?_
      refine hq_then_ret ?_
      exact hq_retR (post := [rowE 3 1 (.slice (some ⟨g2, 0, none⟩) 0 0) 0 ([])]) rfl rfl ((.cons_cons _ (.cons _ .slnil))) (by unfold srcS; first | rw [if_pos ⟨by assumption, by omega, by omega⟩, hy, show r = 4 by omega, hd1, hd2] | (rw [if_neg (by rintro ⟨q1, q2, q3⟩; first | omega | simp_all)]; rfl))
    ·
      refine hl_v rfl rfl rfl (rv_ev rfl) ?_
      refine hl_v rfl rfl rfl (rv_ev rfl) ?_
      refine hl_eql rfl rfl rfl rfl rfl rfl (fun h5 => ?_) (fun h5 => ?_)
      ·
        refine hl_v rfl rfl rfl (rv_ev rfl) ?_
        refine hl_less (sub_cons (d := 0) rfl (sub_cons (d := 1) rfl (sub_cons (d := 2) rfl (sub_cons (d := 4) rfl (sub_cons (d := 5) rfl (sub_cons (d := 6) rfl (sub_cons (d := 7) rfl (sub_cons (d := 18) rfl (sub_cons (d := 33) rfl (sub_nil _)))))))))) (.refl _) ?_
        refine hl_nil ?_
        refine hq_then ?_
        refine hc_true rfl ?_
        refine hc_seq ?_
        refine hc_region ?_
        refine hl_v rfl rfl rfl (rv_ev rfl) ?_
        refine hl_v rfl rfl rfl (rv_ev rfl) ?_
        refine hl_less (sub_cons (d := 0) rfl (sub_cons (d := 1) rfl (sub_cons (d := 2) rfl (sub_cons (d := 4) rfl (sub_cons (d := 5) rfl (sub_cons (d := 6) rfl (sub_cons (d := 7) rfl (sub_cons (d := 18) rfl (sub_cons (d := 33) rfl (sub_nil _)))))))))) (.refl _) ?_
        refine hl_nil ?_
        refine hq_then ?_
        refine hc_ret ?_
        refine hq_then_ret ?_
        exact hq_retR (post := [rowE 3 1 (.slice (some ⟨g2, 0, none⟩) 0 0) 0 ([])]) rfl rfl ((.cons_cons _ (.cons _ .slnil))) (by unfold srcS; first | rw [if_pos ⟨by assumption, by omega, by omega⟩, hy, show r = 4 by omega, hd1, hd2] | (rw [if_neg (by rintro ⟨q1, q2, q3⟩; first | omega | simp_all)]; rfl))
      ·
        refine hl_v rfl rfl rfl (rv_ev rfl) ?_
        refine hl_less (sub_cons (d := 0) rfl (sub_cons (d := 1) rfl (sub_cons (d := 2) rfl (sub_cons (d := 4) rfl (sub_cons (d := 5) rfl (sub_cons (d := 6) rfl (sub_cons (d := 7) rfl (sub_cons (d := 18) rfl (sub_cons (d := 33) rfl (sub_nil _)))))))))) (.refl _) ?_
        refine hl_nil ?_
        refine hq_then ?_
        refine hc_false rfl ?_
        refine hc_skip ?_
        refine hq_then ?_
        refine hc_seq ?_
        refine hc_region ?_
        refine hl_v rfl rfl rfl (rv_ev rfl) ?_
        refine hl_less (sub_cons (d := 0) rfl (sub_cons (d := 1) rfl (sub_cons (d := 2) rfl (sub_cons (d := 4) rfl (sub_cons (d := 5) rfl (sub_cons (d := 6) rfl (sub_cons (d := 7) rfl (sub_cons (d := 8) rfl (sub_cons (d := 18) rfl (sub_cons (d := 33) rfl (sub_nil _))))))))))) (.refl _) ?_
        refine hl_nil ?_
        refine hq_then ?_
        refine hc_seq ?_
        refine hc_region ?_
        refine hl_v rfl rfl rfl (rv_ev rfl) ?_
        refine hl_less (sub_cons (d := 0) rfl (sub_cons (d := 1) rfl (sub_cons (d := 2) rfl (sub_cons (d := 4) rfl (sub_cons (d := 5) rfl (sub_cons (d := 6) rfl (sub_cons (d := 7) rfl (sub_cons (d := 8) rfl (sub_cons (d := 9) rfl (sub_cons (d := 18) rfl (sub_cons (d := 33) rfl (sub_nil _)))))))))))) (.refl _) ?_
        refine hl_nil ?_
        refine hq_then ?_
        refine hc_meet4 (α := Int) (β := Int) (γ := Value) (δ := List Int) (fun dir track v xs => [rowE 3 1 v xs.length (xs.map (Value.int .i64)), boxE b1 #[.int .i64 d.W, .int .i64 d.H, .int .i64 d.T, .int .i64 d.R] 25]) (fun dir track v xs => [(0, .agg #[.int .i64 d.W, .int .i64 d.H, .int .i64 d.T, .int .i64 d.R]), (1, .int .i64 n), (2, .pointer (some ⟨b1, 0, none⟩)), (4, .slice none 0 0), (5, v), (6, .int .i64 (n / (perI d))), (7, .int .i64 (n % (perI d))), (8, .int .i64 dir), (9, .int .i64 track), (18, .bool false), (33, .bool false)]) (fun dir track v xs => dir = dirI d (n % perI d) ∧ track = trackI d (n % perI d) ∧ xs = baseS d (n / perI d) (n % perI d) ∧ xs.length ≤ 2) ?_ ?_
        ·
          refine hc_seq ?_
          refine hc_region ?_
          refine hl_v rfl rfl rfl (rv_ev rfl) ?_
          refine hl_geq rfl rfl rfl rfl rfl rfl (fun h6 => ?_) (fun h6 => ?_)
          ·
            refine hl_less (sub_cons (d := 0) rfl (sub_cons (d := 1) rfl (sub_cons (d := 2) rfl (sub_cons (d := 4) rfl (sub_cons (d := 5) rfl (sub_cons (d := 6) rfl (sub_cons (d := 7) rfl (sub_cons (d := 8) rfl (sub_cons (d := 9) rfl (sub_cons (d := 18) rfl (sub_cons (d := 33) rfl (sub_cons (d := 36) rfl (sub_nil _))))))))))))) (.refl _) ?_
            refine hl_nil ?_
            refine hq_then ?_
            refine hc_true rfl ?_
            refine hc_seq ?_
            refine hc_region ?_
            refine hl_v rfl rfl rfl (rv_loadN (cs := [.int .i64 d.W, .int .i64 d.H, .int .i64 d.T, .int .i64 d.R]) rfl (by kernel_rfl) (by kernel_rfl) rfl rfl (box_part 1 rfl 0 rfl)) ?_
            refine hl_v rfl rfl rfl (rv_ev rfl) ?_
            refine hl_callV rfl rfl rfl (rq_call (by kernel_rfl) rfl (fun w hm => ret_ans (specWire_any d _ hv n0 n1 (by omega) w))) ?_
            refine hl_v rfl rfl rfl (rv_ev rfl) ?_
            refine hl_v rfl rfl rfl (rv_ev rfl) ?_
            refine hl_v rfl rfl rfl (rv_ev rfl) ?_
            refine hl_v rfl rfl rfl (rv_ev rfl) ?_
            refine hl_v rfl rfl rfl (rv_ev rfl) ?_
            refine hl_less (sub_cons (d := 0) rfl (sub_cons (d := 1) rfl (sub_cons (d := 2) rfl (sub_cons (d := 4) rfl (sub_cons (d := 5) rfl (sub_cons (d := 6) rfl (sub_cons (d := 7) rfl (sub_cons (d := 8) rfl (sub_cons (d := 9) rfl (sub_cons (d := 18) rfl (sub_cons (d := 33) rfl (sub_cons (d := 36) rfl (sub_nil _))))))))))))) (.refl _) ?_
            refine hl_nil ?_
            refine hq_then ?_
            refine hc_seq ?_
            refine hc_region ?_
            refine hl_v rfl rfl rfl (rv_ev rfl) ?_
            refine hl_v rfl rfl rfl (rv_loadN (cs := [.int .i64 d.W, .int .i64 d.H, .int .i64 d.T, .int .i64 d.R]) rfl (by kernel_rfl) (by kernel_rfl) rfl rfl (box_part 1 rfl 0 rfl)) ?_
            refine hl_v rfl rfl rfl (rv_ev rfl) ?_
            refine hl_callV rfl rfl rfl (rq_call (by kernel_rfl) rfl (fun w hm => ret_ans (specOutPin_ans d _ _ w p4 (by omega) (by omega)))) ?_
            refine hl_row rfl rfl rfl (rq_buildSlice (z := .int .i64 0) (s := 1) (cs := ([outPinI d (n / (perI d)) 0].map (Value.int .i64))) rfl Try.underlying30 (by kernel_rfl) (by decide) rfl (by kernel_rfl) rfl) ?_
            intro g7
            refine hl_append (i := 1) (z := .int .i64 0) (bytes := 8) (n' := ([outPinI d (n / (perI d)) 0]).length) (xs' := (([outPinI d (n / (perI d)) 0]).map (Value.int .i64))) (L := fun v8 => [rowE 3 1 (.slice (some ⟨g7, 0, none⟩) 1 1) 1 ([outPinI d (n / (perI d)) 0].map (Value.int .i64)), rowE 3 1 v8 (([outPinI d (n / (perI d)) 0]).length) (([outPinI d (n / (perI d)) 0]).map (Value.int .i64)), boxE b1 #[.int .i64 d.W, .int .i64 d.H, .int .i64 d.T, .int .i64 d.R] 25]) rfl rfl rfl rfl Try.underlying30 (by kernel_rfl) (by kernel_rfl) rfl rfl rfl (rd_row 0 rfl) (ints_one _) (by simp) ((Nat.zero_add _)) ((List.nil_append _)) (fun _ => rfl) ?_
            intro v8
            refine hl_v rfl rfl rfl (rv_ev rfl) ?_
            refine hl_less (sub_cons (d := 0) rfl (sub_cons (d := 1) rfl (sub_cons (d := 2) rfl (sub_cons (d := 4) rfl (sub_cons (d := 5) rfl (sub_cons (d := 6) rfl (sub_cons (d := 7) rfl (sub_cons (d := 8) rfl (sub_cons (d := 9) rfl (sub_cons (d := 18) rfl (sub_cons (d := 33) rfl (sub_cons (d := 36) rfl (sub_nil _))))))))))))) (.refl _) ?_
            refine hl_nil ?_
            refine hq_then ?_
            refine hc_seq ?_
            refine hc_region ?_
            refine hl_v rfl rfl rfl (rv_loadN (cs := [.int .i64 d.W, .int .i64 d.H, .int .i64 d.T, .int .i64 d.R]) rfl (by kernel_rfl) (by kernel_rfl) rfl rfl (box_part 2 rfl 0 rfl)) ?_
            refine hl_v rfl rfl rfl (rv_ev rfl) ?_
            refine hl_callV rfl rfl rfl (rq_call (by kernel_rfl) rfl (fun w hm => ret_ans (specTileKind_any d _ w))) ?_
            refine hl_callV rfl rfl rfl (rq_call (by kernel_rfl) rfl (fun w hm => ret_ans (ans_of (specOutPins_any _ (by rw [tileKind_eq p4]; exact kind_cases d _) w)))) ?_
            refine hl_gtr rfl rfl rfl rfl rfl rfl (fun h9 => ?_) (fun h9 => ?_)
            ·
              refine hl_less (sub_cons (d := 0) rfl (sub_cons (d := 1) rfl (sub_cons (d := 2) rfl (sub_cons (d := 4) rfl (sub_cons (d := 5) rfl (sub_cons (d := 6) rfl (sub_cons (d := 7) rfl (sub_cons (d := 8) rfl (sub_cons (d := 9) rfl (sub_cons (d := 18) rfl (sub_cons (d := 33) rfl (sub_cons (d := 36) rfl (sub_cons (d := 53) rfl (sub_nil _)))))))))))))) (.refl _) ?_
              refine hl_nil ?_
              refine hq_then ?_
              refine hc_true rfl ?_
              refine hc_region ?_
              refine hl_v rfl rfl rfl (rv_ev rfl) ?_
              refine hl_v rfl rfl rfl (rv_loadN (cs := [.int .i64 d.W, .int .i64 d.H, .int .i64 d.T, .int .i64 d.R]) rfl (by kernel_rfl) (by kernel_rfl) rfl rfl (box_part 2 rfl 0 rfl)) ?_
              refine hl_v rfl rfl rfl (rv_ev rfl) ?_
              refine hl_callV rfl rfl rfl (rq_call (by kernel_rfl) rfl (fun w hm => ret_ans (specOutPin_ans d _ _ w p4 (by omega) (by omega)))) ?_
              refine hl_row rfl rfl rfl (rq_buildSlice (z := .int .i64 0) (s := 1) (cs := ([outPinI d (n / (perI d)) 1].map (Value.int .i64))) rfl Try.underlying30 (by kernel_rfl) (by decide) rfl (by kernel_rfl) rfl) ?_
              intro g10
              refine hl_append (i := 2) (z := .int .i64 0) (bytes := 8) (n' := (([outPinI d (n / (perI d)) 0]) ++ ([outPinI d (n / (perI d)) 1])).length) (xs' := ((([outPinI d (n / (perI d)) 0]) ++ ([outPinI d (n / (perI d)) 1])).map (Value.int .i64))) (L := fun v11 => [rowE 3 1 (.slice (some ⟨g10, 0, none⟩) 1 1) 1 ([outPinI d (n / (perI d)) 1].map (Value.int .i64)), rowE 3 1 (.slice (some ⟨g7, 0, none⟩) 1 1) 1 ([outPinI d (n / (perI d)) 0].map (Value.int .i64)), rowE 3 1 v11 ((([outPinI d (n / (perI d)) 0]) ++ ([outPinI d (n / (perI d)) 1])).length) ((([outPinI d (n / (perI d)) 0]) ++ ([outPinI d (n / (perI d)) 1])).map (Value.int .i64)), boxE b1 #[.int .i64 d.W, .int .i64 d.H, .int .i64 d.T, .int .i64 d.R] 25]) rfl rfl rfl rfl Try.underlying30 (by kernel_rfl) (by kernel_rfl) rfl rfl rfl (rd_row 0 rfl) (ints_one _) (by simp) (len_app ([outPinI d (n / (perI d)) 0]) ([outPinI d (n / (perI d)) 1])) (ints_app ([outPinI d (n / (perI d)) 0]) ([outPinI d (n / (perI d)) 1])) (fun _ => rfl) ?_
              intro v11
              refine hl_v rfl rfl rfl (rv_ev rfl) ?_
              refine hl_less (sub_cons (d := 0) rfl (sub_cons (d := 1) rfl (sub_cons (d := 2) rfl (sub_cons (d := 4) rfl (sub_cons (d := 5) rfl (sub_cons (d := 6) rfl (sub_cons (d := 7) rfl (sub_cons (d := 8) rfl (sub_cons (d := 9) rfl (sub_cons (d := 18) rfl (sub_cons (d := 33) rfl (sub_cons (d := 36) rfl (sub_cons (d := 53) rfl (sub_nil _)))))))))))))) (.refl _) ?_
              refine hl_nil ?_
              exact hq_meet4 ((n % perI d - 7) / d.T) ((n % perI d - 7) % d.T) _ (([outPinI d (n / (perI d)) 0]) ++ ([outPinI d (n / (perI d)) 1])) ⟨by unfold dirI; rw [if_pos (by omega)], by unfold trackI; rw [if_pos (by omega)], by unfold baseS; rw [if_pos (by omega)]; rw [tileKind_eq p4] at *; (first | rw [if_pos (by omega)] | rw [if_neg (by omega)]) <;> rfl, by simp⟩ (sub_cons (d := 0) rfl (sub_cons (d := 1) rfl (sub_cons (d := 2) rfl (sub_cons (d := 4) rfl (sub_cons (d := 5) rfl (sub_cons (d := 6) rfl (sub_cons (d := 7) rfl (sub_cons (d := 8) rfl (sub_cons (d := 9) rfl (sub_cons (d := 18) rfl (sub_cons (d := 33) rfl (sub_nil _)))))))))))) ((.cons _ (.cons _ (.cons_cons _ (.cons_cons _ .slnil)))))
            ·
              refine hl_less (sub_cons (d := 0) rfl (sub_cons (d := 1) rfl (sub_cons (d := 2) rfl (sub_cons (d := 4) rfl (sub_cons (d := 5) rfl (sub_cons (d := 6) rfl (sub_cons (d := 7) rfl (sub_cons (d := 8) rfl (sub_cons (d := 9) rfl (sub_cons (d := 18) rfl (sub_cons (d := 33) rfl (sub_cons (d := 36) rfl (sub_cons (d := 53) rfl (sub_nil _)))))))))))))) (.refl _) ?_
              refine hl_nil ?_
              refine hq_then ?_
              refine hc_false rfl ?_
              refine hc_skip ?_
              exact hq_meet4 ((n % perI d - 7) / d.T) ((n % perI d - 7) % d.T) _ ([outPinI d (n / (perI d)) 0]) ⟨by unfold dirI; rw [if_pos (by omega)], by unfold trackI; rw [if_pos (by omega)], by unfold baseS; rw [if_pos (by omega)]; rw [tileKind_eq p4] at *; (first | rw [if_pos (by omega)] | rw [if_neg (by omega)]) <;> rfl, by simp⟩ (sub_cons (d := 0) rfl (sub_cons (d := 1) rfl (sub_cons (d := 2) rfl (sub_cons (d := 4) rfl (sub_cons (d := 5) rfl (sub_cons (d := 6) rfl (sub_cons (d := 7) rfl (sub_cons (d := 8) rfl (sub_cons (d := 9) rfl (sub_cons (d := 18) rfl (sub_cons (d := 33) rfl (sub_nil _)))))))))))) ((.cons _ (.cons_cons _ (.cons_cons _ .slnil))))
          ·
            refine hl_less (sub_cons (d := 0) rfl (sub_cons (d := 1) rfl (sub_cons (d := 2) rfl (sub_cons (d := 4) rfl (sub_cons (d := 5) rfl (sub_cons (d := 6) rfl (sub_cons (d := 7) rfl (sub_cons (d := 8) rfl (sub_cons (d := 9) rfl (sub_cons (d := 18) rfl (sub_cons (d := 33) rfl (sub_cons (d := 36) rfl (sub_nil _))))))))))))) (.refl _) ?_
            refine hl_nil ?_
            refine hq_then ?_
            refine hc_false rfl ?_
            refine hc_skip ?_
            exact hq_meet4 0 0 _ ([]) ⟨by unfold dirI; rw [if_neg (by omega)], by unfold trackI; rw [if_neg (by omega)], by unfold baseS; rw [if_neg (by omega)], by simp⟩ (sub_cons (d := 0) rfl (sub_cons (d := 1) rfl (sub_cons (d := 2) rfl (sub_cons (d := 4) rfl (sub_cons (d := 5) rfl (sub_cons (d := 6) rfl (sub_cons (d := 7) rfl (sub_cons (d := 8) rfl (sub_cons (d := 9) rfl (sub_cons (d := 18) rfl (sub_cons (d := 33) rfl (sub_nil _)))))))))))) ((.cons_cons _ (.cons_cons _ .slnil)))
        intro dir track v xs hm12
        obtain ⟨hd1, hd2, hx, hxl⟩ := hm12
        refine hc_seq ?_
        refine hc_seq ?_
        refine hc_region ?_
        refine hl_v rfl rfl rfl (rv_ev rfl) ?_
        refine hl_less (sub_cons (d := 0) rfl (sub_cons (d := 1) rfl (sub_cons (d := 2) rfl (sub_cons (d := 4) rfl (sub_cons (d := 5) rfl (sub_cons (d := 6) rfl (sub_cons (d := 7) rfl (sub_cons (d := 8) rfl (sub_cons (d := 9) rfl (sub_cons (d := 10) rfl (sub_cons (d := 18) rfl (sub_cons (d := 33) rfl (sub_nil _))))))))))))) (.refl _) ?_
        refine hl_nil ?_
        refine hq_then ?_
        refine hc_block ?_
        refine hc_loop3 (α := Nat) (β := Value) (γ := List Int) (fun r u ys => [rowE 3 1 u ys.length (ys.map (Value.int .i64)), boxE b1 #[.int .i64 d.W, .int .i64 d.H, .int .i64 d.T, .int .i64 d.R] 25]) (fun r u ys => [(0, .agg #[.int .i64 d.W, .int .i64 d.H, .int .i64 d.T, .int .i64 d.R]), (1, .int .i64 n), (2, .pointer (some ⟨b1, 0, none⟩)), (4, .slice none 0 0), (5, u), (6, .int .i64 (n / (perI d))), (7, .int .i64 (n % (perI d))), (8, .int .i64 dir), (9, .int .i64 track), (10, .int .i64 (r : Int)), (18, .bool false), (33, .bool false)]) (fun r u ys => r ≤ 4 ∧ ys = sO d (n / perI d) (n % perI d) dir track r ∧ ys.length ≤ 2 + 8 * r) (fun r u ys => 5 - r) 0 _ xs ⟨by omega, by rw [hx]; rfl, by omega⟩ (sub_cons (d := 0) rfl (sub_cons (d := 1) rfl (sub_cons (d := 2) rfl (sub_cons (d := 4) rfl (sub_cons (d := 5) rfl (sub_cons (d := 6) rfl (sub_cons (d := 7) rfl (sub_cons (d := 8) rfl (sub_cons (d := 9) rfl (sub_cons (d := 10) rfl (sub_cons (d := 18) rfl (sub_cons (d := 33) rfl (sub_nil _))))))))))))) ((.cons_cons _ (.cons_cons _ .slnil))) ?_
        intro r u ys hi13
        obtain ⟨hr, hy, hyl⟩ := hi13
        refine hc_seq ?_
        refine hc_seq ?_
        refine hc_region ?_
        refine hl_v rfl rfl rfl (rv_ev rfl) ?_
        refine hl_lss rfl rfl rfl rfl rfl rfl (fun h14 => ?_) (fun h14 => ?_)
        ·
          refine hl_less (sub_cons (d := 0) rfl (sub_cons (d := 1) rfl (sub_cons (d := 2) rfl (sub_cons (d := 4) rfl (sub_cons (d := 5) rfl (sub_cons (d := 6) rfl (sub_cons (d := 7) rfl (sub_cons (d := 8) rfl (sub_cons (d := 9) rfl (sub_cons (d := 10) rfl (sub_cons (d := 18) rfl (sub_cons (d := 33) rfl (sub_cons (d := 61) rfl (sub_nil _)))))))))))))) (.refl _) ?_
          refine hl_nil ?_
          refine hq_then ?_
          refine hc_true rfl ?_
          refine hc_skip ?_
          refine hq_then ?_
          refine hc_seq ?_
          refine hc_block ?_
          refine hc_seq ?_
          refine hc_region ?_
          refine hl_v rfl rfl rfl (rv_ev rfl) ?_
          refine hl_less (sub_cons (d := 0) rfl (sub_cons (d := 1) rfl (sub_cons (d := 2) rfl (sub_cons (d := 4) rfl (sub_cons (d := 5) rfl (sub_cons (d := 6) rfl (sub_cons (d := 7) rfl (sub_cons (d := 8) rfl (sub_cons (d := 9) rfl (sub_cons (d := 10) rfl (sub_cons (d := 11) rfl (sub_cons (d := 18) rfl (sub_cons (d := 33) rfl (sub_cons (d := 61) rfl (sub_nil _))))))))))))))) (.refl _) ?_
          refine hl_nil ?_
          refine hq_then ?_
          refine hc_block ?_
          refine hc_loop3 (α := Nat) (β := Value) (γ := List Int) (fun k q zs => [rowE 3 1 q zs.length (zs.map (Value.int .i64)), boxE b1 #[.int .i64 d.W, .int .i64 d.H, .int .i64 d.T, .int .i64 d.R] 25]) (fun k q zs => [(0, .agg #[.int .i64 d.W, .int .i64 d.H, .int .i64 d.T, .int .i64 d.R]), (1, .int .i64 n), (2, .pointer (some ⟨b1, 0, none⟩)), (4, .slice none 0 0), (5, q), (6, .int .i64 (n / (perI d))), (7, .int .i64 (n % (perI d))), (8, .int .i64 dir), (9, .int .i64 track), (10, .int .i64 (r : Int)), (11, .int .i64 (k : Int)), (18, .bool false), (33, .bool false), (61, .bool true)]) (fun k q zs => (k : Int) ≤ d.T ∧ zs = sR d (n / perI d) (n % perI d) dir track r ys k ∧ zs.length ≤ ys.length + 2 * k) (fun k q zs => 5 - k) 0 _ ys ⟨by omega, rfl, by simp⟩ (sub_cons (d := 0) rfl (sub_cons (d := 1) rfl (sub_cons (d := 2) rfl (sub_cons (d := 4) rfl (sub_cons (d := 5) rfl (sub_cons (d := 6) rfl (sub_cons (d := 7) rfl (sub_cons (d := 8) rfl (sub_cons (d := 9) rfl (sub_cons (d := 10) rfl (sub_cons (d := 11) rfl (sub_cons (d := 18) rfl (sub_cons (d := 33) rfl (sub_cons (d := 61) rfl (sub_nil _))))))))))))))) ((.cons_cons _ (.cons_cons _ .slnil))) ?_
          intro k q zs hi15
          obtain ⟨hk, hz, hzl⟩ := hi15
          refine hc_seq ?_
          refine hc_seq ?_
          refine hc_region ?_
          refine hl_v rfl rfl rfl (rv_ev rfl) ?_
          refine hl_v rfl rfl rfl (rv_field (k0 := 2) rfl (by kernel_rfl) rfl) ?_
          refine hl_v rfl rfl rfl (rv_load rfl (by kernel_rfl) rfl (box_cell 1 rfl rfl)) ?_
          refine hl_lss rfl rfl rfl rfl rfl rfl (fun h16 => ?_) (fun h16 => ?_)
          ·
            refine hl_less (sub_cons (d := 0) rfl (sub_cons (d := 1) rfl (sub_cons (d := 2) rfl (sub_cons (d := 4) rfl (sub_cons (d := 5) rfl (sub_cons (d := 6) rfl (sub_cons (d := 7) rfl (sub_cons (d := 8) rfl (sub_cons (d := 9) rfl (sub_cons (d := 10) rfl (sub_cons (d := 11) rfl (sub_cons (d := 18) rfl (sub_cons (d := 33) rfl (sub_cons (d := 61) rfl (sub_cons (d := 67) rfl (sub_nil _)))))))))))))))) (.refl _) ?_
            refine hl_nil ?_
            refine hq_then ?_
            refine hc_true rfl ?_
            refine hc_skip ?_
            refine hq_then ?_
            refine hc_seq ?_
            refine hc_block ?_
            refine hc_meet1 (α := Unit) (fun u0 => [rowE 3 1 q zs.length (zs.map (Value.int .i64)), boxE b1 #[.int .i64 d.W, .int .i64 d.H, .int .i64 d.T, .int .i64 d.R] 25]) (fun u0 => [(0, .agg #[.int .i64 d.W, .int .i64 d.H, .int .i64 d.T, .int .i64 d.R]), (1, .int .i64 n), (2, .pointer (some ⟨b1, 0, none⟩)), (4, .slice none 0 0), (5, q), (6, .int .i64 (n / (perI d))), (7, .int .i64 (n % (perI d))), (8, .int .i64 dir), (9, .int .i64 track), (10, .int .i64 (r : Int)), (11, .int .i64 (k : Int)), (18, .bool false), (33, .bool false), (61, .bool true), (67, .bool true)]) (fun u0 => ¬ Skip d.T (n % perI d) dir track r k) ?_ ?_
            ·
              refine hc_seq ?_
              refine hc_region ?_
              refine hl_v rfl rfl rfl (rv_ev rfl) ?_
              refine hl_geq rfl rfl rfl rfl rfl rfl (fun h17 => ?_) (fun h17 => ?_)
              ·
                refine hl_v rfl rfl rfl (rv_ev rfl) ?_
                refine hl_v rfl rfl rfl (rv_ev rfl) ?_
                refine hl_v rfl rfl rfl (rv_ev rfl) ?_
                refine hl_v rfl rfl rfl (rv_add rfl rfl rfl (by constructor <;> omega)) ?_
                refine hl_v rfl rfl rfl (rv_rem rfl rfl rfl (by constructor <;> omega)) ?_
                refine hl_eql rfl rfl rfl rfl rfl rfl (fun h18 => ?_) (fun h18 => ?_)
                ·
                  refine hl_v rfl rfl rfl (rv_ev rfl) ?_
                  refine hl_skip rfl rfl rfl ?_
                  refine hl_skip rfl rfl rfl ?_
                  refine hl_skip rfl rfl rfl ?_
                  refine hl_skip rfl rfl rfl ?_
                  refine hl_skip rfl rfl rfl ?_
                  refine hl_skip rfl rfl rfl ?_
                  refine hl_skip rfl rfl rfl ?_
                  refine hl_skip rfl rfl rfl ?_
                  refine hl_skip rfl rfl rfl ?_
                  refine hl_skip rfl rfl rfl ?_
                  refine hl_skip rfl rfl rfl ?_
                  refine hl_skip rfl rfl rfl ?_
                  refine hl_v rfl rfl rfl (rv_ev rfl) ?_
                  refine hl_v rfl rfl rfl (rv_ev rfl) ?_
                  refine hl_v rfl rfl rfl (rv_ev rfl) ?_
                  refine hl_skip rfl rfl rfl ?_
                  refine hl_skip rfl rfl rfl ?_
                  refine hl_skip rfl rfl rfl ?_
                  refine hl_skip rfl rfl rfl ?_
                  refine hl_skip rfl rfl rfl ?_
                  refine hl_skip rfl rfl rfl ?_
                  refine hl_skip rfl rfl rfl ?_
                  refine hl_skip rfl rfl rfl ?_
                  refine hl_skip rfl rfl rfl ?_
                  refine hl_skip rfl rfl rfl ?_
                  refine hl_skip rfl rfl rfl ?_
                  refine hl_skip rfl rfl rfl ?_
                  refine hl_skip rfl rfl rfl ?_
                  refine hl_skip rfl rfl rfl ?_
                  refine hl_v rfl rfl rfl (rv_ev rfl) ?_
                  refine hl_less (sub_cons (d := 0) rfl (sub_cons (d := 1) rfl (sub_cons (d := 2) rfl (sub_cons (d := 4) rfl (sub_cons (d := 5) rfl (sub_cons (d := 6) rfl (sub_cons (d := 7) rfl (sub_cons (d := 8) rfl (sub_cons (d := 9) rfl (sub_cons (d := 10) rfl (sub_cons (d := 11) rfl (sub_cons (d := 18) rfl (sub_cons (d := 33) rfl (sub_cons (d := 61) rfl (sub_cons (d := 67) rfl (sub_cons (d := 108) rfl (sub_nil _))))))))))))))))) (.refl _) ?_
                  refine hl_nil ?_
                  refine hq_then ?_
                  refine hc_true rfl ?_
                  refine hc_exit ?_
                  refine hq_then_exit ?_
                  refine hq_block_exit ?_
                  refine hq_then ?_
                  refine hc_region ?_
                  refine hl_v rfl rfl rfl (rv_ev rfl) ?_
                  refine hl_v rfl rfl rfl (rv_add rfl rfl rfl (by constructor <;> omega)) ?_
                  refine hl_v rfl rfl rfl (rv_ev rfl) ?_
                  refine hl_less (sub_cons (d := 0) rfl (sub_cons (d := 1) rfl (sub_cons (d := 2) rfl (sub_cons (d := 4) rfl (sub_cons (d := 5) rfl (sub_cons (d := 6) rfl (sub_cons (d := 7) rfl (sub_cons (d := 8) rfl (sub_cons (d := 9) rfl (sub_cons (d := 10) rfl (sub_cons (d := 11) rfl (sub_cons (d := 18) rfl (sub_cons (d := 33) rfl (sub_cons (d := 61) rfl (sub_cons (d := 67) rfl (sub_cons (d := 108) rfl (sub_nil _))))))))))))))))) (.refl _) ?_
                  refine hl_nil ?_
                  exact hq_round3 (k + 1) _ _ ⟨by omega, by rw [sR_succ]; rw [if_pos (by unfold Skip; omega)]; exact hz, by omega⟩ (by omega) (sub_cons (d := 0) rfl (sub_cons (d := 1) rfl (sub_cons (d := 2) rfl (sub_cons (d := 4) rfl (sub_cons (d := 5) rfl (sub_cons (d := 6) rfl (sub_cons (d := 7) rfl (sub_cons (d := 8) rfl (sub_cons (d := 9) rfl (sub_cons (d := 10) rfl (sub_cons (d := 11) rfl (sub_cons (d := 18) rfl (sub_cons (d := 33) rfl (sub_cons (d := 61) rfl (sub_nil _))))))))))))))) ((.cons_cons _ (.cons_cons _ .slnil)))
                ·
                  refine hl_v rfl rfl rfl (rv_ev rfl) ?_
                  refine hl_v rfl rfl rfl (rv_ev rfl) ?_
                  refine hl_v rfl rfl rfl (rv_ev rfl) ?_
                  refine hl_neq rfl rfl rfl rfl rfl rfl (fun h19 => ?_) (fun h19 => ?_)
                  ·
                    refine hl_v rfl rfl rfl (rv_ev rfl) ?_
                    refine hl_v rfl rfl rfl (rv_ev rfl) ?_
                    refine hl_v rfl rfl rfl (rv_ev rfl) ?_
                    refine hl_v rfl rfl rfl (rv_add rfl rfl rfl (by constructor <;> omega)) ?_
                    refine hl_v rfl rfl rfl (rv_field (k0 := 2) rfl (by kernel_rfl) rfl) ?_
                    refine hl_v rfl rfl rfl (rv_load rfl (by kernel_rfl) rfl (box_cell 1 rfl rfl)) ?_
                    refine hl_v rfl rfl rfl (rv_rem rfl rfl rfl (by constructor <;> omega)) ?_
                    refine hl_neq rfl rfl rfl rfl rfl rfl (fun h20 => ?_) (fun h20 => ?_)
                    ·
                      refine hl_v rfl rfl rfl (rv_ev rfl) ?_
                      refine hl_v rfl rfl rfl (rv_ev rfl) ?_
                      refine hl_v rfl rfl rfl (rv_ev rfl) ?_
                      refine hl_v rfl rfl rfl (rv_ev rfl) ?_
                      refine hl_skip rfl rfl rfl ?_
                      refine hl_skip rfl rfl rfl ?_
                      refine hl_skip rfl rfl rfl ?_
                      refine hl_skip rfl rfl rfl ?_
                      refine hl_skip rfl rfl rfl ?_
                      refine hl_skip rfl rfl rfl ?_
                      refine hl_skip rfl rfl rfl ?_
                      refine hl_skip rfl rfl rfl ?_
                      refine hl_skip rfl rfl rfl ?_
                      refine hl_skip rfl rfl rfl ?_
                      refine hl_skip rfl rfl rfl ?_
                      refine hl_skip rfl rfl rfl ?_
                      refine hl_skip rfl rfl rfl ?_
                      refine hl_skip rfl rfl rfl ?_
                      refine hl_v rfl rfl rfl (rv_ev rfl) ?_
                      refine hl_less (sub_cons (d := 0) rfl (sub_cons (d := 1) rfl (sub_cons (d := 2) rfl (sub_cons (d := 4) rfl (sub_cons (d := 5) rfl (sub_cons (d := 6) rfl (sub_cons (d := 7) rfl (sub_cons (d := 8) rfl (sub_cons (d := 9) rfl (sub_cons (d := 10) rfl (sub_cons (d := 11) rfl (sub_cons (d := 18) rfl (sub_cons (d := 33) rfl (sub_cons (d := 61) rfl (sub_cons (d := 67) rfl (sub_cons (d := 108) rfl (sub_nil _))))))))))))))))) (.refl _) ?_
                      refine hl_nil ?_
                      refine hq_then ?_
                      refine hc_true rfl ?_
                      refine hc_exit ?_
                      refine hq_then_exit ?_
                      refine hq_block_exit ?_
                      refine hq_then ?_
                      refine hc_region ?_
                      refine hl_v rfl rfl rfl (rv_ev rfl) ?_
                      refine hl_v rfl rfl rfl (rv_add rfl rfl rfl (by constructor <;> omega)) ?_
                      refine hl_v rfl rfl rfl (rv_ev rfl) ?_
                      refine hl_less (sub_cons (d := 0) rfl (sub_cons (d := 1) rfl (sub_cons (d := 2) rfl (sub_cons (d := 4) rfl (sub_cons (d := 5) rfl (sub_cons (d := 6) rfl (sub_cons (d := 7) rfl (sub_cons (d := 8) rfl (sub_cons (d := 9) rfl (sub_cons (d := 10) rfl (sub_cons (d := 11) rfl (sub_cons (d := 18) rfl (sub_cons (d := 33) rfl (sub_cons (d := 61) rfl (sub_cons (d := 67) rfl (sub_cons (d := 108) rfl (sub_nil _))))))))))))))))) (.refl _) ?_
                      refine hl_nil ?_
                      exact hq_round3 (k + 1) _ _ ⟨by omega, by rw [sR_succ]; rw [if_pos (by unfold Skip; omega)]; exact hz, by omega⟩ (by omega) (sub_cons (d := 0) rfl (sub_cons (d := 1) rfl (sub_cons (d := 2) rfl (sub_cons (d := 4) rfl (sub_cons (d := 5) rfl (sub_cons (d := 6) rfl (sub_cons (d := 7) rfl (sub_cons (d := 8) rfl (sub_cons (d := 9) rfl (sub_cons (d := 10) rfl (sub_cons (d := 11) rfl (sub_cons (d := 18) rfl (sub_cons (d := 33) rfl (sub_cons (d := 61) rfl (sub_nil _))))))))))))))) ((.cons_cons _ (.cons_cons _ .slnil)))
                    ·
                      refine hl_v rfl rfl rfl (rv_ev rfl) ?_
                      refine hl_v rfl rfl rfl (rv_ev rfl) ?_
                      refine hl_v rfl rfl rfl (rv_ev rfl) ?_
                      refine hl_v rfl rfl rfl (rv_ev rfl) ?_
                      refine hl_v rfl rfl rfl (rv_ev rfl) ?_
                      refine hl_lss rfl rfl rfl rfl rfl rfl (fun h21 => ?_) (fun h21 => ?_)
                      ·
                        refine hl_v rfl rfl rfl (rv_ev rfl) ?_
                        refine hl_v rfl rfl rfl (rv_field (k0 := 2) rfl (by kernel_rfl) rfl) ?_
                        refine hl_v rfl rfl rfl (rv_load rfl (by kernel_rfl) rfl (box_cell 1 rfl rfl)) ?_
                        refine hl_gtr rfl rfl rfl rfl rfl rfl (fun h22 => ?_) (fun h22 => ?_)
                        ·
                          refine hl_v rfl rfl rfl (rv_ev rfl) ?_
                          refine hl_v rfl rfl rfl (rv_ev rfl) ?_
                          refine hl_v rfl rfl rfl (rv_ev rfl) ?_
                          refine hl_v rfl rfl rfl (rv_ev rfl) ?_
                          refine hl_v rfl rfl rfl (rv_add rfl rfl rfl (by constructor <;> omega)) ?_
                          refine hl_v rfl rfl rfl (rv_rem rfl rfl rfl (by constructor <;> omega)) ?_
                          refine hl_eql rfl rfl rfl rfl rfl rfl (fun h23 => ?_) (fun h23 => ?_)
                          ·
                            refine hl_v rfl rfl rfl (rv_ev rfl) ?_
                            refine hl_v rfl rfl rfl (rv_ev rfl) ?_
                            refine hl_less (sub_cons (d := 0) rfl (sub_cons (d := 1) rfl (sub_cons (d := 2) rfl (sub_cons (d := 4) rfl (sub_cons (d := 5) rfl (sub_cons (d := 6) rfl (sub_cons (d := 7) rfl (sub_cons (d := 8) rfl (sub_cons (d := 9) rfl (sub_cons (d := 10) rfl (sub_cons (d := 11) rfl (sub_cons (d := 18) rfl (sub_cons (d := 33) rfl (sub_cons (d := 61) rfl (sub_cons (d := 67) rfl (sub_cons (d := 108) rfl (sub_nil _))))))))))))))))) (.refl _) ?_
                            refine hl_nil ?_
                            refine hq_then ?_
                            refine hc_true rfl ?_
                            refine hc_exit ?_
                            refine hq_then_exit ?_
                            refine hq_block_exit ?_
                            refine hq_then ?_
                            refine hc_region ?_
                            refine hl_v rfl rfl rfl (rv_ev rfl) ?_
                            refine hl_v rfl rfl rfl (rv_add rfl rfl rfl (by constructor <;> omega)) ?_
                            refine hl_v rfl rfl rfl (rv_ev rfl) ?_
                            refine hl_less (sub_cons (d := 0) rfl (sub_cons (d := 1) rfl (sub_cons (d := 2) rfl (sub_cons (d := 4) rfl (sub_cons (d := 5) rfl (sub_cons (d := 6) rfl (sub_cons (d := 7) rfl (sub_cons (d := 8) rfl (sub_cons (d := 9) rfl (sub_cons (d := 10) rfl (sub_cons (d := 11) rfl (sub_cons (d := 18) rfl (sub_cons (d := 33) rfl (sub_cons (d := 61) rfl (sub_cons (d := 67) rfl (sub_cons (d := 108) rfl (sub_nil _))))))))))))))))) (.refl _) ?_
                            refine hl_nil ?_
                            exact hq_round3 (k + 1) _ _ ⟨by omega, by rw [sR_succ]; rw [if_pos (by unfold Skip; omega)]; exact hz, by omega⟩ (by omega) (sub_cons (d := 0) rfl (sub_cons (d := 1) rfl (sub_cons (d := 2) rfl (sub_cons (d := 4) rfl (sub_cons (d := 5) rfl (sub_cons (d := 6) rfl (sub_cons (d := 7) rfl (sub_cons (d := 8) rfl (sub_cons (d := 9) rfl (sub_cons (d := 10) rfl (sub_cons (d := 11) rfl (sub_cons (d := 18) rfl (sub_cons (d := 33) rfl (sub_cons (d := 61) rfl (sub_nil _))))))))))))))) ((.cons_cons _ (.cons_cons _ .slnil)))
                          ·
                            refine hl_v rfl rfl rfl (rv_ev rfl) ?_
                            refine hl_v rfl rfl rfl (rv_ev rfl) ?_
                            refine hl_less (sub_cons (d := 0) rfl (sub_cons (d := 1) rfl (sub_cons (d := 2) rfl (sub_cons (d := 4) rfl (sub_cons (d := 5) rfl (sub_cons (d := 6) rfl (sub_cons (d := 7) rfl (sub_cons (d := 8) rfl (sub_cons (d := 9) rfl (sub_cons (d := 10) rfl (sub_cons (d := 11) rfl (sub_cons (d := 18) rfl (sub_cons (d := 33) rfl (sub_cons (d := 61) rfl (sub_cons (d := 67) rfl (sub_cons (d := 108) rfl (sub_nil _))))))))))))))))) (.refl _) ?_
                            refine hl_nil ?_
                            refine hq_then ?_
                            refine hc_false rfl ?_
                            refine hc_skip ?_
                            exact hq_meet1 () (by unfold Skip; omega) (sub_cons (d := 0) rfl (sub_cons (d := 1) rfl (sub_cons (d := 2) rfl (sub_cons (d := 4) rfl (sub_cons (d := 5) rfl (sub_cons (d := 6) rfl (sub_cons (d := 7) rfl (sub_cons (d := 8) rfl (sub_cons (d := 9) rfl (sub_cons (d := 10) rfl (sub_cons (d := 11) rfl (sub_cons (d := 18) rfl (sub_cons (d := 33) rfl (sub_cons (d := 61) rfl (sub_cons (d := 67) rfl (sub_nil _)))))))))))))))) ((.cons_cons _ (.cons_cons _ .slnil)))
                        ·
                          refine hl_v rfl rfl rfl (rv_ev rfl) ?_
                          refine hl_v rfl rfl rfl (rv_ev rfl) ?_
                          refine hl_skip rfl rfl rfl ?_
                          refine hl_skip rfl rfl rfl ?_
                          refine hl_skip rfl rfl rfl ?_
                          refine hl_skip rfl rfl rfl ?_
                          refine hl_skip rfl rfl rfl ?_
                          refine hl_v rfl rfl rfl (rv_ev rfl) ?_
                          refine hl_v rfl rfl rfl (rv_ev rfl) ?_
                          refine hl_less (sub_cons (d := 0) rfl (sub_cons (d := 1) rfl (sub_cons (d := 2) rfl (sub_cons (d := 4) rfl (sub_cons (d := 5) rfl (sub_cons (d := 6) rfl (sub_cons (d := 7) rfl (sub_cons (d := 8) rfl (sub_cons (d := 9) rfl (sub_cons (d := 10) rfl (sub_cons (d := 11) rfl (sub_cons (d := 18) rfl (sub_cons (d := 33) rfl (sub_cons (d := 61) rfl (sub_cons (d := 67) rfl (sub_cons (d := 108) rfl (sub_nil _))))))))))))))))) (.refl _) ?_
                          refine hl_nil ?_
                          refine hq_then ?_
                          refine hc_false rfl ?_
                          refine hc_skip ?_
                          exact hq_meet1 () (by unfold Skip; omega) (sub_cons (d := 0) rfl (sub_cons (d := 1) rfl (sub_cons (d := 2) rfl (sub_cons (d := 4) rfl (sub_cons (d := 5) rfl (sub_cons (d := 6) rfl (sub_cons (d := 7) rfl (sub_cons (d := 8) rfl (sub_cons (d := 9) rfl (sub_cons (d := 10) rfl (sub_cons (d := 11) rfl (sub_cons (d := 18) rfl (sub_cons (d := 33) rfl (sub_cons (d := 61) rfl (sub_cons (d := 67) rfl (sub_nil _)))))))))))))))) ((.cons_cons _ (.cons_cons _ .slnil)))
                      ·
                        refine hl_v rfl rfl rfl (rv_ev rfl) ?_
                        refine hl_skip rfl rfl rfl ?_
                        refine hl_skip rfl rfl rfl ?_
                        refine hl_skip rfl rfl rfl ?_
                        refine hl_v rfl rfl rfl (rv_ev rfl) ?_
                        refine hl_v rfl rfl rfl (rv_ev rfl) ?_
                        refine hl_skip rfl rfl rfl ?_
                        refine hl_skip rfl rfl rfl ?_
                        refine hl_skip rfl rfl rfl ?_
                        refine hl_skip rfl rfl rfl ?_
                        refine hl_skip rfl rfl rfl ?_
                        refine hl_v rfl rfl rfl (rv_ev rfl) ?_
                        refine hl_v rfl rfl rfl (rv_ev rfl) ?_
                        refine hl_less (sub_cons (d := 0) rfl (sub_cons (d := 1) rfl (sub_cons (d := 2) rfl (sub_cons (d := 4) rfl (sub_cons (d := 5) rfl (sub_cons (d := 6) rfl (sub_cons (d := 7) rfl (sub_cons (d := 8) rfl (sub_cons (d := 9) rfl (sub_cons (d := 10) rfl (sub_cons (d := 11) rfl (sub_cons (d := 18) rfl (sub_cons (d := 33) rfl (sub_cons (d := 61) rfl (sub_cons (d := 67) rfl (sub_cons (d := 108) rfl (sub_nil _))))))))))))))))) (.refl _) ?_
                        refine hl_nil ?_
                        refine hq_then ?_
                        refine hc_false rfl ?_
                        refine hc_skip ?_
                        exact hq_meet1 () (by unfold Skip; omega) (sub_cons (d := 0) rfl (sub_cons (d := 1) rfl (sub_cons (d := 2) rfl (sub_cons (d := 4) rfl (sub_cons (d := 5) rfl (sub_cons (d := 6) rfl (sub_cons (d := 7) rfl (sub_cons (d := 8) rfl (sub_cons (d := 9) rfl (sub_cons (d := 10) rfl (sub_cons (d := 11) rfl (sub_cons (d := 18) rfl (sub_cons (d := 33) rfl (sub_cons (d := 61) rfl (sub_cons (d := 67) rfl (sub_nil _)))))))))))))))) ((.cons_cons _ (.cons_cons _ .slnil)))
                  ·
                    refine hl_v rfl rfl rfl (rv_ev rfl) ?_
                    refine hl_skip rfl rfl rfl ?_
                    refine hl_skip rfl rfl rfl ?_
                    refine hl_skip rfl rfl rfl ?_
                    refine hl_skip rfl rfl rfl ?_
                    refine hl_skip rfl rfl rfl ?_
                    refine hl_skip rfl rfl rfl ?_
                    refine hl_skip rfl rfl rfl ?_
                    refine hl_v rfl rfl rfl (rv_ev rfl) ?_
                    refine hl_v rfl rfl rfl (rv_ev rfl) ?_
                    refine hl_v rfl rfl rfl (rv_ev rfl) ?_
                    refine hl_v rfl rfl rfl (rv_ev rfl) ?_
                    refine hl_v rfl rfl rfl (rv_ev rfl) ?_
                    refine hl_lss rfl rfl rfl rfl rfl rfl (fun h24 => ?_) (fun h24 => ?_)
                    ·
                      refine hl_v rfl rfl rfl (rv_ev rfl) ?_
                      refine hl_v rfl rfl rfl (rv_field (k0 := 2) rfl (by kernel_rfl) rfl) ?_
                      refine hl_v rfl rfl rfl (rv_load rfl (by kernel_rfl) rfl (box_cell 1 rfl rfl)) ?_
                      refine hl_gtr rfl rfl rfl rfl rfl rfl (fun h25 => ?_) (fun h25 => ?_)
                      ·
                        refine hl_v rfl rfl rfl (rv_ev rfl) ?_
                        refine hl_v rfl rfl rfl (rv_ev rfl) ?_
                        refine hl_v rfl rfl rfl (rv_ev rfl) ?_
                        refine hl_v rfl rfl rfl (rv_ev rfl) ?_
                        refine hl_v rfl rfl rfl (rv_add rfl rfl rfl (by constructor <;> omega)) ?_
                        refine hl_v rfl rfl rfl (rv_rem rfl rfl rfl (by constructor <;> omega)) ?_
                        refine hl_eql rfl rfl rfl rfl rfl rfl (fun h26 => ?_) (fun h26 => ?_)
                        ·
                          refine hl_v rfl rfl rfl (rv_ev rfl) ?_
                          refine hl_v rfl rfl rfl (rv_ev rfl) ?_
                          refine hl_less (sub_cons (d := 0) rfl (sub_cons (d := 1) rfl (sub_cons (d := 2) rfl (sub_cons (d := 4) rfl (sub_cons (d := 5) rfl (sub_cons (d := 6) rfl (sub_cons (d := 7) rfl (sub_cons (d := 8) rfl (sub_cons (d := 9) rfl (sub_cons (d := 10) rfl (sub_cons (d := 11) rfl (sub_cons (d := 18) rfl (sub_cons (d := 33) rfl (sub_cons (d := 61) rfl (sub_cons (d := 67) rfl (sub_cons (d := 108) rfl (sub_nil _))))))))))))))))) (.refl _) ?_
                          refine hl_nil ?_
                          refine hq_then ?_
                          refine hc_true rfl ?_
                          refine hc_exit ?_
                          refine hq_then_exit ?_
                          refine hq_block_exit ?_
                          refine hq_then ?_
                          refine hc_region ?_
                          refine hl_v rfl rfl rfl (rv_ev rfl) ?_
                          refine hl_v rfl rfl rfl (rv_add rfl rfl rfl (by constructor <;> omega)) ?_
                          refine hl_v rfl rfl rfl (rv_ev rfl) ?_
                          refine hl_less (sub_cons (d := 0) rfl (sub_cons (d := 1) rfl (sub_cons (d := 2) rfl (sub_cons (d := 4) rfl (sub_cons (d := 5) rfl (sub_cons (d := 6) rfl (sub_cons (d := 7) rfl (sub_cons (d := 8) rfl (sub_cons (d := 9) rfl (sub_cons (d := 10) rfl (sub_cons (d := 11) rfl (sub_cons (d := 18) rfl (sub_cons (d := 33) rfl (sub_cons (d := 61) rfl (sub_cons (d := 67) rfl (sub_cons (d := 108) rfl (sub_nil _))))))))))))))))) (.refl _) ?_
                          refine hl_nil ?_
                          exact hq_round3 (k + 1) _ _ ⟨by omega, by rw [sR_succ]; rw [if_pos (by unfold Skip; omega)]; exact hz, by omega⟩ (by omega) (sub_cons (d := 0) rfl (sub_cons (d := 1) rfl (sub_cons (d := 2) rfl (sub_cons (d := 4) rfl (sub_cons (d := 5) rfl (sub_cons (d := 6) rfl (sub_cons (d := 7) rfl (sub_cons (d := 8) rfl (sub_cons (d := 9) rfl (sub_cons (d := 10) rfl (sub_cons (d := 11) rfl (sub_cons (d := 18) rfl (sub_cons (d := 33) rfl (sub_cons (d := 61) rfl (sub_nil _))))))))))))))) ((.cons_cons _ (.cons_cons _ .slnil)))
                        ·
                          refine hl_v rfl rfl rfl (rv_ev rfl) ?_
                          refine hl_v rfl rfl rfl (rv_ev rfl) ?_
                          refine hl_less (sub_cons (d := 0) rfl (sub_cons (d := 1) rfl (sub_cons (d := 2) rfl (sub_cons (d := 4) rfl (sub_cons (d := 5) rfl (sub_cons (d := 6) rfl (sub_cons (d := 7) rfl (sub_cons (d := 8) rfl (sub_cons (d := 9) rfl (sub_cons (d := 10) rfl (sub_cons (d := 11) rfl (sub_cons (d := 18) rfl (sub_cons (d := 33) rfl (sub_cons (d := 61) rfl (sub_cons (d := 67) rfl (sub_cons (d := 108) rfl (sub_nil _))))))))))))))))) (.refl _) ?_
                          refine hl_nil ?_
                          refine hq_then ?_
                          refine hc_false rfl ?_
                          refine hc_skip ?_
                          exact hq_meet1 () (by unfold Skip; omega) (sub_cons (d := 0) rfl (sub_cons (d := 1) rfl (sub_cons (d := 2) rfl (sub_cons (d := 4) rfl (sub_cons (d := 5) rfl (sub_cons (d := 6) rfl (sub_cons (d := 7) rfl (sub_cons (d := 8) rfl (sub_cons (d := 9) rfl (sub_cons (d := 10) rfl (sub_cons (d := 11) rfl (sub_cons (d := 18) rfl (sub_cons (d := 33) rfl (sub_cons (d := 61) rfl (sub_cons (d := 67) rfl (sub_nil _)))))))))))))))) ((.cons_cons _ (.cons_cons _ .slnil)))
                      ·
                        refine hl_v rfl rfl rfl (rv_ev rfl) ?_
                        refine hl_v rfl rfl rfl (rv_ev rfl) ?_
                        refine hl_skip rfl rfl rfl ?_
                        refine hl_skip rfl rfl rfl ?_
                        refine hl_skip rfl rfl rfl ?_
                        refine hl_skip rfl rfl rfl ?_
                        refine hl_skip rfl rfl rfl ?_
                        refine hl_v rfl rfl rfl (rv_ev rfl) ?_
                        refine hl_v rfl rfl rfl (rv_ev rfl) ?_
                        refine hl_less (sub_cons (d := 0) rfl (sub_cons (d := 1) rfl (sub_cons (d := 2) rfl (sub_cons (d := 4) rfl (sub_cons (d := 5) rfl (sub_cons (d := 6) rfl (sub_cons (d := 7) rfl (sub_cons (d := 8) rfl (sub_cons (d := 9) rfl (sub_cons (d := 10) rfl (sub_cons (d := 11) rfl (sub_cons (d := 18) rfl (sub_cons (d := 33) rfl (sub_cons (d := 61) rfl (sub_cons (d := 67) rfl (sub_cons (d := 108) rfl (sub_nil _))))))))))))))))) (.refl _) ?_
                        refine hl_nil ?_
                        refine hq_then ?_
                        refine hc_false rfl ?_
                        refine hc_skip ?_
                        exact hq_meet1 () (by unfold Skip; omega) (sub_cons (d := 0) rfl (sub_cons (d := 1) rfl (sub_cons (d := 2) rfl (sub_cons (d := 4) rfl (sub_cons (d := 5) rfl (sub_cons (d := 6) rfl (sub_cons (d := 7) rfl (sub_cons (d := 8) rfl (sub_cons (d := 9) rfl (sub_cons (d := 10) rfl (sub_cons (d := 11) rfl (sub_cons (d := 18) rfl (sub_cons (d := 33) rfl (sub_cons (d := 61) rfl (sub_cons (d := 67) rfl (sub_nil _)))))))))))))))) ((.cons_cons _ (.cons_cons _ .slnil)))
                    ·
                      refine hl_v rfl rfl rfl (rv_ev rfl) ?_
                      refine hl_skip rfl rfl rfl ?_
                      refine hl_skip rfl rfl rfl ?_
                      refine hl_skip rfl rfl rfl ?_
                      refine hl_v rfl rfl rfl (rv_ev rfl) ?_
                      refine hl_v rfl rfl rfl (rv_ev rfl) ?_
                      refine hl_skip rfl rfl rfl ?_
                      refine hl_skip rfl rfl rfl ?_
                      refine hl_skip rfl rfl rfl ?_
                      refine hl_skip rfl rfl rfl ?_
                      refine hl_skip rfl rfl rfl ?_
                      refine hl_v rfl rfl rfl (rv_ev rfl) ?_
                      refine hl_v rfl rfl rfl (rv_ev rfl) ?_
                      refine hl_less (sub_cons (d := 0) rfl (sub_cons (d := 1) rfl (sub_cons (d := 2) rfl (sub_cons (d := 4) rfl (sub_cons (d := 5) rfl (sub_cons (d := 6) rfl (sub_cons (d := 7) rfl (sub_cons (d := 8) rfl (sub_cons (d := 9) rfl (sub_cons (d := 10) rfl (sub_cons (d := 11) rfl (sub_cons (d := 18) rfl (sub_cons (d := 33) rfl (sub_cons (d := 61) rfl (sub_cons (d := 67) rfl (sub_cons (d := 108) rfl (sub_nil _))))))))))))))))) (.refl _) ?_
                      refine hl_nil ?_
                      refine hq_then ?_
                      refine hc_false rfl ?_
                      refine hc_skip ?_
                      exact hq_meet1 () (by unfold Skip; omega) (sub_cons (d := 0) rfl (sub_cons (d := 1) rfl (sub_cons (d := 2) rfl (sub_cons (d := 4) rfl (sub_cons (d := 5) rfl (sub_cons (d := 6) rfl (sub_cons (d := 7) rfl (sub_cons (d := 8) rfl (sub_cons (d := 9) rfl (sub_cons (d := 10) rfl (sub_cons (d := 11) rfl (sub_cons (d := 18) rfl (sub_cons (d := 33) rfl (sub_cons (d := 61) rfl (sub_cons (d := 67) rfl (sub_nil _)))))))))))))))) ((.cons_cons _ (.cons_cons _ .slnil)))
              ·
                refine hl_v rfl rfl rfl (rv_ev rfl) ?_
                refine hl_skip rfl rfl rfl ?_
                refine hl_skip rfl rfl rfl ?_
                refine hl_skip rfl rfl rfl ?_
                refine hl_skip rfl rfl rfl ?_
                refine hl_skip rfl rfl rfl ?_
                refine hl_skip rfl rfl rfl ?_
                refine hl_skip rfl rfl rfl ?_
                refine hl_skip rfl rfl rfl ?_
                refine hl_skip rfl rfl rfl ?_
                refine hl_skip rfl rfl rfl ?_
                refine hl_skip rfl rfl rfl ?_
                refine hl_skip rfl rfl rfl ?_
                refine hl_skip rfl rfl rfl ?_
                refine hl_skip rfl rfl rfl ?_
                refine hl_skip rfl rfl rfl ?_
                refine hl_skip rfl rfl rfl ?_
                refine hl_skip rfl rfl rfl ?_
                refine hl_skip rfl rfl rfl ?_
                refine hl_skip rfl rfl rfl ?_
                refine hl_v rfl rfl rfl (rv_ev rfl) ?_
                refine hl_v rfl rfl rfl (rv_ev rfl) ?_
                refine hl_v rfl rfl rfl (rv_ev rfl) ?_
                refine hl_lss rfl rfl rfl rfl rfl rfl (fun h27 => ?_) (fun h27 => ?_)
                ·
                  refine hl_v rfl rfl rfl (rv_ev rfl) ?_
                  refine hl_v rfl rfl rfl (rv_field (k0 := 2) rfl (by kernel_rfl) rfl) ?_
                  refine hl_v rfl rfl rfl (rv_load rfl (by kernel_rfl) rfl (box_cell 1 rfl rfl)) ?_
                  refine hl_gtr rfl rfl rfl rfl rfl rfl (fun h28 => ?_) (fun h28 => ?_)
                  ·
                    refine hl_v rfl rfl rfl (rv_ev rfl) ?_
                    refine hl_v rfl rfl rfl (rv_ev rfl) ?_
                    refine hl_v rfl rfl rfl (rv_ev rfl) ?_
                    refine hl_v rfl rfl rfl (rv_ev rfl) ?_
                    refine hl_v rfl rfl rfl (rv_add rfl rfl rfl (by constructor <;> omega)) ?_
                    refine hl_v rfl rfl rfl (rv_rem rfl rfl rfl (by constructor <;> omega)) ?_
                    refine hl_eql rfl rfl rfl rfl rfl rfl (fun h29 => ?_) (fun h29 => ?_)
                    ·
                      refine hl_v rfl rfl rfl (rv_ev rfl) ?_
                      refine hl_v rfl rfl rfl (rv_ev rfl) ?_
                      refine hl_less (sub_cons (d := 0) rfl (sub_cons (d := 1) rfl (sub_cons (d := 2) rfl (sub_cons (d := 4) rfl (sub_cons (d := 5) rfl (sub_cons (d := 6) rfl (sub_cons (d := 7) rfl (sub_cons (d := 8) rfl (sub_cons (d := 9) rfl (sub_cons (d := 10) rfl (sub_cons (d := 11) rfl (sub_cons (d := 18) rfl (sub_cons (d := 33) rfl (sub_cons (d := 61) rfl (sub_cons (d := 67) rfl (sub_cons (d := 108) rfl (sub_nil _))))))))))))))))) (.refl _) ?_
                      refine hl_nil ?_
                      refine hq_then ?_
                      refine hc_true rfl ?_
                      refine hc_exit ?_
                      refine hq_then_exit ?_
                      refine hq_block_exit ?_
                      refine hq_then ?_
                      refine hc_region ?_
                      refine hl_v rfl rfl rfl (rv_ev rfl) ?_
                      refine hl_v rfl rfl rfl (rv_add rfl rfl rfl (by constructor <;> omega)) ?_
                      refine hl_v rfl rfl rfl (rv_ev rfl) ?_
                      refine hl_less (sub_cons (d := 0) rfl (sub_cons (d := 1) rfl (sub_cons (d := 2) rfl (sub_cons (d := 4) rfl (sub_cons (d := 5) rfl (sub_cons (d := 6) rfl (sub_cons (d := 7) rfl (sub_cons (d := 8) rfl (sub_cons (d := 9) rfl (sub_cons (d := 10) rfl (sub_cons (d := 11) rfl (sub_cons (d := 18) rfl (sub_cons (d := 33) rfl (sub_cons (d := 61) rfl (sub_cons (d := 67) rfl (sub_cons (d := 108) rfl (sub_nil _))))))))))))))))) (.refl _) ?_
                      refine hl_nil ?_
                      exact hq_round3 (k + 1) _ _ ⟨by omega, by rw [sR_succ]; rw [if_pos (by unfold Skip; omega)]; exact hz, by omega⟩ (by omega) (sub_cons (d := 0) rfl (sub_cons (d := 1) rfl (sub_cons (d := 2) rfl (sub_cons (d := 4) rfl (sub_cons (d := 5) rfl (sub_cons (d := 6) rfl (sub_cons (d := 7) rfl (sub_cons (d := 8) rfl (sub_cons (d := 9) rfl (sub_cons (d := 10) rfl (sub_cons (d := 11) rfl (sub_cons (d := 18) rfl (sub_cons (d := 33) rfl (sub_cons (d := 61) rfl (sub_nil _))))))))))))))) ((.cons_cons _ (.cons_cons _ .slnil)))
                    ·
                      refine hl_v rfl rfl rfl (rv_ev rfl) ?_
                      refine hl_v rfl rfl rfl (rv_ev rfl) ?_
                      refine hl_less (sub_cons (d := 0) rfl (sub_cons (d := 1) rfl (sub_cons (d := 2) rfl (sub_cons (d := 4) rfl (sub_cons (d := 5) rfl (sub_cons (d := 6) rfl (sub_cons (d := 7) rfl (sub_cons (d := 8) rfl (sub_cons (d := 9) rfl (sub_cons (d := 10) rfl (sub_cons (d := 11) rfl (sub_cons (d := 18) rfl (sub_cons (d := 33) rfl (sub_cons (d := 61) rfl (sub_cons (d := 67) rfl (sub_cons (d := 108) rfl (sub_nil _))))))))))))))))) (.refl _) ?_
                      refine hl_nil ?_
                      refine hq_then ?_
                      refine hc_false rfl ?_
                      refine hc_skip ?_
                      exact hq_meet1 () (by unfold Skip; omega) (sub_cons (d := 0) rfl (sub_cons (d := 1) rfl (sub_cons (d := 2) rfl (sub_cons (d := 4) rfl (sub_cons (d := 5) rfl (sub_cons (d := 6) rfl (sub_cons (d := 7) rfl (sub_cons (d := 8) rfl (sub_cons (d := 9) rfl (sub_cons (d := 10) rfl (sub_cons (d := 11) rfl (sub_cons (d := 18) rfl (sub_cons (d := 33) rfl (sub_cons (d := 61) rfl (sub_cons (d := 67) rfl (sub_nil _)))))))))))))))) ((.cons_cons _ (.cons_cons _ .slnil)))
                  ·
                    refine hl_v rfl rfl rfl (rv_ev rfl) ?_
                    refine hl_v rfl rfl rfl (rv_ev rfl) ?_
                    refine hl_skip rfl rfl rfl ?_
                    refine hl_skip rfl rfl rfl ?_
                    refine hl_skip rfl rfl rfl ?_
                    refine hl_skip rfl rfl rfl ?_
                    refine hl_skip rfl rfl rfl ?_
                    refine hl_v rfl rfl rfl (rv_ev rfl) ?_
                    refine hl_v rfl rfl rfl (rv_ev rfl) ?_
                    refine hl_less (sub_cons (d := 0) rfl (sub_cons (d := 1) rfl (sub_cons (d := 2) rfl (sub_cons (d := 4) rfl (sub_cons (d := 5) rfl (sub_cons (d := 6) rfl (sub_cons (d := 7) rfl (sub_cons (d := 8) rfl (sub_cons (d := 9) rfl (sub_cons (d := 10) rfl (sub_cons (d := 11) rfl (sub_cons (d := 18) rfl (sub_cons (d := 33) rfl (sub_cons (d := 61) rfl (sub_cons (d := 67) rfl (sub_cons (d := 108) rfl (sub_nil _))))))))))))))))) (.refl _) ?_
                    refine hl_nil ?_
                    refine hq_then ?_
                    refine hc_false rfl ?_
                    refine hc_skip ?_
                    exact hq_meet1 () (by unfold Skip; omega) (sub_cons (d := 0) rfl (sub_cons (d := 1) rfl (sub_cons (d := 2) rfl (sub_cons (d := 4) rfl (sub_cons (d := 5) rfl (sub_cons (d := 6) rfl (sub_cons (d := 7) rfl (sub_cons (d := 8) rfl (sub_cons (d := 9) rfl (sub_cons (d := 10) rfl (sub_cons (d := 11) rfl (sub_cons (d := 18) rfl (sub_cons (d := 33) rfl (sub_cons (d := 61) rfl (sub_cons (d := 67) rfl (sub_nil _)))))))))))))))) ((.cons_cons _ (.cons_cons _ .slnil)))
                ·
                  refine hl_v rfl rfl rfl (rv_ev rfl) ?_
                  refine hl_skip rfl rfl rfl ?_
                  refine hl_skip rfl rfl rfl ?_
                  refine hl_skip rfl rfl rfl ?_
                  refine hl_v rfl rfl rfl (rv_ev rfl) ?_
                  refine hl_v rfl rfl rfl (rv_ev rfl) ?_
                  refine hl_skip rfl rfl rfl ?_
                  refine hl_skip rfl rfl rfl ?_
                  refine hl_skip rfl rfl rfl ?_
                  refine hl_skip rfl rfl rfl ?_
                  refine hl_skip rfl rfl rfl ?_
                  refine hl_v rfl rfl rfl (rv_ev rfl) ?_
                  refine hl_v rfl rfl rfl (rv_ev rfl) ?_
                  refine hl_less (sub_cons (d := 0) rfl (sub_cons (d := 1) rfl (sub_cons (d := 2) rfl (sub_cons (d := 4) rfl (sub_cons (d := 5) rfl (sub_cons (d := 6) rfl (sub_cons (d := 7) rfl (sub_cons (d := 8) rfl (sub_cons (d := 9) rfl (sub_cons (d := 10) rfl (sub_cons (d := 11) rfl (sub_cons (d := 18) rfl (sub_cons (d := 33) rfl (sub_cons (d := 61) rfl (sub_cons (d := 67) rfl (sub_cons (d := 108) rfl (sub_nil _))))))))))))))))) (.refl _) ?_
                  refine hl_nil ?_
                  refine hq_then ?_
                  refine hc_false rfl ?_
                  refine hc_skip ?_
                  exact hq_meet1 () (by unfold Skip; omega) (sub_cons (d := 0) rfl (sub_cons (d := 1) rfl (sub_cons (d := 2) rfl (sub_cons (d := 4) rfl (sub_cons (d := 5) rfl (sub_cons (d := 6) rfl (sub_cons (d := 7) rfl (sub_cons (d := 8) rfl (sub_cons (d := 9) rfl (sub_cons (d := 10) rfl (sub_cons (d := 11) rfl (sub_cons (d := 18) rfl (sub_cons (d := 33) rfl (sub_cons (d := 61) rfl (sub_cons (d := 67) rfl (sub_nil _)))))))))))))))) ((.cons_cons _ (.cons_cons _ .slnil)))
            intro u0 hm30
            have hskip := hm30
            refine hc_seq ?_
            refine hc_region ?_
            refine hl_v rfl rfl rfl (rv_ev rfl) ?_
            refine hl_less (sub_cons (d := 0) rfl (sub_cons (d := 1) rfl (sub_cons (d := 2) rfl (sub_cons (d := 4) rfl (sub_cons (d := 5) rfl (sub_cons (d := 6) rfl (sub_cons (d := 7) rfl (sub_cons (d := 8) rfl (sub_cons (d := 9) rfl (sub_cons (d := 10) rfl (sub_cons (d := 11) rfl (sub_cons (d := 12) rfl (sub_cons (d := 18) rfl (sub_cons (d := 33) rfl (sub_cons (d := 61) rfl (sub_cons (d := 67) rfl (sub_nil _))))))))))))))))) (.refl _) ?_
            refine hl_nil ?_
            refine hq_then ?_
            refine hc_block ?_
            refine hc_loop3 (α := Nat) (β := Value) (γ := List Int) (fun j b cs => [rowE 3 1 b cs.length (cs.map (Value.int .i64)), boxE b1 #[.int .i64 d.W, .int .i64 d.H, .int .i64 d.T, .int .i64 d.R] 25]) (fun j b cs => [(0, .agg #[.int .i64 d.W, .int .i64 d.H, .int .i64 d.T, .int .i64 d.R]), (1, .int .i64 n), (2, .pointer (some ⟨b1, 0, none⟩)), (4, .slice none 0 0), (5, b), (6, .int .i64 (n / (perI d))), (7, .int .i64 (n % (perI d))), (8, .int .i64 dir), (9, .int .i64 track), (10, .int .i64 (r : Int)), (11, .int .i64 (k : Int)), (12, .int .i64 ((j : Int) + 1)), (18, .bool false), (33, .bool false), (61, .bool true), (67, .bool true)]) (fun j b cs => j ≤ 1 + k % 2 ∧ cs = sK d (n / perI d) (n % perI d) r k zs j ∧ cs.length ≤ zs.length + j) (fun j b cs => 3 - j) 0 _ zs ⟨by omega, rfl, by simp⟩ (sub_cons (d := 0) rfl (sub_cons (d := 1) rfl (sub_cons (d := 2) rfl (sub_cons (d := 4) rfl (sub_cons (d := 5) rfl (sub_cons (d := 6) rfl (sub_cons (d := 7) rfl (sub_cons (d := 8) rfl (sub_cons (d := 9) rfl (sub_cons (d := 10) rfl (sub_cons (d := 11) rfl (sub_cons (d := 12) rfl (sub_cons (d := 18) rfl (sub_cons (d := 33) rfl (sub_cons (d := 61) rfl (sub_cons (d := 67) rfl (sub_nil _))))))))))))))))) ((.cons_cons _ (.cons_cons _ .slnil))) ?_
            intro j b cs hi31
            obtain ⟨hj, ha, hal⟩ := hi31
            refine hc_seq ?_
            refine hc_seq ?_
            refine hc_region ?_
            refine hl_v rfl rfl rfl (rv_ev rfl) ?_
            refine hl_v rfl rfl rfl (rv_ev rfl) ?_
            refine hl_v rfl rfl rfl (rv_rem rfl rfl rfl (by constructor <;> omega)) ?_
            refine hl_v rfl rfl rfl (rv_add rfl rfl rfl (by constructor <;> omega)) ?_
            refine hl_leq rfl rfl rfl rfl rfl rfl (fun h32 => ?_) (fun h32 => ?_)
            ·
              refine hl_less (sub_cons (d := 0) rfl (sub_cons (d := 1) rfl (sub_cons (d := 2) rfl (sub_cons (d := 4) rfl (sub_cons (d := 5) rfl (sub_cons (d := 6) rfl (sub_cons (d := 7) rfl (sub_cons (d := 8) rfl (sub_cons (d := 9) rfl (sub_cons (d := 10) rfl (sub_cons (d := 11) rfl (sub_cons (d := 12) rfl (sub_cons (d := 18) rfl (sub_cons (d := 33) rfl (sub_cons (d := 61) rfl (sub_cons (d := 67) rfl (sub_cons (d := 113) rfl (sub_nil _)))))))))))))))))) (.refl _) ?_
              refine hl_nil ?_
              refine hq_then ?_
              refine hc_true rfl ?_
              refine hc_skip ?_
              refine hq_then ?_
              refine hc_seq ?_
              refine hc_block ?_
              refine hc_seq ?_
              refine hc_seq ?_
              refine hc_region ?_
              refine hl_v rfl rfl rfl (rv_ev rfl) ?_
              refine hl_geq rfl rfl rfl rfl rfl rfl (fun h33 => ?_) (fun h33 => ?_)
              ·
                refine hl_v rfl rfl rfl (rv_ev rfl) ?_
                refine hl_v rfl rfl rfl (rv_ev rfl) ?_
                refine hl_v rfl rfl rfl (rv_ev rfl) ?_
                refine hl_v rfl rfl rfl (rv_rem rfl rfl rfl (by constructor <;> omega)) ?_
                refine hl_v rfl rfl rfl (rv_add rfl rfl rfl (by constructor <;> omega)) ?_
                refine hl_lss rfl rfl rfl rfl rfl rfl (fun h34 => ?_) (fun h34 => ?_)
                ·
                  refine hl_v rfl rfl rfl (rv_ev rfl) ?_
                  refine hl_less (sub_cons (d := 0) rfl (sub_cons (d := 1) rfl (sub_cons (d := 2) rfl (sub_cons (d := 4) rfl (sub_cons (d := 5) rfl (sub_cons (d := 6) rfl (sub_cons (d := 7) rfl (sub_cons (d := 8) rfl (sub_cons (d := 9) rfl (sub_cons (d := 10) rfl (sub_cons (d := 11) rfl (sub_cons (d := 12) rfl (sub_cons (d := 18) rfl (sub_cons (d := 33) rfl (sub_cons (d := 61) rfl (sub_cons (d := 67) rfl (sub_cons (d := 113) rfl (sub_cons (d := 124) rfl (sub_nil _))))))))))))))))))) (.refl _) ?_
                  refine hl_nil ?_
                  refine hq_then ?_
                  refine hc_true rfl ?_
                  refine hc_exit ?_
                  refine hq_then_exit ?_
                  refine hq_block_exit ?_
                  refine hq_then ?_
                  refine hc_region ?_
                  refine hl_v rfl rfl rfl (rv_ev rfl) ?_
                  refine hl_v rfl rfl rfl (rv_add rfl rfl rfl (by constructor <;> omega)) ?_
                  refine hl_v rfl rfl rfl (rv_ev rfl) ?_
                  refine hl_less (sub_cons (d := 0) rfl (sub_cons (d := 1) rfl (sub_cons (d := 2) rfl (sub_cons (d := 4) rfl (sub_cons (d := 5) rfl (sub_cons (d := 6) rfl (sub_cons (d := 7) rfl (sub_cons (d := 8) rfl (sub_cons (d := 9) rfl (sub_cons (d := 10) rfl (sub_cons (d := 11) rfl (sub_cons (d := 12) rfl (sub_cons (d := 18) rfl (sub_cons (d := 33) rfl (sub_cons (d := 61) rfl (sub_cons (d := 67) rfl (sub_cons (d := 113) rfl (sub_cons (d := 124) rfl (sub_nil _))))))))))))))))))) (.refl _) ?_
                  refine hl_nil ?_
                  exact hq_round3 (j + 1) _ _ ⟨by omega, by rw [sK_succ, ← ha]; unfold sS; first | rw [if_pos (by omega)] | rw [if_neg (by omega), if_pos (by assumption)] | rw [if_neg (by omega), if_neg (by omega)], by first | omega | (simp; omega)⟩ (by omega) (sub_cons (d := 0) rfl (sub_cons (d := 1) rfl (sub_cons (d := 2) rfl (sub_cons (d := 4) rfl (sub_cons (d := 5) rfl (sub_cons (d := 6) rfl (sub_cons (d := 7) rfl (sub_cons (d := 8) rfl (sub_cons (d := 9) rfl (sub_cons (d := 10) rfl (sub_cons (d := 11) rfl (sub_cons (d := 12) rfl (sub_cons (d := 18) rfl (sub_cons (d := 33) rfl (sub_cons (d := 61) rfl (sub_cons (d := 67) rfl (sub_nil _))))))))))))))))) ((.cons_cons _ (.cons_cons _ .slnil)))
                ·
                  refine hl_v rfl rfl rfl (rv_ev rfl) ?_
                  refine hl_less (sub_cons (d := 0) rfl (sub_cons (d := 1) rfl (sub_cons (d := 2) rfl (sub_cons (d := 4) rfl (sub_cons (d := 5) rfl (sub_cons (d := 6) rfl (sub_cons (d := 7) rfl (sub_cons (d := 8) rfl (sub_cons (d := 9) rfl (sub_cons (d := 10) rfl (sub_cons (d := 11) rfl (sub_cons (d := 12) rfl (sub_cons (d := 18) rfl (sub_cons (d := 33) rfl (sub_cons (d := 61) rfl (sub_cons (d := 67) rfl (sub_cons (d := 113) rfl (sub_cons (d := 124) rfl (sub_nil _))))))))))))))))))) (.refl _) ?_
                  refine hl_nil ?_
                  refine hq_then ?_
                  refine hc_false rfl ?_
                  refine hc_skip ?_
                  refine hq_then ?_
                  refine hc_seq ?_
                  refine hc_draw (by kernel_rfl) 11 [0, 1, 2, 3, 4, 5, 6, 7, 8, 9, 10] (List.take 11 _) (List.drop 11 _) [[], [], [], [], [3], [4], [], [1, 2, 5, 6], [], [], [0, 7, 8, 9]] [125, 126, 127, 128, 129, 130, 131, 132, 133, 134, 135] (fun i v p => match i with | 0 => v = .agg #[.int .i64 d.W, .int .i64 d.H, .int .i64 d.T, .int .i64 d.R] ∧ p = [] | 1 => v = .agg #[.int .i64 d.W, .int .i64 d.H, .int .i64 d.T, .int .i64 d.R] ∧ p = [] | 2 => v = .int .i64 (n / (perI d)) ∧ p = [] | 3 => v = .int .i64 (r : Int) ∧ p = [] | 4 => v = .int .i64 ((r : Int) + 2) ∧ p = [] | 5 => v = .int .i64 (((r : Int) + 2) % 4) ∧ p = [] | 6 => v = .int .i64 ((j : Int) + 1) ∧ p = [] | 7 => v = .int .i64 (tileStepI d (n / (perI d)) (((r : Int) + 2) % 4) ((j : Int) + 1)) ∧ p = [] | 8 => v = .int .i64 (r : Int) ∧ p = [] | 9 => v = .int .i64 (k : Int) ∧ p = [] | 10 => v = .int .i64 (wireNodeS d (tileStepI d (n / (perI d)) (((r : Int) + 2) % 4) ((j : Int) + 1)) (r : Int) (k : Int)) ∧ p = [] | _ => True) (List.take_append_drop 11 _).symm (by kernel_rfl) (by kernel_rfl) rfl rfl ?_ ?_
                  ·
                    refine ⟨?_, ?_, ?_, ?_, ?_, ?_, ?_, ?_, ?_, ?_, ?_, trivial⟩
                    ·
                      intro vf pf hR
                      refine Or.inl ⟨rfl, ?_⟩
                      refine rq_less (l' := [rowE 3 1 b cs.length (cs.map (Value.int .i64)), boxE b1 #[.int .i64 d.W, .int .i64 d.H, .int .i64 d.T, .int .i64 d.R] 25]) (sub_cons (d := 2) rfl (sub_nil _)) (List.sublist_append_right _ _) ?_
                      exact rq_v (rv_loadN (cs := [.int .i64 d.W, .int .i64 d.H, .int .i64 d.T, .int .i64 d.R]) rfl (by kernel_rfl) (by kernel_rfl) rfl rfl (box_part 1 rfl 0 rfl))
                    ·
                      intro vf pf hR
                      refine Or.inl ⟨rfl, ?_⟩
                      refine rq_less (l' := [rowE 3 1 b cs.length (cs.map (Value.int .i64)), boxE b1 #[.int .i64 d.W, .int .i64 d.H, .int .i64 d.T, .int .i64 d.R] 25]) (sub_cons (d := 2) rfl (sub_nil _)) (List.sublist_append_right _ _) ?_
                      exact rq_v (rv_loadN (cs := [.int .i64 d.W, .int .i64 d.H, .int .i64 d.T, .int .i64 d.R]) rfl (by kernel_rfl) (by kernel_rfl) rfl rfl (box_part 1 rfl 0 rfl))
                    ·
                      intro vf pf hR
                      refine Or.inl ⟨rfl, ?_⟩
                      refine rq_less (l' := [rowE 3 1 b cs.length (cs.map (Value.int .i64)), boxE b1 #[.int .i64 d.W, .int .i64 d.H, .int .i64 d.T, .int .i64 d.R] 25]) (sub_cons (d := 6) rfl (sub_nil _)) (List.sublist_append_right _ _) ?_
                      exact rq_v (rv_ev rfl)
                    ·
                      intro vf pf hR
                      refine Or.inl ⟨rfl, ?_⟩
                      refine rq_less (l' := [rowE 3 1 b cs.length (cs.map (Value.int .i64)), boxE b1 #[.int .i64 d.W, .int .i64 d.H, .int .i64 d.T, .int .i64 d.R] 25]) (sub_cons (d := 10) rfl (sub_nil _)) (List.sublist_append_right _ _) ?_
                      exact rq_v (rv_ev rfl)
                    ·
                      intro vf pf hR
                      have e3 : vf 3 = .int .i64 (r : Int) ∧ pf 3 = [] := hR 3 (by decide)
                      refine Or.inl ⟨rfl, ?_⟩
                      refine rq_less (l' := [rowE 3 1 b cs.length (cs.map (Value.int .i64)), boxE b1 #[.int .i64 d.W, .int .i64 d.H, .int .i64 d.T, .int .i64 d.R] 25]) (sub_cons (d := 128) (congrArg some e3.1) (sub_nil _)) (List.sublist_append_right _ _) ?_
                      exact rq_v (rv_add rfl rfl rfl (by constructor <;> omega))
                    ·
                      intro vf pf hR
                      have e4 : vf 4 = .int .i64 ((r : Int) + 2) ∧ pf 4 = [] := hR 4 (by decide)
                      refine Or.inl ⟨rfl, ?_⟩
                      refine rq_less (l' := [rowE 3 1 b cs.length (cs.map (Value.int .i64)), boxE b1 #[.int .i64 d.W, .int .i64 d.H, .int .i64 d.T, .int .i64 d.R] 25]) (sub_cons (d := 129) (congrArg some e4.1) (sub_nil _)) (List.sublist_append_right _ _) ?_
                      exact rq_v (rv_rem rfl rfl rfl (by constructor <;> omega))
                    ·
                      intro vf pf hR
                      refine Or.inl ⟨rfl, ?_⟩
                      refine rq_less (l' := [rowE 3 1 b cs.length (cs.map (Value.int .i64)), boxE b1 #[.int .i64 d.W, .int .i64 d.H, .int .i64 d.T, .int .i64 d.R] 25]) (sub_cons (d := 12) rfl (sub_nil _)) (List.sublist_append_right _ _) ?_
                      exact rq_v (rv_ev rfl)
                    ·
                      intro vf pf hR
                      have e1 : vf 1 = .agg #[.int .i64 d.W, .int .i64 d.H, .int .i64 d.T, .int .i64 d.R] ∧ pf 1 = [] := hR 1 (by decide)
                      have e2 : vf 2 = .int .i64 (n / (perI d)) ∧ pf 2 = [] := hR 2 (by decide)
                      have e5 : vf 5 = .int .i64 (((r : Int) + 2) % 4) ∧ pf 5 = [] := hR 5 (by decide)
                      have e6 : vf 6 = .int .i64 ((j : Int) + 1) ∧ pf 6 = [] := hR 6 (by decide)
                      refine Or.inl ⟨rfl, ?_⟩
                      refine rq_less (l' := [rowE 3 1 b cs.length (cs.map (Value.int .i64)), boxE b1 #[.int .i64 d.W, .int .i64 d.H, .int .i64 d.T, .int .i64 d.R] 25]) (sub_cons (d := 126) (congrArg some e1.1) (sub_cons (d := 127) (congrArg some e2.1) (sub_cons (d := 130) (congrArg some e5.1) (sub_cons (d := 131) (congrArg some e6.1) (sub_nil _))))) (List.sublist_append_right _ _) ?_
                      exact (rq_call (by kernel_rfl) rfl (fun w hm => ret_ans (specTileStep_any d _ _ _ w)))
                    ·
                      intro vf pf hR
                      refine Or.inl ⟨rfl, ?_⟩
                      refine rq_less (l' := [rowE 3 1 b cs.length (cs.map (Value.int .i64)), boxE b1 #[.int .i64 d.W, .int .i64 d.H, .int .i64 d.T, .int .i64 d.R] 25]) (sub_cons (d := 10) rfl (sub_nil _)) (List.sublist_append_right _ _) ?_
                      exact rq_v (rv_ev rfl)
                    ·
                      intro vf pf hR
                      refine Or.inl ⟨rfl, ?_⟩
                      refine rq_less (l' := [rowE 3 1 b cs.length (cs.map (Value.int .i64)), boxE b1 #[.int .i64 d.W, .int .i64 d.H, .int .i64 d.T, .int .i64 d.R] 25]) (sub_cons (d := 11) rfl (sub_nil _)) (List.sublist_append_right _ _) ?_
                      exact rq_v (rv_ev rfl)
                    ·
                      intro vf pf hR
                      have e0 : vf 0 = .agg #[.int .i64 d.W, .int .i64 d.H, .int .i64 d.T, .int .i64 d.R] ∧ pf 0 = [] := hR 0 (by decide)
                      have e7 : vf 7 = .int .i64 (tileStepI d (n / (perI d)) (((r : Int) + 2) % 4) ((j : Int) + 1)) ∧ pf 7 = [] := hR 7 (by decide)
                      have e8 : vf 8 = .int .i64 (r : Int) ∧ pf 8 = [] := hR 8 (by decide)
                      have e9 : vf 9 = .int .i64 (k : Int) ∧ pf 9 = [] := hR 9 (by decide)
                      refine Or.inl ⟨rfl, ?_⟩
                      refine rq_less (l' := [rowE 3 1 b cs.length (cs.map (Value.int .i64)), boxE b1 #[.int .i64 d.W, .int .i64 d.H, .int .i64 d.T, .int .i64 d.R] 25]) (sub_cons (d := 125) (congrArg some e0.1) (sub_cons (d := 132) (congrArg some e7.1) (sub_cons (d := 133) (congrArg some e8.1) (sub_cons (d := 134) (congrArg some e9.1) (sub_nil _))))) (List.sublist_append_right _ _) ?_
                      exact (rq_call (by kernel_rfl) rfl (fun w hm => ret_ans (specWireNode_ans d _ _ _ w (by omega) (by omega) (by omega) (by omega))))
                  ·
                    intro vf pf hR
                    have e10 : vf 10 = .int .i64 (wireNodeS d (tileStepI d (n / (perI d)) (((r : Int) + 2) % 4) ((j : Int) + 1)) (r : Int) (k : Int)) ∧ pf 10 = [] := hR 10 (by decide)
                    refine hl_less (l' := [rowE 3 1 b cs.length (cs.map (Value.int .i64)), boxE b1 #[.int .i64 d.W, .int .i64 d.H, .int .i64 d.T, .int .i64 d.R] 25]) (sub_cons (d := 0) rfl (sub_cons (d := 1) rfl (sub_cons (d := 2) rfl (sub_cons (d := 4) rfl (sub_cons (d := 5) rfl (sub_cons (d := 6) rfl (sub_cons (d := 7) rfl (sub_cons (d := 8) rfl (sub_cons (d := 9) rfl (sub_cons (d := 10) rfl (sub_cons (d := 11) rfl (sub_cons (d := 12) rfl (sub_cons (d := 18) rfl (sub_cons (d := 33) rfl (sub_cons (d := 61) rfl (sub_cons (d := 67) rfl (sub_cons (d := 113) rfl (sub_cons (d := 124) rfl (sub_cons (d := 135) (congrArg some e10.1) (sub_nil _)))))))))))))))))))) (List.sublist_append_right _ _) ?_
                    simp only [List.drop_succ_cons, List.drop_zero]
                    refine hl_v rfl rfl rfl (rv_ev rfl) ?_
                    refine hl_less (sub_cons (d := 0) rfl (sub_cons (d := 1) rfl (sub_cons (d := 2) rfl (sub_cons (d := 4) rfl (sub_cons (d := 5) rfl (sub_cons (d := 6) rfl (sub_cons (d := 7) rfl (sub_cons (d := 8) rfl (sub_cons (d := 9) rfl (sub_cons (d := 10) rfl (sub_cons (d := 11) rfl (sub_cons (d := 12) rfl (sub_cons (d := 13) rfl (sub_cons (d := 18) rfl (sub_cons (d := 33) rfl (sub_cons (d := 61) rfl (sub_cons (d := 67) rfl (sub_cons (d := 113) rfl (sub_cons (d := 124) rfl (sub_nil _)))))))))))))))))))) (.refl _) ?_
                    refine hl_nil ?_
                    refine hq_then ?_
                    refine hc_seq ?_
                    refine hc_region ?_
                    refine hl_v rfl rfl rfl (rv_ev rfl) ?_
                    refine hl_geq rfl rfl rfl rfl rfl rfl (fun h35 => ?_) (fun h35 => ?_)
                    ·
                      refine hl_less (sub_cons (d := 0) rfl (sub_cons (d := 1) rfl (sub_cons (d := 2) rfl (sub_cons (d := 4) rfl (sub_cons (d := 5) rfl (sub_cons (d := 6) rfl (sub_cons (d := 7) rfl (sub_cons (d := 8) rfl (sub_cons (d := 9) rfl (sub_cons (d := 10) rfl (sub_cons (d := 11) rfl (sub_cons (d := 12) rfl (sub_cons (d := 13) rfl (sub_cons (d := 18) rfl (sub_cons (d := 33) rfl (sub_cons (d := 61) rfl (sub_cons (d := 67) rfl (sub_cons (d := 113) rfl (sub_cons (d := 124) rfl (sub_cons (d := 137) rfl (sub_nil _))))))))))))))))))))) (.refl _) ?_
                      refine hl_nil ?_
                      refine hq_then ?_
                      refine hc_true rfl ?_
                      refine hc_region ?_
                      refine hl_v rfl rfl rfl (rv_ev rfl) ?_
                      refine hl_v rfl rfl rfl (rv_ev rfl) ?_
                      refine hl_row rfl rfl rfl (rq_buildSlice (z := .int .i64 0) (s := 1) (cs := ([wireNodeS d (tileStepI d (n / (perI d)) (((r : Int) + 2) % 4) ((j : Int) + 1)) (r : Int) (k : Int)].map (Value.int .i64))) rfl Try.underlying30 (by kernel_rfl) (by decide) rfl (by kernel_rfl) rfl) ?_
                      intro g36
                      refine hl_append (i := 1) (z := .int .i64 0) (bytes := 8) (n' := (cs ++ ([wireNodeS d (tileStepI d (n / (perI d)) (((r : Int) + 2) % 4) ((j : Int) + 1)) (r : Int) (k : Int)])).length) (xs' := ((cs ++ ([wireNodeS d (tileStepI d (n / (perI d)) (((r : Int) + 2) % 4) ((j : Int) + 1)) (r : Int) (k : Int)])).map (Value.int .i64))) (L := fun v37 => [rowE 3 1 (.slice (some ⟨g36, 0, none⟩) 1 1) 1 ([wireNodeS d (tileStepI d (n / (perI d)) (((r : Int) + 2) % 4) ((j : Int) + 1)) (r : Int) (k : Int)].map (Value.int .i64)), rowE 3 1 v37 ((cs ++ ([wireNodeS d (tileStepI d (n / (perI d)) (((r : Int) + 2) % 4) ((j : Int) + 1)) (r : Int) (k : Int)])).length) ((cs ++ ([wireNodeS d (tileStepI d (n / (perI d)) (((r : Int) + 2) % 4) ((j : Int) + 1)) (r : Int) (k : Int)])).map (Value.int .i64)), boxE b1 #[.int .i64 d.W, .int .i64 d.H, .int .i64 d.T, .int .i64 d.R] 25]) rfl rfl rfl rfl Try.underlying30 (by kernel_rfl) (by kernel_rfl) rfl rfl rfl (rd_row 0 rfl) (ints_one _) (by simp; omega) (len_app cs ([wireNodeS d (tileStepI d (n / (perI d)) (((r : Int) + 2) % 4) ((j : Int) + 1)) (r : Int) (k : Int)])) (ints_app cs ([wireNodeS d (tileStepI d (n / (perI d)) (((r : Int) + 2) % 4) ((j : Int) + 1)) (r : Int) (k : Int)])) (fun _ => rfl) ?_
                      intro v37
                      refine hl_v rfl rfl rfl (rv_ev rfl) ?_
                      refine hl_less (sub_cons (d := 0) rfl (sub_cons (d := 1) rfl (sub_cons (d := 2) rfl (sub_cons (d := 4) rfl (sub_cons (d := 5) rfl (sub_cons (d := 6) rfl (sub_cons (d := 7) rfl (sub_cons (d := 8) rfl (sub_cons (d := 9) rfl (sub_cons (d := 10) rfl (sub_cons (d := 11) rfl (sub_cons (d := 12) rfl (sub_cons (d := 13) rfl (sub_cons (d := 18) rfl (sub_cons (d := 33) rfl (sub_cons (d := 61) rfl (sub_cons (d := 67) rfl (sub_cons (d := 113) rfl (sub_cons (d := 124) rfl (sub_cons (d := 137) rfl (sub_nil _))))))))))))))))))))) (.refl _) ?_
                      refine hl_nil ?_
                      refine hq_block_normal ?_
                      refine hq_then ?_
                      refine hc_region ?_
                      refine hl_v rfl rfl rfl (rv_ev rfl) ?_
                      refine hl_v rfl rfl rfl (rv_add rfl rfl rfl (by constructor <;> omega)) ?_
                      refine hl_v rfl rfl rfl (rv_ev rfl) ?_
                      refine hl_less (sub_cons (d := 0) rfl (sub_cons (d := 1) rfl (sub_cons (d := 2) rfl (sub_cons (d := 4) rfl (sub_cons (d := 5) rfl (sub_cons (d := 6) rfl (sub_cons (d := 7) rfl (sub_cons (d := 8) rfl (sub_cons (d := 9) rfl (sub_cons (d := 10) rfl (sub_cons (d := 11) rfl (sub_cons (d := 12) rfl (sub_cons (d := 13) rfl (sub_cons (d := 18) rfl (sub_cons (d := 33) rfl (sub_cons (d := 61) rfl (sub_cons (d := 67) rfl (sub_cons (d := 113) rfl (sub_cons (d := 124) rfl (sub_cons (d := 137) rfl (sub_nil _))))))))))))))))))))) (.refl _) ?_
                      refine hl_nil ?_
                      exact hq_round3 (j + 1) _ _ ⟨by omega, by rw [sK_succ, ← ha]; unfold sS; first | rw [if_pos (by omega)] | rw [if_neg (by omega), if_pos (by assumption)] | rw [if_neg (by omega), if_neg (by omega)], by first | omega | (simp; omega)⟩ (by omega) (sub_cons (d := 0) rfl (sub_cons (d := 1) rfl (sub_cons (d := 2) rfl (sub_cons (d := 4) rfl (sub_cons (d := 5) rfl (sub_cons (d := 6) rfl (sub_cons (d := 7) rfl (sub_cons (d := 8) rfl (sub_cons (d := 9) rfl (sub_cons (d := 10) rfl (sub_cons (d := 11) rfl (sub_cons (d := 12) rfl (sub_cons (d := 18) rfl (sub_cons (d := 33) rfl (sub_cons (d := 61) rfl (sub_cons (d := 67) rfl (sub_nil _))))))))))))))))) ((.cons _ (.cons_cons _ (.cons_cons _ .slnil))))
                    ·
                      refine hl_less (sub_cons (d := 0) rfl (sub_cons (d := 1) rfl (sub_cons (d := 2) rfl (sub_cons (d := 4) rfl (sub_cons (d := 5) rfl (sub_cons (d := 6) rfl (sub_cons (d := 7) rfl (sub_cons (d := 8) rfl (sub_cons (d := 9) rfl (sub_cons (d := 10) rfl (sub_cons (d := 11) rfl (sub_cons (d := 12) rfl (sub_cons (d := 13) rfl (sub_cons (d := 18) rfl (sub_cons (d := 33) rfl (sub_cons (d := 61) rfl (sub_cons (d := 67) rfl (sub_cons (d := 113) rfl (sub_cons (d := 124) rfl (sub_cons (d := 137) rfl (sub_nil _))))))))))))))))))))) (.refl _) ?_
                      refine hl_nil ?_
                      refine hq_then ?_
                      refine hc_false rfl ?_
                      refine hc_skip ?_
                      refine hq_block_normal ?_
                      refine hq_then ?_
                      refine hc_region ?_
                      refine hl_v rfl rfl rfl (rv_ev rfl) ?_
                      refine hl_v rfl rfl rfl (rv_add rfl rfl rfl (by constructor <;> omega)) ?_
                      refine hl_v rfl rfl rfl (rv_ev rfl) ?_
                      refine hl_less (sub_cons (d := 0) rfl (sub_cons (d := 1) rfl (sub_cons (d := 2) rfl (sub_cons (d := 4) rfl (sub_cons (d := 5) rfl (sub_cons (d := 6) rfl (sub_cons (d := 7) rfl (sub_cons (d := 8) rfl (sub_cons (d := 9) rfl (sub_cons (d := 10) rfl (sub_cons (d := 11) rfl (sub_cons (d := 12) rfl (sub_cons (d := 13) rfl (sub_cons (d := 18) rfl (sub_cons (d := 33) rfl (sub_cons (d := 61) rfl (sub_cons (d := 67) rfl (sub_cons (d := 113) rfl (sub_cons (d := 124) rfl (sub_cons (d := 137) rfl (sub_nil _))))))))))))))))))))) (.refl _) ?_
                      refine hl_nil ?_
                      exact hq_round3 (j + 1) _ _ ⟨by omega, by rw [sK_succ, ← ha]; unfold sS; first | rw [if_pos (by omega)] | rw [if_neg (by omega), if_pos (by assumption)] | rw [if_neg (by omega), if_neg (by omega)], by first | omega | (simp; omega)⟩ (by omega) (sub_cons (d := 0) rfl (sub_cons (d := 1) rfl (sub_cons (d := 2) rfl (sub_cons (d := 4) rfl (sub_cons (d := 5) rfl (sub_cons (d := 6) rfl (sub_cons (d := 7) rfl (sub_cons (d := 8) rfl (sub_cons (d := 9) rfl (sub_cons (d := 10) rfl (sub_cons (d := 11) rfl (sub_cons (d := 12) rfl (sub_cons (d := 18) rfl (sub_cons (d := 33) rfl (sub_cons (d := 61) rfl (sub_cons (d := 67) rfl (sub_nil _))))))))))))))))) ((.cons_cons _ (.cons_cons _ .slnil)))
              ·
                refine hl_v rfl rfl rfl (rv_ev rfl) ?_
                refine hl_skip rfl rfl rfl ?_
                refine hl_skip rfl rfl rfl ?_
                refine hl_skip rfl rfl rfl ?_
                refine hl_skip rfl rfl rfl ?_
                refine hl_skip rfl rfl rfl ?_
                refine hl_v rfl rfl rfl (rv_ev rfl) ?_
                refine hl_less (sub_cons (d := 0) rfl (sub_cons (d := 1) rfl (sub_cons (d := 2) rfl (sub_cons (d := 4) rfl (sub_cons (d := 5) rfl (sub_cons (d := 6) rfl (sub_cons (d := 7) rfl (sub_cons (d := 8) rfl (sub_cons (d := 9) rfl (sub_cons (d := 10) rfl (sub_cons (d := 11) rfl (sub_cons (d := 12) rfl (sub_cons (d := 18) rfl (sub_cons (d := 33) rfl (sub_cons (d := 61) rfl (sub_cons (d := 67) rfl (sub_cons (d := 113) rfl (sub_cons (d := 124) rfl (sub_nil _))))))))))))))))))) (.refl _) ?_
                refine hl_nil ?_
                refine hq_then ?_
                refine hc_false rfl ?_
                refine hc_skip ?_
                refine hq_then ?_
                refine hc_seq ?_
                refine hc_draw (by kernel_rfl) 11 [0, 1, 2, 3, 4, 5, 6, 7, 8, 9, 10] (List.take 11 _) (List.drop 11 _) [[], [], [], [], [3], [4], [], [1, 2, 5, 6], [], [], [0, 7, 8, 9]] [125, 126, 127, 128, 129, 130, 131, 132, 133, 134, 135] (fun i v p => match i with | 0 => v = .agg #[.int .i64 d.W, .int .i64 d.H, .int .i64 d.T, .int .i64 d.R] ∧ p = [] | 1 => v = .agg #[.int .i64 d.W, .int .i64 d.H, .int .i64 d.T, .int .i64 d.R] ∧ p = [] | 2 => v = .int .i64 (n / (perI d)) ∧ p = [] | 3 => v = .int .i64 (r : Int) ∧ p = [] | 4 => v = .int .i64 ((r : Int) + 2) ∧ p = [] | 5 => v = .int .i64 (((r : Int) + 2) % 4) ∧ p = [] | 6 => v = .int .i64 ((j : Int) + 1) ∧ p = [] | 7 => v = .int .i64 (tileStepI d (n / (perI d)) (((r : Int) + 2) % 4) ((j : Int) + 1)) ∧ p = [] | 8 => v = .int .i64 (r : Int) ∧ p = [] | 9 => v = .int .i64 (k : Int) ∧ p = [] | 10 => v = .int .i64 (wireNodeS d (tileStepI d (n / (perI d)) (((r : Int) + 2) % 4) ((j : Int) + 1)) (r : Int) (k : Int)) ∧ p = [] | _ => True) (List.take_append_drop 11 _).symm (by kernel_rfl) (by kernel_rfl) rfl rfl ?_ ?_
                ·
                  refine ⟨?_, ?_, ?_, ?_, ?_, ?_, ?_, ?_, ?_, ?_, ?_, trivial⟩
                  ·
                    intro vf pf hR
                    refine Or.inl ⟨rfl, ?_⟩
                    refine rq_less (l' := [rowE 3 1 b cs.length (cs.map (Value.int .i64)), boxE b1 #[.int .i64 d.W, .int .i64 d.H, .int .i64 d.T, .int .i64 d.R] 25]) (sub_cons (d := 2) rfl (sub_nil _)) (List.sublist_append_right _ _) ?_
                    exact rq_v (rv_loadN (cs := [.int .i64 d.W, .int .i64 d.H, .int .i64 d.T, .int .i64 d.R]) rfl (by kernel_rfl) (by kernel_rfl) rfl rfl (box_part 1 rfl 0 rfl))
                  ·
                    intro vf pf hR
                    refine Or.inl ⟨rfl, ?_⟩
                    refine rq_less (l' := [rowE 3 1 b cs.length (cs.map (Value.int .i64)), boxE b1 #[.int .i64 d.W, .int .i64 d.H, .int .i64 d.T, .int .i64 d.R] 25]) (sub_cons (d := 2) rfl (sub_nil _)) (List.sublist_append_right _ _) ?_
                    exact rq_v (rv_loadN (cs := [.int .i64 d.W, .int .i64 d.H, .int .i64 d.T, .int .i64 d.R]) rfl (by kernel_rfl) (by kernel_rfl) rfl rfl (box_part 1 rfl 0 rfl))
                  ·
                    intro vf pf hR
                    refine Or.inl ⟨rfl, ?_⟩
                    refine rq_less (l' := [rowE 3 1 b cs.length (cs.map (Value.int .i64)), boxE b1 #[.int .i64 d.W, .int .i64 d.H, .int .i64 d.T, .int .i64 d.R] 25]) (sub_cons (d := 6) rfl (sub_nil _)) (List.sublist_append_right _ _) ?_
                    exact rq_v (rv_ev rfl)
                  ·
                    intro vf pf hR
                    refine Or.inl ⟨rfl, ?_⟩
                    refine rq_less (l' := [rowE 3 1 b cs.length (cs.map (Value.int .i64)), boxE b1 #[.int .i64 d.W, .int .i64 d.H, .int .i64 d.T, .int .i64 d.R] 25]) (sub_cons (d := 10) rfl (sub_nil _)) (List.sublist_append_right _ _) ?_
                    exact rq_v (rv_ev rfl)
                  ·
                    intro vf pf hR
                    have e3 : vf 3 = .int .i64 (r : Int) ∧ pf 3 = [] := hR 3 (by decide)
                    refine Or.inl ⟨rfl, ?_⟩
                    refine rq_less (l' := [rowE 3 1 b cs.length (cs.map (Value.int .i64)), boxE b1 #[.int .i64 d.W, .int .i64 d.H, .int .i64 d.T, .int .i64 d.R] 25]) (sub_cons (d := 128) (congrArg some e3.1) (sub_nil _)) (List.sublist_append_right _ _) ?_
                    exact rq_v (rv_add rfl rfl rfl (by constructor <;> omega))
                  ·
                    intro vf pf hR
                    have e4 : vf 4 = .int .i64 ((r : Int) + 2) ∧ pf 4 = [] := hR 4 (by decide)
                    refine Or.inl ⟨rfl, ?_⟩
                    refine rq_less (l' := [rowE 3 1 b cs.length (cs.map (Value.int .i64)), boxE b1 #[.int .i64 d.W, .int .i64 d.H, .int .i64 d.T, .int .i64 d.R] 25]) (sub_cons (d := 129) (congrArg some e4.1) (sub_nil _)) (List.sublist_append_right _ _) ?_
                    exact rq_v (rv_rem rfl rfl rfl (by constructor <;> omega))
                  ·
                    intro vf pf hR
                    refine Or.inl ⟨rfl, ?_⟩
                    refine rq_less (l' := [rowE 3 1 b cs.length (cs.map (Value.int .i64)), boxE b1 #[.int .i64 d.W, .int .i64 d.H, .int .i64 d.T, .int .i64 d.R] 25]) (sub_cons (d := 12) rfl (sub_nil _)) (List.sublist_append_right _ _) ?_
                    exact rq_v (rv_ev rfl)
                  ·
                    intro vf pf hR
                    have e1 : vf 1 = .agg #[.int .i64 d.W, .int .i64 d.H, .int .i64 d.T, .int .i64 d.R] ∧ pf 1 = [] := hR 1 (by decide)
                    have e2 : vf 2 = .int .i64 (n / (perI d)) ∧ pf 2 = [] := hR 2 (by decide)
                    have e5 : vf 5 = .int .i64 (((r : Int) + 2) % 4) ∧ pf 5 = [] := hR 5 (by decide)
                    have e6 : vf 6 = .int .i64 ((j : Int) + 1) ∧ pf 6 = [] := hR 6 (by decide)
                    refine Or.inl ⟨rfl, ?_⟩
                    refine rq_less (l' := [rowE 3 1 b cs.length (cs.map (Value.int .i64)), boxE b1 #[.int .i64 d.W, .int .i64 d.H, .int .i64 d.T, .int .i64 d.R] 25]) (sub_cons (d := 126) (congrArg some e1.1) (sub_cons (d := 127) (congrArg some e2.1) (sub_cons (d := 130) (congrArg some e5.1) (sub_cons (d := 131) (congrArg some e6.1) (sub_nil _))))) (List.sublist_append_right _ _) ?_
                    exact (rq_call (by kernel_rfl) rfl (fun w hm => ret_ans (specTileStep_any d _ _ _ w)))
                  ·
                    intro vf pf hR
                    refine Or.inl ⟨rfl, ?_⟩
                    refine rq_less (l' := [rowE 3 1 b cs.length (cs.map (Value.int .i64)), boxE b1 #[.int .i64 d.W, .int .i64 d.H, .int .i64 d.T, .int .i64 d.R] 25]) (sub_cons (d := 10) rfl (sub_nil _)) (List.sublist_append_right _ _) ?_
                    exact rq_v (rv_ev rfl)
                  ·
                    intro vf pf hR
                    refine Or.inl ⟨rfl, ?_⟩
                    refine rq_less (l' := [rowE 3 1 b cs.length (cs.map (Value.int .i64)), boxE b1 #[.int .i64 d.W, .int .i64 d.H, .int .i64 d.T, .int .i64 d.R] 25]) (sub_cons (d := 11) rfl (sub_nil _)) (List.sublist_append_right _ _) ?_
                    exact rq_v (rv_ev rfl)
                  ·
                    intro vf pf hR
                    have e0 : vf 0 = .agg #[.int .i64 d.W, .int .i64 d.H, .int .i64 d.T, .int .i64 d.R] ∧ pf 0 = [] := hR 0 (by decide)
                    have e7 : vf 7 = .int .i64 (tileStepI d (n / (perI d)) (((r : Int) + 2) % 4) ((j : Int) + 1)) ∧ pf 7 = [] := hR 7 (by decide)
                    have e8 : vf 8 = .int .i64 (r : Int) ∧ pf 8 = [] := hR 8 (by decide)
                    have e9 : vf 9 = .int .i64 (k : Int) ∧ pf 9 = [] := hR 9 (by decide)
                    refine Or.inl ⟨rfl, ?_⟩
                    refine rq_less (l' := [rowE 3 1 b cs.length (cs.map (Value.int .i64)), boxE b1 #[.int .i64 d.W, .int .i64 d.H, .int .i64 d.T, .int .i64 d.R] 25]) (sub_cons (d := 125) (congrArg some e0.1) (sub_cons (d := 132) (congrArg some e7.1) (sub_cons (d := 133) (congrArg some e8.1) (sub_cons (d := 134) (congrArg some e9.1) (sub_nil _))))) (List.sublist_append_right _ _) ?_
                    exact (rq_call (by kernel_rfl) rfl (fun w hm => ret_ans (specWireNode_ans d _ _ _ w (by omega) (by omega) (by omega) (by omega))))
                ·
                  intro vf pf hR
                  have e10 : vf 10 = .int .i64 (wireNodeS d (tileStepI d (n / (perI d)) (((r : Int) + 2) % 4) ((j : Int) + 1)) (r : Int) (k : Int)) ∧ pf 10 = [] := hR 10 (by decide)
                  refine hl_less (l' := [rowE 3 1 b cs.length (cs.map (Value.int .i64)), boxE b1 #[.int .i64 d.W, .int .i64 d.H, .int .i64 d.T, .int .i64 d.R] 25]) (sub_cons (d := 0) rfl (sub_cons (d := 1) rfl (sub_cons (d := 2) rfl (sub_cons (d := 4) rfl (sub_cons (d := 5) rfl (sub_cons (d := 6) rfl (sub_cons (d := 7) rfl (sub_cons (d := 8) rfl (sub_cons (d := 9) rfl (sub_cons (d := 10) rfl (sub_cons (d := 11) rfl (sub_cons (d := 12) rfl (sub_cons (d := 18) rfl (sub_cons (d := 33) rfl (sub_cons (d := 61) rfl (sub_cons (d := 67) rfl (sub_cons (d := 113) rfl (sub_cons (d := 124) rfl (sub_cons (d := 135) (congrArg some e10.1) (sub_nil _)))))))))))))))))))) (List.sublist_append_right _ _) ?_
                  simp only [List.drop_succ_cons, List.drop_zero]
                  refine hl_v rfl rfl rfl (rv_ev rfl) ?_
                  refine hl_less (sub_cons (d := 0) rfl (sub_cons (d := 1) rfl (sub_cons (d := 2) rfl (sub_cons (d := 4) rfl (sub_cons (d := 5) rfl (sub_cons (d := 6) rfl (sub_cons (d := 7) rfl (sub_cons (d := 8) rfl (sub_cons (d := 9) rfl (sub_cons (d := 10) rfl (sub_cons (d := 11) rfl (sub_cons (d := 12) rfl (sub_cons (d := 13) rfl (sub_cons (d := 18) rfl (sub_cons (d := 33) rfl (sub_cons (d := 61) rfl (sub_cons (d := 67) rfl (sub_cons (d := 113) rfl (sub_cons (d := 124) rfl (sub_nil _)))))))))))))))))))) (.refl _) ?_
                  refine hl_nil ?_
                  refine hq_then ?_
                  refine hc_seq ?_
                  refine hc_region ?_
                  refine hl_v rfl rfl rfl (rv_ev rfl) ?_
                  refine hl_geq rfl rfl rfl rfl rfl rfl (fun h38 => ?_) (fun h38 => ?_)
                  ·
                    refine hl_less (sub_cons (d := 0) rfl (sub_cons (d := 1) rfl (sub_cons (d := 2) rfl (sub_cons (d := 4) rfl (sub_cons (d := 5) rfl (sub_cons (d := 6) rfl (sub_cons (d := 7) rfl (sub_cons (d := 8) rfl (sub_cons (d := 9) rfl (sub_cons (d := 10) rfl (sub_cons (d := 11) rfl (sub_cons (d := 12) rfl (sub_cons (d := 13) rfl (sub_cons (d := 18) rfl (sub_cons (d := 33) rfl (sub_cons (d := 61) rfl (sub_cons (d := 67) rfl (sub_cons (d := 113) rfl (sub_cons (d := 124) rfl (sub_cons (d := 137) rfl (sub_nil _))))))))))))))))))))) (.refl _) ?_
                    refine hl_nil ?_
                    refine hq_then ?_
                    refine hc_true rfl ?_
                    refine hc_region ?_
                    refine hl_v rfl rfl rfl (rv_ev rfl) ?_
                    refine hl_v rfl rfl rfl (rv_ev rfl) ?_
                    refine hl_row rfl rfl rfl (rq_buildSlice (z := .int .i64 0) (s := 1) (cs := ([wireNodeS d (tileStepI d (n / (perI d)) (((r : Int) + 2) % 4) ((j : Int) + 1)) (r : Int) (k : Int)].map (Value.int .i64))) rfl Try.underlying30 (by kernel_rfl) (by decide) rfl (by kernel_rfl) rfl) ?_
                    intro g39
                    refine hl_append (i := 1) (z := .int .i64 0) (bytes := 8) (n' := (cs ++ ([wireNodeS d (tileStepI d (n / (perI d)) (((r : Int) + 2) % 4) ((j : Int) + 1)) (r : Int) (k : Int)])).length) (xs' := ((cs ++ ([wireNodeS d (tileStepI d (n / (perI d)) (((r : Int) + 2) % 4) ((j : Int) + 1)) (r : Int) (k : Int)])).map (Value.int .i64))) (L := fun v40 => [rowE 3 1 (.slice (some ⟨g39, 0, none⟩) 1 1) 1 ([wireNodeS d (tileStepI d (n / (perI d)) (((r : Int) + 2) % 4) ((j : Int) + 1)) (r : Int) (k : Int)].map (Value.int .i64)), rowE 3 1 v40 ((cs ++ ([wireNodeS d (tileStepI d (n / (perI d)) (((r : Int) + 2) % 4) ((j : Int) + 1)) (r : Int) (k : Int)])).length) ((cs ++ ([wireNodeS d (tileStepI d (n / (perI d)) (((r : Int) + 2) % 4) ((j : Int) + 1)) (r : Int) (k : Int)])).map (Value.int .i64)), boxE b1 #[.int .i64 d.W, .int .i64 d.H, .int .i64 d.T, .int .i64 d.R] 25]) rfl rfl rfl rfl Try.underlying30 (by kernel_rfl) (by kernel_rfl) rfl rfl rfl (rd_row 0 rfl) (ints_one _) (by simp; omega) (len_app cs ([wireNodeS d (tileStepI d (n / (perI d)) (((r : Int) + 2) % 4) ((j : Int) + 1)) (r : Int) (k : Int)])) (ints_app cs ([wireNodeS d (tileStepI d (n / (perI d)) (((r : Int) + 2) % 4) ((j : Int) + 1)) (r : Int) (k : Int)])) (fun _ => rfl) ?_
                    intro v40
                    refine hl_v rfl rfl rfl (rv_ev rfl) ?_
                    refine hl_less (sub_cons (d := 0) rfl (sub_cons (d := 1) rfl (sub_cons (d := 2) rfl (sub_cons (d := 4) rfl (sub_cons (d := 5) rfl (sub_cons (d := 6) rfl (sub_cons (d := 7) rfl (sub_cons (d := 8) rfl (sub_cons (d := 9) rfl (sub_cons (d := 10) rfl (sub_cons (d := 11) rfl (sub_cons (d := 12) rfl (sub_cons (d := 13) rfl (sub_cons (d := 18) rfl (sub_cons (d := 33) rfl (sub_cons (d := 61) rfl (sub_cons (d := 67) rfl (sub_cons (d := 113) rfl (sub_cons (d := 124) rfl (sub_cons (d := 137) rfl (sub_nil _))))))))))))))))))))) (.refl _) ?_
                    refine hl_nil ?_
                    refine hq_block_normal ?_
                    refine hq_then ?_
                    refine hc_region ?_
                    refine hl_v rfl rfl rfl (rv_ev rfl) ?_
                    refine hl_v rfl rfl rfl (rv_add rfl rfl rfl (by constructor <;> omega)) ?_
                    refine hl_v rfl rfl rfl (rv_ev rfl) ?_
                    refine hl_less (sub_cons (d := 0) rfl (sub_cons (d := 1) rfl (sub_cons (d := 2) rfl (sub_cons (d := 4) rfl (sub_cons (d := 5) rfl (sub_cons (d := 6) rfl (sub_cons (d := 7) rfl (sub_cons (d := 8) rfl (sub_cons (d := 9) rfl (sub_cons (d := 10) rfl (sub_cons (d := 11) rfl (sub_cons (d := 12) rfl (sub_cons (d := 13) rfl (sub_cons (d := 18) rfl (sub_cons (d := 33) rfl (sub_cons (d := 61) rfl (sub_cons (d := 67) rfl (sub_cons (d := 113) rfl (sub_cons (d := 124) rfl (sub_cons (d := 137) rfl (sub_nil _))))))))))))))))))))) (.refl _) ?_
                    refine hl_nil ?_
                    exact hq_round3 (j + 1) _ _ ⟨by omega, by rw [sK_succ, ← ha]; unfold sS; first | rw [if_pos (by omega)] | rw [if_neg (by omega), if_pos (by assumption)] | rw [if_neg (by omega), if_neg (by omega)], by first | omega | (simp; omega)⟩ (by omega) (sub_cons (d := 0) rfl (sub_cons (d := 1) rfl (sub_cons (d := 2) rfl (sub_cons (d := 4) rfl (sub_cons (d := 5) rfl (sub_cons (d := 6) rfl (sub_cons (d := 7) rfl (sub_cons (d := 8) rfl (sub_cons (d := 9) rfl (sub_cons (d := 10) rfl (sub_cons (d := 11) rfl (sub_cons (d := 12) rfl (sub_cons (d := 18) rfl (sub_cons (d := 33) rfl (sub_cons (d := 61) rfl (sub_cons (d := 67) rfl (sub_nil _))))))))))))))))) ((.cons _ (.cons_cons _ (.cons_cons _ .slnil))))
                  ·
                    refine hl_less (sub_cons (d := 0) rfl (sub_cons (d := 1) rfl (sub_cons (d := 2) rfl (sub_cons (d := 4) rfl (sub_cons (d := 5) rfl (sub_cons (d := 6) rfl (sub_cons (d := 7) rfl (sub_cons (d := 8) rfl (sub_cons (d := 9) rfl (sub_cons (d := 10) rfl (sub_cons (d := 11) rfl (sub_cons (d := 12) rfl (sub_cons (d := 13) rfl (sub_cons (d := 18) rfl (sub_cons (d := 33) rfl (sub_cons (d := 61) rfl (sub_cons (d := 67) rfl (sub_cons (d := 113) rfl (sub_cons (d := 124) rfl (sub_cons (d := 137) rfl (sub_nil _))))))))))))))))))))) (.refl _) ?_
                    refine hl_nil ?_
                    refine hq_then ?_
                    refine hc_false rfl ?_
                    refine hc_skip ?_
                    refine hq_block_normal ?_
                    refine hq_then ?_
                    refine hc_region ?_
                    refine hl_v rfl rfl rfl (rv_ev rfl) ?_
                    refine hl_v rfl rfl rfl (rv_add rfl rfl rfl (by constructor <;> omega)) ?_
                    refine hl_v rfl rfl rfl (rv_ev rfl) ?_
                    refine hl_less (sub_cons (d := 0) rfl (sub_cons (d := 1) rfl (sub_cons (d := 2) rfl (sub_cons (d := 4) rfl (sub_cons (d := 5) rfl (sub_cons (d := 6) rfl (sub_cons (d := 7) rfl (sub_cons (d := 8) rfl (sub_cons (d := 9) rfl (sub_cons (d := 10) rfl (sub_cons (d := 11) rfl (sub_cons (d := 12) rfl (sub_cons (d := 13) rfl (sub_cons (d := 18) rfl (sub_cons (d := 33) rfl (sub_cons (d := 61) rfl (sub_cons (d := 67) rfl (sub_cons (d := 113) rfl (sub_cons (d := 124) rfl (sub_cons (d := 137) rfl (sub_nil _))))))))))))))))))))) (.refl _) ?_
                    refine hl_nil ?_
                    exact hq_round3 (j + 1) _ _ ⟨by omega, by rw [sK_succ, ← ha]; unfold sS; first | rw [if_pos (by omega)] | rw [if_neg (by omega), if_pos (by assumption)] | rw [if_neg (by omega), if_neg (by omega)], by first | omega | (simp; omega)⟩ (by omega) (sub_cons (d := 0) rfl (sub_cons (d := 1) rfl (sub_cons (d := 2) rfl (sub_cons (d := 4) rfl (sub_cons (d := 5) rfl (sub_cons (d := 6) rfl (sub_cons (d := 7) rfl (sub_cons (d := 8) rfl (sub_cons (d := 9) rfl (sub_cons (d := 10) rfl (sub_cons (d := 11) rfl (sub_cons (d := 12) rfl (sub_cons (d := 18) rfl (sub_cons (d := 33) rfl (sub_cons (d := 61) rfl (sub_cons (d := 67) rfl (sub_nil _))))))))))))))))) ((.cons_cons _ (.cons_cons _ .slnil)))
            ·
              refine hl_less (sub_cons (d := 0) rfl (sub_cons (d := 1) rfl (sub_cons (d := 2) rfl (sub_cons (d := 4) rfl (sub_cons (d := 5) rfl (sub_cons (d := 6) rfl (sub_cons (d := 7) rfl (sub_cons (d := 8) rfl (sub_cons (d := 9) rfl (sub_cons (d := 10) rfl (sub_cons (d := 11) rfl (sub_cons (d := 12) rfl (sub_cons (d := 18) rfl (sub_cons (d := 33) rfl (sub_cons (d := 61) rfl (sub_cons (d := 67) rfl (sub_cons (d := 113) rfl (sub_nil _)))))))))))))))))) (.refl _) ?_
              refine hl_nil ?_
              refine hq_then ?_
              refine hc_false rfl ?_
              refine hc_exit ?_
              refine hq_then_exit ?_
              refine hq_then_exit ?_
              refine hq_block_exit ?_
              refine hq_block_normal ?_
              refine hq_then ?_
              refine hc_region ?_
              refine hl_v rfl rfl rfl (rv_ev rfl) ?_
              refine hl_v rfl rfl rfl (rv_add rfl rfl rfl (by constructor <;> omega)) ?_
              refine hl_v rfl rfl rfl (rv_ev rfl) ?_
              refine hl_less (sub_cons (d := 0) rfl (sub_cons (d := 1) rfl (sub_cons (d := 2) rfl (sub_cons (d := 4) rfl (sub_cons (d := 5) rfl (sub_cons (d := 6) rfl (sub_cons (d := 7) rfl (sub_cons (d := 8) rfl (sub_cons (d := 9) rfl (sub_cons (d := 10) rfl (sub_cons (d := 11) rfl (sub_cons (d := 12) rfl (sub_cons (d := 18) rfl (sub_cons (d := 33) rfl (sub_cons (d := 61) rfl (sub_cons (d := 67) rfl (sub_cons (d := 113) rfl (sub_nil _)))))))))))))))))) (.refl _) ?_
              refine hl_nil ?_
              exact hq_round3 (k + 1) _ _ ⟨by omega, by rw [sR_succ]; rw [if_neg hskip, ← hz, ha]; congr 1; omega, by omega⟩ (by omega) (sub_cons (d := 0) rfl (sub_cons (d := 1) rfl (sub_cons (d := 2) rfl (sub_cons (d := 4) rfl (sub_cons (d := 5) rfl (sub_cons (d := 6) rfl (sub_cons (d := 7) rfl (sub_cons (d := 8) rfl (sub_cons (d := 9) rfl (sub_cons (d := 10) rfl (sub_cons (d := 11) rfl (sub_cons (d := 18) rfl (sub_cons (d := 33) rfl (sub_cons (d := 61) rfl (sub_nil _))))))))))))))) ((.cons_cons _ (.cons_cons _ .slnil)))
          ·
            refine hl_less (sub_cons (d := 0) rfl (sub_cons (d := 1) rfl (sub_cons (d := 2) rfl (sub_cons (d := 4) rfl (sub_cons (d := 5) rfl (sub_cons (d := 6) rfl (sub_cons (d := 7) rfl (sub_cons (d := 8) rfl (sub_cons (d := 9) rfl (sub_cons (d := 10) rfl (sub_cons (d := 11) rfl (sub_cons (d := 18) rfl (sub_cons (d := 33) rfl (sub_cons (d := 61) rfl (sub_cons (d := 67) rfl (sub_nil _)))))))))))))))) (.refl _) ?_
            refine hl_nil ?_
            refine hq_then ?_
            refine hc_false rfl ?_
            refine hc_exit ?_
            refine hq_then_exit ?_
            refine hq_then_exit ?_
            refine hq_block_exit ?_
            refine hq_block_normal ?_
            refine hq_then ?_
            refine hc_region ?_
            refine hl_v rfl rfl rfl (rv_ev rfl) ?_
            refine hl_v rfl rfl rfl (rv_add rfl rfl rfl (by constructor <;> omega)) ?_
            refine hl_v rfl rfl rfl (rv_ev rfl) ?_
            refine hl_less (sub_cons (d := 0) rfl (sub_cons (d := 1) rfl (sub_cons (d := 2) rfl (sub_cons (d := 4) rfl (sub_cons (d := 5) rfl (sub_cons (d := 6) rfl (sub_cons (d := 7) rfl (sub_cons (d := 8) rfl (sub_cons (d := 9) rfl (sub_cons (d := 10) rfl (sub_cons (d := 11) rfl (sub_cons (d := 18) rfl (sub_cons (d := 33) rfl (sub_cons (d := 61) rfl (sub_cons (d := 67) rfl (sub_nil _)))))))))))))))) (.refl _) ?_
            refine hl_nil ?_
            exact hq_round3 (r + 1) _ _ ⟨by omega, by rw [sO_succ, ← hy, hz]; congr 1; omega, by omega⟩ (by omega) (sub_cons (d := 0) rfl (sub_cons (d := 1) rfl (sub_cons (d := 2) rfl (sub_cons (d := 4) rfl (sub_cons (d := 5) rfl (sub_cons (d := 6) rfl (sub_cons (d := 7) rfl (sub_cons (d := 8) rfl (sub_cons (d := 9) rfl (sub_cons (d := 10) rfl (sub_cons (d := 18) rfl (sub_cons (d := 33) rfl (sub_nil _))))))))))))) ((.cons_cons _ (.cons_cons _ .slnil)))
        ·
          refine hl_less (sub_cons (d := 0) rfl (sub_cons (d := 1) rfl (sub_cons (d := 2) rfl (sub_cons (d := 4) rfl (sub_cons (d := 5) rfl (sub_cons (d := 6) rfl (sub_cons (d := 7) rfl (sub_cons (d := 8) rfl (sub_cons (d := 9) rfl (sub_cons (d := 10) rfl (sub_cons (d := 18) rfl (sub_cons (d := 33) rfl (sub_cons (d := 61) rfl (sub_nil _)))))))))))))) (.refl _) ?_
          refine hl_nil ?_
          refine hq_then ?_
          refine hc_false rfl ?_
          refine hc_exit ?_
          refine hq_then_exit ?_
          refine hq_then_exit ?_
          refine hq_block_exit ?_
          refine hq_then ?_
          refine hc_seq ?_
          refine hc_region ?_
          refine hl_v rfl rfl rfl (rv_ev rfl) ?_
          refine hl_q rfl rfl rfl (rq_call (by kernel_rfl) rfl (fun w hm => l27Sort_ret _ ys w (rdsW_own (hm.holds _ (mem_at (i := 0) rfl))) (by omega))) ?_
          intro v41 p42 hR43
          subst hR43
          refine hl_v rfl rfl rfl (rv_ev rfl) ?_
          refine hl_less (sub_cons (d := 0) rfl (sub_cons (d := 1) rfl (sub_cons (d := 2) rfl (sub_cons (d := 4) rfl (sub_cons (d := 5) rfl (sub_cons (d := 6) rfl (sub_cons (d := 7) rfl (sub_cons (d := 8) rfl (sub_cons (d := 9) rfl (sub_cons (d := 10) rfl (sub_cons (d := 18) rfl (sub_cons (d := 33) rfl (sub_cons (d := 61) rfl (sub_nil _)))))))))))))) (.refl _) ?_
          refine hl_nil ?_
          refine hq_then ?_
          refine hc_ret ?_
          exact hq_retR (post := [rowE 3 1 v41 ((sortR ys).length) ((sortR ys).map (Value.int .i64))]) rfl rfl ((.cons_cons _ (.cons _ (.cons _ .slnil)))) (by unfold srcS; first | rw [if_pos ⟨by assumption, by omega, by omega⟩, hy, show r = 4 by omega, hd1, hd2] | (rw [if_neg (by rintro ⟨q1, q2, q3⟩; first | omega | simp_all)]; rfl))
  ·
    refine hl_v rfl rfl rfl (rv_ev rfl) ?_
    refine hl_less (sub_cons (d := 0) rfl (sub_cons (d := 1) rfl (sub_cons (d := 2) rfl (sub_cons (d := 4) rfl (sub_cons (d := 5) rfl (sub_cons (d := 18) rfl (sub_nil _))))))) (.refl _) ?_
    refine hl_nil ?_
    refine hq_then ?_
    refine hc_true rfl ?_
    refine hc_seq ?_
    refine hc_region ?_
    refine hl_v rfl rfl rfl (rv_ev rfl) ?_
    refine hl_v rfl rfl rfl (rv_ev rfl) ?_
    refine hl_less (sub_cons (d := 0) rfl (sub_cons (d := 1) rfl (sub_cons (d := 2) rfl (sub_cons (d := 4) rfl (sub_cons (d := 5) rfl (sub_cons (d := 18) rfl (sub_nil _))))))) (.refl _) ?_
    refine hl_nil ?_
    refine hq_then ?_
    refine hc_ret ?_
    refine hq_then_ret ?_
    exact hq_retR (post := [rowE 3 1 (.slice (some ⟨g2, 0, none⟩) 0 0) 0 ([])]) rfl rfl ((.cons_cons _ (.cons _ .slnil))) (by unfold srcS; first | rw [if_pos ⟨by assumption, by omega, by omega⟩, hy, show r = 4 by omega, hd1, hd2] | (rw [if_neg (by rintro ⟨q1, q2, q3⟩; first | omega | simp_all)]; rfl))
end Go.Proofs.Ytnnkbpcfjjijbaa
