/- TileConfigOk, and the law FnExactTileConfigOk. -/
import Derived.Test.YtnnkbpcfjjijbaaEx6
set_option linter.unusedVariables false
set_option linter.unusedSimpArgs false
namespace Go.Proofs.Ytnnkbpcfjjijbaa
open Go.RowKit

theorem inR_nah {a b c : Int} (h : inR a b c = false) : a < b ∨ c < a := by unfold inR at h; simp at h; omega
def leOkV (e : List Int × Int × Int × Int) : Bool := decide (e.1.length = 4) && inR e.2.1 0 65535 && inR e.2.2.1 0 1 && inR e.2.2.2 0 1 && e.1.all (fun x => inR x 0 7)
def tcOkV (d : Dev) (v : List Int × List (List Int × Int × Int × Int) × Int × Int) : Bool := devB d && decide ((v.1.length : Int) = 5 + 4 * d.T) && decide (v.2.1.length = 2) && inR v.2.2.1 0 3 && inR v.2.2.2 0 31 && v.1.all (fun x => inR x 0 31) && v.2.1.all leOkV
theorem all_getD {α : Type} {xs : List α} {p : α → Bool} {d : α} : xs.all p = true ↔ ∀ i, i < xs.length → p (xs.getD i d) = true := by
  rw [List.all_eq_true]
  constructor
  · intro h i hi; exact h _ (getD_mem' hi)
  · intro h x hx
    obtain ⟨i, hi, rfl⟩ := List.mem_iff_getElem.1 hx
    have := h i hi
    rwa [List.getD_eq_getElem?_getD, List.getElem?_eq_getElem hi] at this
theorem leOkV_iff (e : Le) : leOkV e.val = true ↔ e.xs.length = 4 ∧ (0 ≤ e.m ∧ e.m ≤ 65535) ∧ (0 ≤ e.f ∧ e.f ≤ 1) ∧ (0 ≤ e.i ∧ e.i ≤ 1) ∧ ∀ i, i < e.xs.length → 0 ≤ e.xs.getD i 0 ∧ e.xs.getD i 0 ≤ 7 := by
  unfold leOkV Le.val
  simp only [Bool.and_eq_true, decide_eq_true_eq, inR_iff, all_getD (d := (0 : Int)), and_assoc]
theorem tcOkV_iff (d : Dev) (t : Tc) : tcOkV d t.val = true ↔ devB d = true ∧ (t.mx.length : Int) = 5 + 4 * d.T ∧ t.es.length = 2 ∧ (0 ≤ t.pad ∧ t.pad ≤ 3) ∧ (0 ≤ t.ram ∧ t.ram ≤ 31) ∧ (∀ i, i < t.mx.length → 0 ≤ t.mx.getD i 0 ∧ t.mx.getD i 0 ≤ 31) ∧ ∀ i, i < t.es.length → leOkV (t.es.getD i Le0).val = true := by
  unfold tcOkV Tc.val
  have h : ∀ i, i < t.es.length → (t.es.map Le.val).getD i Le0.val = (t.es.getD i Le0).val := fun i hi => by rw [List.getD_eq_getElem?_getD, List.getElem?_map, getD_at (d := Le0) hi]; rfl
  simp only [Bool.and_eq_true, decide_eq_true_eq, inR_iff, all_getD (d := (0 : Int)), all_getD (d := Le0.val), List.length_map, and_assoc]
  constructor
  · rintro ⟨a1, a2, a3, a4, a5, a6, a7, a8, a9⟩; exact ⟨a1, a2, a3, a4, a5, a6, a7, a8, fun i hi => by rw [← h i hi]; exact a9 i hi⟩
  · rintro ⟨a1, a2, a3, a4, a5, a6, a7, a8, a9⟩; exact ⟨a1, a2, a3, a4, a5, a6, a7, a8, fun i hi => by rw [h i hi]; exact a9 i hi⟩
set_option maxHeartbeats 4000000 in
set_option maxRecDepth 100000 in
theorem leConfigOk_ans (a : Le) (w : World) (hv : a.Rd1 w) :
    Calls Try.prog 94 #[.agg #[a.v, .int .i64 a.m, .int .i64 a.f, .int .i64 a.i]] w (Ans w (.bool (leOkV a.val))) := by
  have hvl := hv.2
  refine calls_hc (N := 38) (args := [.agg #[a.v, .int .i64 a.m, .int .i64 a.f, .int .i64 a.i]]) Try.func94 rfl rfl ?_
  refine hc_less _ (sub_cons (d := 0) rfl (sub_nil _)) (.refl _) ?_
  refine hc_seq ?_
  refine hc_region ?_
  refine hl_box rfl rfl rfl (rq_box rfl rfl) ?_
  intro b1
  refine hl_v rfl rfl rfl (rv_ev rfl) ?_
  refine hl_less (sub_cons (d := 0) rfl (sub_cons (d := 1) rfl (sub_cons (d := 2) rfl (sub_nil _)))) (.refl _) ?_
  refine hl_nil ?_
  refine hq_then ?_
  refine hc_seq ?_
  refine hc_seq ?_
  refine hc_region ?_
  refine hl_v rfl rfl rfl (rv_field (k0 := 0) rfl (by kernel_rfl) rfl) ?_
  refine hl_v rfl rfl rfl (rv_load rfl (by kernel_rfl) rfl (box_cell 0 rfl rfl)) ?_
  refine hl_v rfl rfl rfl (rv_len rfl Try.underlying30 rfl (rd_old hv.1)) ?_
  refine hl_neq rfl rfl rfl rfl rfl rfl (fun h2 => ?_) (fun h2 => ?_)
  ·
    refine hl_v rfl rfl rfl (rv_ev rfl) ?_
    refine hl_skip rfl rfl rfl ?_
    refine hl_skip rfl rfl rfl ?_
    refine hl_skip rfl rfl rfl ?_
    refine hl_skip rfl rfl rfl ?_
    refine hl_v rfl rfl rfl (rv_ev rfl) ?_
    refine hl_v rfl rfl rfl (rv_ev rfl) ?_
    refine hl_skip rfl rfl rfl ?_
    refine hl_skip rfl rfl rfl ?_
    refine hl_skip rfl rfl rfl ?_
    refine hl_skip rfl rfl rfl ?_
    refine hl_v rfl rfl rfl (rv_ev rfl) ?_
    refine hl_v rfl rfl rfl (rv_ev rfl) ?_
    refine hl_skip rfl rfl rfl ?_
    refine hl_skip rfl rfl rfl ?_
    refine hl_skip rfl rfl rfl ?_
    refine hl_skip rfl rfl rfl ?_
    refine hl_v rfl rfl rfl (rv_ev rfl) ?_
    refine hl_less (sub_cons (d := 0) rfl (sub_cons (d := 1) rfl (sub_cons (d := 2) rfl (sub_cons (d := 26) rfl (sub_nil _))))) (.refl _) ?_
    refine hl_nil ?_
    refine hq_then ?_
    refine hc_true rfl ?_
    refine hc_seq ?_
    refine hc_region ?_
    refine hl_v rfl rfl rfl (rv_ev rfl) ?_
    refine hl_less (sub_cons (d := 0) rfl (sub_cons (d := 1) rfl (sub_cons (d := 2) rfl (sub_cons (d := 26) rfl (sub_nil _))))) (.refl _) ?_
    refine hl_nil ?_
    refine hq_then ?_
    refine hc_ret ?_
    refine hq_then_ret ?_
    exact hq_ans rfl rfl (congrArg _ (Bool.eq_false_iff.2 (fun h => by obtain ⟨q1, q2, q3, q4, q5⟩ := (leOkV_iff a).1 h; first | omega | (have := q5 j (by omega); omega) | contradiction | simp_all | (have := q5 j (by omega); omega))).symm)
  ·
    refine hl_v rfl rfl rfl (rv_ev rfl) ?_
    refine hl_v rfl rfl rfl (rv_field (k0 := 1) rfl (by kernel_rfl) rfl) ?_
    refine hl_v rfl rfl rfl (rv_load rfl (by kernel_rfl) rfl (box_cell 0 rfl rfl)) ?_
    refine hl_callV rfl rfl rfl (rq_call (by kernel_rfl) rfl (fun w hm => ret_ans (ans_of (inRange_any _ _ _ w)))) ?_
    refine hl_bool (fun h3 => ?_) (fun h3 => ?_)
    ·
      obtain ⟨h3a, h3b⟩ := (inR_iff _ _ _).1 h3
      refine hl_v rfl rfl rfl (rv_ev rfl) ?_
      refine hl_v rfl rfl rfl (rv_ev rfl) ?_
      refine hl_v rfl rfl rfl (rv_ev rfl) ?_
      refine hl_v rfl rfl rfl (rv_field (k0 := 2) rfl (by kernel_rfl) rfl) ?_
      refine hl_v rfl rfl rfl (rv_load rfl (by kernel_rfl) rfl (box_cell 0 rfl rfl)) ?_
      refine hl_callV rfl rfl rfl (rq_call (by kernel_rfl) rfl (fun w hm => ret_ans (ans_of (inRange_any _ _ _ w)))) ?_
      refine hl_bool (fun h4 => ?_) (fun h4 => ?_)
      ·
        obtain ⟨h4a, h4b⟩ := (inR_iff _ _ _).1 h4
        refine hl_v rfl rfl rfl (rv_ev rfl) ?_
        refine hl_v rfl rfl rfl (rv_ev rfl) ?_
        refine hl_v rfl rfl rfl (rv_ev rfl) ?_
        refine hl_v rfl rfl rfl (rv_field (k0 := 3) rfl (by kernel_rfl) rfl) ?_
        refine hl_v rfl rfl rfl (rv_load rfl (by kernel_rfl) rfl (box_cell 0 rfl rfl)) ?_
        refine hl_callV rfl rfl rfl (rq_call (by kernel_rfl) rfl (fun w hm => ret_ans (ans_of (inRange_any _ _ _ w)))) ?_
        refine hl_bool (fun h5 => ?_) (fun h5 => ?_)
        ·
          obtain ⟨h5a, h5b⟩ := (inR_iff _ _ _).1 h5
          refine hl_v rfl rfl rfl (rv_ev rfl) ?_
          refine hl_v rfl rfl rfl (rv_ev rfl) ?_
          refine hl_less (sub_cons (d := 0) rfl (sub_cons (d := 1) rfl (sub_cons (d := 2) rfl (sub_cons (d := 26) rfl (sub_nil _))))) (.refl _) ?_
          refine hl_nil ?_
          refine hq_then ?_
          refine hc_false rfl ?_
          refine hc_skip ?_
          refine hq_then ?_
          refine hc_seq ?_
          refine hc_seq ?_
          refine hc_region ?_
          refine hl_v rfl rfl rfl (rv_field (k0 := 0) rfl (by kernel_rfl) rfl) ?_
          refine hl_v rfl rfl rfl (rv_load rfl (by kernel_rfl) rfl (box_cell 0 rfl rfl)) ?_
          refine hl_v rfl rfl rfl (rv_len rfl Try.underlying30 rfl (rd_old hv.1)) ?_
          refine hl_v rfl rfl rfl (rv_ev rfl) ?_
          refine hl_less (sub_cons (d := 0) rfl (sub_cons (d := 1) rfl (sub_cons (d := 2) rfl (sub_cons (d := 26) rfl (sub_cons (d := 28) rfl (sub_cons (d := 29) rfl (sub_cons (d := 30) rfl (sub_nil _)))))))) (.refl _) ?_
          refine hl_nil ?_
          refine hq_then ?_
          refine hc_block ?_
          refine hc_loop1 (α := Nat) (fun j => [boxE b1 #[a.v, .int .i64 a.m, .int .i64 a.f, .int .i64 a.i] 87]) (fun j => [(0, .agg #[a.v, .int .i64 a.m, .int .i64 a.f, .int .i64 a.i]), (1, .pointer (some ⟨b1, 0, none⟩)), (2, .bool false), (26, .bool false), (28, a.v), (29, .int .i64 (a.xs.length : Int)), (30, .int .i64 (j : Int))]) (fun j => j ≤ a.xs.length ∧ ∀ i, i < j → 0 ≤ a.xs.getD i 0 ∧ a.xs.getD i 0 ≤ 7) (fun j => a.xs.length - j) 0 ⟨by omega, fun i hi => absurd hi (by omega)⟩ (sub_cons (d := 0) rfl (sub_cons (d := 1) rfl (sub_cons (d := 2) rfl (sub_cons (d := 26) rfl (sub_cons (d := 28) rfl (sub_cons (d := 29) rfl (sub_cons (d := 30) rfl (sub_nil _)))))))) ((.cons_cons _ .slnil)) ?_
          intro j hi6
          obtain ⟨hk1, hk2⟩ := hi6
          refine hc_seq ?_
          refine hc_region ?_
          refine hl_lss rfl rfl rfl rfl rfl rfl (fun h7 => ?_) (fun h7 => ?_)
          ·
            refine hl_less (sub_cons (d := 0) rfl (sub_cons (d := 1) rfl (sub_cons (d := 2) rfl (sub_cons (d := 26) rfl (sub_cons (d := 28) rfl (sub_cons (d := 29) rfl (sub_cons (d := 30) rfl (sub_cons (d := 31) rfl (sub_nil _))))))))) (.refl _) ?_
            refine hl_nil ?_
            refine hq_then ?_
            refine hc_seq ?_
            refine hc_true rfl ?_
            refine hc_skip ?_
            refine hq_then ?_
            refine hc_seq ?_
            refine hc_block ?_
            refine hc_seq ?_
            refine hc_region ?_
            refine hl_v rfl rfl rfl (rv_index (s := 1) rfl Try.underlying30 (by kernel_rfl) rfl rfl (rd_old hv.1) (by omega) (by first | omega | (simp only [List.length_set]; omega))) ?_
            refine hl_v rfl rfl rfl (rv_loadEl (u := .int .i64 (a.xs.getD j 0)) rfl (by kernel_rfl) rfl (rd_old hv.1) (ints_at1 (show _ < a.xs.length by first | omega | (simp only [List.length_set]; omega)))) ?_
            refine hl_v rfl rfl rfl (rv_ev rfl) ?_
            refine hl_less (sub_cons (d := 0) rfl (sub_cons (d := 1) rfl (sub_cons (d := 2) rfl (sub_cons (d := 4) rfl (sub_cons (d := 26) rfl (sub_cons (d := 28) rfl (sub_cons (d := 29) rfl (sub_cons (d := 30) rfl (sub_cons (d := 31) rfl (sub_nil _)))))))))) (.refl _) ?_
            refine hl_nil ?_
            refine hq_then ?_
            refine hc_seq ?_
            refine hc_region ?_
            refine hl_v rfl rfl rfl (rv_ev rfl) ?_
            refine hl_callV rfl rfl rfl (rq_call (by kernel_rfl) rfl (fun w hm => ret_ans (ans_of (inRange_any _ _ _ w)))) ?_
            refine hl_bool (fun h8 => ?_) (fun h8 => ?_)
            ·
              obtain ⟨h8a, h8b⟩ := (inR_iff _ _ _).1 h8
              refine hl_v rfl rfl rfl (rv_ev rfl) ?_
              refine hl_less (sub_cons (d := 0) rfl (sub_cons (d := 1) rfl (sub_cons (d := 2) rfl (sub_cons (d := 4) rfl (sub_cons (d := 26) rfl (sub_cons (d := 28) rfl (sub_cons (d := 29) rfl (sub_cons (d := 30) rfl (sub_cons (d := 31) rfl (sub_cons (d := 36) rfl (sub_nil _))))))))))) (.refl _) ?_
              refine hl_nil ?_
              refine hq_then ?_
              refine hc_false rfl ?_
              refine hc_skip ?_
              refine hq_block_normal ?_
              refine hq_then ?_
              refine hc_region ?_
              refine hl_v rfl rfl rfl (rv_add rfl rfl rfl (by constructor <;> omega)) ?_
              refine hl_v rfl rfl rfl (rv_ev rfl) ?_
              refine hl_less (sub_cons (d := 0) rfl (sub_cons (d := 1) rfl (sub_cons (d := 2) rfl (sub_cons (d := 4) rfl (sub_cons (d := 26) rfl (sub_cons (d := 28) rfl (sub_cons (d := 29) rfl (sub_cons (d := 30) rfl (sub_cons (d := 31) rfl (sub_cons (d := 36) rfl (sub_nil _))))))))))) (.refl _) ?_
              refine hl_nil ?_
              exact hq_round1 (j + 1) ⟨by omega, fun i hi => by by_cases hij : i = j; (subst hij; omega); exact hk2 i (by omega)⟩ (by omega) (sub_cons (d := 0) rfl (sub_cons (d := 1) rfl (sub_cons (d := 2) rfl (sub_cons (d := 26) rfl (sub_cons (d := 28) rfl (sub_cons (d := 29) rfl (sub_cons (d := 30) rfl (sub_nil _)))))))) ((.cons_cons _ .slnil))
            ·
              have h8a := inR_nah h8
              refine hl_v rfl rfl rfl (rv_ev rfl) ?_
              refine hl_less (sub_cons (d := 0) rfl (sub_cons (d := 1) rfl (sub_cons (d := 2) rfl (sub_cons (d := 4) rfl (sub_cons (d := 26) rfl (sub_cons (d := 28) rfl (sub_cons (d := 29) rfl (sub_cons (d := 30) rfl (sub_cons (d := 31) rfl (sub_cons (d := 36) rfl (sub_nil _))))))))))) (.refl _) ?_
              refine hl_nil ?_
              refine hq_then ?_
              refine hc_true rfl ?_
              refine hc_seq ?_
              refine hc_region ?_
              refine hl_v rfl rfl rfl (rv_ev rfl) ?_
              refine hl_less (sub_cons (d := 0) rfl (sub_cons (d := 1) rfl (sub_cons (d := 2) rfl (sub_cons (d := 4) rfl (sub_cons (d := 26) rfl (sub_cons (d := 28) rfl (sub_cons (d := 29) rfl (sub_cons (d := 30) rfl (sub_cons (d := 31) rfl (sub_cons (d := 36) rfl (sub_nil _))))))))))) (.refl _) ?_
              refine hl_nil ?_
              refine hq_then ?_
              refine hc_ret ?_
              refine hq_block_ret ?_
              refine hq_then_ret ?_
              refine hq_then_ret ?_
              refine hq_block_ret ?_
              refine hq_then_ret ?_
              exact hq_ans rfl rfl (congrArg _ (Bool.eq_false_iff.2 (fun h => by obtain ⟨q1, q2, q3, q4, q5⟩ := (leOkV_iff a).1 h; first | omega | (have := q5 j (by omega); omega) | contradiction | simp_all | (have := q5 j (by omega); omega))).symm)
          ·
            refine hl_less (sub_cons (d := 0) rfl (sub_cons (d := 1) rfl (sub_cons (d := 2) rfl (sub_cons (d := 26) rfl (sub_cons (d := 28) rfl (sub_cons (d := 29) rfl (sub_cons (d := 30) rfl (sub_cons (d := 31) rfl (sub_nil _))))))))) (.refl _) ?_
            refine hl_nil ?_
            refine hq_then ?_
            refine hc_seq ?_
            refine hc_false rfl ?_
            refine hc_exit ?_
            refine hq_then_exit ?_
            refine hq_then_exit ?_
            refine hq_block_exit ?_
            refine hq_then ?_
            refine hc_seq ?_
            refine hc_region ?_
            refine hl_v rfl rfl rfl (rv_ev rfl) ?_
            refine hl_less (sub_cons (d := 0) rfl (sub_cons (d := 1) rfl (sub_cons (d := 2) rfl (sub_cons (d := 26) rfl (sub_cons (d := 28) rfl (sub_cons (d := 29) rfl (sub_cons (d := 30) rfl (sub_cons (d := 31) rfl (sub_nil _))))))))) (.refl _) ?_
            refine hl_nil ?_
            refine hq_then ?_
            refine hc_ret ?_
            exact hq_ans rfl rfl (congrArg _ ((leOkV_iff a).2 ⟨by omega, by omega, by omega, by omega, fun i hi => hk2 i (by omega)⟩).symm)
        ·
          have h5a := inR_nah h5
          refine hl_v rfl rfl rfl (rv_ev rfl) ?_
          refine hl_v rfl rfl rfl (rv_ev rfl) ?_
          refine hl_less (sub_cons (d := 0) rfl (sub_cons (d := 1) rfl (sub_cons (d := 2) rfl (sub_cons (d := 26) rfl (sub_nil _))))) (.refl _) ?_
          refine hl_nil ?_
          refine hq_then ?_
          refine hc_true rfl ?_
          refine hc_seq ?_
          refine hc_region ?_
          refine hl_v rfl rfl rfl (rv_ev rfl) ?_
          refine hl_less (sub_cons (d := 0) rfl (sub_cons (d := 1) rfl (sub_cons (d := 2) rfl (sub_cons (d := 26) rfl (sub_nil _))))) (.refl _) ?_
          refine hl_nil ?_
          refine hq_then ?_
          refine hc_ret ?_
          refine hq_then_ret ?_
          exact hq_ans rfl rfl (congrArg _ (Bool.eq_false_iff.2 (fun h => by obtain ⟨q1, q2, q3, q4, q5⟩ := (leOkV_iff a).1 h; first | omega | (have := q5 j (by omega); omega) | contradiction | simp_all | (have := q5 j (by omega); omega))).symm)
      ·
        have h4a := inR_nah h4
        refine hl_v rfl rfl rfl (rv_ev rfl) ?_
        refine hl_v rfl rfl rfl (rv_ev rfl) ?_
        refine hl_v rfl rfl rfl (rv_ev rfl) ?_
        refine hl_skip rfl rfl rfl ?_
        refine hl_skip rfl rfl rfl ?_
        refine hl_skip rfl rfl rfl ?_
        refine hl_skip rfl rfl rfl ?_
        refine hl_v rfl rfl rfl (rv_ev rfl) ?_
        refine hl_less (sub_cons (d := 0) rfl (sub_cons (d := 1) rfl (sub_cons (d := 2) rfl (sub_cons (d := 26) rfl (sub_nil _))))) (.refl _) ?_
        refine hl_nil ?_
        refine hq_then ?_
        refine hc_true rfl ?_
        refine hc_seq ?_
        refine hc_region ?_
        refine hl_v rfl rfl rfl (rv_ev rfl) ?_
        refine hl_less (sub_cons (d := 0) rfl (sub_cons (d := 1) rfl (sub_cons (d := 2) rfl (sub_cons (d := 26) rfl (sub_nil _))))) (.refl _) ?_
        refine hl_nil ?_
        refine hq_then ?_
        refine hc_ret ?_
        refine hq_then_ret ?_
        exact hq_ans rfl rfl (congrArg _ (Bool.eq_false_iff.2 (fun h => by obtain ⟨q1, q2, q3, q4, q5⟩ := (leOkV_iff a).1 h; first | omega | (have := q5 j (by omega); omega) | contradiction | simp_all | (have := q5 j (by omega); omega))).symm)
    ·
      have h3a := inR_nah h3
      refine hl_v rfl rfl rfl (rv_ev rfl) ?_
      refine hl_v rfl rfl rfl (rv_ev rfl) ?_
      refine hl_v rfl rfl rfl (rv_ev rfl) ?_
      refine hl_skip rfl rfl rfl ?_
      refine hl_skip rfl rfl rfl ?_
      refine hl_skip rfl rfl rfl ?_
      refine hl_skip rfl rfl rfl ?_
      refine hl_v rfl rfl rfl (rv_ev rfl) ?_
      refine hl_v rfl rfl rfl (rv_ev rfl) ?_
      refine hl_skip rfl rfl rfl ?_
      refine hl_skip rfl rfl rfl ?_
      refine hl_skip rfl rfl rfl ?_
      refine hl_skip rfl rfl rfl ?_
      refine hl_v rfl rfl rfl (rv_ev rfl) ?_
      refine hl_less (sub_cons (d := 0) rfl (sub_cons (d := 1) rfl (sub_cons (d := 2) rfl (sub_cons (d := 26) rfl (sub_nil _))))) (.refl _) ?_
      refine hl_nil ?_
      refine hq_then ?_
      refine hc_true rfl ?_
      refine hc_seq ?_
      refine hc_region ?_
      refine hl_v rfl rfl rfl (rv_ev rfl) ?_
      refine hl_less (sub_cons (d := 0) rfl (sub_cons (d := 1) rfl (sub_cons (d := 2) rfl (sub_cons (d := 26) rfl (sub_nil _))))) (.refl _) ?_
      refine hl_nil ?_
      refine hq_then ?_
      refine hc_ret ?_
      refine hq_then_ret ?_
      exact hq_ans rfl rfl (congrArg _ (Bool.eq_false_iff.2 (fun h => by obtain ⟨q1, q2, q3, q4, q5⟩ := (leOkV_iff a).1 h; first | omega | (have := q5 j (by omega); omega) | contradiction | simp_all | (have := q5 j (by omega); omega))).symm)
set_option maxHeartbeats 4000000 in
set_option maxRecDepth 100000 in
theorem implTileConfigOk_ans (d : Dev) (t : Tc) (w : World) (ht : t.Rds w) :
    Calls Try.prog 40 #[.agg #[.int .i64 d.W, .int .i64 d.H, .int .i64 d.T, .int .i64 d.R], .agg #[t.mv, t.lv, .int .i64 t.pad, .int .i64 t.ram]] w (Ans w (.bool (tcOkV d t.val))) := by
  have hn1 := ht.nmx
  have hn2 := ht.nes
  refine calls_hc (N := 59) (args := [.agg #[.int .i64 d.W, .int .i64 d.H, .int .i64 d.T, .int .i64 d.R], .agg #[t.mv, t.lv, .int .i64 t.pad, .int .i64 t.ram]]) Try.func40 rfl rfl ?_
  refine hc_less _ (sub_cons (d := 0) rfl (sub_cons (d := 1) rfl (sub_nil _))) (.refl _) ?_
  refine hc_seq ?_
  refine hc_region ?_
  refine hl_box rfl rfl rfl (rq_box rfl rfl) ?_
  intro b1
  refine hl_box rfl rfl rfl (rq_box rfl rfl) ?_
  intro b2
  refine hl_v rfl rfl rfl (rv_ev rfl) ?_
  refine hl_less (sub_cons (d := 0) rfl (sub_cons (d := 1) rfl (sub_cons (d := 2) rfl (sub_cons (d := 3) rfl (sub_cons (d := 4) rfl (sub_nil _)))))) (.refl _) ?_
  refine hl_nil ?_
  refine hq_then ?_
  refine hc_seq ?_
  refine hc_seq ?_
  rcases Bool.eq_false_or_eq_true (devB d) with hb3 | hb3
  ·
    obtain ⟨-, -, ⟨l1, l2⟩, -⟩ := (devB_iff d).1 hb3
    rcases Bool.eq_false_or_eq_true ((t.mx.length : Int) != (5 + 4 * d.T)) with hb4 | hb4
    ·
      have hb4p : (t.mx.length : Int) ≠ 5 + 4 * d.T := bne_iff_ne.1 hb4
      refine hc_draw (by kernel_rfl) 29 [0, 1, 2, 3, 4, 5, 6, 7, 8, 9, 10, 11, 12, 13, 14, 15, 16, 17, 18, 19, 20, 21, 22, 23, 24, 25, 26, 27, 28] (List.take 29 _) (List.drop 29 _) [[], [0], [1], [2], [3], [3, 4], [3, 5], [3], [3, 7], [3, 6, 8], [3, 9], [10], [11], [11], [11], [11], [11, 15], [16], [17], [17], [17], [17], [17, 21], [22], [23], [23], [23], [23], [23, 27]] [7, 8, 9, 10, 11, 12, 13, 14, 15, 16, 17, 18, 19, 20, 21, 22, 23, 24, 25, 26, 27, 28, 29, 30, 31, 32, 33, 34, 35] (fun i vs_ v_ p_ => match i with | 0 => v_ = .agg #[.int .i64 d.W, .int .i64 d.H, .int .i64 d.T, .int .i64 d.R] ∧ p_ = [] | 1 => v_ = .bool true ∧ p_ = [] | 2 => v_ = .bool false ∧ p_ = [] | 3 => v_ = .bool false ∧ p_ = [] | 4 => v_ = .pointer (some ⟨b2, 0 + 0, none⟩) ∧ p_ = [] | 5 => v_ = t.mv ∧ p_ = [] | 6 => v_ = .int .i64 (t.mx.length : Int) ∧ p_ = [] | 7 => v_ = .agg #[.int .i64 d.W, .int .i64 d.H, .int .i64 d.T, .int .i64 d.R] ∧ p_ = [] | 8 => v_ = .int .i64 (5 + 4 * d.T) ∧ p_ = [] | 9 => v_ = .bool true ∧ p_ = [] | 10 => v_ = .bool true ∧ p_ = [] | 11 => v_ = .bool true ∧ p_ = [] | 12 => v_ = undef ∧ p_ = [] | 13 => v_ = undef ∧ p_ = [] | 14 => v_ = undef ∧ p_ = [] | 15 => v_ = undef ∧ p_ = [] | 16 => v_ = .bool true ∧ p_ = [] | 17 => v_ = .bool true ∧ p_ = [] | 18 => v_ = undef ∧ p_ = [] | 19 => v_ = undef ∧ p_ = [] | 20 => v_ = undef ∧ p_ = [] | 21 => v_ = undef ∧ p_ = [] | 22 => v_ = .bool true ∧ p_ = [] | 23 => v_ = .bool true ∧ p_ = [] | 24 => v_ = undef ∧ p_ = [] | 25 => v_ = undef ∧ p_ = [] | 26 => v_ = undef ∧ p_ = [] | 27 => v_ = undef ∧ p_ = [] | 28 => v_ = .bool true ∧ p_ = [] | _ => True) (List.take_append_drop 29 _).symm (by kernel_rfl) (by kernel_rfl) rfl rfl ?_ ?_
      ·
        refine ⟨?_, ?_, ?_, ?_, ?_, ?_, ?_, ?_, ?_, ?_, ?_, ?_, ?_, ?_, ?_, ?_, ?_, ?_, ?_, ?_, ?_, ?_, ?_, ?_, ?_, ?_, ?_, ?_, ?_, trivial⟩
        ·
          intro vf pf hR
          refine Or.inl ⟨rfl, ?_⟩
          refine rq_less (l' := [boxE b2 #[t.mv, t.lv, .int .i64 t.pad, .int .i64 t.ram] 39, boxE b1 #[.int .i64 d.W, .int .i64 d.H, .int .i64 d.T, .int .i64 d.R] 25]) (sub_cons (d := 2) rfl (sub_nil _)) (List.sublist_append_right _ _) ?_
          exact rq_v (rv_loadN (cs := [.int .i64 d.W, .int .i64 d.H, .int .i64 d.T, .int .i64 d.R]) rfl (by kernel_rfl) (by kernel_rfl) rfl rfl (box_part 1 rfl 0 rfl))
        ·
          intro vf pf hR
          have e0 : (vf 0) = .agg #[.int .i64 d.W, .int .i64 d.H, .int .i64 d.T, .int .i64 d.R] ∧ (pf 0) = [] := hR 0 (by decide)
          refine Or.inl ⟨rfl, ?_⟩
          refine rq_less (l' := [boxE b2 #[t.mv, t.lv, .int .i64 t.pad, .int .i64 t.ram] 39, boxE b1 #[.int .i64 d.W, .int .i64 d.H, .int .i64 d.T, .int .i64 d.R] 25]) (sub_cons (d := 7) (congrArg some e0.1) (sub_nil _)) (List.sublist_append_right _ _) ?_
          exact rq_mono (rq_call (by kernel_rfl) rfl (fun w hm => ret_ans (implDeviceOk_any d w))) (fun _ _ h => ⟨h.1.trans (congrArg Value.bool hb3), h.2⟩)
        ·
          intro vf pf hR
          have e1 : (vf 1) = .bool true ∧ (pf 1) = [] := hR 1 (by decide)
          refine Or.inl ⟨rfl, ?_⟩
          refine rq_less (l' := [boxE b2 #[t.mv, t.lv, .int .i64 t.pad, .int .i64 t.ram] 39, boxE b1 #[.int .i64 d.W, .int .i64 d.H, .int .i64 d.T, .int .i64 d.R] 25]) (sub_cons (d := 8) (congrArg some e1.1) (sub_nil _)) (List.sublist_append_right _ _) ?_
          exact rq_v (rv_ev rfl)
        ·
          intro vf pf hR
          have e2 : (vf 2) = .bool false ∧ (pf 2) = [] := hR 2 (by decide)
          refine Or.inl ⟨rfl, ?_⟩
          refine rq_less (l' := [boxE b2 #[t.mv, t.lv, .int .i64 t.pad, .int .i64 t.ram] 39, boxE b1 #[.int .i64 d.W, .int .i64 d.H, .int .i64 d.T, .int .i64 d.R] 25]) (sub_cons (d := 9) (congrArg some e2.1) (sub_nil _)) (List.sublist_append_right _ _) ?_
          exact rq_v (rv_ev rfl)
        ·
          intro vf pf hR
          have e3 : (vf 3) = .bool false ∧ (pf 3) = [] := hR 3 (by decide)
          refine Or.inl ⟨want_of (congrArg some e3.1) rfl, ?_⟩
          refine rq_less (l' := [boxE b2 #[t.mv, t.lv, .int .i64 t.pad, .int .i64 t.ram] 39, boxE b1 #[.int .i64 d.W, .int .i64 d.H, .int .i64 d.T, .int .i64 d.R] 25]) (sub_cons (d := 3) rfl (sub_nil _)) (List.sublist_append_right _ _) ?_
          exact rq_v (rv_field (k0 := 0) rfl (by kernel_rfl) rfl)
        ·
          intro vf pf hR
          have e3 : (vf 3) = .bool false ∧ (pf 3) = [] := hR 3 (by decide)
          have e4 : (vf 4) = .pointer (some ⟨b2, 0 + 0, none⟩) ∧ (pf 4) = [] := hR 4 (by decide)
          refine Or.inl ⟨want_of (congrArg some e3.1) rfl, ?_⟩
          refine rq_less (l' := [boxE b2 #[t.mv, t.lv, .int .i64 t.pad, .int .i64 t.ram] 39, boxE b1 #[.int .i64 d.W, .int .i64 d.H, .int .i64 d.T, .int .i64 d.R] 25]) (sub_cons (d := 11) (congrArg some e4.1) (sub_nil _)) (List.sublist_append_right _ _) ?_
          exact rq_v (rv_load rfl (by kernel_rfl) rfl (box_cell 0 rfl rfl))
        ·
          intro vf pf hR
          have e3 : (vf 3) = .bool false ∧ (pf 3) = [] := hR 3 (by decide)
          have e5 : (vf 5) = t.mv ∧ (pf 5) = [] := hR 5 (by decide)
          refine Or.inl ⟨want_of (congrArg some e3.1) rfl, ?_⟩
          refine rq_less (l' := [boxE b2 #[t.mv, t.lv, .int .i64 t.pad, .int .i64 t.ram] 39, boxE b1 #[.int .i64 d.W, .int .i64 d.H, .int .i64 d.T, .int .i64 d.R] 25]) (sub_cons (d := 12) (congrArg some e5.1) (sub_nil _)) (List.sublist_append_right _ _) ?_
          exact rq_v (rv_len rfl Try.underlying30 rfl (rd_old ht.mx))
        ·
          intro vf pf hR
          have e3 : (vf 3) = .bool false ∧ (pf 3) = [] := hR 3 (by decide)
          refine Or.inl ⟨want_of (congrArg some e3.1) rfl, ?_⟩
          refine rq_less (l' := [boxE b2 #[t.mv, t.lv, .int .i64 t.pad, .int .i64 t.ram] 39, boxE b1 #[.int .i64 d.W, .int .i64 d.H, .int .i64 d.T, .int .i64 d.R] 25]) (sub_cons (d := 2) rfl (sub_nil _)) (List.sublist_append_right _ _) ?_
          exact rq_v (rv_loadN (cs := [.int .i64 d.W, .int .i64 d.H, .int .i64 d.T, .int .i64 d.R]) rfl (by kernel_rfl) (by kernel_rfl) rfl rfl (box_part 1 rfl 0 rfl))
        ·
          intro vf pf hR
          have e3 : (vf 3) = .bool false ∧ (pf 3) = [] := hR 3 (by decide)
          have e7 : (vf 7) = .agg #[.int .i64 d.W, .int .i64 d.H, .int .i64 d.T, .int .i64 d.R] ∧ (pf 7) = [] := hR 7 (by decide)
          refine Or.inl ⟨want_of (congrArg some e3.1) rfl, ?_⟩
          refine rq_less (l' := [boxE b2 #[t.mv, t.lv, .int .i64 t.pad, .int .i64 t.ram] 39, boxE b1 #[.int .i64 d.W, .int .i64 d.H, .int .i64 d.T, .int .i64 d.R] 25]) (sub_cons (d := 14) (congrArg some e7.1) (sub_nil _)) (List.sublist_append_right _ _) ?_
          exact (rq_call (by kernel_rfl) rfl (fun w hm => ret_ans (implMux_any d (by assumption) w)))
        ·
          intro vf pf hR
          have e3 : (vf 3) = .bool false ∧ (pf 3) = [] := hR 3 (by decide)
          have e6 : (vf 6) = .int .i64 (t.mx.length : Int) ∧ (pf 6) = [] := hR 6 (by decide)
          have e8 : (vf 8) = .int .i64 (5 + 4 * d.T) ∧ (pf 8) = [] := hR 8 (by decide)
          refine Or.inl ⟨want_of (congrArg some e3.1) rfl, ?_⟩
          refine rq_less (l' := [boxE b2 #[t.mv, t.lv, .int .i64 t.pad, .int .i64 t.ram] 39, boxE b1 #[.int .i64 d.W, .int .i64 d.H, .int .i64 d.T, .int .i64 d.R] 25]) (sub_cons (d := 13) (congrArg some e6.1) (sub_cons (d := 15) (congrArg some e8.1) (sub_nil _))) (List.sublist_append_right _ _) ?_
          exact rq_mono (rq_v (rv_cmp rfl rfl rfl rfl)) (fun _ _ h => ⟨h.1.trans (congrArg Value.bool hb4), h.2⟩)
        ·
          intro vf pf hR
          have e3 : (vf 3) = .bool false ∧ (pf 3) = [] := hR 3 (by decide)
          have e9 : (vf 9) = .bool true ∧ (pf 9) = [] := hR 9 (by decide)
          refine Or.inl ⟨rfl, ?_⟩
          refine rq_less (l' := [boxE b2 #[t.mv, t.lv, .int .i64 t.pad, .int .i64 t.ram] 39, boxE b1 #[.int .i64 d.W, .int .i64 d.H, .int .i64 d.T, .int .i64 d.R] 25]) (sub_cons (d := 10) (congrArg some e3.1) (sub_cons (d := 16) (congrArg some e9.1) (sub_nil _))) (List.sublist_append_right _ _) ?_
          exact rq_v (rv_ev rfl)
        ·
          intro vf pf hR
          have e10 : (vf 10) = .bool true ∧ (pf 10) = [] := hR 10 (by decide)
          refine Or.inl ⟨rfl, ?_⟩
          refine rq_less (l' := [boxE b2 #[t.mv, t.lv, .int .i64 t.pad, .int .i64 t.ram] 39, boxE b1 #[.int .i64 d.W, .int .i64 d.H, .int .i64 d.T, .int .i64 d.R] 25]) (sub_cons (d := 17) (congrArg some e10.1) (sub_nil _)) (List.sublist_append_right _ _) ?_
          exact rq_v (rv_ev rfl)
        ·
          intro vf pf hR
          have e11 : (vf 11) = .bool true ∧ (pf 11) = [] := hR 11 (by decide)
          exact Or.inr ⟨want_of (congrArg some e11.1) rfl, rfl, rfl⟩
        ·
          intro vf pf hR
          have e11 : (vf 11) = .bool true ∧ (pf 11) = [] := hR 11 (by decide)
          exact Or.inr ⟨want_of (congrArg some e11.1) rfl, rfl, rfl⟩
        ·
          intro vf pf hR
          have e11 : (vf 11) = .bool true ∧ (pf 11) = [] := hR 11 (by decide)
          exact Or.inr ⟨want_of (congrArg some e11.1) rfl, rfl, rfl⟩
        ·
          intro vf pf hR
          have e11 : (vf 11) = .bool true ∧ (pf 11) = [] := hR 11 (by decide)
          exact Or.inr ⟨want_of (congrArg some e11.1) rfl, rfl, rfl⟩
        ·
          intro vf pf hR
          have e11 : (vf 11) = .bool true ∧ (pf 11) = [] := hR 11 (by decide)
          have e15 : (vf 15) = undef ∧ (pf 15) = [] := hR 15 (by decide)
          refine Or.inl ⟨rfl, ?_⟩
          refine rq_less (l' := [boxE b2 #[t.mv, t.lv, .int .i64 t.pad, .int .i64 t.ram] 39, boxE b1 #[.int .i64 d.W, .int .i64 d.H, .int .i64 d.T, .int .i64 d.R] 25]) (sub_cons (d := 18) (congrArg some e11.1) (sub_cons (d := 22) (congrArg some e15.1) (sub_nil _))) (List.sublist_append_right _ _) ?_
          exact rq_v (rv_ev rfl)
        ·
          intro vf pf hR
          have e16 : (vf 16) = .bool true ∧ (pf 16) = [] := hR 16 (by decide)
          refine Or.inl ⟨rfl, ?_⟩
          refine rq_less (l' := [boxE b2 #[t.mv, t.lv, .int .i64 t.pad, .int .i64 t.ram] 39, boxE b1 #[.int .i64 d.W, .int .i64 d.H, .int .i64 d.T, .int .i64 d.R] 25]) (sub_cons (d := 23) (congrArg some e16.1) (sub_nil _)) (List.sublist_append_right _ _) ?_
          exact rq_v (rv_ev rfl)
        ·
          intro vf pf hR
          have e17 : (vf 17) = .bool true ∧ (pf 17) = [] := hR 17 (by decide)
          exact Or.inr ⟨want_of (congrArg some e17.1) rfl, rfl, rfl⟩
        ·
          intro vf pf hR
          have e17 : (vf 17) = .bool true ∧ (pf 17) = [] := hR 17 (by decide)
          exact Or.inr ⟨want_of (congrArg some e17.1) rfl, rfl, rfl⟩
        ·
          intro vf pf hR
          have e17 : (vf 17) = .bool true ∧ (pf 17) = [] := hR 17 (by decide)
          exact Or.inr ⟨want_of (congrArg some e17.1) rfl, rfl, rfl⟩
        ·
          intro vf pf hR
          have e17 : (vf 17) = .bool true ∧ (pf 17) = [] := hR 17 (by decide)
          exact Or.inr ⟨want_of (congrArg some e17.1) rfl, rfl, rfl⟩
        ·
          intro vf pf hR
          have e17 : (vf 17) = .bool true ∧ (pf 17) = [] := hR 17 (by decide)
          have e21 : (vf 21) = undef ∧ (pf 21) = [] := hR 21 (by decide)
          refine Or.inl ⟨rfl, ?_⟩
          refine rq_less (l' := [boxE b2 #[t.mv, t.lv, .int .i64 t.pad, .int .i64 t.ram] 39, boxE b1 #[.int .i64 d.W, .int .i64 d.H, .int .i64 d.T, .int .i64 d.R] 25]) (sub_cons (d := 24) (congrArg some e17.1) (sub_cons (d := 28) (congrArg some e21.1) (sub_nil _))) (List.sublist_append_right _ _) ?_
          exact rq_v (rv_ev rfl)
        ·
          intro vf pf hR
          have e22 : (vf 22) = .bool true ∧ (pf 22) = [] := hR 22 (by decide)
          refine Or.inl ⟨rfl, ?_⟩
          refine rq_less (l' := [boxE b2 #[t.mv, t.lv, .int .i64 t.pad, .int .i64 t.ram] 39, boxE b1 #[.int .i64 d.W, .int .i64 d.H, .int .i64 d.T, .int .i64 d.R] 25]) (sub_cons (d := 29) (congrArg some e22.1) (sub_nil _)) (List.sublist_append_right _ _) ?_
          exact rq_v (rv_ev rfl)
        ·
          intro vf pf hR
          have e23 : (vf 23) = .bool true ∧ (pf 23) = [] := hR 23 (by decide)
          exact Or.inr ⟨want_of (congrArg some e23.1) rfl, rfl, rfl⟩
        ·
          intro vf pf hR
          have e23 : (vf 23) = .bool true ∧ (pf 23) = [] := hR 23 (by decide)
          exact Or.inr ⟨want_of (congrArg some e23.1) rfl, rfl, rfl⟩
        ·
          intro vf pf hR
          have e23 : (vf 23) = .bool true ∧ (pf 23) = [] := hR 23 (by decide)
          exact Or.inr ⟨want_of (congrArg some e23.1) rfl, rfl, rfl⟩
        ·
          intro vf pf hR
          have e23 : (vf 23) = .bool true ∧ (pf 23) = [] := hR 23 (by decide)
          exact Or.inr ⟨want_of (congrArg some e23.1) rfl, rfl, rfl⟩
        ·
          intro vf pf hR
          have e23 : (vf 23) = .bool true ∧ (pf 23) = [] := hR 23 (by decide)
          have e27 : (vf 27) = undef ∧ (pf 27) = [] := hR 27 (by decide)
          refine Or.inl ⟨rfl, ?_⟩
          refine rq_less (l' := [boxE b2 #[t.mv, t.lv, .int .i64 t.pad, .int .i64 t.ram] 39, boxE b1 #[.int .i64 d.W, .int .i64 d.H, .int .i64 d.T, .int .i64 d.R] 25]) (sub_cons (d := 30) (congrArg some e23.1) (sub_cons (d := 34) (congrArg some e27.1) (sub_nil _))) (List.sublist_append_right _ _) ?_
          exact rq_v (rv_ev rfl)
      ·
        intro vf pf hR
        have e28 : (vf 28) = .bool true ∧ (pf 28) = [] := hR 28 (by decide)
        refine hl_less (l' := [boxE b2 #[t.mv, t.lv, .int .i64 t.pad, .int .i64 t.ram] 39, boxE b1 #[.int .i64 d.W, .int .i64 d.H, .int .i64 d.T, .int .i64 d.R] 25]) (sub_cons (d := 0) rfl (sub_cons (d := 1) rfl (sub_cons (d := 2) rfl (sub_cons (d := 3) rfl (sub_cons (d := 4) rfl (sub_cons (d := 35) (congrArg some e28.1) (sub_nil _))))))) (List.sublist_append_right _ _) ?_
        simp only [List.drop_succ_cons, List.drop_zero]
        refine hl_less (sub_cons (d := 0) rfl (sub_cons (d := 1) rfl (sub_cons (d := 2) rfl (sub_cons (d := 3) rfl (sub_cons (d := 4) rfl (sub_cons (d := 35) rfl (sub_nil _))))))) (.refl _) ?_
        refine hl_nil ?_
        refine hq_then ?_
        refine hc_true rfl ?_
        refine hc_seq ?_
        refine hc_region ?_
        refine hl_v rfl rfl rfl (rv_ev rfl) ?_
        refine hl_less (sub_cons (d := 0) rfl (sub_cons (d := 1) rfl (sub_cons (d := 2) rfl (sub_cons (d := 3) rfl (sub_cons (d := 4) rfl (sub_cons (d := 35) rfl (sub_nil _))))))) (.refl _) ?_
        refine hl_nil ?_
        refine hq_then ?_
        refine hc_ret ?_
        refine hq_then_ret ?_
        exact hq_ans rfl rfl (congrArg _ (Bool.eq_false_iff.2 (fun h => by obtain ⟨q1, q2, q3, q4, q5, q6, q7⟩ := (tcOkV_iff d t).1 h; first | omega | (have := q6 j (by omega); omega) | (have := q7 0 (by omega); simp_all; done) | (have := q7 1 (by omega); simp_all; done) | contradiction | simp_all)).symm)
    ·
      have hb4p : (t.mx.length : Int) = 5 + 4 * d.T := by simpa using hb4
      rcases Bool.eq_false_or_eq_true ((t.es.length : Int) != 2) with hb5 | hb5
      ·
        have hb5p : (t.es.length : Int) ≠ 2 := bne_iff_ne.1 hb5
        refine hc_draw (by kernel_rfl) 29 [0, 1, 2, 3, 4, 5, 6, 7, 8, 9, 10, 11, 12, 13, 14, 15, 16, 17, 18, 19, 20, 21, 22, 23, 24, 25, 26, 27, 28] (List.take 29 _) (List.drop 29 _) [[], [0], [1], [2], [3], [3, 4], [3, 5], [3], [3, 7], [3, 6, 8], [3, 9], [10], [11], [11, 12], [11, 13], [11, 14], [11, 15], [16], [17], [17], [17], [17], [17, 21], [22], [23], [23], [23], [23], [23, 27]] [7, 8, 9, 10, 11, 12, 13, 14, 15, 16, 17, 18, 19, 20, 21, 22, 23, 24, 25, 26, 27, 28, 29, 30, 31, 32, 33, 34, 35] (fun i vs_ v_ p_ => match i with | 0 => v_ = .agg #[.int .i64 d.W, .int .i64 d.H, .int .i64 d.T, .int .i64 d.R] ∧ p_ = [] | 1 => v_ = .bool true ∧ p_ = [] | 2 => v_ = .bool false ∧ p_ = [] | 3 => v_ = .bool false ∧ p_ = [] | 4 => v_ = .pointer (some ⟨b2, 0 + 0, none⟩) ∧ p_ = [] | 5 => v_ = t.mv ∧ p_ = [] | 6 => v_ = .int .i64 (t.mx.length : Int) ∧ p_ = [] | 7 => v_ = .agg #[.int .i64 d.W, .int .i64 d.H, .int .i64 d.T, .int .i64 d.R] ∧ p_ = [] | 8 => v_ = .int .i64 (5 + 4 * d.T) ∧ p_ = [] | 9 => v_ = .bool false ∧ p_ = [] | 10 => v_ = .bool false ∧ p_ = [] | 11 => v_ = .bool false ∧ p_ = [] | 12 => v_ = .pointer (some ⟨b2, 0 + 1, none⟩) ∧ p_ = [] | 13 => v_ = t.lv ∧ p_ = [] | 14 => v_ = .int .i64 (t.es.length : Int) ∧ p_ = [] | 15 => v_ = .bool true ∧ p_ = [] | 16 => v_ = .bool true ∧ p_ = [] | 17 => v_ = .bool true ∧ p_ = [] | 18 => v_ = undef ∧ p_ = [] | 19 => v_ = undef ∧ p_ = [] | 20 => v_ = undef ∧ p_ = [] | 21 => v_ = undef ∧ p_ = [] | 22 => v_ = .bool true ∧ p_ = [] | 23 => v_ = .bool true ∧ p_ = [] | 24 => v_ = undef ∧ p_ = [] | 25 => v_ = undef ∧ p_ = [] | 26 => v_ = undef ∧ p_ = [] | 27 => v_ = undef ∧ p_ = [] | 28 => v_ = .bool true ∧ p_ = [] | _ => True) (List.take_append_drop 29 _).symm (by kernel_rfl) (by kernel_rfl) rfl rfl ?_ ?_
        ·
          refine ⟨?_, ?_, ?_, ?_, ?_, ?_, ?_, ?_, ?_, ?_, ?_, ?_, ?_, ?_, ?_, ?_, ?_, ?_, ?_, ?_, ?_, ?_, ?_, ?_, ?_, ?_, ?_, ?_, ?_, trivial⟩
          ·
            intro vf pf hR
            refine Or.inl ⟨rfl, ?_⟩
            refine rq_less (l' := [boxE b2 #[t.mv, t.lv, .int .i64 t.pad, .int .i64 t.ram] 39, boxE b1 #[.int .i64 d.W, .int .i64 d.H, .int .i64 d.T, .int .i64 d.R] 25]) (sub_cons (d := 2) rfl (sub_nil _)) (List.sublist_append_right _ _) ?_
            exact rq_v (rv_loadN (cs := [.int .i64 d.W, .int .i64 d.H, .int .i64 d.T, .int .i64 d.R]) rfl (by kernel_rfl) (by kernel_rfl) rfl rfl (box_part 1 rfl 0 rfl))
          ·
            intro vf pf hR
            have e0 : (vf 0) = .agg #[.int .i64 d.W, .int .i64 d.H, .int .i64 d.T, .int .i64 d.R] ∧ (pf 0) = [] := hR 0 (by decide)
            refine Or.inl ⟨rfl, ?_⟩
            refine rq_less (l' := [boxE b2 #[t.mv, t.lv, .int .i64 t.pad, .int .i64 t.ram] 39, boxE b1 #[.int .i64 d.W, .int .i64 d.H, .int .i64 d.T, .int .i64 d.R] 25]) (sub_cons (d := 7) (congrArg some e0.1) (sub_nil _)) (List.sublist_append_right _ _) ?_
            exact rq_mono (rq_call (by kernel_rfl) rfl (fun w hm => ret_ans (implDeviceOk_any d w))) (fun _ _ h => ⟨h.1.trans (congrArg Value.bool hb3), h.2⟩)
          ·
            intro vf pf hR
            have e1 : (vf 1) = .bool true ∧ (pf 1) = [] := hR 1 (by decide)
            refine Or.inl ⟨rfl, ?_⟩
            refine rq_less (l' := [boxE b2 #[t.mv, t.lv, .int .i64 t.pad, .int .i64 t.ram] 39, boxE b1 #[.int .i64 d.W, .int .i64 d.H, .int .i64 d.T, .int .i64 d.R] 25]) (sub_cons (d := 8) (congrArg some e1.1) (sub_nil _)) (List.sublist_append_right _ _) ?_
            exact rq_v (rv_ev rfl)
          ·
            intro vf pf hR
            have e2 : (vf 2) = .bool false ∧ (pf 2) = [] := hR 2 (by decide)
            refine Or.inl ⟨rfl, ?_⟩
            refine rq_less (l' := [boxE b2 #[t.mv, t.lv, .int .i64 t.pad, .int .i64 t.ram] 39, boxE b1 #[.int .i64 d.W, .int .i64 d.H, .int .i64 d.T, .int .i64 d.R] 25]) (sub_cons (d := 9) (congrArg some e2.1) (sub_nil _)) (List.sublist_append_right _ _) ?_
            exact rq_v (rv_ev rfl)
          ·
            intro vf pf hR
            have e3 : (vf 3) = .bool false ∧ (pf 3) = [] := hR 3 (by decide)
            refine Or.inl ⟨want_of (congrArg some e3.1) rfl, ?_⟩
            refine rq_less (l' := [boxE b2 #[t.mv, t.lv, .int .i64 t.pad, .int .i64 t.ram] 39, boxE b1 #[.int .i64 d.W, .int .i64 d.H, .int .i64 d.T, .int .i64 d.R] 25]) (sub_cons (d := 3) rfl (sub_nil _)) (List.sublist_append_right _ _) ?_
            exact rq_v (rv_field (k0 := 0) rfl (by kernel_rfl) rfl)
          ·
            intro vf pf hR
            have e3 : (vf 3) = .bool false ∧ (pf 3) = [] := hR 3 (by decide)
            have e4 : (vf 4) = .pointer (some ⟨b2, 0 + 0, none⟩) ∧ (pf 4) = [] := hR 4 (by decide)
            refine Or.inl ⟨want_of (congrArg some e3.1) rfl, ?_⟩
            refine rq_less (l' := [boxE b2 #[t.mv, t.lv, .int .i64 t.pad, .int .i64 t.ram] 39, boxE b1 #[.int .i64 d.W, .int .i64 d.H, .int .i64 d.T, .int .i64 d.R] 25]) (sub_cons (d := 11) (congrArg some e4.1) (sub_nil _)) (List.sublist_append_right _ _) ?_
            exact rq_v (rv_load rfl (by kernel_rfl) rfl (box_cell 0 rfl rfl))
          ·
            intro vf pf hR
            have e3 : (vf 3) = .bool false ∧ (pf 3) = [] := hR 3 (by decide)
            have e5 : (vf 5) = t.mv ∧ (pf 5) = [] := hR 5 (by decide)
            refine Or.inl ⟨want_of (congrArg some e3.1) rfl, ?_⟩
            refine rq_less (l' := [boxE b2 #[t.mv, t.lv, .int .i64 t.pad, .int .i64 t.ram] 39, boxE b1 #[.int .i64 d.W, .int .i64 d.H, .int .i64 d.T, .int .i64 d.R] 25]) (sub_cons (d := 12) (congrArg some e5.1) (sub_nil _)) (List.sublist_append_right _ _) ?_
            exact rq_v (rv_len rfl Try.underlying30 rfl (rd_old ht.mx))
          ·
            intro vf pf hR
            have e3 : (vf 3) = .bool false ∧ (pf 3) = [] := hR 3 (by decide)
            refine Or.inl ⟨want_of (congrArg some e3.1) rfl, ?_⟩
            refine rq_less (l' := [boxE b2 #[t.mv, t.lv, .int .i64 t.pad, .int .i64 t.ram] 39, boxE b1 #[.int .i64 d.W, .int .i64 d.H, .int .i64 d.T, .int .i64 d.R] 25]) (sub_cons (d := 2) rfl (sub_nil _)) (List.sublist_append_right _ _) ?_
            exact rq_v (rv_loadN (cs := [.int .i64 d.W, .int .i64 d.H, .int .i64 d.T, .int .i64 d.R]) rfl (by kernel_rfl) (by kernel_rfl) rfl rfl (box_part 1 rfl 0 rfl))
          ·
            intro vf pf hR
            have e3 : (vf 3) = .bool false ∧ (pf 3) = [] := hR 3 (by decide)
            have e7 : (vf 7) = .agg #[.int .i64 d.W, .int .i64 d.H, .int .i64 d.T, .int .i64 d.R] ∧ (pf 7) = [] := hR 7 (by decide)
            refine Or.inl ⟨want_of (congrArg some e3.1) rfl, ?_⟩
            refine rq_less (l' := [boxE b2 #[t.mv, t.lv, .int .i64 t.pad, .int .i64 t.ram] 39, boxE b1 #[.int .i64 d.W, .int .i64 d.H, .int .i64 d.T, .int .i64 d.R] 25]) (sub_cons (d := 14) (congrArg some e7.1) (sub_nil _)) (List.sublist_append_right _ _) ?_
            exact (rq_call (by kernel_rfl) rfl (fun w hm => ret_ans (implMux_any d (by assumption) w)))
          ·
            intro vf pf hR
            have e3 : (vf 3) = .bool false ∧ (pf 3) = [] := hR 3 (by decide)
            have e6 : (vf 6) = .int .i64 (t.mx.length : Int) ∧ (pf 6) = [] := hR 6 (by decide)
            have e8 : (vf 8) = .int .i64 (5 + 4 * d.T) ∧ (pf 8) = [] := hR 8 (by decide)
            refine Or.inl ⟨want_of (congrArg some e3.1) rfl, ?_⟩
            refine rq_less (l' := [boxE b2 #[t.mv, t.lv, .int .i64 t.pad, .int .i64 t.ram] 39, boxE b1 #[.int .i64 d.W, .int .i64 d.H, .int .i64 d.T, .int .i64 d.R] 25]) (sub_cons (d := 13) (congrArg some e6.1) (sub_cons (d := 15) (congrArg some e8.1) (sub_nil _))) (List.sublist_append_right _ _) ?_
            exact rq_mono (rq_v (rv_cmp rfl rfl rfl rfl)) (fun _ _ h => ⟨h.1.trans (congrArg Value.bool hb4), h.2⟩)
          ·
            intro vf pf hR
            have e3 : (vf 3) = .bool false ∧ (pf 3) = [] := hR 3 (by decide)
            have e9 : (vf 9) = .bool false ∧ (pf 9) = [] := hR 9 (by decide)
            refine Or.inl ⟨rfl, ?_⟩
            refine rq_less (l' := [boxE b2 #[t.mv, t.lv, .int .i64 t.pad, .int .i64 t.ram] 39, boxE b1 #[.int .i64 d.W, .int .i64 d.H, .int .i64 d.T, .int .i64 d.R] 25]) (sub_cons (d := 10) (congrArg some e3.1) (sub_cons (d := 16) (congrArg some e9.1) (sub_nil _))) (List.sublist_append_right _ _) ?_
            exact rq_v (rv_ev rfl)
          ·
            intro vf pf hR
            have e10 : (vf 10) = .bool false ∧ (pf 10) = [] := hR 10 (by decide)
            refine Or.inl ⟨rfl, ?_⟩
            refine rq_less (l' := [boxE b2 #[t.mv, t.lv, .int .i64 t.pad, .int .i64 t.ram] 39, boxE b1 #[.int .i64 d.W, .int .i64 d.H, .int .i64 d.T, .int .i64 d.R] 25]) (sub_cons (d := 17) (congrArg some e10.1) (sub_nil _)) (List.sublist_append_right _ _) ?_
            exact rq_v (rv_ev rfl)
          ·
            intro vf pf hR
            have e11 : (vf 11) = .bool false ∧ (pf 11) = [] := hR 11 (by decide)
            refine Or.inl ⟨want_of (congrArg some e11.1) rfl, ?_⟩
            refine rq_less (l' := [boxE b2 #[t.mv, t.lv, .int .i64 t.pad, .int .i64 t.ram] 39, boxE b1 #[.int .i64 d.W, .int .i64 d.H, .int .i64 d.T, .int .i64 d.R] 25]) (sub_cons (d := 3) rfl (sub_nil _)) (List.sublist_append_right _ _) ?_
            exact rq_v (rv_field (k0 := 1) rfl (by kernel_rfl) rfl)
          ·
            intro vf pf hR
            have e11 : (vf 11) = .bool false ∧ (pf 11) = [] := hR 11 (by decide)
            have e12 : (vf 12) = .pointer (some ⟨b2, 0 + 1, none⟩) ∧ (pf 12) = [] := hR 12 (by decide)
            refine Or.inl ⟨want_of (congrArg some e11.1) rfl, ?_⟩
            refine rq_less (l' := [boxE b2 #[t.mv, t.lv, .int .i64 t.pad, .int .i64 t.ram] 39, boxE b1 #[.int .i64 d.W, .int .i64 d.H, .int .i64 d.T, .int .i64 d.R] 25]) (sub_cons (d := 19) (congrArg some e12.1) (sub_nil _)) (List.sublist_append_right _ _) ?_
            exact rq_v (rv_load rfl (by kernel_rfl) rfl (box_cell 0 rfl rfl))
          ·
            intro vf pf hR
            have e11 : (vf 11) = .bool false ∧ (pf 11) = [] := hR 11 (by decide)
            have e13 : (vf 13) = t.lv ∧ (pf 13) = [] := hR 13 (by decide)
            refine Or.inl ⟨want_of (congrArg some e11.1) rfl, ?_⟩
            refine rq_less (l' := [boxE b2 #[t.mv, t.lv, .int .i64 t.pad, .int .i64 t.ram] 39, boxE b1 #[.int .i64 d.W, .int .i64 d.H, .int .i64 d.T, .int .i64 d.R] 25]) (sub_cons (d := 20) (congrArg some e13.1) (sub_nil _)) (List.sublist_append_right _ _) ?_
            exact rq_v (rv_len rfl Try.underlying37 rfl (rd_old ht.lv))
          ·
            intro vf pf hR
            have e11 : (vf 11) = .bool false ∧ (pf 11) = [] := hR 11 (by decide)
            have e14 : (vf 14) = .int .i64 (t.es.length : Int) ∧ (pf 14) = [] := hR 14 (by decide)
            refine Or.inl ⟨want_of (congrArg some e11.1) rfl, ?_⟩
            refine rq_less (l' := [boxE b2 #[t.mv, t.lv, .int .i64 t.pad, .int .i64 t.ram] 39, boxE b1 #[.int .i64 d.W, .int .i64 d.H, .int .i64 d.T, .int .i64 d.R] 25]) (sub_cons (d := 21) (congrArg some e14.1) (sub_nil _)) (List.sublist_append_right _ _) ?_
            exact rq_mono (rq_v (rv_cmp rfl rfl rfl rfl)) (fun _ _ h => ⟨h.1.trans (congrArg Value.bool hb5), h.2⟩)
          ·
            intro vf pf hR
            have e11 : (vf 11) = .bool false ∧ (pf 11) = [] := hR 11 (by decide)
            have e15 : (vf 15) = .bool true ∧ (pf 15) = [] := hR 15 (by decide)
            refine Or.inl ⟨rfl, ?_⟩
            refine rq_less (l' := [boxE b2 #[t.mv, t.lv, .int .i64 t.pad, .int .i64 t.ram] 39, boxE b1 #[.int .i64 d.W, .int .i64 d.H, .int .i64 d.T, .int .i64 d.R] 25]) (sub_cons (d := 18) (congrArg some e11.1) (sub_cons (d := 22) (congrArg some e15.1) (sub_nil _))) (List.sublist_append_right _ _) ?_
            exact rq_v (rv_ev rfl)
          ·
            intro vf pf hR
            have e16 : (vf 16) = .bool true ∧ (pf 16) = [] := hR 16 (by decide)
            refine Or.inl ⟨rfl, ?_⟩
            refine rq_less (l' := [boxE b2 #[t.mv, t.lv, .int .i64 t.pad, .int .i64 t.ram] 39, boxE b1 #[.int .i64 d.W, .int .i64 d.H, .int .i64 d.T, .int .i64 d.R] 25]) (sub_cons (d := 23) (congrArg some e16.1) (sub_nil _)) (List.sublist_append_right _ _) ?_
            exact rq_v (rv_ev rfl)
          ·
            intro vf pf hR
            have e17 : (vf 17) = .bool true ∧ (pf 17) = [] := hR 17 (by decide)
            exact Or.inr ⟨want_of (congrArg some e17.1) rfl, rfl, rfl⟩
          ·
            intro vf pf hR
            have e17 : (vf 17) = .bool true ∧ (pf 17) = [] := hR 17 (by decide)
            exact Or.inr ⟨want_of (congrArg some e17.1) rfl, rfl, rfl⟩
          ·
            intro vf pf hR
            have e17 : (vf 17) = .bool true ∧ (pf 17) = [] := hR 17 (by decide)
            exact Or.inr ⟨want_of (congrArg some e17.1) rfl, rfl, rfl⟩
          ·
            intro vf pf hR
            have e17 : (vf 17) = .bool true ∧ (pf 17) = [] := hR 17 (by decide)
            exact Or.inr ⟨want_of (congrArg some e17.1) rfl, rfl, rfl⟩
          ·
            intro vf pf hR
            have e17 : (vf 17) = .bool true ∧ (pf 17) = [] := hR 17 (by decide)
            have e21 : (vf 21) = undef ∧ (pf 21) = [] := hR 21 (by decide)
            refine Or.inl ⟨rfl, ?_⟩
            refine rq_less (l' := [boxE b2 #[t.mv, t.lv, .int .i64 t.pad, .int .i64 t.ram] 39, boxE b1 #[.int .i64 d.W, .int .i64 d.H, .int .i64 d.T, .int .i64 d.R] 25]) (sub_cons (d := 24) (congrArg some e17.1) (sub_cons (d := 28) (congrArg some e21.1) (sub_nil _))) (List.sublist_append_right _ _) ?_
            exact rq_v (rv_ev rfl)
          ·
            intro vf pf hR
            have e22 : (vf 22) = .bool true ∧ (pf 22) = [] := hR 22 (by decide)
            refine Or.inl ⟨rfl, ?_⟩
            refine rq_less (l' := [boxE b2 #[t.mv, t.lv, .int .i64 t.pad, .int .i64 t.ram] 39, boxE b1 #[.int .i64 d.W, .int .i64 d.H, .int .i64 d.T, .int .i64 d.R] 25]) (sub_cons (d := 29) (congrArg some e22.1) (sub_nil _)) (List.sublist_append_right _ _) ?_
            exact rq_v (rv_ev rfl)
          ·
            intro vf pf hR
            have e23 : (vf 23) = .bool true ∧ (pf 23) = [] := hR 23 (by decide)
            exact Or.inr ⟨want_of (congrArg some e23.1) rfl, rfl, rfl⟩
          ·
            intro vf pf hR
            have e23 : (vf 23) = .bool true ∧ (pf 23) = [] := hR 23 (by decide)
            exact Or.inr ⟨want_of (congrArg some e23.1) rfl, rfl, rfl⟩
          ·
            intro vf pf hR
            have e23 : (vf 23) = .bool true ∧ (pf 23) = [] := hR 23 (by decide)
            exact Or.inr ⟨want_of (congrArg some e23.1) rfl, rfl, rfl⟩
          ·
            intro vf pf hR
            have e23 : (vf 23) = .bool true ∧ (pf 23) = [] := hR 23 (by decide)
            exact Or.inr ⟨want_of (congrArg some e23.1) rfl, rfl, rfl⟩
          ·
            intro vf pf hR
            have e23 : (vf 23) = .bool true ∧ (pf 23) = [] := hR 23 (by decide)
            have e27 : (vf 27) = undef ∧ (pf 27) = [] := hR 27 (by decide)
            refine Or.inl ⟨rfl, ?_⟩
            refine rq_less (l' := [boxE b2 #[t.mv, t.lv, .int .i64 t.pad, .int .i64 t.ram] 39, boxE b1 #[.int .i64 d.W, .int .i64 d.H, .int .i64 d.T, .int .i64 d.R] 25]) (sub_cons (d := 30) (congrArg some e23.1) (sub_cons (d := 34) (congrArg some e27.1) (sub_nil _))) (List.sublist_append_right _ _) ?_
            exact rq_v (rv_ev rfl)
        ·
          intro vf pf hR
          have e28 : (vf 28) = .bool true ∧ (pf 28) = [] := hR 28 (by decide)
          refine hl_less (l' := [boxE b2 #[t.mv, t.lv, .int .i64 t.pad, .int .i64 t.ram] 39, boxE b1 #[.int .i64 d.W, .int .i64 d.H, .int .i64 d.T, .int .i64 d.R] 25]) (sub_cons (d := 0) rfl (sub_cons (d := 1) rfl (sub_cons (d := 2) rfl (sub_cons (d := 3) rfl (sub_cons (d := 4) rfl (sub_cons (d := 35) (congrArg some e28.1) (sub_nil _))))))) (List.sublist_append_right _ _) ?_
          simp only [List.drop_succ_cons, List.drop_zero]
          refine hl_less (sub_cons (d := 0) rfl (sub_cons (d := 1) rfl (sub_cons (d := 2) rfl (sub_cons (d := 3) rfl (sub_cons (d := 4) rfl (sub_cons (d := 35) rfl (sub_nil _))))))) (.refl _) ?_
          refine hl_nil ?_
          refine hq_then ?_
          refine hc_true rfl ?_
          refine hc_seq ?_
          refine hc_region ?_
          refine hl_v rfl rfl rfl (rv_ev rfl) ?_
          refine hl_less (sub_cons (d := 0) rfl (sub_cons (d := 1) rfl (sub_cons (d := 2) rfl (sub_cons (d := 3) rfl (sub_cons (d := 4) rfl (sub_cons (d := 35) rfl (sub_nil _))))))) (.refl _) ?_
          refine hl_nil ?_
          refine hq_then ?_
          refine hc_ret ?_
          refine hq_then_ret ?_
          exact hq_ans rfl rfl (congrArg _ (Bool.eq_false_iff.2 (fun h => by obtain ⟨q1, q2, q3, q4, q5, q6, q7⟩ := (tcOkV_iff d t).1 h; first | omega | (have := q6 j (by omega); omega) | (have := q7 0 (by omega); simp_all; done) | (have := q7 1 (by omega); simp_all; done) | contradiction | simp_all)).symm)
      ·
        have hb5p : (t.es.length : Int) = 2 := by simpa using hb5
        rcases Bool.eq_false_or_eq_true (inR t.pad 0 3) with hb6 | hb6
        ·
          obtain ⟨hb6a, hb6b⟩ := (inR_iff _ _ _).1 hb6
          rcases Bool.eq_false_or_eq_true (inR t.ram 0 31) with hb7 | hb7
          ·
            obtain ⟨hb7a, hb7b⟩ := (inR_iff _ _ _).1 hb7
            refine hc_draw (by kernel_rfl) 29 [0, 1, 2, 3, 4, 5, 6, 7, 8, 9, 10, 11, 12, 13, 14, 15, 16, 17, 18, 19, 20, 21, 22, 23, 24, 25, 26, 27, 28] (List.take 29 _) (List.drop 29 _) [[], [0], [1], [2], [3], [3, 4], [3, 5], [3], [3, 7], [3, 6, 8], [3, 9], [10], [11], [11, 12], [11, 13], [11, 14], [11, 15], [16], [17], [17, 18], [17, 19], [17, 20], [17, 21], [22], [23], [23, 24], [23, 25], [23, 26], [23, 27]] [7, 8, 9, 10, 11, 12, 13, 14, 15, 16, 17, 18, 19, 20, 21, 22, 23, 24, 25, 26, 27, 28, 29, 30, 31, 32, 33, 34, 35] (fun i vs_ v_ p_ => match i with | 0 => v_ = .agg #[.int .i64 d.W, .int .i64 d.H, .int .i64 d.T, .int .i64 d.R] ∧ p_ = [] | 1 => v_ = .bool true ∧ p_ = [] | 2 => v_ = .bool false ∧ p_ = [] | 3 => v_ = .bool false ∧ p_ = [] | 4 => v_ = .pointer (some ⟨b2, 0 + 0, none⟩) ∧ p_ = [] | 5 => v_ = t.mv ∧ p_ = [] | 6 => v_ = .int .i64 (t.mx.length : Int) ∧ p_ = [] | 7 => v_ = .agg #[.int .i64 d.W, .int .i64 d.H, .int .i64 d.T, .int .i64 d.R] ∧ p_ = [] | 8 => v_ = .int .i64 (5 + 4 * d.T) ∧ p_ = [] | 9 => v_ = .bool false ∧ p_ = [] | 10 => v_ = .bool false ∧ p_ = [] | 11 => v_ = .bool false ∧ p_ = [] | 12 => v_ = .pointer (some ⟨b2, 0 + 1, none⟩) ∧ p_ = [] | 13 => v_ = t.lv ∧ p_ = [] | 14 => v_ = .int .i64 (t.es.length : Int) ∧ p_ = [] | 15 => v_ = .bool false ∧ p_ = [] | 16 => v_ = .bool false ∧ p_ = [] | 17 => v_ = .bool false ∧ p_ = [] | 18 => v_ = .pointer (some ⟨b2, 0 + 2, none⟩) ∧ p_ = [] | 19 => v_ = .int .i64 t.pad ∧ p_ = [] | 20 => v_ = .bool true ∧ p_ = [] | 21 => v_ = .bool false ∧ p_ = [] | 22 => v_ = .bool false ∧ p_ = [] | 23 => v_ = .bool false ∧ p_ = [] | 24 => v_ = .pointer (some ⟨b2, 0 + 3, none⟩) ∧ p_ = [] | 25 => v_ = .int .i64 t.ram ∧ p_ = [] | 26 => v_ = .bool true ∧ p_ = [] | 27 => v_ = .bool false ∧ p_ = [] | 28 => v_ = .bool false ∧ p_ = [] | _ => True) (List.take_append_drop 29 _).symm (by kernel_rfl) (by kernel_rfl) rfl rfl ?_ ?_
            ·
              refine ⟨?_, ?_, ?_, ?_, ?_, ?_, ?_, ?_, ?_, ?_, ?_, ?_, ?_, ?_, ?_, ?_, ?_, ?_, ?_, ?_, ?_, ?_, ?_, ?_, ?_, ?_, ?_, ?_, ?_, trivial⟩
              ·
                intro vf pf hR
                refine Or.inl ⟨rfl, ?_⟩
                refine rq_less (l' := [boxE b2 #[t.mv, t.lv, .int .i64 t.pad, .int .i64 t.ram] 39, boxE b1 #[.int .i64 d.W, .int .i64 d.H, .int .i64 d.T, .int .i64 d.R] 25]) (sub_cons (d := 2) rfl (sub_nil _)) (List.sublist_append_right _ _) ?_
                exact rq_v (rv_loadN (cs := [.int .i64 d.W, .int .i64 d.H, .int .i64 d.T, .int .i64 d.R]) rfl (by kernel_rfl) (by kernel_rfl) rfl rfl (box_part 1 rfl 0 rfl))
              ·
                intro vf pf hR
                have e0 : (vf 0) = .agg #[.int .i64 d.W, .int .i64 d.H, .int .i64 d.T, .int .i64 d.R] ∧ (pf 0) = [] := hR 0 (by decide)
                refine Or.inl ⟨rfl, ?_⟩
                refine rq_less (l' := [boxE b2 #[t.mv, t.lv, .int .i64 t.pad, .int .i64 t.ram] 39, boxE b1 #[.int .i64 d.W, .int .i64 d.H, .int .i64 d.T, .int .i64 d.R] 25]) (sub_cons (d := 7) (congrArg some e0.1) (sub_nil _)) (List.sublist_append_right _ _) ?_
                exact rq_mono (rq_call (by kernel_rfl) rfl (fun w hm => ret_ans (implDeviceOk_any d w))) (fun _ _ h => ⟨h.1.trans (congrArg Value.bool hb3), h.2⟩)
              ·
                intro vf pf hR
                have e1 : (vf 1) = .bool true ∧ (pf 1) = [] := hR 1 (by decide)
                refine Or.inl ⟨rfl, ?_⟩
                refine rq_less (l' := [boxE b2 #[t.mv, t.lv, .int .i64 t.pad, .int .i64 t.ram] 39, boxE b1 #[.int .i64 d.W, .int .i64 d.H, .int .i64 d.T, .int .i64 d.R] 25]) (sub_cons (d := 8) (congrArg some e1.1) (sub_nil _)) (List.sublist_append_right _ _) ?_
                exact rq_v (rv_ev rfl)
              ·
                intro vf pf hR
                have e2 : (vf 2) = .bool false ∧ (pf 2) = [] := hR 2 (by decide)
                refine Or.inl ⟨rfl, ?_⟩
                refine rq_less (l' := [boxE b2 #[t.mv, t.lv, .int .i64 t.pad, .int .i64 t.ram] 39, boxE b1 #[.int .i64 d.W, .int .i64 d.H, .int .i64 d.T, .int .i64 d.R] 25]) (sub_cons (d := 9) (congrArg some e2.1) (sub_nil _)) (List.sublist_append_right _ _) ?_
                exact rq_v (rv_ev rfl)
              ·
                intro vf pf hR
                have e3 : (vf 3) = .bool false ∧ (pf 3) = [] := hR 3 (by decide)
                refine Or.inl ⟨want_of (congrArg some e3.1) rfl, ?_⟩
                refine rq_less (l' := [boxE b2 #[t.mv, t.lv, .int .i64 t.pad, .int .i64 t.ram] 39, boxE b1 #[.int .i64 d.W, .int .i64 d.H, .int .i64 d.T, .int .i64 d.R] 25]) (sub_cons (d := 3) rfl (sub_nil _)) (List.sublist_append_right _ _) ?_
                exact rq_v (rv_field (k0 := 0) rfl (by kernel_rfl) rfl)
              ·
                intro vf pf hR
                have e3 : (vf 3) = .bool false ∧ (pf 3) = [] := hR 3 (by decide)
                have e4 : (vf 4) = .pointer (some ⟨b2, 0 + 0, none⟩) ∧ (pf 4) = [] := hR 4 (by decide)
                refine Or.inl ⟨want_of (congrArg some e3.1) rfl, ?_⟩
                refine rq_less (l' := [boxE b2 #[t.mv, t.lv, .int .i64 t.pad, .int .i64 t.ram] 39, boxE b1 #[.int .i64 d.W, .int .i64 d.H, .int .i64 d.T, .int .i64 d.R] 25]) (sub_cons (d := 11) (congrArg some e4.1) (sub_nil _)) (List.sublist_append_right _ _) ?_
                exact rq_v (rv_load rfl (by kernel_rfl) rfl (box_cell 0 rfl rfl))
              ·
                intro vf pf hR
                have e3 : (vf 3) = .bool false ∧ (pf 3) = [] := hR 3 (by decide)
                have e5 : (vf 5) = t.mv ∧ (pf 5) = [] := hR 5 (by decide)
                refine Or.inl ⟨want_of (congrArg some e3.1) rfl, ?_⟩
                refine rq_less (l' := [boxE b2 #[t.mv, t.lv, .int .i64 t.pad, .int .i64 t.ram] 39, boxE b1 #[.int .i64 d.W, .int .i64 d.H, .int .i64 d.T, .int .i64 d.R] 25]) (sub_cons (d := 12) (congrArg some e5.1) (sub_nil _)) (List.sublist_append_right _ _) ?_
                exact rq_v (rv_len rfl Try.underlying30 rfl (rd_old ht.mx))
              ·
                intro vf pf hR
                have e3 : (vf 3) = .bool false ∧ (pf 3) = [] := hR 3 (by decide)
                refine Or.inl ⟨want_of (congrArg some e3.1) rfl, ?_⟩
                refine rq_less (l' := [boxE b2 #[t.mv, t.lv, .int .i64 t.pad, .int .i64 t.ram] 39, boxE b1 #[.int .i64 d.W, .int .i64 d.H, .int .i64 d.T, .int .i64 d.R] 25]) (sub_cons (d := 2) rfl (sub_nil _)) (List.sublist_append_right _ _) ?_
                exact rq_v (rv_loadN (cs := [.int .i64 d.W, .int .i64 d.H, .int .i64 d.T, .int .i64 d.R]) rfl (by kernel_rfl) (by kernel_rfl) rfl rfl (box_part 1 rfl 0 rfl))
              ·
                intro vf pf hR
                have e3 : (vf 3) = .bool false ∧ (pf 3) = [] := hR 3 (by decide)
                have e7 : (vf 7) = .agg #[.int .i64 d.W, .int .i64 d.H, .int .i64 d.T, .int .i64 d.R] ∧ (pf 7) = [] := hR 7 (by decide)
                refine Or.inl ⟨want_of (congrArg some e3.1) rfl, ?_⟩
                refine rq_less (l' := [boxE b2 #[t.mv, t.lv, .int .i64 t.pad, .int .i64 t.ram] 39, boxE b1 #[.int .i64 d.W, .int .i64 d.H, .int .i64 d.T, .int .i64 d.R] 25]) (sub_cons (d := 14) (congrArg some e7.1) (sub_nil _)) (List.sublist_append_right _ _) ?_
                exact (rq_call (by kernel_rfl) rfl (fun w hm => ret_ans (implMux_any d (by assumption) w)))
              ·
                intro vf pf hR
                have e3 : (vf 3) = .bool false ∧ (pf 3) = [] := hR 3 (by decide)
                have e6 : (vf 6) = .int .i64 (t.mx.length : Int) ∧ (pf 6) = [] := hR 6 (by decide)
                have e8 : (vf 8) = .int .i64 (5 + 4 * d.T) ∧ (pf 8) = [] := hR 8 (by decide)
                refine Or.inl ⟨want_of (congrArg some e3.1) rfl, ?_⟩
                refine rq_less (l' := [boxE b2 #[t.mv, t.lv, .int .i64 t.pad, .int .i64 t.ram] 39, boxE b1 #[.int .i64 d.W, .int .i64 d.H, .int .i64 d.T, .int .i64 d.R] 25]) (sub_cons (d := 13) (congrArg some e6.1) (sub_cons (d := 15) (congrArg some e8.1) (sub_nil _))) (List.sublist_append_right _ _) ?_
                exact rq_mono (rq_v (rv_cmp rfl rfl rfl rfl)) (fun _ _ h => ⟨h.1.trans (congrArg Value.bool hb4), h.2⟩)
              ·
                intro vf pf hR
                have e3 : (vf 3) = .bool false ∧ (pf 3) = [] := hR 3 (by decide)
                have e9 : (vf 9) = .bool false ∧ (pf 9) = [] := hR 9 (by decide)
                refine Or.inl ⟨rfl, ?_⟩
                refine rq_less (l' := [boxE b2 #[t.mv, t.lv, .int .i64 t.pad, .int .i64 t.ram] 39, boxE b1 #[.int .i64 d.W, .int .i64 d.H, .int .i64 d.T, .int .i64 d.R] 25]) (sub_cons (d := 10) (congrArg some e3.1) (sub_cons (d := 16) (congrArg some e9.1) (sub_nil _))) (List.sublist_append_right _ _) ?_
                exact rq_v (rv_ev rfl)
              ·
                intro vf pf hR
                have e10 : (vf 10) = .bool false ∧ (pf 10) = [] := hR 10 (by decide)
                refine Or.inl ⟨rfl, ?_⟩
                refine rq_less (l' := [boxE b2 #[t.mv, t.lv, .int .i64 t.pad, .int .i64 t.ram] 39, boxE b1 #[.int .i64 d.W, .int .i64 d.H, .int .i64 d.T, .int .i64 d.R] 25]) (sub_cons (d := 17) (congrArg some e10.1) (sub_nil _)) (List.sublist_append_right _ _) ?_
                exact rq_v (rv_ev rfl)
              ·
                intro vf pf hR
                have e11 : (vf 11) = .bool false ∧ (pf 11) = [] := hR 11 (by decide)
                refine Or.inl ⟨want_of (congrArg some e11.1) rfl, ?_⟩
                refine rq_less (l' := [boxE b2 #[t.mv, t.lv, .int .i64 t.pad, .int .i64 t.ram] 39, boxE b1 #[.int .i64 d.W, .int .i64 d.H, .int .i64 d.T, .int .i64 d.R] 25]) (sub_cons (d := 3) rfl (sub_nil _)) (List.sublist_append_right _ _) ?_
                exact rq_v (rv_field (k0 := 1) rfl (by kernel_rfl) rfl)
              ·
                intro vf pf hR
                have e11 : (vf 11) = .bool false ∧ (pf 11) = [] := hR 11 (by decide)
                have e12 : (vf 12) = .pointer (some ⟨b2, 0 + 1, none⟩) ∧ (pf 12) = [] := hR 12 (by decide)
                refine Or.inl ⟨want_of (congrArg some e11.1) rfl, ?_⟩
                refine rq_less (l' := [boxE b2 #[t.mv, t.lv, .int .i64 t.pad, .int .i64 t.ram] 39, boxE b1 #[.int .i64 d.W, .int .i64 d.H, .int .i64 d.T, .int .i64 d.R] 25]) (sub_cons (d := 19) (congrArg some e12.1) (sub_nil _)) (List.sublist_append_right _ _) ?_
                exact rq_v (rv_load rfl (by kernel_rfl) rfl (box_cell 0 rfl rfl))
              ·
                intro vf pf hR
                have e11 : (vf 11) = .bool false ∧ (pf 11) = [] := hR 11 (by decide)
                have e13 : (vf 13) = t.lv ∧ (pf 13) = [] := hR 13 (by decide)
                refine Or.inl ⟨want_of (congrArg some e11.1) rfl, ?_⟩
                refine rq_less (l' := [boxE b2 #[t.mv, t.lv, .int .i64 t.pad, .int .i64 t.ram] 39, boxE b1 #[.int .i64 d.W, .int .i64 d.H, .int .i64 d.T, .int .i64 d.R] 25]) (sub_cons (d := 20) (congrArg some e13.1) (sub_nil _)) (List.sublist_append_right _ _) ?_
                exact rq_v (rv_len rfl Try.underlying37 rfl (rd_old ht.lv))
              ·
                intro vf pf hR
                have e11 : (vf 11) = .bool false ∧ (pf 11) = [] := hR 11 (by decide)
                have e14 : (vf 14) = .int .i64 (t.es.length : Int) ∧ (pf 14) = [] := hR 14 (by decide)
                refine Or.inl ⟨want_of (congrArg some e11.1) rfl, ?_⟩
                refine rq_less (l' := [boxE b2 #[t.mv, t.lv, .int .i64 t.pad, .int .i64 t.ram] 39, boxE b1 #[.int .i64 d.W, .int .i64 d.H, .int .i64 d.T, .int .i64 d.R] 25]) (sub_cons (d := 21) (congrArg some e14.1) (sub_nil _)) (List.sublist_append_right _ _) ?_
                exact rq_mono (rq_v (rv_cmp rfl rfl rfl rfl)) (fun _ _ h => ⟨h.1.trans (congrArg Value.bool hb5), h.2⟩)
              ·
                intro vf pf hR
                have e11 : (vf 11) = .bool false ∧ (pf 11) = [] := hR 11 (by decide)
                have e15 : (vf 15) = .bool false ∧ (pf 15) = [] := hR 15 (by decide)
                refine Or.inl ⟨rfl, ?_⟩
                refine rq_less (l' := [boxE b2 #[t.mv, t.lv, .int .i64 t.pad, .int .i64 t.ram] 39, boxE b1 #[.int .i64 d.W, .int .i64 d.H, .int .i64 d.T, .int .i64 d.R] 25]) (sub_cons (d := 18) (congrArg some e11.1) (sub_cons (d := 22) (congrArg some e15.1) (sub_nil _))) (List.sublist_append_right _ _) ?_
                exact rq_v (rv_ev rfl)
              ·
                intro vf pf hR
                have e16 : (vf 16) = .bool false ∧ (pf 16) = [] := hR 16 (by decide)
                refine Or.inl ⟨rfl, ?_⟩
                refine rq_less (l' := [boxE b2 #[t.mv, t.lv, .int .i64 t.pad, .int .i64 t.ram] 39, boxE b1 #[.int .i64 d.W, .int .i64 d.H, .int .i64 d.T, .int .i64 d.R] 25]) (sub_cons (d := 23) (congrArg some e16.1) (sub_nil _)) (List.sublist_append_right _ _) ?_
                exact rq_v (rv_ev rfl)
              ·
                intro vf pf hR
                have e17 : (vf 17) = .bool false ∧ (pf 17) = [] := hR 17 (by decide)
                refine Or.inl ⟨want_of (congrArg some e17.1) rfl, ?_⟩
                refine rq_less (l' := [boxE b2 #[t.mv, t.lv, .int .i64 t.pad, .int .i64 t.ram] 39, boxE b1 #[.int .i64 d.W, .int .i64 d.H, .int .i64 d.T, .int .i64 d.R] 25]) (sub_cons (d := 3) rfl (sub_nil _)) (List.sublist_append_right _ _) ?_
                exact rq_v (rv_field (k0 := 2) rfl (by kernel_rfl) rfl)
              ·
                intro vf pf hR
                have e17 : (vf 17) = .bool false ∧ (pf 17) = [] := hR 17 (by decide)
                have e18 : (vf 18) = .pointer (some ⟨b2, 0 + 2, none⟩) ∧ (pf 18) = [] := hR 18 (by decide)
                refine Or.inl ⟨want_of (congrArg some e17.1) rfl, ?_⟩
                refine rq_less (l' := [boxE b2 #[t.mv, t.lv, .int .i64 t.pad, .int .i64 t.ram] 39, boxE b1 #[.int .i64 d.W, .int .i64 d.H, .int .i64 d.T, .int .i64 d.R] 25]) (sub_cons (d := 25) (congrArg some e18.1) (sub_nil _)) (List.sublist_append_right _ _) ?_
                exact rq_v (rv_load rfl (by kernel_rfl) rfl (box_cell 0 rfl rfl))
              ·
                intro vf pf hR
                have e17 : (vf 17) = .bool false ∧ (pf 17) = [] := hR 17 (by decide)
                have e19 : (vf 19) = .int .i64 t.pad ∧ (pf 19) = [] := hR 19 (by decide)
                refine Or.inl ⟨want_of (congrArg some e17.1) rfl, ?_⟩
                refine rq_less (l' := [boxE b2 #[t.mv, t.lv, .int .i64 t.pad, .int .i64 t.ram] 39, boxE b1 #[.int .i64 d.W, .int .i64 d.H, .int .i64 d.T, .int .i64 d.R] 25]) (sub_cons (d := 26) (congrArg some e19.1) (sub_nil _)) (List.sublist_append_right _ _) ?_
                exact rq_mono (rq_call (by kernel_rfl) rfl (fun w hm => ret_ans (ans_of (inRange_any _ _ _ w)))) (fun _ _ h => ⟨h.1.trans (congrArg Value.bool hb6), h.2⟩)
              ·
                intro vf pf hR
                have e17 : (vf 17) = .bool false ∧ (pf 17) = [] := hR 17 (by decide)
                have e20 : (vf 20) = .bool true ∧ (pf 20) = [] := hR 20 (by decide)
                refine Or.inl ⟨want_of (congrArg some e17.1) rfl, ?_⟩
                refine rq_less (l' := [boxE b2 #[t.mv, t.lv, .int .i64 t.pad, .int .i64 t.ram] 39, boxE b1 #[.int .i64 d.W, .int .i64 d.H, .int .i64 d.T, .int .i64 d.R] 25]) (sub_cons (d := 27) (congrArg some e20.1) (sub_nil _)) (List.sublist_append_right _ _) ?_
                exact rq_v (rv_ev rfl)
              ·
                intro vf pf hR
                have e17 : (vf 17) = .bool false ∧ (pf 17) = [] := hR 17 (by decide)
                have e21 : (vf 21) = .bool false ∧ (pf 21) = [] := hR 21 (by decide)
                refine Or.inl ⟨rfl, ?_⟩
                refine rq_less (l' := [boxE b2 #[t.mv, t.lv, .int .i64 t.pad, .int .i64 t.ram] 39, boxE b1 #[.int .i64 d.W, .int .i64 d.H, .int .i64 d.T, .int .i64 d.R] 25]) (sub_cons (d := 24) (congrArg some e17.1) (sub_cons (d := 28) (congrArg some e21.1) (sub_nil _))) (List.sublist_append_right _ _) ?_
                exact rq_v (rv_ev rfl)
              ·
                intro vf pf hR
                have e22 : (vf 22) = .bool false ∧ (pf 22) = [] := hR 22 (by decide)
                refine Or.inl ⟨rfl, ?_⟩
                refine rq_less (l' := [boxE b2 #[t.mv, t.lv, .int .i64 t.pad, .int .i64 t.ram] 39, boxE b1 #[.int .i64 d.W, .int .i64 d.H, .int .i64 d.T, .int .i64 d.R] 25]) (sub_cons (d := 29) (congrArg some e22.1) (sub_nil _)) (List.sublist_append_right _ _) ?_
                exact rq_v (rv_ev rfl)
              ·
                intro vf pf hR
                have e23 : (vf 23) = .bool false ∧ (pf 23) = [] := hR 23 (by decide)
                refine Or.inl ⟨want_of (congrArg some e23.1) rfl, ?_⟩
                refine rq_less (l' := [boxE b2 #[t.mv, t.lv, .int .i64 t.pad, .int .i64 t.ram] 39, boxE b1 #[.int .i64 d.W, .int .i64 d.H, .int .i64 d.T, .int .i64 d.R] 25]) (sub_cons (d := 3) rfl (sub_nil _)) (List.sublist_append_right _ _) ?_
                exact rq_v (rv_field (k0 := 3) rfl (by kernel_rfl) rfl)
              ·
                intro vf pf hR
                have e23 : (vf 23) = .bool false ∧ (pf 23) = [] := hR 23 (by decide)
                have e24 : (vf 24) = .pointer (some ⟨b2, 0 + 3, none⟩) ∧ (pf 24) = [] := hR 24 (by decide)
                refine Or.inl ⟨want_of (congrArg some e23.1) rfl, ?_⟩
                refine rq_less (l' := [boxE b2 #[t.mv, t.lv, .int .i64 t.pad, .int .i64 t.ram] 39, boxE b1 #[.int .i64 d.W, .int .i64 d.H, .int .i64 d.T, .int .i64 d.R] 25]) (sub_cons (d := 31) (congrArg some e24.1) (sub_nil _)) (List.sublist_append_right _ _) ?_
                exact rq_v (rv_load rfl (by kernel_rfl) rfl (box_cell 0 rfl rfl))
              ·
                intro vf pf hR
                have e23 : (vf 23) = .bool false ∧ (pf 23) = [] := hR 23 (by decide)
                have e25 : (vf 25) = .int .i64 t.ram ∧ (pf 25) = [] := hR 25 (by decide)
                refine Or.inl ⟨want_of (congrArg some e23.1) rfl, ?_⟩
                refine rq_less (l' := [boxE b2 #[t.mv, t.lv, .int .i64 t.pad, .int .i64 t.ram] 39, boxE b1 #[.int .i64 d.W, .int .i64 d.H, .int .i64 d.T, .int .i64 d.R] 25]) (sub_cons (d := 32) (congrArg some e25.1) (sub_nil _)) (List.sublist_append_right _ _) ?_
                exact rq_mono (rq_call (by kernel_rfl) rfl (fun w hm => ret_ans (ans_of (inRange_any _ _ _ w)))) (fun _ _ h => ⟨h.1.trans (congrArg Value.bool hb7), h.2⟩)
              ·
                intro vf pf hR
                have e23 : (vf 23) = .bool false ∧ (pf 23) = [] := hR 23 (by decide)
                have e26 : (vf 26) = .bool true ∧ (pf 26) = [] := hR 26 (by decide)
                refine Or.inl ⟨want_of (congrArg some e23.1) rfl, ?_⟩
                refine rq_less (l' := [boxE b2 #[t.mv, t.lv, .int .i64 t.pad, .int .i64 t.ram] 39, boxE b1 #[.int .i64 d.W, .int .i64 d.H, .int .i64 d.T, .int .i64 d.R] 25]) (sub_cons (d := 33) (congrArg some e26.1) (sub_nil _)) (List.sublist_append_right _ _) ?_
                exact rq_v (rv_ev rfl)
              ·
                intro vf pf hR
                have e23 : (vf 23) = .bool false ∧ (pf 23) = [] := hR 23 (by decide)
                have e27 : (vf 27) = .bool false ∧ (pf 27) = [] := hR 27 (by decide)
                refine Or.inl ⟨rfl, ?_⟩
                refine rq_less (l' := [boxE b2 #[t.mv, t.lv, .int .i64 t.pad, .int .i64 t.ram] 39, boxE b1 #[.int .i64 d.W, .int .i64 d.H, .int .i64 d.T, .int .i64 d.R] 25]) (sub_cons (d := 30) (congrArg some e23.1) (sub_cons (d := 34) (congrArg some e27.1) (sub_nil _))) (List.sublist_append_right _ _) ?_
                exact rq_v (rv_ev rfl)
            ·
              intro vf pf hR
              have e28 : (vf 28) = .bool false ∧ (pf 28) = [] := hR 28 (by decide)
              refine hl_less (l' := [boxE b2 #[t.mv, t.lv, .int .i64 t.pad, .int .i64 t.ram] 39, boxE b1 #[.int .i64 d.W, .int .i64 d.H, .int .i64 d.T, .int .i64 d.R] 25]) (sub_cons (d := 0) rfl (sub_cons (d := 1) rfl (sub_cons (d := 2) rfl (sub_cons (d := 3) rfl (sub_cons (d := 4) rfl (sub_cons (d := 35) (congrArg some e28.1) (sub_nil _))))))) (List.sublist_append_right _ _) ?_
              simp only [List.drop_succ_cons, List.drop_zero]
              refine hl_less (sub_cons (d := 0) rfl (sub_cons (d := 1) rfl (sub_cons (d := 2) rfl (sub_cons (d := 3) rfl (sub_cons (d := 4) rfl (sub_cons (d := 35) rfl (sub_nil _))))))) (.refl _) ?_
              refine hl_nil ?_
              refine hq_then ?_
              refine hc_false rfl ?_
              refine hc_skip ?_
              refine hq_then ?_
              refine hc_seq ?_
              refine hc_seq ?_
              refine hc_region ?_
              refine hl_v rfl rfl rfl (rv_field (k0 := 0) rfl (by kernel_rfl) rfl) ?_
              refine hl_v rfl rfl rfl (rv_load rfl (by kernel_rfl) rfl (box_cell 0 rfl rfl)) ?_
              refine hl_v rfl rfl rfl (rv_len rfl Try.underlying30 rfl (rd_old ht.mx)) ?_
              refine hl_v rfl rfl rfl (rv_ev rfl) ?_
              refine hl_less (sub_cons (d := 0) rfl (sub_cons (d := 1) rfl (sub_cons (d := 2) rfl (sub_cons (d := 3) rfl (sub_cons (d := 4) rfl (sub_cons (d := 35) rfl (sub_cons (d := 37) rfl (sub_cons (d := 38) rfl (sub_cons (d := 39) rfl (sub_nil _)))))))))) (.refl _) ?_
              refine hl_nil ?_
              refine hq_then ?_
              refine hc_block ?_
              refine hc_loop1 (α := Nat) (fun j => [boxE b2 #[t.mv, t.lv, .int .i64 t.pad, .int .i64 t.ram] 39, boxE b1 #[.int .i64 d.W, .int .i64 d.H, .int .i64 d.T, .int .i64 d.R] 25]) (fun j => [(0, .agg #[.int .i64 d.W, .int .i64 d.H, .int .i64 d.T, .int .i64 d.R]), (1, .agg #[t.mv, t.lv, .int .i64 t.pad, .int .i64 t.ram]), (2, .pointer (some ⟨b1, 0, none⟩)), (3, .pointer (some ⟨b2, 0, none⟩)), (4, .bool false), (35, .bool false), (37, t.mv), (38, .int .i64 (t.mx.length : Int)), (39, .int .i64 (j : Int))]) (fun j => j ≤ t.mx.length ∧ ∀ i, i < j → 0 ≤ t.mx.getD i 0 ∧ t.mx.getD i 0 ≤ 31) (fun j => t.mx.length - j) 0 ⟨by omega, fun i hi => absurd hi (by omega)⟩ (sub_cons (d := 0) rfl (sub_cons (d := 1) rfl (sub_cons (d := 2) rfl (sub_cons (d := 3) rfl (sub_cons (d := 4) rfl (sub_cons (d := 35) rfl (sub_cons (d := 37) rfl (sub_cons (d := 38) rfl (sub_cons (d := 39) rfl (sub_nil _)))))))))) ((.cons_cons _ (.cons_cons _ .slnil))) ?_
              intro j hi8
              obtain ⟨hk1, hk2⟩ := hi8
              refine hc_seq ?_
              refine hc_region ?_
              refine hl_lss rfl rfl rfl rfl rfl rfl (fun h9 => ?_) (fun h9 => ?_)
              ·
                refine hl_less (sub_cons (d := 0) rfl (sub_cons (d := 1) rfl (sub_cons (d := 2) rfl (sub_cons (d := 3) rfl (sub_cons (d := 4) rfl (sub_cons (d := 35) rfl (sub_cons (d := 37) rfl (sub_cons (d := 38) rfl (sub_cons (d := 39) rfl (sub_cons (d := 40) rfl (sub_nil _))))))))))) (.refl _) ?_
                refine hl_nil ?_
                refine hq_then ?_
                refine hc_seq ?_
                refine hc_true rfl ?_
                refine hc_skip ?_
                refine hq_then ?_
                refine hc_seq ?_
                refine hc_block ?_
                refine hc_seq ?_
                refine hc_region ?_
                refine hl_v rfl rfl rfl (rv_index (s := 1) rfl Try.underlying30 (by kernel_rfl) rfl rfl (rd_old ht.mx) (by omega) (by first | omega | (simp only [List.length_set]; omega))) ?_
                refine hl_v rfl rfl rfl (rv_loadEl (u := .int .i64 (t.mx.getD j 0)) rfl (by kernel_rfl) rfl (rd_old ht.mx) (ints_at1 (show _ < t.mx.length by first | omega | (simp only [List.length_set]; omega)))) ?_
                refine hl_v rfl rfl rfl (rv_ev rfl) ?_
                refine hl_less (sub_cons (d := 0) rfl (sub_cons (d := 1) rfl (sub_cons (d := 2) rfl (sub_cons (d := 3) rfl (sub_cons (d := 4) rfl (sub_cons (d := 6) rfl (sub_cons (d := 35) rfl (sub_cons (d := 37) rfl (sub_cons (d := 38) rfl (sub_cons (d := 39) rfl (sub_cons (d := 40) rfl (sub_nil _)))))))))))) (.refl _) ?_
                refine hl_nil ?_
                refine hq_then ?_
                refine hc_seq ?_
                refine hc_region ?_
                refine hl_v rfl rfl rfl (rv_ev rfl) ?_
                refine hl_callV rfl rfl rfl (rq_call (by kernel_rfl) rfl (fun w hm => ret_ans (ans_of (inRange_any _ _ _ w)))) ?_
                refine hl_bool (fun h10 => ?_) (fun h10 => ?_)
                ·
                  obtain ⟨h10a, h10b⟩ := (inR_iff _ _ _).1 h10
                  refine hl_v rfl rfl rfl (rv_ev rfl) ?_
                  refine hl_less (sub_cons (d := 0) rfl (sub_cons (d := 1) rfl (sub_cons (d := 2) rfl (sub_cons (d := 3) rfl (sub_cons (d := 4) rfl (sub_cons (d := 6) rfl (sub_cons (d := 35) rfl (sub_cons (d := 37) rfl (sub_cons (d := 38) rfl (sub_cons (d := 39) rfl (sub_cons (d := 40) rfl (sub_cons (d := 45) rfl (sub_nil _))))))))))))) (.refl _) ?_
                  refine hl_nil ?_
                  refine hq_then ?_
                  refine hc_false rfl ?_
                  refine hc_skip ?_
                  refine hq_block_normal ?_
                  refine hq_then ?_
                  refine hc_region ?_
                  refine hl_v rfl rfl rfl (rv_add rfl rfl rfl (by constructor <;> omega)) ?_
                  refine hl_v rfl rfl rfl (rv_ev rfl) ?_
                  refine hl_less (sub_cons (d := 0) rfl (sub_cons (d := 1) rfl (sub_cons (d := 2) rfl (sub_cons (d := 3) rfl (sub_cons (d := 4) rfl (sub_cons (d := 6) rfl (sub_cons (d := 35) rfl (sub_cons (d := 37) rfl (sub_cons (d := 38) rfl (sub_cons (d := 39) rfl (sub_cons (d := 40) rfl (sub_cons (d := 45) rfl (sub_nil _))))))))))))) (.refl _) ?_
                  refine hl_nil ?_
                  exact hq_round1 (j + 1) ⟨by omega, fun i hi => by by_cases hij : i = j; (subst hij; omega); exact hk2 i (by omega)⟩ (by omega) (sub_cons (d := 0) rfl (sub_cons (d := 1) rfl (sub_cons (d := 2) rfl (sub_cons (d := 3) rfl (sub_cons (d := 4) rfl (sub_cons (d := 35) rfl (sub_cons (d := 37) rfl (sub_cons (d := 38) rfl (sub_cons (d := 39) rfl (sub_nil _)))))))))) ((.cons_cons _ (.cons_cons _ .slnil)))
                ·
                  have h10a := inR_nah h10
                  refine hl_v rfl rfl rfl (rv_ev rfl) ?_
                  refine hl_less (sub_cons (d := 0) rfl (sub_cons (d := 1) rfl (sub_cons (d := 2) rfl (sub_cons (d := 3) rfl (sub_cons (d := 4) rfl (sub_cons (d := 6) rfl (sub_cons (d := 35) rfl (sub_cons (d := 37) rfl (sub_cons (d := 38) rfl (sub_cons (d := 39) rfl (sub_cons (d := 40) rfl (sub_cons (d := 45) rfl (sub_nil _))))))))))))) (.refl _) ?_
                  refine hl_nil ?_
                  refine hq_then ?_
                  refine hc_true rfl ?_
                  refine hc_seq ?_
                  refine hc_region ?_
                  refine hl_v rfl rfl rfl (rv_ev rfl) ?_
                  refine hl_less (sub_cons (d := 0) rfl (sub_cons (d := 1) rfl (sub_cons (d := 2) rfl (sub_cons (d := 3) rfl (sub_cons (d := 4) rfl (sub_cons (d := 6) rfl (sub_cons (d := 35) rfl (sub_cons (d := 37) rfl (sub_cons (d := 38) rfl (sub_cons (d := 39) rfl (sub_cons (d := 40) rfl (sub_cons (d := 45) rfl (sub_nil _))))))))))))) (.refl _) ?_
                  refine hl_nil ?_
                  refine hq_then ?_
                  refine hc_ret ?_
                  refine hq_block_ret ?_
                  refine hq_then_ret ?_
                  refine hq_then_ret ?_
                  refine hq_block_ret ?_
                  refine hq_then_ret ?_
                  exact hq_ans rfl rfl (congrArg _ (Bool.eq_false_iff.2 (fun h => by obtain ⟨q1, q2, q3, q4, q5, q6, q7⟩ := (tcOkV_iff d t).1 h; first | omega | (have := q6 j (by omega); omega) | (have := q7 0 (by omega); simp_all; done) | (have := q7 1 (by omega); simp_all; done) | contradiction | simp_all)).symm)
              ·
                refine hl_less (sub_cons (d := 0) rfl (sub_cons (d := 1) rfl (sub_cons (d := 2) rfl (sub_cons (d := 3) rfl (sub_cons (d := 4) rfl (sub_cons (d := 35) rfl (sub_cons (d := 37) rfl (sub_cons (d := 38) rfl (sub_cons (d := 39) rfl (sub_cons (d := 40) rfl (sub_nil _))))))))))) (.refl _) ?_
                refine hl_nil ?_
                refine hq_then ?_
                refine hc_seq ?_
                refine hc_false rfl ?_
                refine hc_exit ?_
                refine hq_then_exit ?_
                refine hq_then_exit ?_
                refine hq_block_exit ?_
                refine hq_then ?_
                refine hc_seq ?_
                refine hc_region ?_
                refine hl_v rfl rfl rfl (rv_field (k0 := 1) rfl (by kernel_rfl) rfl) ?_
                refine hl_v rfl rfl rfl (rv_load rfl (by kernel_rfl) rfl (box_cell 0 rfl rfl)) ?_
                refine hl_v rfl rfl rfl (rv_index (s := 4) rfl Try.underlying37 (by kernel_rfl) rfl rfl (rd_old ht.lv) (by omega) (by first | omega | (simp only [List.length_set]; omega))) ?_
                refine hl_v rfl rfl rfl (rv_loadElN (us := [(t.es.getD 0 Le0).v, .int .i64 ((t.es.getD 0 Le0).m), .int .i64 ((t.es.getD 0 Le0).f), .int .i64 ((t.es.getD 0 Le0).i)]) rfl (by kernel_rfl) (by kernel_rfl) rfl (rd_old ht.lv) (by omega) rfl (flat_atN Le.cells 4 (fun _ => rfl) t.es Le0 (show 0 < _ by first | omega | (simp only [List.length_set]; omega)) rfl)) ?_
                refine hl_callV rfl rfl rfl (rq_call (by kernel_rfl) rfl (fun w hm => ret_ans (leConfigOk_ans (t.es.getD 0 Le0) w ((ht.es _ (getD_mem' (by omega))).below hm.bel)))) ?_
                refine hl_bool (fun h11 => ?_) (fun h11 => ?_)
                ·
                  refine hl_v rfl rfl rfl (rv_ev rfl) ?_
                  refine hl_v rfl rfl rfl (rv_field (k0 := 1) rfl (by kernel_rfl) rfl) ?_
                  refine hl_v rfl rfl rfl (rv_load rfl (by kernel_rfl) rfl (box_cell 0 rfl rfl)) ?_
                  refine hl_v rfl rfl rfl (rv_index (s := 4) rfl Try.underlying37 (by kernel_rfl) rfl rfl (rd_old ht.lv) (by omega) (by first | omega | (simp only [List.length_set]; omega))) ?_
                  refine hl_v rfl rfl rfl (rv_loadElN (us := [(t.es.getD 1 Le0).v, .int .i64 ((t.es.getD 1 Le0).m), .int .i64 ((t.es.getD 1 Le0).f), .int .i64 ((t.es.getD 1 Le0).i)]) rfl (by kernel_rfl) (by kernel_rfl) rfl (rd_old ht.lv) (by omega) rfl (flat_atN Le.cells 4 (fun _ => rfl) t.es Le0 (show 1 < _ by first | omega | (simp only [List.length_set]; omega)) rfl)) ?_
                  refine hl_callV rfl rfl rfl (rq_call (by kernel_rfl) rfl (fun w hm => ret_ans (leConfigOk_ans (t.es.getD 1 Le0) w ((ht.es _ (getD_mem' (by omega))).below hm.bel)))) ?_
                  refine hl_bool (fun h12 => ?_) (fun h12 => ?_)
                  ·
                    refine hl_v rfl rfl rfl (rv_ev rfl) ?_
                    refine hl_v rfl rfl rfl (rv_ev rfl) ?_
                    refine hl_less (sub_cons (d := 0) rfl (sub_cons (d := 1) rfl (sub_cons (d := 2) rfl (sub_cons (d := 3) rfl (sub_cons (d := 4) rfl (sub_cons (d := 35) rfl (sub_cons (d := 37) rfl (sub_cons (d := 38) rfl (sub_cons (d := 39) rfl (sub_cons (d := 40) rfl (sub_nil _))))))))))) (.refl _) ?_
                    refine hl_nil ?_
                    refine hq_then ?_
                    refine hc_ret ?_
                    exact hq_ans rfl rfl (congrArg _ ((tcOkV_iff d t).2 ⟨by assumption, by omega, by omega, by omega, by omega, fun i hi => hk2 i (by omega), fun i hi => by rcases (show i = 0 ∨ i = 1 by omega) with rfl | rfl <;> assumption⟩).symm)
                  ·
                    refine hl_v rfl rfl rfl (rv_ev rfl) ?_
                    refine hl_v rfl rfl rfl (rv_ev rfl) ?_
                    refine hl_less (sub_cons (d := 0) rfl (sub_cons (d := 1) rfl (sub_cons (d := 2) rfl (sub_cons (d := 3) rfl (sub_cons (d := 4) rfl (sub_cons (d := 35) rfl (sub_cons (d := 37) rfl (sub_cons (d := 38) rfl (sub_cons (d := 39) rfl (sub_cons (d := 40) rfl (sub_nil _))))))))))) (.refl _) ?_
                    refine hl_nil ?_
                    refine hq_then ?_
                    refine hc_ret ?_
                    exact hq_ans rfl rfl (congrArg _ (Bool.eq_false_iff.2 (fun h => by obtain ⟨q1, q2, q3, q4, q5, q6, q7⟩ := (tcOkV_iff d t).1 h; first | omega | (have := q6 j (by omega); omega) | (have := q7 0 (by omega); simp_all; done) | (have := q7 1 (by omega); simp_all; done) | contradiction | simp_all)).symm)
                ·
                  refine hl_v rfl rfl rfl (rv_ev rfl) ?_
                  refine hl_skip rfl rfl rfl ?_
                  refine hl_skip rfl rfl rfl ?_
                  refine hl_skip rfl rfl rfl ?_
                  refine hl_skip rfl rfl rfl ?_
                  refine hl_skip rfl rfl rfl ?_
                  refine hl_v rfl rfl rfl (rv_ev rfl) ?_
                  refine hl_v rfl rfl rfl (rv_ev rfl) ?_
                  refine hl_less (sub_cons (d := 0) rfl (sub_cons (d := 1) rfl (sub_cons (d := 2) rfl (sub_cons (d := 3) rfl (sub_cons (d := 4) rfl (sub_cons (d := 35) rfl (sub_cons (d := 37) rfl (sub_cons (d := 38) rfl (sub_cons (d := 39) rfl (sub_cons (d := 40) rfl (sub_nil _))))))))))) (.refl _) ?_
                  refine hl_nil ?_
                  refine hq_then ?_
                  refine hc_ret ?_
                  exact hq_ans rfl rfl (congrArg _ (Bool.eq_false_iff.2 (fun h => by obtain ⟨q1, q2, q3, q4, q5, q6, q7⟩ := (tcOkV_iff d t).1 h; first | omega | (have := q6 j (by omega); omega) | (have := q7 0 (by omega); simp_all; done) | (have := q7 1 (by omega); simp_all; done) | contradiction | simp_all)).symm)
          ·
            have hb7a := inR_nah hb7
            refine hc_draw (by kernel_rfl) 29 [0, 1, 2, 3, 4, 5, 6, 7, 8, 9, 10, 11, 12, 13, 14, 15, 16, 17, 18, 19, 20, 21, 22, 23, 24, 25, 26, 27, 28] (List.take 29 _) (List.drop 29 _) [[], [0], [1], [2], [3], [3, 4], [3, 5], [3], [3, 7], [3, 6, 8], [3, 9], [10], [11], [11, 12], [11, 13], [11, 14], [11, 15], [16], [17], [17, 18], [17, 19], [17, 20], [17, 21], [22], [23], [23, 24], [23, 25], [23, 26], [23, 27]] [7, 8, 9, 10, 11, 12, 13, 14, 15, 16, 17, 18, 19, 20, 21, 22, 23, 24, 25, 26, 27, 28, 29, 30, 31, 32, 33, 34, 35] (fun i vs_ v_ p_ => match i with | 0 => v_ = .agg #[.int .i64 d.W, .int .i64 d.H, .int .i64 d.T, .int .i64 d.R] ∧ p_ = [] | 1 => v_ = .bool true ∧ p_ = [] | 2 => v_ = .bool false ∧ p_ = [] | 3 => v_ = .bool false ∧ p_ = [] | 4 => v_ = .pointer (some ⟨b2, 0 + 0, none⟩) ∧ p_ = [] | 5 => v_ = t.mv ∧ p_ = [] | 6 => v_ = .int .i64 (t.mx.length : Int) ∧ p_ = [] | 7 => v_ = .agg #[.int .i64 d.W, .int .i64 d.H, .int .i64 d.T, .int .i64 d.R] ∧ p_ = [] | 8 => v_ = .int .i64 (5 + 4 * d.T) ∧ p_ = [] | 9 => v_ = .bool false ∧ p_ = [] | 10 => v_ = .bool false ∧ p_ = [] | 11 => v_ = .bool false ∧ p_ = [] | 12 => v_ = .pointer (some ⟨b2, 0 + 1, none⟩) ∧ p_ = [] | 13 => v_ = t.lv ∧ p_ = [] | 14 => v_ = .int .i64 (t.es.length : Int) ∧ p_ = [] | 15 => v_ = .bool false ∧ p_ = [] | 16 => v_ = .bool false ∧ p_ = [] | 17 => v_ = .bool false ∧ p_ = [] | 18 => v_ = .pointer (some ⟨b2, 0 + 2, none⟩) ∧ p_ = [] | 19 => v_ = .int .i64 t.pad ∧ p_ = [] | 20 => v_ = .bool true ∧ p_ = [] | 21 => v_ = .bool false ∧ p_ = [] | 22 => v_ = .bool false ∧ p_ = [] | 23 => v_ = .bool false ∧ p_ = [] | 24 => v_ = .pointer (some ⟨b2, 0 + 3, none⟩) ∧ p_ = [] | 25 => v_ = .int .i64 t.ram ∧ p_ = [] | 26 => v_ = .bool false ∧ p_ = [] | 27 => v_ = .bool true ∧ p_ = [] | 28 => v_ = .bool true ∧ p_ = [] | _ => True) (List.take_append_drop 29 _).symm (by kernel_rfl) (by kernel_rfl) rfl rfl ?_ ?_
            ·
              refine ⟨?_, ?_, ?_, ?_, ?_, ?_, ?_, ?_, ?_, ?_, ?_, ?_, ?_, ?_, ?_, ?_, ?_, ?_, ?_, ?_, ?_, ?_, ?_, ?_, ?_, ?_, ?_, ?_, ?_, trivial⟩
              ·
                intro vf pf hR
                refine Or.inl ⟨rfl, ?_⟩
                refine rq_less (l' := [boxE b2 #[t.mv, t.lv, .int .i64 t.pad, .int .i64 t.ram] 39, boxE b1 #[.int .i64 d.W, .int .i64 d.H, .int .i64 d.T, .int .i64 d.R] 25]) (sub_cons (d := 2) rfl (sub_nil _)) (List.sublist_append_right _ _) ?_
                exact rq_v (rv_loadN (cs := [.int .i64 d.W, .int .i64 d.H, .int .i64 d.T, .int .i64 d.R]) rfl (by kernel_rfl) (by kernel_rfl) rfl rfl (box_part 1 rfl 0 rfl))
              ·
                intro vf pf hR
                have e0 : (vf 0) = .agg #[.int .i64 d.W, .int .i64 d.H, .int .i64 d.T, .int .i64 d.R] ∧ (pf 0) = [] := hR 0 (by decide)
                refine Or.inl ⟨rfl, ?_⟩
                refine rq_less (l' := [boxE b2 #[t.mv, t.lv, .int .i64 t.pad, .int .i64 t.ram] 39, boxE b1 #[.int .i64 d.W, .int .i64 d.H, .int .i64 d.T, .int .i64 d.R] 25]) (sub_cons (d := 7) (congrArg some e0.1) (sub_nil _)) (List.sublist_append_right _ _) ?_
                exact rq_mono (rq_call (by kernel_rfl) rfl (fun w hm => ret_ans (implDeviceOk_any d w))) (fun _ _ h => ⟨h.1.trans (congrArg Value.bool hb3), h.2⟩)
              ·
                intro vf pf hR
                have e1 : (vf 1) = .bool true ∧ (pf 1) = [] := hR 1 (by decide)
                refine Or.inl ⟨rfl, ?_⟩
                refine rq_less (l' := [boxE b2 #[t.mv, t.lv, .int .i64 t.pad, .int .i64 t.ram] 39, boxE b1 #[.int .i64 d.W, .int .i64 d.H, .int .i64 d.T, .int .i64 d.R] 25]) (sub_cons (d := 8) (congrArg some e1.1) (sub_nil _)) (List.sublist_append_right _ _) ?_
                exact rq_v (rv_ev rfl)
              ·
                intro vf pf hR
                have e2 : (vf 2) = .bool false ∧ (pf 2) = [] := hR 2 (by decide)
                refine Or.inl ⟨rfl, ?_⟩
                refine rq_less (l' := [boxE b2 #[t.mv, t.lv, .int .i64 t.pad, .int .i64 t.ram] 39, boxE b1 #[.int .i64 d.W, .int .i64 d.H, .int .i64 d.T, .int .i64 d.R] 25]) (sub_cons (d := 9) (congrArg some e2.1) (sub_nil _)) (List.sublist_append_right _ _) ?_
                exact rq_v (rv_ev rfl)
              ·
                intro vf pf hR
                have e3 : (vf 3) = .bool false ∧ (pf 3) = [] := hR 3 (by decide)
                refine Or.inl ⟨want_of (congrArg some e3.1) rfl, ?_⟩
                refine rq_less (l' := [boxE b2 #[t.mv, t.lv, .int .i64 t.pad, .int .i64 t.ram] 39, boxE b1 #[.int .i64 d.W, .int .i64 d.H, .int .i64 d.T, .int .i64 d.R] 25]) (sub_cons (d := 3) rfl (sub_nil _)) (List.sublist_append_right _ _) ?_
                exact rq_v (rv_field (k0 := 0) rfl (by kernel_rfl) rfl)
              ·
                intro vf pf hR
                have e3 : (vf 3) = .bool false ∧ (pf 3) = [] := hR 3 (by decide)
                have e4 : (vf 4) = .pointer (some ⟨b2, 0 + 0, none⟩) ∧ (pf 4) = [] := hR 4 (by decide)
                refine Or.inl ⟨want_of (congrArg some e3.1) rfl, ?_⟩
                refine rq_less (l' := [boxE b2 #[t.mv, t.lv, .int .i64 t.pad, .int .i64 t.ram] 39, boxE b1 #[.int .i64 d.W, .int .i64 d.H, .int .i64 d.T, .int .i64 d.R] 25]) (sub_cons (d := 11) (congrArg some e4.1) (sub_nil _)) (List.sublist_append_right _ _) ?_
                exact rq_v (rv_load rfl (by kernel_rfl) rfl (box_cell 0 rfl rfl))
              ·
                intro vf pf hR
                have e3 : (vf 3) = .bool false ∧ (pf 3) = [] := hR 3 (by decide)
                have e5 : (vf 5) = t.mv ∧ (pf 5) = [] := hR 5 (by decide)
                refine Or.inl ⟨want_of (congrArg some e3.1) rfl, ?_⟩
                refine rq_less (l' := [boxE b2 #[t.mv, t.lv, .int .i64 t.pad, .int .i64 t.ram] 39, boxE b1 #[.int .i64 d.W, .int .i64 d.H, .int .i64 d.T, .int .i64 d.R] 25]) (sub_cons (d := 12) (congrArg some e5.1) (sub_nil _)) (List.sublist_append_right _ _) ?_
                exact rq_v (rv_len rfl Try.underlying30 rfl (rd_old ht.mx))
              ·
                intro vf pf hR
                have e3 : (vf 3) = .bool false ∧ (pf 3) = [] := hR 3 (by decide)
                refine Or.inl ⟨want_of (congrArg some e3.1) rfl, ?_⟩
                refine rq_less (l' := [boxE b2 #[t.mv, t.lv, .int .i64 t.pad, .int .i64 t.ram] 39, boxE b1 #[.int .i64 d.W, .int .i64 d.H, .int .i64 d.T, .int .i64 d.R] 25]) (sub_cons (d := 2) rfl (sub_nil _)) (List.sublist_append_right _ _) ?_
                exact rq_v (rv_loadN (cs := [.int .i64 d.W, .int .i64 d.H, .int .i64 d.T, .int .i64 d.R]) rfl (by kernel_rfl) (by kernel_rfl) rfl rfl (box_part 1 rfl 0 rfl))
              ·
                intro vf pf hR
                have e3 : (vf 3) = .bool false ∧ (pf 3) = [] := hR 3 (by decide)
                have e7 : (vf 7) = .agg #[.int .i64 d.W, .int .i64 d.H, .int .i64 d.T, .int .i64 d.R] ∧ (pf 7) = [] := hR 7 (by decide)
                refine Or.inl ⟨want_of (congrArg some e3.1) rfl, ?_⟩
                refine rq_less (l' := [boxE b2 #[t.mv, t.lv, .int .i64 t.pad, .int .i64 t.ram] 39, boxE b1 #[.int .i64 d.W, .int .i64 d.H, .int .i64 d.T, .int .i64 d.R] 25]) (sub_cons (d := 14) (congrArg some e7.1) (sub_nil _)) (List.sublist_append_right _ _) ?_
                exact (rq_call (by kernel_rfl) rfl (fun w hm => ret_ans (implMux_any d (by assumption) w)))
              ·
                intro vf pf hR
                have e3 : (vf 3) = .bool false ∧ (pf 3) = [] := hR 3 (by decide)
                have e6 : (vf 6) = .int .i64 (t.mx.length : Int) ∧ (pf 6) = [] := hR 6 (by decide)
                have e8 : (vf 8) = .int .i64 (5 + 4 * d.T) ∧ (pf 8) = [] := hR 8 (by decide)
                refine Or.inl ⟨want_of (congrArg some e3.1) rfl, ?_⟩
                refine rq_less (l' := [boxE b2 #[t.mv, t.lv, .int .i64 t.pad, .int .i64 t.ram] 39, boxE b1 #[.int .i64 d.W, .int .i64 d.H, .int .i64 d.T, .int .i64 d.R] 25]) (sub_cons (d := 13) (congrArg some e6.1) (sub_cons (d := 15) (congrArg some e8.1) (sub_nil _))) (List.sublist_append_right _ _) ?_
                exact rq_mono (rq_v (rv_cmp rfl rfl rfl rfl)) (fun _ _ h => ⟨h.1.trans (congrArg Value.bool hb4), h.2⟩)
              ·
                intro vf pf hR
                have e3 : (vf 3) = .bool false ∧ (pf 3) = [] := hR 3 (by decide)
                have e9 : (vf 9) = .bool false ∧ (pf 9) = [] := hR 9 (by decide)
                refine Or.inl ⟨rfl, ?_⟩
                refine rq_less (l' := [boxE b2 #[t.mv, t.lv, .int .i64 t.pad, .int .i64 t.ram] 39, boxE b1 #[.int .i64 d.W, .int .i64 d.H, .int .i64 d.T, .int .i64 d.R] 25]) (sub_cons (d := 10) (congrArg some e3.1) (sub_cons (d := 16) (congrArg some e9.1) (sub_nil _))) (List.sublist_append_right _ _) ?_
                exact rq_v (rv_ev rfl)
              ·
                intro vf pf hR
                have e10 : (vf 10) = .bool false ∧ (pf 10) = [] := hR 10 (by decide)
                refine Or.inl ⟨rfl, ?_⟩
                refine rq_less (l' := [boxE b2 #[t.mv, t.lv, .int .i64 t.pad, .int .i64 t.ram] 39, boxE b1 #[.int .i64 d.W, .int .i64 d.H, .int .i64 d.T, .int .i64 d.R] 25]) (sub_cons (d := 17) (congrArg some e10.1) (sub_nil _)) (List.sublist_append_right _ _) ?_
                exact rq_v (rv_ev rfl)
              ·
                intro vf pf hR
                have e11 : (vf 11) = .bool false ∧ (pf 11) = [] := hR 11 (by decide)
                refine Or.inl ⟨want_of (congrArg some e11.1) rfl, ?_⟩
                refine rq_less (l' := [boxE b2 #[t.mv, t.lv, .int .i64 t.pad, .int .i64 t.ram] 39, boxE b1 #[.int .i64 d.W, .int .i64 d.H, .int .i64 d.T, .int .i64 d.R] 25]) (sub_cons (d := 3) rfl (sub_nil _)) (List.sublist_append_right _ _) ?_
                exact rq_v (rv_field (k0 := 1) rfl (by kernel_rfl) rfl)
              ·
                intro vf pf hR
                have e11 : (vf 11) = .bool false ∧ (pf 11) = [] := hR 11 (by decide)
                have e12 : (vf 12) = .pointer (some ⟨b2, 0 + 1, none⟩) ∧ (pf 12) = [] := hR 12 (by decide)
                refine Or.inl ⟨want_of (congrArg some e11.1) rfl, ?_⟩
                refine rq_less (l' := [boxE b2 #[t.mv, t.lv, .int .i64 t.pad, .int .i64 t.ram] 39, boxE b1 #[.int .i64 d.W, .int .i64 d.H, .int .i64 d.T, .int .i64 d.R] 25]) (sub_cons (d := 19) (congrArg some e12.1) (sub_nil _)) (List.sublist_append_right _ _) ?_
                exact rq_v (rv_load rfl (by kernel_rfl) rfl (box_cell 0 rfl rfl))
              ·
                intro vf pf hR
                have e11 : (vf 11) = .bool false ∧ (pf 11) = [] := hR 11 (by decide)
                have e13 : (vf 13) = t.lv ∧ (pf 13) = [] := hR 13 (by decide)
                refine Or.inl ⟨want_of (congrArg some e11.1) rfl, ?_⟩
                refine rq_less (l' := [boxE b2 #[t.mv, t.lv, .int .i64 t.pad, .int .i64 t.ram] 39, boxE b1 #[.int .i64 d.W, .int .i64 d.H, .int .i64 d.T, .int .i64 d.R] 25]) (sub_cons (d := 20) (congrArg some e13.1) (sub_nil _)) (List.sublist_append_right _ _) ?_
                exact rq_v (rv_len rfl Try.underlying37 rfl (rd_old ht.lv))
              ·
                intro vf pf hR
                have e11 : (vf 11) = .bool false ∧ (pf 11) = [] := hR 11 (by decide)
                have e14 : (vf 14) = .int .i64 (t.es.length : Int) ∧ (pf 14) = [] := hR 14 (by decide)
                refine Or.inl ⟨want_of (congrArg some e11.1) rfl, ?_⟩
                refine rq_less (l' := [boxE b2 #[t.mv, t.lv, .int .i64 t.pad, .int .i64 t.ram] 39, boxE b1 #[.int .i64 d.W, .int .i64 d.H, .int .i64 d.T, .int .i64 d.R] 25]) (sub_cons (d := 21) (congrArg some e14.1) (sub_nil _)) (List.sublist_append_right _ _) ?_
                exact rq_mono (rq_v (rv_cmp rfl rfl rfl rfl)) (fun _ _ h => ⟨h.1.trans (congrArg Value.bool hb5), h.2⟩)
              ·
                intro vf pf hR
                have e11 : (vf 11) = .bool false ∧ (pf 11) = [] := hR 11 (by decide)
                have e15 : (vf 15) = .bool false ∧ (pf 15) = [] := hR 15 (by decide)
                refine Or.inl ⟨rfl, ?_⟩
                refine rq_less (l' := [boxE b2 #[t.mv, t.lv, .int .i64 t.pad, .int .i64 t.ram] 39, boxE b1 #[.int .i64 d.W, .int .i64 d.H, .int .i64 d.T, .int .i64 d.R] 25]) (sub_cons (d := 18) (congrArg some e11.1) (sub_cons (d := 22) (congrArg some e15.1) (sub_nil _))) (List.sublist_append_right _ _) ?_
                exact rq_v (rv_ev rfl)
              ·
                intro vf pf hR
                have e16 : (vf 16) = .bool false ∧ (pf 16) = [] := hR 16 (by decide)
                refine Or.inl ⟨rfl, ?_⟩
                refine rq_less (l' := [boxE b2 #[t.mv, t.lv, .int .i64 t.pad, .int .i64 t.ram] 39, boxE b1 #[.int .i64 d.W, .int .i64 d.H, .int .i64 d.T, .int .i64 d.R] 25]) (sub_cons (d := 23) (congrArg some e16.1) (sub_nil _)) (List.sublist_append_right _ _) ?_
                exact rq_v (rv_ev rfl)
              ·
                intro vf pf hR
                have e17 : (vf 17) = .bool false ∧ (pf 17) = [] := hR 17 (by decide)
                refine Or.inl ⟨want_of (congrArg some e17.1) rfl, ?_⟩
                refine rq_less (l' := [boxE b2 #[t.mv, t.lv, .int .i64 t.pad, .int .i64 t.ram] 39, boxE b1 #[.int .i64 d.W, .int .i64 d.H, .int .i64 d.T, .int .i64 d.R] 25]) (sub_cons (d := 3) rfl (sub_nil _)) (List.sublist_append_right _ _) ?_
                exact rq_v (rv_field (k0 := 2) rfl (by kernel_rfl) rfl)
              ·
                intro vf pf hR
                have e17 : (vf 17) = .bool false ∧ (pf 17) = [] := hR 17 (by decide)
                have e18 : (vf 18) = .pointer (some ⟨b2, 0 + 2, none⟩) ∧ (pf 18) = [] := hR 18 (by decide)
                refine Or.inl ⟨want_of (congrArg some e17.1) rfl, ?_⟩
                refine rq_less (l' := [boxE b2 #[t.mv, t.lv, .int .i64 t.pad, .int .i64 t.ram] 39, boxE b1 #[.int .i64 d.W, .int .i64 d.H, .int .i64 d.T, .int .i64 d.R] 25]) (sub_cons (d := 25) (congrArg some e18.1) (sub_nil _)) (List.sublist_append_right _ _) ?_
                exact rq_v (rv_load rfl (by kernel_rfl) rfl (box_cell 0 rfl rfl))
              ·
                intro vf pf hR
                have e17 : (vf 17) = .bool false ∧ (pf 17) = [] := hR 17 (by decide)
                have e19 : (vf 19) = .int .i64 t.pad ∧ (pf 19) = [] := hR 19 (by decide)
                refine Or.inl ⟨want_of (congrArg some e17.1) rfl, ?_⟩
                refine rq_less (l' := [boxE b2 #[t.mv, t.lv, .int .i64 t.pad, .int .i64 t.ram] 39, boxE b1 #[.int .i64 d.W, .int .i64 d.H, .int .i64 d.T, .int .i64 d.R] 25]) (sub_cons (d := 26) (congrArg some e19.1) (sub_nil _)) (List.sublist_append_right _ _) ?_
                exact rq_mono (rq_call (by kernel_rfl) rfl (fun w hm => ret_ans (ans_of (inRange_any _ _ _ w)))) (fun _ _ h => ⟨h.1.trans (congrArg Value.bool hb6), h.2⟩)
              ·
                intro vf pf hR
                have e17 : (vf 17) = .bool false ∧ (pf 17) = [] := hR 17 (by decide)
                have e20 : (vf 20) = .bool true ∧ (pf 20) = [] := hR 20 (by decide)
                refine Or.inl ⟨want_of (congrArg some e17.1) rfl, ?_⟩
                refine rq_less (l' := [boxE b2 #[t.mv, t.lv, .int .i64 t.pad, .int .i64 t.ram] 39, boxE b1 #[.int .i64 d.W, .int .i64 d.H, .int .i64 d.T, .int .i64 d.R] 25]) (sub_cons (d := 27) (congrArg some e20.1) (sub_nil _)) (List.sublist_append_right _ _) ?_
                exact rq_v (rv_ev rfl)
              ·
                intro vf pf hR
                have e17 : (vf 17) = .bool false ∧ (pf 17) = [] := hR 17 (by decide)
                have e21 : (vf 21) = .bool false ∧ (pf 21) = [] := hR 21 (by decide)
                refine Or.inl ⟨rfl, ?_⟩
                refine rq_less (l' := [boxE b2 #[t.mv, t.lv, .int .i64 t.pad, .int .i64 t.ram] 39, boxE b1 #[.int .i64 d.W, .int .i64 d.H, .int .i64 d.T, .int .i64 d.R] 25]) (sub_cons (d := 24) (congrArg some e17.1) (sub_cons (d := 28) (congrArg some e21.1) (sub_nil _))) (List.sublist_append_right _ _) ?_
                exact rq_v (rv_ev rfl)
              ·
                intro vf pf hR
                have e22 : (vf 22) = .bool false ∧ (pf 22) = [] := hR 22 (by decide)
                refine Or.inl ⟨rfl, ?_⟩
                refine rq_less (l' := [boxE b2 #[t.mv, t.lv, .int .i64 t.pad, .int .i64 t.ram] 39, boxE b1 #[.int .i64 d.W, .int .i64 d.H, .int .i64 d.T, .int .i64 d.R] 25]) (sub_cons (d := 29) (congrArg some e22.1) (sub_nil _)) (List.sublist_append_right _ _) ?_
                exact rq_v (rv_ev rfl)
              ·
                intro vf pf hR
                have e23 : (vf 23) = .bool false ∧ (pf 23) = [] := hR 23 (by decide)
                refine Or.inl ⟨want_of (congrArg some e23.1) rfl, ?_⟩
                refine rq_less (l' := [boxE b2 #[t.mv, t.lv, .int .i64 t.pad, .int .i64 t.ram] 39, boxE b1 #[.int .i64 d.W, .int .i64 d.H, .int .i64 d.T, .int .i64 d.R] 25]) (sub_cons (d := 3) rfl (sub_nil _)) (List.sublist_append_right _ _) ?_
                exact rq_v (rv_field (k0 := 3) rfl (by kernel_rfl) rfl)
              ·
                intro vf pf hR
                have e23 : (vf 23) = .bool false ∧ (pf 23) = [] := hR 23 (by decide)
                have e24 : (vf 24) = .pointer (some ⟨b2, 0 + 3, none⟩) ∧ (pf 24) = [] := hR 24 (by decide)
                refine Or.inl ⟨want_of (congrArg some e23.1) rfl, ?_⟩
                refine rq_less (l' := [boxE b2 #[t.mv, t.lv, .int .i64 t.pad, .int .i64 t.ram] 39, boxE b1 #[.int .i64 d.W, .int .i64 d.H, .int .i64 d.T, .int .i64 d.R] 25]) (sub_cons (d := 31) (congrArg some e24.1) (sub_nil _)) (List.sublist_append_right _ _) ?_
                exact rq_v (rv_load rfl (by kernel_rfl) rfl (box_cell 0 rfl rfl))
              ·
                intro vf pf hR
                have e23 : (vf 23) = .bool false ∧ (pf 23) = [] := hR 23 (by decide)
                have e25 : (vf 25) = .int .i64 t.ram ∧ (pf 25) = [] := hR 25 (by decide)
                refine Or.inl ⟨want_of (congrArg some e23.1) rfl, ?_⟩
                refine rq_less (l' := [boxE b2 #[t.mv, t.lv, .int .i64 t.pad, .int .i64 t.ram] 39, boxE b1 #[.int .i64 d.W, .int .i64 d.H, .int .i64 d.T, .int .i64 d.R] 25]) (sub_cons (d := 32) (congrArg some e25.1) (sub_nil _)) (List.sublist_append_right _ _) ?_
                exact rq_mono (rq_call (by kernel_rfl) rfl (fun w hm => ret_ans (ans_of (inRange_any _ _ _ w)))) (fun _ _ h => ⟨h.1.trans (congrArg Value.bool hb7), h.2⟩)
              ·
                intro vf pf hR
                have e23 : (vf 23) = .bool false ∧ (pf 23) = [] := hR 23 (by decide)
                have e26 : (vf 26) = .bool false ∧ (pf 26) = [] := hR 26 (by decide)
                refine Or.inl ⟨want_of (congrArg some e23.1) rfl, ?_⟩
                refine rq_less (l' := [boxE b2 #[t.mv, t.lv, .int .i64 t.pad, .int .i64 t.ram] 39, boxE b1 #[.int .i64 d.W, .int .i64 d.H, .int .i64 d.T, .int .i64 d.R] 25]) (sub_cons (d := 33) (congrArg some e26.1) (sub_nil _)) (List.sublist_append_right _ _) ?_
                exact rq_v (rv_ev rfl)
              ·
                intro vf pf hR
                have e23 : (vf 23) = .bool false ∧ (pf 23) = [] := hR 23 (by decide)
                have e27 : (vf 27) = .bool true ∧ (pf 27) = [] := hR 27 (by decide)
                refine Or.inl ⟨rfl, ?_⟩
                refine rq_less (l' := [boxE b2 #[t.mv, t.lv, .int .i64 t.pad, .int .i64 t.ram] 39, boxE b1 #[.int .i64 d.W, .int .i64 d.H, .int .i64 d.T, .int .i64 d.R] 25]) (sub_cons (d := 30) (congrArg some e23.1) (sub_cons (d := 34) (congrArg some e27.1) (sub_nil _))) (List.sublist_append_right _ _) ?_
                exact rq_v (rv_ev rfl)
            ·
              intro vf pf hR
              have e28 : (vf 28) = .bool true ∧ (pf 28) = [] := hR 28 (by decide)
              refine hl_less (l' := [boxE b2 #[t.mv, t.lv, .int .i64 t.pad, .int .i64 t.ram] 39, boxE b1 #[.int .i64 d.W, .int .i64 d.H, .int .i64 d.T, .int .i64 d.R] 25]) (sub_cons (d := 0) rfl (sub_cons (d := 1) rfl (sub_cons (d := 2) rfl (sub_cons (d := 3) rfl (sub_cons (d := 4) rfl (sub_cons (d := 35) (congrArg some e28.1) (sub_nil _))))))) (List.sublist_append_right _ _) ?_
              simp only [List.drop_succ_cons, List.drop_zero]
              refine hl_less (sub_cons (d := 0) rfl (sub_cons (d := 1) rfl (sub_cons (d := 2) rfl (sub_cons (d := 3) rfl (sub_cons (d := 4) rfl (sub_cons (d := 35) rfl (sub_nil _))))))) (.refl _) ?_
              refine hl_nil ?_
              refine hq_then ?_
              refine hc_true rfl ?_
              refine hc_seq ?_
              refine hc_region ?_
              refine hl_v rfl rfl rfl (rv_ev rfl) ?_
              refine hl_less (sub_cons (d := 0) rfl (sub_cons (d := 1) rfl (sub_cons (d := 2) rfl (sub_cons (d := 3) rfl (sub_cons (d := 4) rfl (sub_cons (d := 35) rfl (sub_nil _))))))) (.refl _) ?_
              refine hl_nil ?_
              refine hq_then ?_
              refine hc_ret ?_
              refine hq_then_ret ?_
              exact hq_ans rfl rfl (congrArg _ (Bool.eq_false_iff.2 (fun h => by obtain ⟨q1, q2, q3, q4, q5, q6, q7⟩ := (tcOkV_iff d t).1 h; first | omega | (have := q6 j (by omega); omega) | (have := q7 0 (by omega); simp_all; done) | (have := q7 1 (by omega); simp_all; done) | contradiction | simp_all)).symm)
        ·
          have hb6a := inR_nah hb6
          refine hc_draw (by kernel_rfl) 29 [0, 1, 2, 3, 4, 5, 6, 7, 8, 9, 10, 11, 12, 13, 14, 15, 16, 17, 18, 19, 20, 21, 22, 23, 24, 25, 26, 27, 28] (List.take 29 _) (List.drop 29 _) [[], [0], [1], [2], [3], [3, 4], [3, 5], [3], [3, 7], [3, 6, 8], [3, 9], [10], [11], [11, 12], [11, 13], [11, 14], [11, 15], [16], [17], [17, 18], [17, 19], [17, 20], [17, 21], [22], [23], [23], [23], [23], [23, 27]] [7, 8, 9, 10, 11, 12, 13, 14, 15, 16, 17, 18, 19, 20, 21, 22, 23, 24, 25, 26, 27, 28, 29, 30, 31, 32, 33, 34, 35] (fun i vs_ v_ p_ => match i with | 0 => v_ = .agg #[.int .i64 d.W, .int .i64 d.H, .int .i64 d.T, .int .i64 d.R] ∧ p_ = [] | 1 => v_ = .bool true ∧ p_ = [] | 2 => v_ = .bool false ∧ p_ = [] | 3 => v_ = .bool false ∧ p_ = [] | 4 => v_ = .pointer (some ⟨b2, 0 + 0, none⟩) ∧ p_ = [] | 5 => v_ = t.mv ∧ p_ = [] | 6 => v_ = .int .i64 (t.mx.length : Int) ∧ p_ = [] | 7 => v_ = .agg #[.int .i64 d.W, .int .i64 d.H, .int .i64 d.T, .int .i64 d.R] ∧ p_ = [] | 8 => v_ = .int .i64 (5 + 4 * d.T) ∧ p_ = [] | 9 => v_ = .bool false ∧ p_ = [] | 10 => v_ = .bool false ∧ p_ = [] | 11 => v_ = .bool false ∧ p_ = [] | 12 => v_ = .pointer (some ⟨b2, 0 + 1, none⟩) ∧ p_ = [] | 13 => v_ = t.lv ∧ p_ = [] | 14 => v_ = .int .i64 (t.es.length : Int) ∧ p_ = [] | 15 => v_ = .bool false ∧ p_ = [] | 16 => v_ = .bool false ∧ p_ = [] | 17 => v_ = .bool false ∧ p_ = [] | 18 => v_ = .pointer (some ⟨b2, 0 + 2, none⟩) ∧ p_ = [] | 19 => v_ = .int .i64 t.pad ∧ p_ = [] | 20 => v_ = .bool false ∧ p_ = [] | 21 => v_ = .bool true ∧ p_ = [] | 22 => v_ = .bool true ∧ p_ = [] | 23 => v_ = .bool true ∧ p_ = [] | 24 => v_ = undef ∧ p_ = [] | 25 => v_ = undef ∧ p_ = [] | 26 => v_ = undef ∧ p_ = [] | 27 => v_ = undef ∧ p_ = [] | 28 => v_ = .bool true ∧ p_ = [] | _ => True) (List.take_append_drop 29 _).symm (by kernel_rfl) (by kernel_rfl) rfl rfl ?_ ?_
          ·
            refine ⟨?_, ?_, ?_, ?_, ?_, ?_, ?_, ?_, ?_, ?_, ?_, ?_, ?_, ?_, ?_, ?_, ?_, ?_, ?_, ?_, ?_, ?_, ?_, ?_, ?_, ?_, ?_, ?_, ?_, trivial⟩
            ·
              intro vf pf hR
              refine Or.inl ⟨rfl, ?_⟩
              refine rq_less (l' := [boxE b2 #[t.mv, t.lv, .int .i64 t.pad, .int .i64 t.ram] 39, boxE b1 #[.int .i64 d.W, .int .i64 d.H, .int .i64 d.T, .int .i64 d.R] 25]) (sub_cons (d := 2) rfl (sub_nil _)) (List.sublist_append_right _ _) ?_
              exact rq_v (rv_loadN (cs := [.int .i64 d.W, .int .i64 d.H, .int .i64 d.T, .int .i64 d.R]) rfl (by kernel_rfl) (by kernel_rfl) rfl rfl (box_part 1 rfl 0 rfl))
            ·
              intro vf pf hR
              have e0 : (vf 0) = .agg #[.int .i64 d.W, .int .i64 d.H, .int .i64 d.T, .int .i64 d.R] ∧ (pf 0) = [] := hR 0 (by decide)
              refine Or.inl ⟨rfl, ?_⟩
              refine rq_less (l' := [boxE b2 #[t.mv, t.lv, .int .i64 t.pad, .int .i64 t.ram] 39, boxE b1 #[.int .i64 d.W, .int .i64 d.H, .int .i64 d.T, .int .i64 d.R] 25]) (sub_cons (d := 7) (congrArg some e0.1) (sub_nil _)) (List.sublist_append_right _ _) ?_
              exact rq_mono (rq_call (by kernel_rfl) rfl (fun w hm => ret_ans (implDeviceOk_any d w))) (fun _ _ h => ⟨h.1.trans (congrArg Value.bool hb3), h.2⟩)
            ·
              intro vf pf hR
              have e1 : (vf 1) = .bool true ∧ (pf 1) = [] := hR 1 (by decide)
              refine Or.inl ⟨rfl, ?_⟩
              refine rq_less (l' := [boxE b2 #[t.mv, t.lv, .int .i64 t.pad, .int .i64 t.ram] 39, boxE b1 #[.int .i64 d.W, .int .i64 d.H, .int .i64 d.T, .int .i64 d.R] 25]) (sub_cons (d := 8) (congrArg some e1.1) (sub_nil _)) (List.sublist_append_right _ _) ?_
              exact rq_v (rv_ev rfl)
            ·
              intro vf pf hR
              have e2 : (vf 2) = .bool false ∧ (pf 2) = [] := hR 2 (by decide)
              refine Or.inl ⟨rfl, ?_⟩
              refine rq_less (l' := [boxE b2 #[t.mv, t.lv, .int .i64 t.pad, .int .i64 t.ram] 39, boxE b1 #[.int .i64 d.W, .int .i64 d.H, .int .i64 d.T, .int .i64 d.R] 25]) (sub_cons (d := 9) (congrArg some e2.1) (sub_nil _)) (List.sublist_append_right _ _) ?_
              exact rq_v (rv_ev rfl)
            ·
              intro vf pf hR
              have e3 : (vf 3) = .bool false ∧ (pf 3) = [] := hR 3 (by decide)
              refine Or.inl ⟨want_of (congrArg some e3.1) rfl, ?_⟩
              refine rq_less (l' := [boxE b2 #[t.mv, t.lv, .int .i64 t.pad, .int .i64 t.ram] 39, boxE b1 #[.int .i64 d.W, .int .i64 d.H, .int .i64 d.T, .int .i64 d.R] 25]) (sub_cons (d := 3) rfl (sub_nil _)) (List.sublist_append_right _ _) ?_
              exact rq_v (rv_field (k0 := 0) rfl (by kernel_rfl) rfl)
            ·
              intro vf pf hR
              have e3 : (vf 3) = .bool false ∧ (pf 3) = [] := hR 3 (by decide)
              have e4 : (vf 4) = .pointer (some ⟨b2, 0 + 0, none⟩) ∧ (pf 4) = [] := hR 4 (by decide)
              refine Or.inl ⟨want_of (congrArg some e3.1) rfl, ?_⟩
              refine rq_less (l' := [boxE b2 #[t.mv, t.lv, .int .i64 t.pad, .int .i64 t.ram] 39, boxE b1 #[.int .i64 d.W, .int .i64 d.H, .int .i64 d.T, .int .i64 d.R] 25]) (sub_cons (d := 11) (congrArg some e4.1) (sub_nil _)) (List.sublist_append_right _ _) ?_
              exact rq_v (rv_load rfl (by kernel_rfl) rfl (box_cell 0 rfl rfl))
            ·
              intro vf pf hR
              have e3 : (vf 3) = .bool false ∧ (pf 3) = [] := hR 3 (by decide)
              have e5 : (vf 5) = t.mv ∧ (pf 5) = [] := hR 5 (by decide)
              refine Or.inl ⟨want_of (congrArg some e3.1) rfl, ?_⟩
              refine rq_less (l' := [boxE b2 #[t.mv, t.lv, .int .i64 t.pad, .int .i64 t.ram] 39, boxE b1 #[.int .i64 d.W, .int .i64 d.H, .int .i64 d.T, .int .i64 d.R] 25]) (sub_cons (d := 12) (congrArg some e5.1) (sub_nil _)) (List.sublist_append_right _ _) ?_
              exact rq_v (rv_len rfl Try.underlying30 rfl (rd_old ht.mx))
            ·
              intro vf pf hR
              have e3 : (vf 3) = .bool false ∧ (pf 3) = [] := hR 3 (by decide)
              refine Or.inl ⟨want_of (congrArg some e3.1) rfl, ?_⟩
              refine rq_less (l' := [boxE b2 #[t.mv, t.lv, .int .i64 t.pad, .int .i64 t.ram] 39, boxE b1 #[.int .i64 d.W, .int .i64 d.H, .int .i64 d.T, .int .i64 d.R] 25]) (sub_cons (d := 2) rfl (sub_nil _)) (List.sublist_append_right _ _) ?_
              exact rq_v (rv_loadN (cs := [.int .i64 d.W, .int .i64 d.H, .int .i64 d.T, .int .i64 d.R]) rfl (by kernel_rfl) (by kernel_rfl) rfl rfl (box_part 1 rfl 0 rfl))
            ·
              intro vf pf hR
              have e3 : (vf 3) = .bool false ∧ (pf 3) = [] := hR 3 (by decide)
              have e7 : (vf 7) = .agg #[.int .i64 d.W, .int .i64 d.H, .int .i64 d.T, .int .i64 d.R] ∧ (pf 7) = [] := hR 7 (by decide)
              refine Or.inl ⟨want_of (congrArg some e3.1) rfl, ?_⟩
              refine rq_less (l' := [boxE b2 #[t.mv, t.lv, .int .i64 t.pad, .int .i64 t.ram] 39, boxE b1 #[.int .i64 d.W, .int .i64 d.H, .int .i64 d.T, .int .i64 d.R] 25]) (sub_cons (d := 14) (congrArg some e7.1) (sub_nil _)) (List.sublist_append_right _ _) ?_
              exact (rq_call (by kernel_rfl) rfl (fun w hm => ret_ans (implMux_any d (by assumption) w)))
            ·
              intro vf pf hR
              have e3 : (vf 3) = .bool false ∧ (pf 3) = [] := hR 3 (by decide)
              have e6 : (vf 6) = .int .i64 (t.mx.length : Int) ∧ (pf 6) = [] := hR 6 (by decide)
              have e8 : (vf 8) = .int .i64 (5 + 4 * d.T) ∧ (pf 8) = [] := hR 8 (by decide)
              refine Or.inl ⟨want_of (congrArg some e3.1) rfl, ?_⟩
              refine rq_less (l' := [boxE b2 #[t.mv, t.lv, .int .i64 t.pad, .int .i64 t.ram] 39, boxE b1 #[.int .i64 d.W, .int .i64 d.H, .int .i64 d.T, .int .i64 d.R] 25]) (sub_cons (d := 13) (congrArg some e6.1) (sub_cons (d := 15) (congrArg some e8.1) (sub_nil _))) (List.sublist_append_right _ _) ?_
              exact rq_mono (rq_v (rv_cmp rfl rfl rfl rfl)) (fun _ _ h => ⟨h.1.trans (congrArg Value.bool hb4), h.2⟩)
            ·
              intro vf pf hR
              have e3 : (vf 3) = .bool false ∧ (pf 3) = [] := hR 3 (by decide)
              have e9 : (vf 9) = .bool false ∧ (pf 9) = [] := hR 9 (by decide)
              refine Or.inl ⟨rfl, ?_⟩
              refine rq_less (l' := [boxE b2 #[t.mv, t.lv, .int .i64 t.pad, .int .i64 t.ram] 39, boxE b1 #[.int .i64 d.W, .int .i64 d.H, .int .i64 d.T, .int .i64 d.R] 25]) (sub_cons (d := 10) (congrArg some e3.1) (sub_cons (d := 16) (congrArg some e9.1) (sub_nil _))) (List.sublist_append_right _ _) ?_
              exact rq_v (rv_ev rfl)
            ·
              intro vf pf hR
              have e10 : (vf 10) = .bool false ∧ (pf 10) = [] := hR 10 (by decide)
              refine Or.inl ⟨rfl, ?_⟩
              refine rq_less (l' := [boxE b2 #[t.mv, t.lv, .int .i64 t.pad, .int .i64 t.ram] 39, boxE b1 #[.int .i64 d.W, .int .i64 d.H, .int .i64 d.T, .int .i64 d.R] 25]) (sub_cons (d := 17) (congrArg some e10.1) (sub_nil _)) (List.sublist_append_right _ _) ?_
              exact rq_v (rv_ev rfl)
            ·
              intro vf pf hR
              have e11 : (vf 11) = .bool false ∧ (pf 11) = [] := hR 11 (by decide)
              refine Or.inl ⟨want_of (congrArg some e11.1) rfl, ?_⟩
              refine rq_less (l' := [boxE b2 #[t.mv, t.lv, .int .i64 t.pad, .int .i64 t.ram] 39, boxE b1 #[.int .i64 d.W, .int .i64 d.H, .int .i64 d.T, .int .i64 d.R] 25]) (sub_cons (d := 3) rfl (sub_nil _)) (List.sublist_append_right _ _) ?_
              exact rq_v (rv_field (k0 := 1) rfl (by kernel_rfl) rfl)
            ·
              intro vf pf hR
              have e11 : (vf 11) = .bool false ∧ (pf 11) = [] := hR 11 (by decide)
              have e12 : (vf 12) = .pointer (some ⟨b2, 0 + 1, none⟩) ∧ (pf 12) = [] := hR 12 (by decide)
              refine Or.inl ⟨want_of (congrArg some e11.1) rfl, ?_⟩
              refine rq_less (l' := [boxE b2 #[t.mv, t.lv, .int .i64 t.pad, .int .i64 t.ram] 39, boxE b1 #[.int .i64 d.W, .int .i64 d.H, .int .i64 d.T, .int .i64 d.R] 25]) (sub_cons (d := 19) (congrArg some e12.1) (sub_nil _)) (List.sublist_append_right _ _) ?_
              exact rq_v (rv_load rfl (by kernel_rfl) rfl (box_cell 0 rfl rfl))
            ·
              intro vf pf hR
              have e11 : (vf 11) = .bool false ∧ (pf 11) = [] := hR 11 (by decide)
              have e13 : (vf 13) = t.lv ∧ (pf 13) = [] := hR 13 (by decide)
              refine Or.inl ⟨want_of (congrArg some e11.1) rfl, ?_⟩
              refine rq_less (l' := [boxE b2 #[t.mv, t.lv, .int .i64 t.pad, .int .i64 t.ram] 39, boxE b1 #[.int .i64 d.W, .int .i64 d.H, .int .i64 d.T, .int .i64 d.R] 25]) (sub_cons (d := 20) (congrArg some e13.1) (sub_nil _)) (List.sublist_append_right _ _) ?_
              exact rq_v (rv_len rfl Try.underlying37 rfl (rd_old ht.lv))
            ·
              intro vf pf hR
              have e11 : (vf 11) = .bool false ∧ (pf 11) = [] := hR 11 (by decide)
              have e14 : (vf 14) = .int .i64 (t.es.length : Int) ∧ (pf 14) = [] := hR 14 (by decide)
              refine Or.inl ⟨want_of (congrArg some e11.1) rfl, ?_⟩
              refine rq_less (l' := [boxE b2 #[t.mv, t.lv, .int .i64 t.pad, .int .i64 t.ram] 39, boxE b1 #[.int .i64 d.W, .int .i64 d.H, .int .i64 d.T, .int .i64 d.R] 25]) (sub_cons (d := 21) (congrArg some e14.1) (sub_nil _)) (List.sublist_append_right _ _) ?_
              exact rq_mono (rq_v (rv_cmp rfl rfl rfl rfl)) (fun _ _ h => ⟨h.1.trans (congrArg Value.bool hb5), h.2⟩)
            ·
              intro vf pf hR
              have e11 : (vf 11) = .bool false ∧ (pf 11) = [] := hR 11 (by decide)
              have e15 : (vf 15) = .bool false ∧ (pf 15) = [] := hR 15 (by decide)
              refine Or.inl ⟨rfl, ?_⟩
              refine rq_less (l' := [boxE b2 #[t.mv, t.lv, .int .i64 t.pad, .int .i64 t.ram] 39, boxE b1 #[.int .i64 d.W, .int .i64 d.H, .int .i64 d.T, .int .i64 d.R] 25]) (sub_cons (d := 18) (congrArg some e11.1) (sub_cons (d := 22) (congrArg some e15.1) (sub_nil _))) (List.sublist_append_right _ _) ?_
              exact rq_v (rv_ev rfl)
            ·
              intro vf pf hR
              have e16 : (vf 16) = .bool false ∧ (pf 16) = [] := hR 16 (by decide)
              refine Or.inl ⟨rfl, ?_⟩
              refine rq_less (l' := [boxE b2 #[t.mv, t.lv, .int .i64 t.pad, .int .i64 t.ram] 39, boxE b1 #[.int .i64 d.W, .int .i64 d.H, .int .i64 d.T, .int .i64 d.R] 25]) (sub_cons (d := 23) (congrArg some e16.1) (sub_nil _)) (List.sublist_append_right _ _) ?_
              exact rq_v (rv_ev rfl)
            ·
              intro vf pf hR
              have e17 : (vf 17) = .bool false ∧ (pf 17) = [] := hR 17 (by decide)
              refine Or.inl ⟨want_of (congrArg some e17.1) rfl, ?_⟩
              refine rq_less (l' := [boxE b2 #[t.mv, t.lv, .int .i64 t.pad, .int .i64 t.ram] 39, boxE b1 #[.int .i64 d.W, .int .i64 d.H, .int .i64 d.T, .int .i64 d.R] 25]) (sub_cons (d := 3) rfl (sub_nil _)) (List.sublist_append_right _ _) ?_
              exact rq_v (rv_field (k0 := 2) rfl (by kernel_rfl) rfl)
            ·
              intro vf pf hR
              have e17 : (vf 17) = .bool false ∧ (pf 17) = [] := hR 17 (by decide)
              have e18 : (vf 18) = .pointer (some ⟨b2, 0 + 2, none⟩) ∧ (pf 18) = [] := hR 18 (by decide)
              refine Or.inl ⟨want_of (congrArg some e17.1) rfl, ?_⟩
              refine rq_less (l' := [boxE b2 #[t.mv, t.lv, .int .i64 t.pad, .int .i64 t.ram] 39, boxE b1 #[.int .i64 d.W, .int .i64 d.H, .int .i64 d.T, .int .i64 d.R] 25]) (sub_cons (d := 25) (congrArg some e18.1) (sub_nil _)) (List.sublist_append_right _ _) ?_
              exact rq_v (rv_load rfl (by kernel_rfl) rfl (box_cell 0 rfl rfl))
            ·
              intro vf pf hR
              have e17 : (vf 17) = .bool false ∧ (pf 17) = [] := hR 17 (by decide)
              have e19 : (vf 19) = .int .i64 t.pad ∧ (pf 19) = [] := hR 19 (by decide)
              refine Or.inl ⟨want_of (congrArg some e17.1) rfl, ?_⟩
              refine rq_less (l' := [boxE b2 #[t.mv, t.lv, .int .i64 t.pad, .int .i64 t.ram] 39, boxE b1 #[.int .i64 d.W, .int .i64 d.H, .int .i64 d.T, .int .i64 d.R] 25]) (sub_cons (d := 26) (congrArg some e19.1) (sub_nil _)) (List.sublist_append_right _ _) ?_
              exact rq_mono (rq_call (by kernel_rfl) rfl (fun w hm => ret_ans (ans_of (inRange_any _ _ _ w)))) (fun _ _ h => ⟨h.1.trans (congrArg Value.bool hb6), h.2⟩)
            ·
              intro vf pf hR
              have e17 : (vf 17) = .bool false ∧ (pf 17) = [] := hR 17 (by decide)
              have e20 : (vf 20) = .bool false ∧ (pf 20) = [] := hR 20 (by decide)
              refine Or.inl ⟨want_of (congrArg some e17.1) rfl, ?_⟩
              refine rq_less (l' := [boxE b2 #[t.mv, t.lv, .int .i64 t.pad, .int .i64 t.ram] 39, boxE b1 #[.int .i64 d.W, .int .i64 d.H, .int .i64 d.T, .int .i64 d.R] 25]) (sub_cons (d := 27) (congrArg some e20.1) (sub_nil _)) (List.sublist_append_right _ _) ?_
              exact rq_v (rv_ev rfl)
            ·
              intro vf pf hR
              have e17 : (vf 17) = .bool false ∧ (pf 17) = [] := hR 17 (by decide)
              have e21 : (vf 21) = .bool true ∧ (pf 21) = [] := hR 21 (by decide)
              refine Or.inl ⟨rfl, ?_⟩
              refine rq_less (l' := [boxE b2 #[t.mv, t.lv, .int .i64 t.pad, .int .i64 t.ram] 39, boxE b1 #[.int .i64 d.W, .int .i64 d.H, .int .i64 d.T, .int .i64 d.R] 25]) (sub_cons (d := 24) (congrArg some e17.1) (sub_cons (d := 28) (congrArg some e21.1) (sub_nil _))) (List.sublist_append_right _ _) ?_
              exact rq_v (rv_ev rfl)
            ·
              intro vf pf hR
              have e22 : (vf 22) = .bool true ∧ (pf 22) = [] := hR 22 (by decide)
              refine Or.inl ⟨rfl, ?_⟩
              refine rq_less (l' := [boxE b2 #[t.mv, t.lv, .int .i64 t.pad, .int .i64 t.ram] 39, boxE b1 #[.int .i64 d.W, .int .i64 d.H, .int .i64 d.T, .int .i64 d.R] 25]) (sub_cons (d := 29) (congrArg some e22.1) (sub_nil _)) (List.sublist_append_right _ _) ?_
              exact rq_v (rv_ev rfl)
            ·
              intro vf pf hR
              have e23 : (vf 23) = .bool true ∧ (pf 23) = [] := hR 23 (by decide)
              exact Or.inr ⟨want_of (congrArg some e23.1) rfl, rfl, rfl⟩
            ·
              intro vf pf hR
              have e23 : (vf 23) = .bool true ∧ (pf 23) = [] := hR 23 (by decide)
              exact Or.inr ⟨want_of (congrArg some e23.1) rfl, rfl, rfl⟩
            ·
              intro vf pf hR
              have e23 : (vf 23) = .bool true ∧ (pf 23) = [] := hR 23 (by decide)
              exact Or.inr ⟨want_of (congrArg some e23.1) rfl, rfl, rfl⟩
            ·
              intro vf pf hR
              have e23 : (vf 23) = .bool true ∧ (pf 23) = [] := hR 23 (by decide)
              exact Or.inr ⟨want_of (congrArg some e23.1) rfl, rfl, rfl⟩
            ·
              intro vf pf hR
              have e23 : (vf 23) = .bool true ∧ (pf 23) = [] := hR 23 (by decide)
              have e27 : (vf 27) = undef ∧ (pf 27) = [] := hR 27 (by decide)
              refine Or.inl ⟨rfl, ?_⟩
              refine rq_less (l' := [boxE b2 #[t.mv, t.lv, .int .i64 t.pad, .int .i64 t.ram] 39, boxE b1 #[.int .i64 d.W, .int .i64 d.H, .int .i64 d.T, .int .i64 d.R] 25]) (sub_cons (d := 30) (congrArg some e23.1) (sub_cons (d := 34) (congrArg some e27.1) (sub_nil _))) (List.sublist_append_right _ _) ?_
              exact rq_v (rv_ev rfl)
          ·
            intro vf pf hR
            have e28 : (vf 28) = .bool true ∧ (pf 28) = [] := hR 28 (by decide)
            refine hl_less (l' := [boxE b2 #[t.mv, t.lv, .int .i64 t.pad, .int .i64 t.ram] 39, boxE b1 #[.int .i64 d.W, .int .i64 d.H, .int .i64 d.T, .int .i64 d.R] 25]) (sub_cons (d := 0) rfl (sub_cons (d := 1) rfl (sub_cons (d := 2) rfl (sub_cons (d := 3) rfl (sub_cons (d := 4) rfl (sub_cons (d := 35) (congrArg some e28.1) (sub_nil _))))))) (List.sublist_append_right _ _) ?_
            simp only [List.drop_succ_cons, List.drop_zero]
            refine hl_less (sub_cons (d := 0) rfl (sub_cons (d := 1) rfl (sub_cons (d := 2) rfl (sub_cons (d := 3) rfl (sub_cons (d := 4) rfl (sub_cons (d := 35) rfl (sub_nil _))))))) (.refl _) ?_
            refine hl_nil ?_
            refine hq_then ?_
            refine hc_true rfl ?_
            refine hc_seq ?_
            refine hc_region ?_
            refine hl_v rfl rfl rfl (rv_ev rfl) ?_
            refine hl_less (sub_cons (d := 0) rfl (sub_cons (d := 1) rfl (sub_cons (d := 2) rfl (sub_cons (d := 3) rfl (sub_cons (d := 4) rfl (sub_cons (d := 35) rfl (sub_nil _))))))) (.refl _) ?_
            refine hl_nil ?_
            refine hq_then ?_
            refine hc_ret ?_
            refine hq_then_ret ?_
            exact hq_ans rfl rfl (congrArg _ (Bool.eq_false_iff.2 (fun h => by obtain ⟨q1, q2, q3, q4, q5, q6, q7⟩ := (tcOkV_iff d t).1 h; first | omega | (have := q6 j (by omega); omega) | (have := q7 0 (by omega); simp_all; done) | (have := q7 1 (by omega); simp_all; done) | contradiction | simp_all)).symm)
  ·
    refine hc_draw (by kernel_rfl) 29 [0, 1, 2, 3, 4, 5, 6, 7, 8, 9, 10, 11, 12, 13, 14, 15, 16, 17, 18, 19, 20, 21, 22, 23, 24, 25, 26, 27, 28] (List.take 29 _) (List.drop 29 _) [[], [0], [1], [2], [3], [3], [3], [3], [3], [3], [3, 9], [10], [11], [11], [11], [11], [11, 15], [16], [17], [17], [17], [17], [17, 21], [22], [23], [23], [23], [23], [23, 27]] [7, 8, 9, 10, 11, 12, 13, 14, 15, 16, 17, 18, 19, 20, 21, 22, 23, 24, 25, 26, 27, 28, 29, 30, 31, 32, 33, 34, 35] (fun i vs_ v_ p_ => match i with | 0 => v_ = .agg #[.int .i64 d.W, .int .i64 d.H, .int .i64 d.T, .int .i64 d.R] ∧ p_ = [] | 1 => v_ = .bool false ∧ p_ = [] | 2 => v_ = .bool true ∧ p_ = [] | 3 => v_ = .bool true ∧ p_ = [] | 4 => v_ = undef ∧ p_ = [] | 5 => v_ = undef ∧ p_ = [] | 6 => v_ = undef ∧ p_ = [] | 7 => v_ = undef ∧ p_ = [] | 8 => v_ = undef ∧ p_ = [] | 9 => v_ = undef ∧ p_ = [] | 10 => v_ = .bool true ∧ p_ = [] | 11 => v_ = .bool true ∧ p_ = [] | 12 => v_ = undef ∧ p_ = [] | 13 => v_ = undef ∧ p_ = [] | 14 => v_ = undef ∧ p_ = [] | 15 => v_ = undef ∧ p_ = [] | 16 => v_ = .bool true ∧ p_ = [] | 17 => v_ = .bool true ∧ p_ = [] | 18 => v_ = undef ∧ p_ = [] | 19 => v_ = undef ∧ p_ = [] | 20 => v_ = undef ∧ p_ = [] | 21 => v_ = undef ∧ p_ = [] | 22 => v_ = .bool true ∧ p_ = [] | 23 => v_ = .bool true ∧ p_ = [] | 24 => v_ = undef ∧ p_ = [] | 25 => v_ = undef ∧ p_ = [] | 26 => v_ = undef ∧ p_ = [] | 27 => v_ = undef ∧ p_ = [] | 28 => v_ = .bool true ∧ p_ = [] | _ => True) (List.take_append_drop 29 _).symm (by kernel_rfl) (by kernel_rfl) rfl rfl ?_ ?_
    ·
      refine ⟨?_, ?_, ?_, ?_, ?_, ?_, ?_, ?_, ?_, ?_, ?_, ?_, ?_, ?_, ?_, ?_, ?_, ?_, ?_, ?_, ?_, ?_, ?_, ?_, ?_, ?_, ?_, ?_, ?_, trivial⟩
      ·
        intro vf pf hR
        refine Or.inl ⟨rfl, ?_⟩
        refine rq_less (l' := [boxE b2 #[t.mv, t.lv, .int .i64 t.pad, .int .i64 t.ram] 39, boxE b1 #[.int .i64 d.W, .int .i64 d.H, .int .i64 d.T, .int .i64 d.R] 25]) (sub_cons (d := 2) rfl (sub_nil _)) (List.sublist_append_right _ _) ?_
        exact rq_v (rv_loadN (cs := [.int .i64 d.W, .int .i64 d.H, .int .i64 d.T, .int .i64 d.R]) rfl (by kernel_rfl) (by kernel_rfl) rfl rfl (box_part 1 rfl 0 rfl))
      ·
        intro vf pf hR
        have e0 : (vf 0) = .agg #[.int .i64 d.W, .int .i64 d.H, .int .i64 d.T, .int .i64 d.R] ∧ (pf 0) = [] := hR 0 (by decide)
        refine Or.inl ⟨rfl, ?_⟩
        refine rq_less (l' := [boxE b2 #[t.mv, t.lv, .int .i64 t.pad, .int .i64 t.ram] 39, boxE b1 #[.int .i64 d.W, .int .i64 d.H, .int .i64 d.T, .int .i64 d.R] 25]) (sub_cons (d := 7) (congrArg some e0.1) (sub_nil _)) (List.sublist_append_right _ _) ?_
        exact rq_mono (rq_call (by kernel_rfl) rfl (fun w hm => ret_ans (implDeviceOk_any d w))) (fun _ _ h => ⟨h.1.trans (congrArg Value.bool hb3), h.2⟩)
      ·
        intro vf pf hR
        have e1 : (vf 1) = .bool false ∧ (pf 1) = [] := hR 1 (by decide)
        refine Or.inl ⟨rfl, ?_⟩
        refine rq_less (l' := [boxE b2 #[t.mv, t.lv, .int .i64 t.pad, .int .i64 t.ram] 39, boxE b1 #[.int .i64 d.W, .int .i64 d.H, .int .i64 d.T, .int .i64 d.R] 25]) (sub_cons (d := 8) (congrArg some e1.1) (sub_nil _)) (List.sublist_append_right _ _) ?_
        exact rq_v (rv_ev rfl)
      ·
        intro vf pf hR
        have e2 : (vf 2) = .bool true ∧ (pf 2) = [] := hR 2 (by decide)
        refine Or.inl ⟨rfl, ?_⟩
        refine rq_less (l' := [boxE b2 #[t.mv, t.lv, .int .i64 t.pad, .int .i64 t.ram] 39, boxE b1 #[.int .i64 d.W, .int .i64 d.H, .int .i64 d.T, .int .i64 d.R] 25]) (sub_cons (d := 9) (congrArg some e2.1) (sub_nil _)) (List.sublist_append_right _ _) ?_
        exact rq_v (rv_ev rfl)
      ·
        intro vf pf hR
        have e3 : (vf 3) = .bool true ∧ (pf 3) = [] := hR 3 (by decide)
        exact Or.inr ⟨want_of (congrArg some e3.1) rfl, rfl, rfl⟩
      ·
        intro vf pf hR
        have e3 : (vf 3) = .bool true ∧ (pf 3) = [] := hR 3 (by decide)
        exact Or.inr ⟨want_of (congrArg some e3.1) rfl, rfl, rfl⟩
      ·
        intro vf pf hR
        have e3 : (vf 3) = .bool true ∧ (pf 3) = [] := hR 3 (by decide)
        exact Or.inr ⟨want_of (congrArg some e3.1) rfl, rfl, rfl⟩
      ·
        intro vf pf hR
        have e3 : (vf 3) = .bool true ∧ (pf 3) = [] := hR 3 (by decide)
        exact Or.inr ⟨want_of (congrArg some e3.1) rfl, rfl, rfl⟩
      ·
        intro vf pf hR
        have e3 : (vf 3) = .bool true ∧ (pf 3) = [] := hR 3 (by decide)
        exact Or.inr ⟨want_of (congrArg some e3.1) rfl, rfl, rfl⟩
      ·
        intro vf pf hR
        have e3 : (vf 3) = .bool true ∧ (pf 3) = [] := hR 3 (by decide)
        exact Or.inr ⟨want_of (congrArg some e3.1) rfl, rfl, rfl⟩
      ·
        intro vf pf hR
        have e3 : (vf 3) = .bool true ∧ (pf 3) = [] := hR 3 (by decide)
        have e9 : (vf 9) = undef ∧ (pf 9) = [] := hR 9 (by decide)
        refine Or.inl ⟨rfl, ?_⟩
        refine rq_less (l' := [boxE b2 #[t.mv, t.lv, .int .i64 t.pad, .int .i64 t.ram] 39, boxE b1 #[.int .i64 d.W, .int .i64 d.H, .int .i64 d.T, .int .i64 d.R] 25]) (sub_cons (d := 10) (congrArg some e3.1) (sub_cons (d := 16) (congrArg some e9.1) (sub_nil _))) (List.sublist_append_right _ _) ?_
        exact rq_v (rv_ev rfl)
      ·
        intro vf pf hR
        have e10 : (vf 10) = .bool true ∧ (pf 10) = [] := hR 10 (by decide)
        refine Or.inl ⟨rfl, ?_⟩
        refine rq_less (l' := [boxE b2 #[t.mv, t.lv, .int .i64 t.pad, .int .i64 t.ram] 39, boxE b1 #[.int .i64 d.W, .int .i64 d.H, .int .i64 d.T, .int .i64 d.R] 25]) (sub_cons (d := 17) (congrArg some e10.1) (sub_nil _)) (List.sublist_append_right _ _) ?_
        exact rq_v (rv_ev rfl)
      ·
        intro vf pf hR
        have e11 : (vf 11) = .bool true ∧ (pf 11) = [] := hR 11 (by decide)
        exact Or.inr ⟨want_of (congrArg some e11.1) rfl, rfl, rfl⟩
      ·
        intro vf pf hR
        have e11 : (vf 11) = .bool true ∧ (pf 11) = [] := hR 11 (by decide)
        exact Or.inr ⟨want_of (congrArg some e11.1) rfl, rfl, rfl⟩
      ·
        intro vf pf hR
        have e11 : (vf 11) = .bool true ∧ (pf 11) = [] := hR 11 (by decide)
        exact Or.inr ⟨want_of (congrArg some e11.1) rfl, rfl, rfl⟩
      ·
        intro vf pf hR
        have e11 : (vf 11) = .bool true ∧ (pf 11) = [] := hR 11 (by decide)
        exact Or.inr ⟨want_of (congrArg some e11.1) rfl, rfl, rfl⟩
      ·
        intro vf pf hR
        have e11 : (vf 11) = .bool true ∧ (pf 11) = [] := hR 11 (by decide)
        have e15 : (vf 15) = undef ∧ (pf 15) = [] := hR 15 (by decide)
        refine Or.inl ⟨rfl, ?_⟩
        refine rq_less (l' := [boxE b2 #[t.mv, t.lv, .int .i64 t.pad, .int .i64 t.ram] 39, boxE b1 #[.int .i64 d.W, .int .i64 d.H, .int .i64 d.T, .int .i64 d.R] 25]) (sub_cons (d := 18) (congrArg some e11.1) (sub_cons (d := 22) (congrArg some e15.1) (sub_nil _))) (List.sublist_append_right _ _) ?_
        exact rq_v (rv_ev rfl)
      ·
        intro vf pf hR
        have e16 : (vf 16) = .bool true ∧ (pf 16) = [] := hR 16 (by decide)
        refine Or.inl ⟨rfl, ?_⟩
        refine rq_less (l' := [boxE b2 #[t.mv, t.lv, .int .i64 t.pad, .int .i64 t.ram] 39, boxE b1 #[.int .i64 d.W, .int .i64 d.H, .int .i64 d.T, .int .i64 d.R] 25]) (sub_cons (d := 23) (congrArg some e16.1) (sub_nil _)) (List.sublist_append_right _ _) ?_
        exact rq_v (rv_ev rfl)
      ·
        intro vf pf hR
        have e17 : (vf 17) = .bool true ∧ (pf 17) = [] := hR 17 (by decide)
        exact Or.inr ⟨want_of (congrArg some e17.1) rfl, rfl, rfl⟩
      ·
        intro vf pf hR
        have e17 : (vf 17) = .bool true ∧ (pf 17) = [] := hR 17 (by decide)
        exact Or.inr ⟨want_of (congrArg some e17.1) rfl, rfl, rfl⟩
      ·
        intro vf pf hR
        have e17 : (vf 17) = .bool true ∧ (pf 17) = [] := hR 17 (by decide)
        exact Or.inr ⟨want_of (congrArg some e17.1) rfl, rfl, rfl⟩
      ·
        intro vf pf hR
        have e17 : (vf 17) = .bool true ∧ (pf 17) = [] := hR 17 (by decide)
        exact Or.inr ⟨want_of (congrArg some e17.1) rfl, rfl, rfl⟩
      ·
        intro vf pf hR
        have e17 : (vf 17) = .bool true ∧ (pf 17) = [] := hR 17 (by decide)
        have e21 : (vf 21) = undef ∧ (pf 21) = [] := hR 21 (by decide)
        refine Or.inl ⟨rfl, ?_⟩
        refine rq_less (l' := [boxE b2 #[t.mv, t.lv, .int .i64 t.pad, .int .i64 t.ram] 39, boxE b1 #[.int .i64 d.W, .int .i64 d.H, .int .i64 d.T, .int .i64 d.R] 25]) (sub_cons (d := 24) (congrArg some e17.1) (sub_cons (d := 28) (congrArg some e21.1) (sub_nil _))) (List.sublist_append_right _ _) ?_
        exact rq_v (rv_ev rfl)
      ·
        intro vf pf hR
        have e22 : (vf 22) = .bool true ∧ (pf 22) = [] := hR 22 (by decide)
        refine Or.inl ⟨rfl, ?_⟩
        refine rq_less (l' := [boxE b2 #[t.mv, t.lv, .int .i64 t.pad, .int .i64 t.ram] 39, boxE b1 #[.int .i64 d.W, .int .i64 d.H, .int .i64 d.T, .int .i64 d.R] 25]) (sub_cons (d := 29) (congrArg some e22.1) (sub_nil _)) (List.sublist_append_right _ _) ?_
        exact rq_v (rv_ev rfl)
      ·
        intro vf pf hR
        have e23 : (vf 23) = .bool true ∧ (pf 23) = [] := hR 23 (by decide)
        exact Or.inr ⟨want_of (congrArg some e23.1) rfl, rfl, rfl⟩
      ·
        intro vf pf hR
        have e23 : (vf 23) = .bool true ∧ (pf 23) = [] := hR 23 (by decide)
        exact Or.inr ⟨want_of (congrArg some e23.1) rfl, rfl, rfl⟩
      ·
        intro vf pf hR
        have e23 : (vf 23) = .bool true ∧ (pf 23) = [] := hR 23 (by decide)
        exact Or.inr ⟨want_of (congrArg some e23.1) rfl, rfl, rfl⟩
      ·
        intro vf pf hR
        have e23 : (vf 23) = .bool true ∧ (pf 23) = [] := hR 23 (by decide)
        exact Or.inr ⟨want_of (congrArg some e23.1) rfl, rfl, rfl⟩
      ·
        intro vf pf hR
        have e23 : (vf 23) = .bool true ∧ (pf 23) = [] := hR 23 (by decide)
        have e27 : (vf 27) = undef ∧ (pf 27) = [] := hR 27 (by decide)
        refine Or.inl ⟨rfl, ?_⟩
        refine rq_less (l' := [boxE b2 #[t.mv, t.lv, .int .i64 t.pad, .int .i64 t.ram] 39, boxE b1 #[.int .i64 d.W, .int .i64 d.H, .int .i64 d.T, .int .i64 d.R] 25]) (sub_cons (d := 30) (congrArg some e23.1) (sub_cons (d := 34) (congrArg some e27.1) (sub_nil _))) (List.sublist_append_right _ _) ?_
        exact rq_v (rv_ev rfl)
    ·
      intro vf pf hR
      have e28 : (vf 28) = .bool true ∧ (pf 28) = [] := hR 28 (by decide)
      refine hl_less (l' := [boxE b2 #[t.mv, t.lv, .int .i64 t.pad, .int .i64 t.ram] 39, boxE b1 #[.int .i64 d.W, .int .i64 d.H, .int .i64 d.T, .int .i64 d.R] 25]) (sub_cons (d := 0) rfl (sub_cons (d := 1) rfl (sub_cons (d := 2) rfl (sub_cons (d := 3) rfl (sub_cons (d := 4) rfl (sub_cons (d := 35) (congrArg some e28.1) (sub_nil _))))))) (List.sublist_append_right _ _) ?_
      simp only [List.drop_succ_cons, List.drop_zero]
      refine hl_less (sub_cons (d := 0) rfl (sub_cons (d := 1) rfl (sub_cons (d := 2) rfl (sub_cons (d := 3) rfl (sub_cons (d := 4) rfl (sub_cons (d := 35) rfl (sub_nil _))))))) (.refl _) ?_
      refine hl_nil ?_
      refine hq_then ?_
      refine hc_true rfl ?_
      refine hc_seq ?_
      refine hc_region ?_
      refine hl_v rfl rfl rfl (rv_ev rfl) ?_
      refine hl_less (sub_cons (d := 0) rfl (sub_cons (d := 1) rfl (sub_cons (d := 2) rfl (sub_cons (d := 3) rfl (sub_cons (d := 4) rfl (sub_cons (d := 35) rfl (sub_nil _))))))) (.refl _) ?_
      refine hl_nil ?_
      refine hq_then ?_
      refine hc_ret ?_
      refine hq_then_ret ?_
      exact hq_ans rfl rfl (congrArg _ (Bool.eq_false_iff.2 (fun h => by obtain ⟨q1, q2, q3, q4, q5, q6, q7⟩ := (tcOkV_iff d t).1 h; first | omega | (have := q6 j (by omega); omega) | (have := q7 0 (by omega); simp_all; done) | (have := q7 1 (by omega); simp_all; done) | contradiction | simp_all)).symm)
end Go.Proofs.Ytnnkbpcfjjijbaa
