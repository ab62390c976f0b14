/- The sources of a routing node, in the program: the walk of Sources; and of SelectFor. -/
import Derived.Test.YtnnkbpcfjjijbaaSrc3
set_option linter.unusedVariables false
set_option linter.unusedSimpArgs false
namespace Go.Proofs.Ytnnkbpcfjjijbaa
open Go.RowKit

def srcI (d : Dev) (n : Int) : List Int := if nodeOkI d n = true then (if n % perI d < 5 then pinO d (n / perI d) (n % perI d) 4 else if n % perI d < 7 then [] else wireO d (n / perI d) ((n % perI d - 7) / d.T) ((n % perI d - 7) % d.T) 4) else []
theorem nodeOk_rng {d : Dev} {n : Int} (h : nodeOkI d n = true) : devB d = true ∧ 0 ≤ n ∧ n ≤ allI d - 1 := by
  unfold nodeOkI at h
  rw [Bool.and_eq_true, Bool.and_eq_true] at h
  exact ⟨h.1.1, (inR_iff _ _ _).1 h.1.2⟩
set_option maxHeartbeats 4000000 in
set_option maxRecDepth 100000 in
theorem implSources_ret (d : Dev) (n : Int) (w : World)  :
    Calls Try.prog 43 #[.agg #[.int .i64 d.W, .int .i64 d.H, .int .i64 d.T, .int .i64 d.R], .int .i64 n] w (Ret w (fun v' post => post = [rowE 3 1 v' (srcI d n).length ((srcI d n).map (Value.int .i64))])) := by
  refine calls_hc (N := 44) (args := [.agg #[.int .i64 d.W, .int .i64 d.H, .int .i64 d.T, .int .i64 d.R], .int .i64 n]) Try.func43 rfl rfl ?_
  refine hc_less _ (sub_cons (d := 0) rfl (sub_cons (d := 1) rfl (sub_nil _))) (.refl _) ?_
  refine hc_seq ?_
  refine hc_region ?_
  refine hl_box rfl rfl rfl (rq_box rfl rfl) ?_
  intro b1
  refine hl_nilRow 3 1 ?_
  refine hl_v rfl rfl rfl (rv_ev rfl) ?_
  refine hl_less (sub_cons (d := 0) rfl (sub_cons (d := 1) rfl (sub_cons (d := 2) rfl (sub_cons (d := 4) rfl (sub_nil _))))) (.refl _) ?_
  refine hl_nil ?_
  refine hq_then ?_
  refine hc_seq ?_
  refine hc_seq ?_
  refine hc_region ?_
  refine hl_v rfl rfl rfl (rv_loadN (cs := [.int .i64 d.W, .int .i64 d.H, .int .i64 d.T, .int .i64 d.R]) rfl (by kernel_rfl) (by kernel_rfl) rfl rfl (box_part 1 rfl 0 rfl)) ?_
  refine hl_v rfl rfl rfl (rv_ev rfl) ?_
  refine hl_callV rfl rfl rfl (rq_call (by kernel_rfl) rfl (fun w hm => ret_ans (implRouteNodeOk_any d _ w))) ?_
  refine hl_bool (fun h3 => ?_) (fun h3 => ?_)
  ·
    obtain ⟨hv, n0, n1⟩ := nodeOk_rng h3
    obtain ⟨p0, p1, p2, p3, p4⟩ := place_rng hv n0 n1
    obtain ⟨m1, m2⟩ := all_rng hv
    refine hl_v rfl rfl rfl (rv_ev rfl) ?_
    refine hl_less (sub_cons (d := 0) rfl (sub_cons (d := 1) rfl (sub_cons (d := 2) rfl (sub_cons (d := 4) rfl (sub_cons (d := 14) rfl (sub_nil _)))))) (.refl _) ?_
    refine hl_nil ?_
    refine hq_then ?_
    refine hc_false rfl ?_
    refine hc_skip ?_
    refine hq_then ?_
    refine hc_seq ?_
    refine hc_region ?_
    refine hl_v rfl rfl rfl (rv_loadN (cs := [.int .i64 d.W, .int .i64 d.H, .int .i64 d.T, .int .i64 d.R]) rfl (by kernel_rfl) (by kernel_rfl) rfl rfl (box_part 1 rfl 0 rfl)) ?_
    refine hl_v rfl rfl rfl (rv_ev rfl) ?_
    refine hl_callV rfl rfl rfl (rq_call (by kernel_rfl) rfl (fun w hm => ret_ans (nodePlace_any d _ hv n0 (by omega) w))) ?_
    refine hl_v rfl rfl rfl (rv_ev rfl) ?_
    refine hl_v rfl rfl rfl (rv_ev rfl) ?_
    refine hl_v rfl rfl rfl (rv_ev rfl) ?_
    refine hl_v rfl rfl rfl (rv_ev rfl) ?_
    refine hl_v rfl rfl rfl (rv_ev rfl) ?_
    refine hl_less (sub_cons (d := 0) rfl (sub_cons (d := 1) rfl (sub_cons (d := 2) rfl (sub_cons (d := 4) rfl (sub_cons (d := 5) rfl (sub_cons (d := 6) rfl (sub_cons (d := 14) rfl (sub_nil _)))))))) (.refl _) ?_
    refine hl_nil ?_
    refine hq_then ?_
    refine hc_seq ?_
    refine hc_block ?_
    refine hc_seq ?_
    refine hc_region ?_
    refine hl_v rfl rfl rfl (rv_ev rfl) ?_
    refine hl_lss rfl rfl rfl rfl rfl rfl (fun h4 => ?_) (fun h4 => ?_)
    ·
      refine hl_v rfl rfl rfl (rv_ev rfl) ?_
      refine hl_less (sub_cons (d := 0) rfl (sub_cons (d := 1) rfl (sub_cons (d := 2) rfl (sub_cons (d := 4) rfl (sub_cons (d := 5) rfl (sub_cons (d := 6) rfl (sub_cons (d := 14) rfl (sub_cons (d := 21) rfl (sub_nil _))))))))) (.refl _) ?_
      refine hl_nil ?_
      refine hq_then ?_
      refine hc_true rfl ?_
      refine hc_seq ?_
      refine hc_region ?_
      refine hl_v rfl rfl rfl (rv_loadN (cs := [.int .i64 d.W, .int .i64 d.H, .int .i64 d.T, .int .i64 d.R]) rfl (by kernel_rfl) (by kernel_rfl) rfl rfl (box_part 1 rfl 0 rfl)) ?_
      refine hl_v rfl rfl rfl (rv_ev rfl) ?_
      refine hl_v rfl rfl rfl (rv_ev rfl) ?_
      refine hl_q rfl rfl rfl (rq_call (by kernel_rfl) rfl (fun w hm => pinSources_ret d _ _ w hv p0 (by omega) (by omega) (by omega))) ?_
      intro v5 p6 hR7
      subst hR7
      refine hl_v rfl rfl rfl (rv_ev rfl) ?_
      refine hl_less (sub_cons (d := 0) rfl (sub_cons (d := 1) rfl (sub_cons (d := 2) rfl (sub_cons (d := 4) rfl (sub_cons (d := 5) rfl (sub_cons (d := 6) rfl (sub_cons (d := 14) rfl (sub_cons (d := 21) rfl (sub_nil _))))))))) (.refl _) ?_
      refine hl_nil ?_
      refine hq_then ?_
      refine hc_ret ?_
      refine hq_block_ret ?_
      refine hq_then_ret ?_
      exact hq_retR (post := [rowE 3 1 v5 ((pinO d (n / perI d) (n % perI d) 4).length) ((pinO d (n / perI d) (n % perI d) 4).map (Value.int .i64))]) rfl rfl ((.cons_cons _ (.cons _ (.cons _ .slnil)))) (by unfold srcI; (first | (rw [if_pos (by assumption)]; first | rw [if_pos (by omega)] | rw [if_neg (by omega), if_pos (by omega)] | rw [if_neg (by omega), if_neg (by omega)]) | rw [if_neg (by simp [*])]) <;> rfl)
    ·
      refine hl_v rfl rfl rfl (rv_ev rfl) ?_
      refine hl_less (sub_cons (d := 0) rfl (sub_cons (d := 1) rfl (sub_cons (d := 2) rfl (sub_cons (d := 4) rfl (sub_cons (d := 5) rfl (sub_cons (d := 6) rfl (sub_cons (d := 14) rfl (sub_cons (d := 21) rfl (sub_nil _))))))))) (.refl _) ?_
      refine hl_nil ?_
      refine hq_then ?_
      refine hc_false rfl ?_
      refine hc_seq ?_
      refine hc_region ?_
      refine hl_v rfl rfl rfl (rv_ev rfl) ?_
      refine hl_lss rfl rfl rfl rfl rfl rfl (fun h8 => ?_) (fun h8 => ?_)
      ·
        refine hl_v rfl rfl rfl (rv_ev rfl) ?_
        refine hl_less (sub_cons (d := 0) rfl (sub_cons (d := 1) rfl (sub_cons (d := 2) rfl (sub_cons (d := 4) rfl (sub_cons (d := 5) rfl (sub_cons (d := 6) rfl (sub_cons (d := 14) rfl (sub_cons (d := 21) rfl (sub_cons (d := 28) rfl (sub_nil _)))))))))) (.refl _) ?_
        refine hl_nil ?_
        refine hq_then ?_
        refine hc_true rfl ?_
        refine hc_seq ?_
        refine hc_region ?_
        refine hl_nilRow 3 1 ?_
        refine hl_v rfl rfl rfl (rv_ev rfl) ?_
        refine hl_less (sub_cons (d := 0) rfl (sub_cons (d := 1) rfl (sub_cons (d := 2) rfl (sub_cons (d := 4) rfl (sub_cons (d := 5) rfl (sub_cons (d := 6) rfl (sub_cons (d := 14) rfl (sub_cons (d := 21) rfl (sub_cons (d := 28) rfl (sub_nil _)))))))))) (.refl _) ?_
        refine hl_nil ?_
        refine hq_then ?_
        refine hc_ret ?_
        refine hq_block_ret ?_
        refine hq_then_ret ?_
        exact hq_retR (post := [rowE 3 1 (.slice none 0 0) 0 ([])]) rfl rfl ((.cons_cons _ (.cons _ (.cons _ .slnil)))) (by unfold srcI; (first | (rw [if_pos (by assumption)]; first | rw [if_pos (by omega)] | rw [if_neg (by omega), if_pos (by omega)] | rw [if_neg (by omega), if_neg (by omega)]) | rw [if_neg (by simp [*])]) <;> rfl)
      ·
        refine hl_v rfl rfl rfl (rv_ev rfl) ?_
        refine hl_less (sub_cons (d := 0) rfl (sub_cons (d := 1) rfl (sub_cons (d := 2) rfl (sub_cons (d := 4) rfl (sub_cons (d := 5) rfl (sub_cons (d := 6) rfl (sub_cons (d := 14) rfl (sub_cons (d := 21) rfl (sub_cons (d := 28) rfl (sub_nil _)))))))))) (.refl _) ?_
        refine hl_nil ?_
        refine hq_then ?_
        refine hc_false rfl ?_
        refine hc_skip ?_
        refine hq_block_normal ?_
        refine hq_then ?_
        refine hc_seq ?_
        refine hc_region ?_
        refine hl_v rfl rfl rfl (rv_loadN (cs := [.int .i64 d.W, .int .i64 d.H, .int .i64 d.T, .int .i64 d.R]) rfl (by kernel_rfl) (by kernel_rfl) rfl rfl (box_part 1 rfl 0 rfl)) ?_
        refine hl_v rfl rfl rfl (rv_ev rfl) ?_
        refine hl_callV rfl rfl rfl (rq_call (by kernel_rfl) rfl (fun w hm => ret_ans (wireOf_wire d _ hv n0 n1 (by omega) w))) ?_
        refine hl_v rfl rfl rfl (rv_ev rfl) ?_
        refine hl_v rfl rfl rfl (rv_ev rfl) ?_
        refine hl_v rfl rfl rfl (rv_ev rfl) ?_
        refine hl_v rfl rfl rfl (rv_ev rfl) ?_
        refine hl_v rfl rfl rfl (rv_ev rfl) ?_
        refine hl_v rfl rfl rfl (rv_ev rfl) ?_
        refine hl_v rfl rfl rfl (rv_ev rfl) ?_
        refine hl_v rfl rfl rfl (rv_ev rfl) ?_
        refine hl_v rfl rfl rfl (rv_ev rfl) ?_
        refine hl_less (sub_cons (d := 0) rfl (sub_cons (d := 1) rfl (sub_cons (d := 2) rfl (sub_cons (d := 4) rfl (sub_cons (d := 5) rfl (sub_cons (d := 6) rfl (sub_cons (d := 8) rfl (sub_cons (d := 9) rfl (sub_cons (d := 14) rfl (sub_cons (d := 21) rfl (sub_cons (d := 28) rfl (sub_nil _)))))))))))) (.refl _) ?_
        refine hl_nil ?_
        refine hq_then ?_
        refine hc_seq ?_
        refine hc_region ?_
        refine hl_v rfl rfl rfl (rv_loadN (cs := [.int .i64 d.W, .int .i64 d.H, .int .i64 d.T, .int .i64 d.R]) rfl (by kernel_rfl) (by kernel_rfl) rfl rfl (box_part 1 rfl 0 rfl)) ?_
        refine hl_v rfl rfl rfl (rv_ev rfl) ?_
        refine hl_v rfl rfl rfl (rv_ev rfl) ?_
        refine hl_v rfl rfl rfl (rv_ev rfl) ?_
        obtain ⟨g0, g1, g2, g3⟩ := wire_rng hv (by omega) p3
        refine hl_q rfl rfl rfl (rq_call (by kernel_rfl) rfl (fun w hm => wireSources_ret d _ _ _ w hv p0 (by omega) g0 g1 g2 g3)) ?_
        intro v10 p11 hR12
        subst hR12
        refine hl_v rfl rfl rfl (rv_ev rfl) ?_
        refine hl_less (sub_cons (d := 0) rfl (sub_cons (d := 1) rfl (sub_cons (d := 2) rfl (sub_cons (d := 4) rfl (sub_cons (d := 5) rfl (sub_cons (d := 6) rfl (sub_cons (d := 8) rfl (sub_cons (d := 9) rfl (sub_cons (d := 14) rfl (sub_cons (d := 21) rfl (sub_cons (d := 28) rfl (sub_nil _)))))))))))) (.refl _) ?_
        refine hl_nil ?_
        refine hq_then ?_
        refine hc_ret ?_
        exact hq_retR (post := [rowE 3 1 v10 ((wireO d (n / perI d) ((n % perI d - 7) / d.T) ((n % perI d - 7) % d.T) 4).length) ((wireO d (n / perI d) ((n % perI d - 7) / d.T) ((n % perI d - 7) % d.T) 4).map (Value.int .i64))]) rfl rfl ((.cons_cons _ (.cons _ (.cons _ .slnil)))) (by unfold srcI; (first | (rw [if_pos (by assumption)]; first | rw [if_pos (by omega)] | rw [if_neg (by omega), if_pos (by omega)] | rw [if_neg (by omega), if_neg (by omega)]) | rw [if_neg (by simp [*])]) <;> rfl)
  ·
    refine hl_v rfl rfl rfl (rv_ev rfl) ?_
    refine hl_less (sub_cons (d := 0) rfl (sub_cons (d := 1) rfl (sub_cons (d := 2) rfl (sub_cons (d := 4) rfl (sub_cons (d := 14) rfl (sub_nil _)))))) (.refl _) ?_
    refine hl_nil ?_
    refine hq_then ?_
    refine hc_true rfl ?_
    refine hc_seq ?_
    refine hc_region ?_
    refine hl_nilRow 3 1 ?_
    refine hl_v rfl rfl rfl (rv_ev rfl) ?_
    refine hl_less (sub_cons (d := 0) rfl (sub_cons (d := 1) rfl (sub_cons (d := 2) rfl (sub_cons (d := 4) rfl (sub_cons (d := 14) rfl (sub_nil _)))))) (.refl _) ?_
    refine hl_nil ?_
    refine hq_then ?_
    refine hc_ret ?_
    refine hq_then_ret ?_
    exact hq_retR (post := [rowE 3 1 (.slice none 0 0) 0 ([])]) rfl rfl ((.cons_cons _ (.cons _ (.cons _ .slnil)))) (by unfold srcI; (first | (rw [if_pos (by assumption)]; first | rw [if_pos (by omega)] | rw [if_neg (by omega), if_pos (by omega)] | rw [if_neg (by omega), if_neg (by omega)]) | rw [if_neg (by simp [*])]) <;> rfl)
def selN (xs : List Int) (x : Int) (j : Nat) : Int := if j < xs.length then j + 1 else 0
def selI (xs : List Int) (x : Int) : Int := match xs.idxOf? x with | some j => (j : Int) + 1 | none => 0
theorem selI_at (xs : List Int) (x : Int) (j : Nat) (hj : j < xs.length) (h1 : ∀ i, i < j → xs.getD i 0 ≠ x) (h2 : xs.getD j 0 = x) : selI xs x = 1 + (j : Int) := by
  have : xs.idxOf? x = some j := by
    rw [List.idxOf?_eq_some_iff]
    rw [List.getD_eq_getElem?_getD, List.getElem?_eq_getElem hj] at h2
    refine ⟨hj, by simpa using h2, fun k hk => ?_⟩
    have := h1 k hk
    rw [List.getD_eq_getElem?_getD, List.getElem?_eq_getElem (by omega)] at this
    simpa using this
  unfold selI; rw [this]; simp; omega
theorem selI_none (xs : List Int) (x : Int) (h1 : ∀ i, i < xs.length → xs.getD i 0 ≠ x) : selI xs x = 0 := by
  have : xs.idxOf? x = none := by
    rw [List.idxOf?_eq_none_iff]
    intro hy
    obtain ⟨i, hi, he⟩ := List.mem_iff_getElem.1 hy
    have := h1 i hi
    rw [List.getD_eq_getElem?_getD, List.getElem?_eq_getElem hi] at this
    exact this (by simpa using he)
  unfold selI; rw [this]
set_option maxHeartbeats 4000000 in
set_option maxRecDepth 100000 in
theorem implSelectFor_ans (d : Dev) (n x : Int) (w : World) (hlen : (srcI d n).length ≤ 1000000) :
    Calls Try.prog 61 #[.agg #[.int .i64 d.W, .int .i64 d.H, .int .i64 d.T, .int .i64 d.R], .int .i64 n, .int .i64 x] w (Ans w (.int .i64 (selI (srcI d n) x))) := by
  refine calls_hc (N := 24) (args := [.agg #[.int .i64 d.W, .int .i64 d.H, .int .i64 d.T, .int .i64 d.R], .int .i64 n, .int .i64 x]) Try.func61 rfl rfl ?_
  refine hc_less _ (sub_cons (d := 0) rfl (sub_cons (d := 1) rfl (sub_cons (d := 2) rfl (sub_nil _)))) (.refl _) ?_
  refine hc_seq ?_
  refine hc_region ?_
  refine hl_box rfl rfl rfl (rq_box rfl rfl) ?_
  intro b1
  refine hl_v rfl rfl rfl (rv_ev rfl) ?_
  refine hl_less (sub_cons (d := 0) rfl (sub_cons (d := 1) rfl (sub_cons (d := 2) rfl (sub_cons (d := 3) rfl (sub_cons (d := 6) rfl (sub_nil _)))))) (.refl _) ?_
  refine hl_nil ?_
  refine hq_then ?_
  refine hc_seq ?_
  refine hc_seq ?_
  refine hc_region ?_
  refine hl_v rfl rfl rfl (rv_loadN (cs := [.int .i64 d.W, .int .i64 d.H, .int .i64 d.T, .int .i64 d.R]) rfl (by kernel_rfl) (by kernel_rfl) rfl rfl (box_part 0 rfl 0 rfl)) ?_
  refine hl_v rfl rfl rfl (rv_ev rfl) ?_
  refine hl_q rfl rfl rfl (rq_call (by kernel_rfl) rfl (fun w hm => implSources_ret d _ w)) ?_
  intro v2 p3 hR4
  subst hR4
  refine hl_v rfl rfl rfl (rv_len rfl Try.underlying30 rfl (rd_row 0 rfl)) ?_
  refine hl_v rfl rfl rfl (rv_ev rfl) ?_
  refine hl_less (sub_cons (d := 0) rfl (sub_cons (d := 1) rfl (sub_cons (d := 2) rfl (sub_cons (d := 3) rfl (sub_cons (d := 6) rfl (sub_cons (d := 11) rfl (sub_cons (d := 12) rfl (sub_cons (d := 13) rfl (sub_nil _))))))))) (.refl _) ?_
  refine hl_nil ?_
  refine hq_then ?_
  refine hc_block ?_
  refine hc_loop1 (α := Nat) (fun j => [rowE 3 1 v2 ((srcI d n).length) ((srcI d n).map (Value.int .i64)), boxE b1 #[.int .i64 d.W, .int .i64 d.H, .int .i64 d.T, .int .i64 d.R] 25]) (fun j => [(0, .agg #[.int .i64 d.W, .int .i64 d.H, .int .i64 d.T, .int .i64 d.R]), (1, .int .i64 n), (2, .int .i64 x), (3, .pointer (some ⟨b1, 0, none⟩)), (6, .int .i64 0), (11, v2), (12, .int .i64 ((srcI d n).length : Int)), (13, .int .i64 (j : Int))]) (fun j => j ≤ (srcI d n).length ∧ ∀ i, i < j → (srcI d n).getD i 0 ≠ x) (fun j => (srcI d n).length - j) 0 ⟨by omega, fun i hi => absurd hi (by omega)⟩ (sub_cons (d := 0) rfl (sub_cons (d := 1) rfl (sub_cons (d := 2) rfl (sub_cons (d := 3) rfl (sub_cons (d := 6) rfl (sub_cons (d := 11) rfl (sub_cons (d := 12) rfl (sub_cons (d := 13) rfl (sub_nil _))))))))) ((.cons_cons _ (.cons_cons _ .slnil))) ?_
  intro j hi5
  obtain ⟨hk1, hk2⟩ := hi5
  refine hc_seq ?_
  refine hc_region ?_
  refine hl_lss rfl rfl rfl rfl rfl rfl (fun h6 => ?_) (fun h6 => ?_)
  ·
    refine hl_less (sub_cons (d := 0) rfl (sub_cons (d := 1) rfl (sub_cons (d := 2) rfl (sub_cons (d := 3) rfl (sub_cons (d := 6) rfl (sub_cons (d := 11) rfl (sub_cons (d := 12) rfl (sub_cons (d := 13) rfl (sub_cons (d := 14) rfl (sub_nil _)))))))))) (.refl _) ?_
    refine hl_nil ?_
    refine hq_then ?_
    refine hc_seq ?_
    refine hc_true rfl ?_
    refine hc_skip ?_
    refine hq_then ?_
    refine hc_seq ?_
    refine hc_block ?_
    refine hc_seq ?_
    refine hc_region ?_
    refine hl_v rfl rfl rfl (rv_ev rfl) ?_
    refine hl_v rfl rfl rfl (rv_index (s := 1) rfl Try.underlying30 (by kernel_rfl) rfl rfl (rd_row 0 rfl) (by omega) (by first | omega | (simp only [List.length_set]; omega))) ?_
    refine hl_v rfl rfl rfl (rv_loadEl (u := .int .i64 ((srcI d n).getD j 0)) rfl (by kernel_rfl) rfl (rd_row 0 rfl) (ints_at1 (show _ < (srcI d n).length by first | omega | (simp only [List.length_set]; omega)))) ?_
    refine hl_v rfl rfl rfl (rv_ev rfl) ?_
    refine hl_v rfl rfl rfl (rv_ev rfl) ?_
    refine hl_less (sub_cons (d := 0) rfl (sub_cons (d := 1) rfl (sub_cons (d := 2) rfl (sub_cons (d := 3) rfl (sub_cons (d := 6) rfl (sub_cons (d := 7) rfl (sub_cons (d := 8) rfl (sub_cons (d := 11) rfl (sub_cons (d := 12) rfl (sub_cons (d := 13) rfl (sub_cons (d := 14) rfl (sub_nil _)))))))))))) (.refl _) ?_
    refine hl_nil ?_
    refine hq_then ?_
    refine hc_seq ?_
    refine hc_region ?_
    refine hl_v rfl rfl rfl (rv_ev rfl) ?_
    refine hl_v rfl rfl rfl (rv_ev rfl) ?_
    refine hl_eql rfl rfl rfl rfl rfl rfl (fun h7 => ?_) (fun h7 => ?_)
    ·
      refine hl_less (sub_cons (d := 0) rfl (sub_cons (d := 1) rfl (sub_cons (d := 2) rfl (sub_cons (d := 3) rfl (sub_cons (d := 6) rfl (sub_cons (d := 7) rfl (sub_cons (d := 8) rfl (sub_cons (d := 11) rfl (sub_cons (d := 12) rfl (sub_cons (d := 13) rfl (sub_cons (d := 14) rfl (sub_cons (d := 20) rfl (sub_nil _))))))))))))) (.refl _) ?_
      refine hl_nil ?_
      refine hq_then ?_
      refine hc_true rfl ?_
      refine hc_seq ?_
      refine hc_region ?_
      refine hl_v rfl rfl rfl (rv_ev rfl) ?_
      refine hl_v rfl rfl rfl (rv_add rfl rfl rfl (by constructor <;> omega)) ?_
      refine hl_v rfl rfl rfl (rv_ev rfl) ?_
      refine hl_less (sub_cons (d := 0) rfl (sub_cons (d := 1) rfl (sub_cons (d := 2) rfl (sub_cons (d := 3) rfl (sub_cons (d := 6) rfl (sub_cons (d := 7) rfl (sub_cons (d := 8) rfl (sub_cons (d := 11) rfl (sub_cons (d := 12) rfl (sub_cons (d := 13) rfl (sub_cons (d := 14) rfl (sub_cons (d := 20) rfl (sub_nil _))))))))))))) (.refl _) ?_
      refine hl_nil ?_
      refine hq_then ?_
      refine hc_ret ?_
      refine hq_block_ret ?_
      refine hq_then_ret ?_
      refine hq_then_ret ?_
      refine hq_block_ret ?_
      refine hq_then_ret ?_
      exact hq_ans rfl rfl (congrArg _ (selI_at (srcI d n) x j (by omega) hk2 (by assumption)).symm)
    ·
      refine hl_less (sub_cons (d := 0) rfl (sub_cons (d := 1) rfl (sub_cons (d := 2) rfl (sub_cons (d := 3) rfl (sub_cons (d := 6) rfl (sub_cons (d := 7) rfl (sub_cons (d := 8) rfl (sub_cons (d := 11) rfl (sub_cons (d := 12) rfl (sub_cons (d := 13) rfl (sub_cons (d := 14) rfl (sub_cons (d := 20) rfl (sub_nil _))))))))))))) (.refl _) ?_
      refine hl_nil ?_
      refine hq_then ?_
      refine hc_false rfl ?_
      refine hc_skip ?_
      refine hq_block_normal ?_
      refine hq_then ?_
      refine hc_region ?_
      refine hl_v rfl rfl rfl (rv_add rfl rfl rfl (by constructor <;> omega)) ?_
      refine hl_v rfl rfl rfl (rv_ev rfl) ?_
      refine hl_less (sub_cons (d := 0) rfl (sub_cons (d := 1) rfl (sub_cons (d := 2) rfl (sub_cons (d := 3) rfl (sub_cons (d := 6) rfl (sub_cons (d := 7) rfl (sub_cons (d := 8) rfl (sub_cons (d := 11) rfl (sub_cons (d := 12) rfl (sub_cons (d := 13) rfl (sub_cons (d := 14) rfl (sub_cons (d := 20) rfl (sub_nil _))))))))))))) (.refl _) ?_
      refine hl_nil ?_
      exact hq_round1 (j + 1) ⟨by omega, fun i hi => by by_cases hij : i = j; (subst hij; assumption); exact hk2 i (by omega)⟩ (by omega) (sub_cons (d := 0) rfl (sub_cons (d := 1) rfl (sub_cons (d := 2) rfl (sub_cons (d := 3) rfl (sub_cons (d := 6) rfl (sub_cons (d := 11) rfl (sub_cons (d := 12) rfl (sub_cons (d := 13) rfl (sub_nil _))))))))) ((.cons_cons _ (.cons_cons _ .slnil)))
  ·
    refine hl_less (sub_cons (d := 0) rfl (sub_cons (d := 1) rfl (sub_cons (d := 2) rfl (sub_cons (d := 3) rfl (sub_cons (d := 6) rfl (sub_cons (d := 11) rfl (sub_cons (d := 12) rfl (sub_cons (d := 13) rfl (sub_cons (d := 14) rfl (sub_nil _)))))))))) (.refl _) ?_
    refine hl_nil ?_
    refine hq_then ?_
    refine hc_seq ?_
    refine hc_false rfl ?_
    refine hc_exit ?_
    refine hq_then_exit ?_
    refine hq_then_exit ?_
    refine hq_block_exit ?_
    refine hq_then ?_
    refine hc_seq ?_
    refine hc_region ?_
    refine hl_v rfl rfl rfl (rv_ev rfl) ?_
    refine hl_less (sub_cons (d := 0) rfl (sub_cons (d := 1) rfl (sub_cons (d := 2) rfl (sub_cons (d := 3) rfl (sub_cons (d := 6) rfl (sub_cons (d := 11) rfl (sub_cons (d := 12) rfl (sub_cons (d := 13) rfl (sub_cons (d := 14) rfl (sub_nil _)))))))))) (.refl _) ?_
    refine hl_nil ?_
    refine hq_then ?_
    refine hc_ret ?_
    exact hq_ans rfl rfl (congrArg _ (selI_none (srcI d n) x (fun i hi => hk2 i (by omega))).symm)
end Go.Proofs.Ytnnkbpcfjjijbaa
