/- Formulas: the walks of the program's functions. -/
import Derived.Test.YteccnnpcigkmhaaCnfP
set_option linter.unusedVariables false
set_option linter.unusedSimpArgs false
namespace Go.Proofs.Yteccnnpcigkmhaa
open Go.RowKit

theorem inr_yes3 {a b c : Int} (h1 : b ≤ a) (h2 : a ≤ c) (w : World) : Calls Try.prog 34 #[.int .i64 a, .int .i64 b, .int .i64 c] w (Ans w (.bool true)) := by
  rw [← inR_true h1 h2]; exact ans_of (inRange_any _ _ _ w)
theorem l01In_yes3 {a b c : Int} (h1 : b ≤ a) (h2 : a ≤ c) (w : World) : Calls Try.prog 30 #[.int .i64 a, .int .i64 b, .int .i64 c] w (Ans w (.bool true)) := by
  rw [← inR_true h1 h2]; exact ans_of (l01In_any _ _ _ w)
set_option maxHeartbeats 4000000 in
set_option maxRecDepth 100000 in
theorem copyInts_ret (xs : List Int) (v : Value) (w : World) (hv : RdsW w v 1 xs.length (xs.map (Value.int .i64))) (hlen : xs.length ≤ 1000000) :
    Calls Try.prog 64 #[v] w (Ret w (fun v' post => post = [rowE 3 1 v' (xs).length ((xs).map (Value.int .i64))])) := by
  refine calls_hc (N := 6) (args := [v]) Try.func64 rfl rfl ?_
  refine hc_less _ (sub_cons (d := 0) rfl (sub_nil _)) (.refl _) ?_
  refine hc_seq ?_
  refine hc_region ?_
  refine hl_v rfl rfl rfl (rv_ev rfl) ?_
  refine hl_less (sub_cons (d := 0) rfl (sub_cons (d := 2) rfl (sub_nil _))) (.refl _) ?_
  refine hl_nil ?_
  refine hq_then ?_
  refine hc_seq ?_
  refine hc_region ?_
  refine hl_row rfl rfl rfl (rq_slice0 (s := 1) rfl Try.underlying43 (by kernel_rfl)) ?_
  intro g1
  refine hl_v rfl rfl rfl (rv_ev rfl) ?_
  refine hl_append (i := 0) (z := .int .i64 0) (bytes := 8) (n' := xs.length) (xs' := (xs.map (Value.int .i64))) (L := fun v2 => [rowE 3 1 v2 xs.length (xs.map (Value.int .i64))]) rfl rfl rfl rfl Try.underlying43 (by kernel_rfl) (by kernel_rfl) rfl rfl rfl (rd_old hv) (ints_one _) (by first | omega | (simp; omega)) ((Nat.zero_add _)) ((List.nil_append _)) (fun _ => rfl) ?_
  intro v2
  refine hl_v rfl rfl rfl (rv_ev rfl) ?_
  refine hl_less (sub_cons (d := 0) rfl (sub_cons (d := 2) rfl (sub_nil _))) (.refl _) ?_
  refine hl_nil ?_
  refine hq_then ?_
  refine hc_ret ?_
  exact hq_retR (post := [rowE 3 1 v2 xs.length (xs.map (Value.int .i64))]) rfl rfl ((.cons_cons _ .slnil)) rfl
set_option maxHeartbeats 4000000 in
set_option maxRecDepth 100000 in
theorem valueIn_ans (n : Int) (ps : List Int) (v : Value) (l : Int) (w : World) (hv : RdsW w v 1 ps.length (ps.map (Value.int .i64))) (hp : PsOk n ps) (hl : l ≠ 0 ∧ -n ≤ l ∧ l ≤ n) (hn : n ≤ 400) :
    Calls Try.prog 67 #[v, .int .i64 l] w (Ans w (.int .i64 (valI ps l))) := by
  have hpl := hp.1
  have hb1 : l < 0 → -1 ≤ ps.getD (-l - 1).toNat 0 ∧ ps.getD (-l - 1).toNat 0 ≤ 1 := fun h => hp.2 _ (by omega)
  refine calls_hc (N := 19) (args := [v, .int .i64 l]) Try.func67 rfl rfl ?_
  refine hc_less _ (sub_cons (d := 0) rfl (sub_cons (d := 1) rfl (sub_nil _))) (.refl _) ?_
  refine hc_seq ?_
  refine hc_region ?_
  refine hl_v rfl rfl rfl (rv_ev rfl) ?_
  refine hl_less (sub_cons (d := 0) rfl (sub_cons (d := 1) rfl (sub_cons (d := 4) rfl (sub_nil _)))) (.refl _) ?_
  refine hl_nil ?_
  refine hq_then ?_
  refine hc_seq ?_
  refine hc_seq ?_
  refine hc_region ?_
  refine hl_v rfl rfl rfl (rv_ev rfl) ?_
  refine hl_lss rfl rfl rfl rfl rfl rfl (fun h1 => ?_) (fun h1 => ?_)
  ·
    refine hl_less (sub_cons (d := 0) rfl (sub_cons (d := 1) rfl (sub_cons (d := 4) rfl (sub_cons (d := 6) rfl (sub_nil _))))) (.refl _) ?_
    refine hl_nil ?_
    refine hq_then ?_
    refine hc_true rfl ?_
    refine hc_seq ?_
    refine hc_region ?_
    refine hl_v rfl rfl rfl (rv_ev rfl) ?_
    refine hl_v rfl rfl rfl (rv_ev rfl) ?_
    refine hl_v rfl rfl rfl (rv_neg rfl rfl (by omega) (by omega)) ?_
    refine hl_v rfl rfl rfl (rv_sub rfl rfl rfl (by constructor <;> omega)) ?_
    refine hl_v rfl rfl rfl (rv_index (s := 1) rfl Try.underlying43 (by kernel_rfl) rfl rfl (rd_old hv) (by omega) (by first | omega | (simp only [List.length_set]; omega))) ?_
    refine hl_v rfl rfl rfl (rv_loadEl (u := .int .i64 (ps.getD (((-l) - 1).toNat) 0)) rfl (by kernel_rfl) rfl (rd_old hv) (ints_at1 (show _ < ps.length by first | omega | (simp only [List.length_set]; omega)))) ?_
    refine hl_v rfl rfl rfl (rv_neg rfl rfl (by omega) (by omega)) ?_
    refine hl_v rfl rfl rfl (rv_ev rfl) ?_
    refine hl_less (sub_cons (d := 0) rfl (sub_cons (d := 1) rfl (sub_cons (d := 4) rfl (sub_cons (d := 6) rfl (sub_nil _))))) (.refl _) ?_
    refine hl_nil ?_
    refine hq_then ?_
    refine hc_ret ?_
    refine hq_then_ret ?_
    exact hq_ans rfl rfl (by unfold valI; first | rw [if_pos (by omega)] | rw [if_neg (by omega)])
  ·
    refine hl_less (sub_cons (d := 0) rfl (sub_cons (d := 1) rfl (sub_cons (d := 4) rfl (sub_cons (d := 6) rfl (sub_nil _))))) (.refl _) ?_
    refine hl_nil ?_
    refine hq_then ?_
    refine hc_false rfl ?_
    refine hc_skip ?_
    refine hq_then ?_
    refine hc_seq ?_
    refine hc_region ?_
    refine hl_v rfl rfl rfl (rv_ev rfl) ?_
    refine hl_v rfl rfl rfl (rv_ev rfl) ?_
    refine hl_v rfl rfl rfl (rv_sub rfl rfl rfl (by constructor <;> omega)) ?_
    refine hl_v rfl rfl rfl (rv_index (s := 1) rfl Try.underlying43 (by kernel_rfl) rfl rfl (rd_old hv) (by omega) (by first | omega | (simp only [List.length_set]; omega))) ?_
    refine hl_v rfl rfl rfl (rv_loadEl (u := .int .i64 (ps.getD ((l - 1).toNat) 0)) rfl (by kernel_rfl) rfl (rd_old hv) (ints_at1 (show _ < ps.length by first | omega | (simp only [List.length_set]; omega)))) ?_
    refine hl_v rfl rfl rfl (rv_ev rfl) ?_
    refine hl_less (sub_cons (d := 0) rfl (sub_cons (d := 1) rfl (sub_cons (d := 4) rfl (sub_cons (d := 6) rfl (sub_nil _))))) (.refl _) ?_
    refine hl_nil ?_
    refine hq_then ?_
    refine hc_ret ?_
    exact hq_ans rfl rfl (by unfold valI; first | rw [if_pos (by omega)] | rw [if_neg (by omega)])
/-- what has been seen of a clause -/
structure USeen (xs ps : List Int) (m : Nat) (u : Int) : Prop where
  all : ∀ i, i < m → xs.getD i 0 = u ∨ valI ps (xs.getD i 0) = -1
  one : u ≠ 0 → valI ps u = 0 ∧ ∃ i, i < m ∧ xs.getD i 0 = u
theorem seen_skip {xs ps : List Int} {m : Nat} {u : Int} (h : USeen xs ps m u) (hv : valI ps (xs.getD m 0) = -1) : USeen xs ps (m + 1) u :=
  ⟨fun i hi => by by_cases e : i = m; (subst e; exact .inr hv); exact h.all i (by omega), fun hu => ⟨(h.one hu).1, by obtain ⟨i, hi, e⟩ := (h.one hu).2; exact ⟨i, by omega, e⟩⟩⟩
theorem seen_new {xs ps : List Int} {m : Nat} {u : Int} (h : USeen xs ps m u) (hv : valI ps (xs.getD m 0) = 0) (hu : u = 0 ∨ u = xs.getD m 0) (hx : ∀ i, i < m → xs.getD i 0 ≠ 0) : USeen xs ps (m + 1) (xs.getD m 0) :=
  ⟨fun i hi => by
    by_cases e : i = m
    · subst e; exact .inl rfl
    · rcases h.all i (by omega) with h1 | h1
      · rcases hu with h2 | h2
        · exact absurd (h1.trans h2) (hx i (by omega))
        · exact .inl (h1.trans h2)
      · exact .inr h1, fun _ => ⟨hv, m, by omega, rfl⟩⟩
theorem uok_end {xs ps : List Int} {u : Int} {b : Bool} (h : USeen xs ps xs.length u) (hx : ∀ i, i < xs.length → xs.getD i 0 ≠ 0) (hb : b = decide (u = 0)) : UOk xs ps u b := by
  subst hb
  refine ⟨fun hc => ?_, fun hu => ⟨by simp [hu], (h.one hu).1, by obtain ⟨i, hi, e⟩ := (h.one hu).2; exact ⟨i, hi, e⟩, h.all⟩, fun hc hu => ?_⟩
  · have hu : u = 0 := by simpa using hc
    refine ⟨hu, fun i hi => ?_⟩
    rcases h.all i hi with h1 | h1
    · exact absurd (h1.trans hu) (hx i hi)
    · exact h1
  · simp [hu] at hc
theorem uok_no {xs ps : List Int} {m : Nat} (hm : m < xs.length) (hv : valI ps (xs.getD m 0) ≠ -1) : UOk xs ps 0 false :=
  ⟨(fun h => by cases h), fun h => absurd rfl h, fun _ _ => ⟨m, hm, hv⟩⟩
set_option maxHeartbeats 4000000 in
set_option maxRecDepth 100000 in
theorem unitOf_ret (n : Int) (xs ps : List Int) (v pv : Value) (w : World) (hv : RdsW w v 1 xs.length (xs.map (Value.int .i64))) (hpv : RdsW w pv 1 ps.length (ps.map (Value.int .i64))) (hx : LitOk n xs) (hp : PsOk n ps) (hn : n ≤ 400) :
    Calls Try.prog 65 #[v, pv] w (Ret w (fun v' post => ∃ u cf, v' = .tuple #[.int .i64 u, .bool cf] ∧ post = [] ∧ UOk xs ps u cf)) := by
  have hxl := hx.1
  have hxz : ∀ i, i < xs.length → xs.getD i 0 ≠ 0 := fun i hi => (hx.2 i hi).1
  refine calls_hc (N := 34) (args := [v, pv]) Try.func65 rfl rfl ?_
  refine hc_less _ (sub_cons (d := 0) rfl (sub_cons (d := 1) rfl (sub_nil _))) (.refl _) ?_
  refine hc_seq ?_
  refine hc_region ?_
  refine hl_v rfl rfl rfl (rv_ev rfl) ?_
  refine hl_v rfl rfl rfl (rv_ev rfl) ?_
  refine hl_less (sub_cons (d := 0) rfl (sub_cons (d := 1) rfl (sub_cons (d := 4) rfl (sub_cons (d := 5) rfl (sub_nil _))))) (.refl _) ?_
  refine hl_nil ?_
  refine hq_then ?_
  refine hc_seq ?_
  refine hc_region ?_
  refine hl_v rfl rfl rfl (rv_ev rfl) ?_
  refine hl_less (sub_cons (d := 0) rfl (sub_cons (d := 1) rfl (sub_cons (d := 4) rfl (sub_cons (d := 5) rfl (sub_cons (d := 6) rfl (sub_nil _)))))) (.refl _) ?_
  refine hl_nil ?_
  refine hq_then ?_
  refine hc_seq ?_
  refine hc_seq ?_
  refine hc_region ?_
  refine hl_v rfl rfl rfl (rv_ev rfl) ?_
  refine hl_v rfl rfl rfl (rv_len rfl Try.underlying43 rfl (rd_old hv)) ?_
  refine hl_v rfl rfl rfl (rv_ev rfl) ?_
  refine hl_less (sub_cons (d := 0) rfl (sub_cons (d := 1) rfl (sub_cons (d := 4) rfl (sub_cons (d := 5) rfl (sub_cons (d := 6) rfl (sub_cons (d := 9) rfl (sub_cons (d := 10) rfl (sub_cons (d := 11) rfl (sub_nil _))))))))) (.refl _) ?_
  refine hl_nil ?_
  refine hq_then ?_
  refine hc_block ?_
  refine hc_loop2 (α := Nat) (β := Int) (fun m u => []) (fun m u => [(0, v), (1, pv), (4, .int .i64 0), (5, .bool false), (6, .int .i64 u), (9, v), (10, .int .i64 (xs.length : Int)), (11, .int .i64 (m : Int))]) (fun m u => m ≤ xs.length ∧ USeen xs ps m u) (fun m u => xs.length - m) 0 0 ⟨by omega, ⟨fun i hi => absurd hi (by omega), fun h => absurd rfl h⟩⟩ (sub_cons (d := 0) rfl (sub_cons (d := 1) rfl (sub_cons (d := 4) rfl (sub_cons (d := 5) rfl (sub_cons (d := 6) rfl (sub_cons (d := 9) rfl (sub_cons (d := 10) rfl (sub_cons (d := 11) rfl (sub_nil _))))))))) (.slnil) ?_
  intro m u hi1
  obtain ⟨hm, hse⟩ := hi1
  refine hc_seq ?_
  refine hc_region ?_
  refine hl_lss rfl rfl rfl rfl rfl rfl (fun h2 => ?_) (fun h2 => ?_)
  ·
    refine hl_less (sub_cons (d := 0) rfl (sub_cons (d := 1) rfl (sub_cons (d := 4) rfl (sub_cons (d := 5) rfl (sub_cons (d := 6) rfl (sub_cons (d := 9) rfl (sub_cons (d := 10) rfl (sub_cons (d := 11) rfl (sub_cons (d := 12) rfl (sub_nil _)))))))))) (.refl _) ?_
    refine hl_nil ?_
    refine hq_then ?_
    refine hc_seq ?_
    refine hc_true rfl ?_
    refine hc_skip ?_
    refine hq_then ?_
    refine hc_seq ?_
    refine hc_block ?_
    refine hc_seq ?_
    refine hc_region ?_
    refine hl_v rfl rfl rfl (rv_index (s := 1) rfl Try.underlying43 (by kernel_rfl) rfl rfl (rd_old hv) (by omega) (by first | omega | (simp only [List.length_set]; omega))) ?_
    refine hl_v rfl rfl rfl (rv_loadEl (u := .int .i64 (xs.getD m 0)) rfl (by kernel_rfl) rfl (rd_old hv) (ints_at1 (show _ < xs.length by first | omega | (simp only [List.length_set]; omega)))) ?_
    refine hl_v rfl rfl rfl (rv_ev rfl) ?_
    refine hl_less (sub_cons (d := 0) rfl (sub_cons (d := 1) rfl (sub_cons (d := 4) rfl (sub_cons (d := 5) rfl (sub_cons (d := 6) rfl (sub_cons (d := 8) rfl (sub_cons (d := 9) rfl (sub_cons (d := 10) rfl (sub_cons (d := 11) rfl (sub_cons (d := 12) rfl (sub_nil _))))))))))) (.refl _) ?_
    refine hl_nil ?_
    refine hq_then ?_
    refine hc_seq ?_
    refine hc_region ?_
    have hxm := hx.2 m (by omega)
    have hvr := val_rng hp hxm.1 hxm.2.1 hxm.2.2
    refine hl_v rfl rfl rfl (rv_ev rfl) ?_
    refine hl_v rfl rfl rfl (rv_ev rfl) ?_
    refine hl_callV rfl rfl rfl (rq_call (by kernel_rfl) rfl (fun w hm => ret_ans (valueIn_ans n ps pv (xs.getD m 0) w (hpv.below hm.bel) hp hxm hn))) ?_
    refine hl_less (sub_cons (d := 0) rfl (sub_cons (d := 1) rfl (sub_cons (d := 4) rfl (sub_cons (d := 5) rfl (sub_cons (d := 6) rfl (sub_cons (d := 8) rfl (sub_cons (d := 9) rfl (sub_cons (d := 10) rfl (sub_cons (d := 11) rfl (sub_cons (d := 12) rfl (sub_cons (d := 17) rfl (sub_nil _)))))))))))) (.refl _) ?_
    refine hl_nil ?_
    refine hq_then ?_
    refine hc_block ?_
    refine hc_seq ?_
    refine hc_region ?_
    refine hl_eql rfl rfl rfl rfl rfl rfl (fun h3 => ?_) (fun h3 => ?_)
    ·
      refine hl_v rfl rfl rfl (rv_ev rfl) ?_
      refine hl_less (sub_cons (d := 0) rfl (sub_cons (d := 1) rfl (sub_cons (d := 4) rfl (sub_cons (d := 5) rfl (sub_cons (d := 6) rfl (sub_cons (d := 8) rfl (sub_cons (d := 9) rfl (sub_cons (d := 10) rfl (sub_cons (d := 11) rfl (sub_cons (d := 12) rfl (sub_cons (d := 17) rfl (sub_cons (d := 18) rfl (sub_nil _))))))))))))) (.refl _) ?_
      refine hl_nil ?_
      refine hq_then ?_
      refine hc_true rfl ?_
      refine hc_seq ?_
      refine hc_region ?_
      refine hl_v rfl rfl rfl (rv_ev rfl) ?_
      refine hl_v rfl rfl rfl (rv_ev rfl) ?_
      refine hl_less (sub_cons (d := 0) rfl (sub_cons (d := 1) rfl (sub_cons (d := 4) rfl (sub_cons (d := 5) rfl (sub_cons (d := 6) rfl (sub_cons (d := 8) rfl (sub_cons (d := 9) rfl (sub_cons (d := 10) rfl (sub_cons (d := 11) rfl (sub_cons (d := 12) rfl (sub_cons (d := 17) rfl (sub_cons (d := 18) rfl (sub_nil _))))))))))))) (.refl _) ?_
      refine hl_nil ?_
      refine hq_then ?_
      refine hc_ret ?_
      refine hq_block_ret ?_
      refine hq_block_ret ?_
      refine hq_then_ret ?_
      refine hq_then_ret ?_
      refine hq_block_ret ?_
      refine hq_then_ret ?_
      exact hq_retM (rs := [.tmp 4, .tmp 5]) (vs := [.int .i64 0, .bool false]) (post := []) rfl ⟨rfl, rfl, trivial⟩ rfl (List.nil_sublist _) ⟨_, _, rfl, rfl, by first | exact uok_no (m := m) (by omega) (by omega) | exact uok_end (show USeen xs ps xs.length u from (show m = xs.length by omega) ▸ hse) hxz (by first | exact (decide_eq_true (by assumption)).symm | exact (decide_eq_false (by assumption)).symm)⟩
    ·
      refine hl_v rfl rfl rfl (rv_ev rfl) ?_
      refine hl_less (sub_cons (d := 0) rfl (sub_cons (d := 1) rfl (sub_cons (d := 4) rfl (sub_cons (d := 5) rfl (sub_cons (d := 6) rfl (sub_cons (d := 8) rfl (sub_cons (d := 9) rfl (sub_cons (d := 10) rfl (sub_cons (d := 11) rfl (sub_cons (d := 12) rfl (sub_cons (d := 17) rfl (sub_cons (d := 18) rfl (sub_nil _))))))))))))) (.refl _) ?_
      refine hl_nil ?_
      refine hq_then ?_
      refine hc_false rfl ?_
      refine hc_seq ?_
      refine hc_region ?_
      refine hl_eql rfl rfl rfl rfl rfl rfl (fun h4 => ?_) (fun h4 => ?_)
      ·
        refine hl_v rfl rfl rfl (rv_ev rfl) ?_
        refine hl_less (sub_cons (d := 0) rfl (sub_cons (d := 1) rfl (sub_cons (d := 4) rfl (sub_cons (d := 5) rfl (sub_cons (d := 6) rfl (sub_cons (d := 8) rfl (sub_cons (d := 9) rfl (sub_cons (d := 10) rfl (sub_cons (d := 11) rfl (sub_cons (d := 12) rfl (sub_cons (d := 17) rfl (sub_cons (d := 18) rfl (sub_cons (d := 20) rfl (sub_nil _)))))))))))))) (.refl _) ?_
        refine hl_nil ?_
        refine hq_then ?_
        refine hc_true rfl ?_
        refine hc_seq ?_
        refine hc_seq ?_
        refine hc_region ?_
        refine hl_v rfl rfl rfl (rv_ev rfl) ?_
        refine hl_neq rfl rfl rfl rfl rfl rfl (fun h5 => ?_) (fun h5 => ?_)
        ·
          refine hl_v rfl rfl rfl (rv_ev rfl) ?_
          refine hl_v rfl rfl rfl (rv_ev rfl) ?_
          refine hl_v rfl rfl rfl (rv_ev rfl) ?_
          refine hl_neq rfl rfl rfl rfl rfl rfl (fun h6 => ?_) (fun h6 => ?_)
          ·
            refine hl_v rfl rfl rfl (rv_ev rfl) ?_
            refine hl_less (sub_cons (d := 0) rfl (sub_cons (d := 1) rfl (sub_cons (d := 4) rfl (sub_cons (d := 5) rfl (sub_cons (d := 6) rfl (sub_cons (d := 8) rfl (sub_cons (d := 9) rfl (sub_cons (d := 10) rfl (sub_cons (d := 11) rfl (sub_cons (d := 12) rfl (sub_cons (d := 17) rfl (sub_cons (d := 18) rfl (sub_cons (d := 20) rfl (sub_cons (d := 28) rfl (sub_nil _))))))))))))))) (.refl _) ?_
            refine hl_nil ?_
            refine hq_then ?_
            refine hc_true rfl ?_
            refine hc_seq ?_
            refine hc_region ?_
            refine hl_v rfl rfl rfl (rv_ev rfl) ?_
            refine hl_v rfl rfl rfl (rv_ev rfl) ?_
            refine hl_less (sub_cons (d := 0) rfl (sub_cons (d := 1) rfl (sub_cons (d := 4) rfl (sub_cons (d := 5) rfl (sub_cons (d := 6) rfl (sub_cons (d := 8) rfl (sub_cons (d := 9) rfl (sub_cons (d := 10) rfl (sub_cons (d := 11) rfl (sub_cons (d := 12) rfl (sub_cons (d := 17) rfl (sub_cons (d := 18) rfl (sub_cons (d := 20) rfl (sub_cons (d := 28) rfl (sub_nil _))))))))))))))) (.refl _) ?_
            refine hl_nil ?_
            refine hq_then ?_
            refine hc_ret ?_
            refine hq_then_ret ?_
            refine hq_block_ret ?_
            refine hq_block_ret ?_
            refine hq_then_ret ?_
            refine hq_then_ret ?_
            refine hq_block_ret ?_
            refine hq_then_ret ?_
            exact hq_retM (rs := [.tmp 4, .tmp 5]) (vs := [.int .i64 0, .bool false]) (post := []) rfl ⟨rfl, rfl, trivial⟩ rfl (List.nil_sublist _) ⟨_, _, rfl, rfl, by first | exact uok_no (m := m) (by omega) (by omega) | exact uok_end (show USeen xs ps xs.length u from (show m = xs.length by omega) ▸ hse) hxz (by first | exact (decide_eq_true (by assumption)).symm | exact (decide_eq_false (by assumption)).symm)⟩
          ·
            refine hl_v rfl rfl rfl (rv_ev rfl) ?_
            refine hl_less (sub_cons (d := 0) rfl (sub_cons (d := 1) rfl (sub_cons (d := 4) rfl (sub_cons (d := 5) rfl (sub_cons (d := 6) rfl (sub_cons (d := 8) rfl (sub_cons (d := 9) rfl (sub_cons (d := 10) rfl (sub_cons (d := 11) rfl (sub_cons (d := 12) rfl (sub_cons (d := 17) rfl (sub_cons (d := 18) rfl (sub_cons (d := 20) rfl (sub_cons (d := 28) rfl (sub_nil _))))))))))))))) (.refl _) ?_
            refine hl_nil ?_
            refine hq_then ?_
            refine hc_false rfl ?_
            refine hc_skip ?_
            refine hq_then ?_
            refine hc_region ?_
            refine hl_v rfl rfl rfl (rv_ev rfl) ?_
            refine hl_v rfl rfl rfl (rv_ev rfl) ?_
            refine hl_less (sub_cons (d := 0) rfl (sub_cons (d := 1) rfl (sub_cons (d := 4) rfl (sub_cons (d := 5) rfl (sub_cons (d := 6) rfl (sub_cons (d := 8) rfl (sub_cons (d := 9) rfl (sub_cons (d := 10) rfl (sub_cons (d := 11) rfl (sub_cons (d := 12) rfl (sub_cons (d := 17) rfl (sub_cons (d := 18) rfl (sub_cons (d := 20) rfl (sub_cons (d := 28) rfl (sub_nil _))))))))))))))) (.refl _) ?_
            refine hl_nil ?_
            refine hq_block_normal ?_
            refine hq_block_normal ?_
            refine hq_then ?_
            refine hc_region ?_
            refine hl_v rfl rfl rfl (rv_add rfl rfl rfl (by constructor <;> omega)) ?_
            refine hl_v rfl rfl rfl (rv_ev rfl) ?_
            refine hl_less (sub_cons (d := 0) rfl (sub_cons (d := 1) rfl (sub_cons (d := 4) rfl (sub_cons (d := 5) rfl (sub_cons (d := 6) rfl (sub_cons (d := 8) rfl (sub_cons (d := 9) rfl (sub_cons (d := 10) rfl (sub_cons (d := 11) rfl (sub_cons (d := 12) rfl (sub_cons (d := 17) rfl (sub_cons (d := 18) rfl (sub_cons (d := 20) rfl (sub_cons (d := 28) rfl (sub_nil _))))))))))))))) (.refl _) ?_
            refine hl_nil ?_
            exact hq_round2 (m + 1) (xs.getD m 0) ⟨by omega, seen_new hse (by omega) (by omega) (fun i hi => hxz i (by omega))⟩ (by omega) (sub_cons (d := 0) rfl (sub_cons (d := 1) rfl (sub_cons (d := 4) rfl (sub_cons (d := 5) rfl (sub_cons (d := 6) rfl (sub_cons (d := 9) rfl (sub_cons (d := 10) rfl (sub_cons (d := 11) rfl (sub_nil _))))))))) (.slnil)
        ·
          refine hl_v rfl rfl rfl (rv_ev rfl) ?_
          refine hl_skip rfl rfl rfl ?_
          refine hl_skip rfl rfl rfl ?_
          refine hl_skip rfl rfl rfl ?_
          refine hl_v rfl rfl rfl (rv_ev rfl) ?_
          refine hl_less (sub_cons (d := 0) rfl (sub_cons (d := 1) rfl (sub_cons (d := 4) rfl (sub_cons (d := 5) rfl (sub_cons (d := 6) rfl (sub_cons (d := 8) rfl (sub_cons (d := 9) rfl (sub_cons (d := 10) rfl (sub_cons (d := 11) rfl (sub_cons (d := 12) rfl (sub_cons (d := 17) rfl (sub_cons (d := 18) rfl (sub_cons (d := 20) rfl (sub_cons (d := 28) rfl (sub_nil _))))))))))))))) (.refl _) ?_
          refine hl_nil ?_
          refine hq_then ?_
          refine hc_false rfl ?_
          refine hc_skip ?_
          refine hq_then ?_
          refine hc_region ?_
          refine hl_v rfl rfl rfl (rv_ev rfl) ?_
          refine hl_v rfl rfl rfl (rv_ev rfl) ?_
          refine hl_less (sub_cons (d := 0) rfl (sub_cons (d := 1) rfl (sub_cons (d := 4) rfl (sub_cons (d := 5) rfl (sub_cons (d := 6) rfl (sub_cons (d := 8) rfl (sub_cons (d := 9) rfl (sub_cons (d := 10) rfl (sub_cons (d := 11) rfl (sub_cons (d := 12) rfl (sub_cons (d := 17) rfl (sub_cons (d := 18) rfl (sub_cons (d := 20) rfl (sub_cons (d := 28) rfl (sub_nil _))))))))))))))) (.refl _) ?_
          refine hl_nil ?_
          refine hq_block_normal ?_
          refine hq_block_normal ?_
          refine hq_then ?_
          refine hc_region ?_
          refine hl_v rfl rfl rfl (rv_add rfl rfl rfl (by constructor <;> omega)) ?_
          refine hl_v rfl rfl rfl (rv_ev rfl) ?_
          refine hl_less (sub_cons (d := 0) rfl (sub_cons (d := 1) rfl (sub_cons (d := 4) rfl (sub_cons (d := 5) rfl (sub_cons (d := 6) rfl (sub_cons (d := 8) rfl (sub_cons (d := 9) rfl (sub_cons (d := 10) rfl (sub_cons (d := 11) rfl (sub_cons (d := 12) rfl (sub_cons (d := 17) rfl (sub_cons (d := 18) rfl (sub_cons (d := 20) rfl (sub_cons (d := 28) rfl (sub_nil _))))))))))))))) (.refl _) ?_
          refine hl_nil ?_
          exact hq_round2 (m + 1) (xs.getD m 0) ⟨by omega, seen_new hse (by omega) (by omega) (fun i hi => hxz i (by omega))⟩ (by omega) (sub_cons (d := 0) rfl (sub_cons (d := 1) rfl (sub_cons (d := 4) rfl (sub_cons (d := 5) rfl (sub_cons (d := 6) rfl (sub_cons (d := 9) rfl (sub_cons (d := 10) rfl (sub_cons (d := 11) rfl (sub_nil _))))))))) (.slnil)
      ·
        refine hl_v rfl rfl rfl (rv_ev rfl) ?_
        refine hl_less (sub_cons (d := 0) rfl (sub_cons (d := 1) rfl (sub_cons (d := 4) rfl (sub_cons (d := 5) rfl (sub_cons (d := 6) rfl (sub_cons (d := 8) rfl (sub_cons (d := 9) rfl (sub_cons (d := 10) rfl (sub_cons (d := 11) rfl (sub_cons (d := 12) rfl (sub_cons (d := 17) rfl (sub_cons (d := 18) rfl (sub_cons (d := 20) rfl (sub_nil _)))))))))))))) (.refl _) ?_
        refine hl_nil ?_
        refine hq_then ?_
        refine hc_false rfl ?_
        refine hc_skip ?_
        refine hq_block_normal ?_
        refine hq_block_normal ?_
        refine hq_then ?_
        refine hc_region ?_
        refine hl_v rfl rfl rfl (rv_add rfl rfl rfl (by constructor <;> omega)) ?_
        refine hl_v rfl rfl rfl (rv_ev rfl) ?_
        refine hl_less (sub_cons (d := 0) rfl (sub_cons (d := 1) rfl (sub_cons (d := 4) rfl (sub_cons (d := 5) rfl (sub_cons (d := 6) rfl (sub_cons (d := 8) rfl (sub_cons (d := 9) rfl (sub_cons (d := 10) rfl (sub_cons (d := 11) rfl (sub_cons (d := 12) rfl (sub_cons (d := 17) rfl (sub_cons (d := 18) rfl (sub_cons (d := 20) rfl (sub_nil _)))))))))))))) (.refl _) ?_
        refine hl_nil ?_
        exact hq_round2 (m + 1) u ⟨by omega, seen_skip hse (by omega)⟩ (by omega) (sub_cons (d := 0) rfl (sub_cons (d := 1) rfl (sub_cons (d := 4) rfl (sub_cons (d := 5) rfl (sub_cons (d := 6) rfl (sub_cons (d := 9) rfl (sub_cons (d := 10) rfl (sub_cons (d := 11) rfl (sub_nil _))))))))) (.slnil)
  ·
    refine hl_less (sub_cons (d := 0) rfl (sub_cons (d := 1) rfl (sub_cons (d := 4) rfl (sub_cons (d := 5) rfl (sub_cons (d := 6) rfl (sub_cons (d := 9) rfl (sub_cons (d := 10) rfl (sub_cons (d := 11) rfl (sub_cons (d := 12) rfl (sub_nil _)))))))))) (.refl _) ?_
    refine hl_nil ?_
    refine hq_then ?_
    refine hc_seq ?_
    refine hc_false rfl ?_
    refine hc_exit ?_
    refine hq_then_exit ?_
    refine hq_then_exit ?_
    refine hq_block_exit ?_
    refine hq_then ?_
    refine hc_seq ?_
    refine hc_region ?_
    refine hl_v rfl rfl rfl (rv_ev rfl) ?_
    refine hl_v rfl rfl rfl (rv_ev rfl) ?_
    refine hl_eql rfl rfl rfl rfl rfl rfl (fun h7 => ?_) (fun h7 => ?_)
    ·
      refine hl_v rfl rfl rfl (rv_ev rfl) ?_
      refine hl_v rfl rfl rfl (rv_ev rfl) ?_
      refine hl_less (sub_cons (d := 0) rfl (sub_cons (d := 1) rfl (sub_cons (d := 4) rfl (sub_cons (d := 5) rfl (sub_cons (d := 6) rfl (sub_cons (d := 9) rfl (sub_cons (d := 10) rfl (sub_cons (d := 11) rfl (sub_cons (d := 12) rfl (sub_nil _)))))))))) (.refl _) ?_
      refine hl_nil ?_
      refine hq_then ?_
      refine hc_ret ?_
      exact hq_retM (rs := [.tmp 4, .tmp 5]) (vs := [.int .i64 u, .bool true]) (post := []) rfl ⟨rfl, rfl, trivial⟩ rfl (List.nil_sublist _) ⟨_, _, rfl, rfl, by first | exact uok_no (m := m) (by omega) (by omega) | exact uok_end (show USeen xs ps xs.length u from (show m = xs.length by omega) ▸ hse) hxz (by first | exact (decide_eq_true (by assumption)).symm | exact (decide_eq_false (by assumption)).symm)⟩
    ·
      refine hl_v rfl rfl rfl (rv_ev rfl) ?_
      refine hl_v rfl rfl rfl (rv_ev rfl) ?_
      refine hl_less (sub_cons (d := 0) rfl (sub_cons (d := 1) rfl (sub_cons (d := 4) rfl (sub_cons (d := 5) rfl (sub_cons (d := 6) rfl (sub_cons (d := 9) rfl (sub_cons (d := 10) rfl (sub_cons (d := 11) rfl (sub_cons (d := 12) rfl (sub_nil _)))))))))) (.refl _) ?_
      refine hl_nil ?_
      refine hq_then ?_
      refine hc_ret ?_
      exact hq_retM (rs := [.tmp 4, .tmp 5]) (vs := [.int .i64 u, .bool false]) (post := []) rfl ⟨rfl, rfl, trivial⟩ rfl (List.nil_sublist _) ⟨_, _, rfl, rfl, by first | exact uok_no (m := m) (by omega) (by omega) | exact uok_end (show USeen xs ps xs.length u from (show m = xs.length by omega) ▸ hse) hxz (by first | exact (decide_eq_true (by assumption)).symm | exact (decide_eq_false (by assumption)).symm)⟩
set_option maxHeartbeats 4000000 in
set_option maxRecDepth 100000 in
theorem clauseOk_yes (n : Int) (xs : List Int) (v : Value) (w : World) (hv : RdsW w v 1 xs.length (xs.map (Value.int .i64))) (hx : LitOk n xs) (hn : 0 ≤ n ∧ n ≤ 400) :
    Calls Try.prog 63 #[v, .int .i64 n] w (Ans w (.bool true)) := by
  have hxl := hx.1
  refine calls_hc (N := 27) (args := [v, .int .i64 n]) Try.func63 rfl rfl ?_
  refine hc_less _ (sub_cons (d := 0) rfl (sub_cons (d := 1) rfl (sub_nil _))) (.refl _) ?_
  refine hc_seq ?_
  refine hc_region ?_
  refine hl_v rfl rfl rfl (rv_ev rfl) ?_
  refine hl_less (sub_cons (d := 0) rfl (sub_cons (d := 1) rfl (sub_cons (d := 4) rfl (sub_nil _)))) (.refl _) ?_
  refine hl_nil ?_
  refine hq_then ?_
  refine hc_seq ?_
  refine hc_seq ?_
  refine hc_region ?_
  refine hl_v rfl rfl rfl (rv_ev rfl) ?_
  refine hl_v rfl rfl rfl (rv_len rfl Try.underlying43 rfl (rd_old hv)) ?_
  refine hl_gtr rfl rfl rfl rfl rfl rfl (fun h1 => absurd h1 (by omega)) (fun h1 => ?_)
  refine hl_less (sub_cons (d := 0) rfl (sub_cons (d := 1) rfl (sub_cons (d := 4) rfl (sub_cons (d := 9) rfl (sub_nil _))))) (.refl _) ?_
  refine hl_nil ?_
  refine hq_then ?_
  refine hc_false rfl ?_
  refine hc_skip ?_
  refine hq_then ?_
  refine hc_seq ?_
  refine hc_seq ?_
  refine hc_region ?_
  refine hl_v rfl rfl rfl (rv_ev rfl) ?_
  refine hl_v rfl rfl rfl (rv_len rfl Try.underlying43 rfl (rd_old hv)) ?_
  refine hl_v rfl rfl rfl (rv_ev rfl) ?_
  refine hl_less (sub_cons (d := 0) rfl (sub_cons (d := 1) rfl (sub_cons (d := 4) rfl (sub_cons (d := 9) rfl (sub_cons (d := 10) rfl (sub_cons (d := 11) rfl (sub_cons (d := 12) rfl (sub_nil _)))))))) (.refl _) ?_
  refine hl_nil ?_
  refine hq_then ?_
  refine hc_block ?_
  refine hc_loop1 (α := Nat) (fun j => []) (fun j => [(0, v), (1, .int .i64 n), (4, .bool false), (9, .bool false), (10, v), (11, .int .i64 (xs.length : Int)), (12, .int .i64 (j : Int))]) (fun j => j ≤ xs.length) (fun j => xs.length - j) 0 (Nat.zero_le _) (sub_cons (d := 0) rfl (sub_cons (d := 1) rfl (sub_cons (d := 4) rfl (sub_cons (d := 9) rfl (sub_cons (d := 10) rfl (sub_cons (d := 11) rfl (sub_cons (d := 12) rfl (sub_nil _)))))))) (.slnil) ?_
  intro j hi2
  have hj := hi2
  refine hc_seq ?_
  refine hc_region ?_
  refine hl_lss rfl rfl rfl rfl rfl rfl (fun h3 => ?_) (fun h3 => ?_)
  ·
    refine hl_less (sub_cons (d := 0) rfl (sub_cons (d := 1) rfl (sub_cons (d := 4) rfl (sub_cons (d := 9) rfl (sub_cons (d := 10) rfl (sub_cons (d := 11) rfl (sub_cons (d := 12) rfl (sub_cons (d := 13) rfl (sub_nil _))))))))) (.refl _) ?_
    refine hl_nil ?_
    refine hq_then ?_
    refine hc_seq ?_
    refine hc_true rfl ?_
    refine hc_skip ?_
    refine hq_then ?_
    refine hc_seq ?_
    refine hc_block ?_
    refine hc_seq ?_
    refine hc_region ?_
    refine hl_v rfl rfl rfl (rv_index (s := 1) rfl Try.underlying43 (by kernel_rfl) rfl rfl (rd_old hv) (by omega) (by first | omega | (simp only [List.length_set]; omega))) ?_
    refine hl_v rfl rfl rfl (rv_loadEl (u := .int .i64 (xs.getD j 0)) rfl (by kernel_rfl) rfl (rd_old hv) (ints_at1 (show _ < xs.length by first | omega | (simp only [List.length_set]; omega)))) ?_
    refine hl_v rfl rfl rfl (rv_ev rfl) ?_
    refine hl_less (sub_cons (d := 0) rfl (sub_cons (d := 1) rfl (sub_cons (d := 4) rfl (sub_cons (d := 6) rfl (sub_cons (d := 9) rfl (sub_cons (d := 10) rfl (sub_cons (d := 11) rfl (sub_cons (d := 12) rfl (sub_cons (d := 13) rfl (sub_nil _)))))))))) (.refl _) ?_
    refine hl_nil ?_
    refine hq_then ?_
    refine hc_seq ?_
    refine hc_region ?_
    have hxj := hx.2 j (by omega)
    refine hl_v rfl rfl rfl (rv_ev rfl) ?_
    refine hl_eql rfl rfl rfl rfl rfl rfl (fun h4 => absurd h4 (by omega)) (fun h4 => ?_)
    have hxj := hx.2 j (by omega)
    refine hl_v rfl rfl rfl (rv_ev rfl) ?_
    have hxj := hx.2 j (by omega)
    refine hl_v rfl rfl rfl (rv_ev rfl) ?_
    have hxj := hx.2 j (by omega)
    refine hl_v rfl rfl rfl (rv_ev rfl) ?_
    refine hl_v rfl rfl rfl (rv_neg rfl rfl (by omega) (by omega)) ?_
    have hxj := hx.2 j (by omega)
    refine hl_v rfl rfl rfl (rv_ev rfl) ?_
    refine hl_callV rfl rfl rfl (rq_call (by kernel_rfl) rfl (fun w hm => ret_ans (inr_yes3 (by omega) (by omega) w))) ?_
    refine hl_v rfl rfl rfl (rv_ev rfl) ?_
    refine hl_v rfl rfl rfl (rv_ev rfl) ?_
    refine hl_less (sub_cons (d := 0) rfl (sub_cons (d := 1) rfl (sub_cons (d := 4) rfl (sub_cons (d := 6) rfl (sub_cons (d := 9) rfl (sub_cons (d := 10) rfl (sub_cons (d := 11) rfl (sub_cons (d := 12) rfl (sub_cons (d := 13) rfl (sub_cons (d := 25) rfl (sub_nil _))))))))))) (.refl _) ?_
    refine hl_nil ?_
    refine hq_then ?_
    refine hc_false rfl ?_
    refine hc_skip ?_
    refine hq_block_normal ?_
    refine hq_then ?_
    refine hc_region ?_
    refine hl_v rfl rfl rfl (rv_add rfl rfl rfl (by constructor <;> omega)) ?_
    refine hl_v rfl rfl rfl (rv_ev rfl) ?_
    refine hl_less (sub_cons (d := 0) rfl (sub_cons (d := 1) rfl (sub_cons (d := 4) rfl (sub_cons (d := 6) rfl (sub_cons (d := 9) rfl (sub_cons (d := 10) rfl (sub_cons (d := 11) rfl (sub_cons (d := 12) rfl (sub_cons (d := 13) rfl (sub_cons (d := 25) rfl (sub_nil _))))))))))) (.refl _) ?_
    refine hl_nil ?_
    exact hq_round1 (j + 1) (by omega) (by omega) (sub_cons (d := 0) rfl (sub_cons (d := 1) rfl (sub_cons (d := 4) rfl (sub_cons (d := 9) rfl (sub_cons (d := 10) rfl (sub_cons (d := 11) rfl (sub_cons (d := 12) rfl (sub_nil _)))))))) (.slnil)
  ·
    refine hl_less (sub_cons (d := 0) rfl (sub_cons (d := 1) rfl (sub_cons (d := 4) rfl (sub_cons (d := 9) rfl (sub_cons (d := 10) rfl (sub_cons (d := 11) rfl (sub_cons (d := 12) rfl (sub_cons (d := 13) rfl (sub_nil _))))))))) (.refl _) ?_
    refine hl_nil ?_
    refine hq_then ?_
    refine hc_seq ?_
    refine hc_false rfl ?_
    refine hc_exit ?_
    refine hq_then_exit ?_
    refine hq_then_exit ?_
    refine hq_block_exit ?_
    refine hq_then ?_
    refine hc_seq ?_
    refine hc_region ?_
    refine hl_v rfl rfl rfl (rv_ev rfl) ?_
    refine hl_less (sub_cons (d := 0) rfl (sub_cons (d := 1) rfl (sub_cons (d := 4) rfl (sub_cons (d := 9) rfl (sub_cons (d := 10) rfl (sub_cons (d := 11) rfl (sub_cons (d := 12) rfl (sub_cons (d := 13) rfl (sub_nil _))))))))) (.refl _) ?_
    refine hl_nil ?_
    refine hq_then ?_
    refine hc_ret ?_
    exact hq_ans rfl rfl rfl
set_option maxHeartbeats 4000000 in
set_option maxRecDepth 100000 in
theorem implCnfOk_yes (n : Int) (rs : List CRow) (v : Value) (w : World) (hr : ClOk n rs) (hv : RdsCl w v rs) :
    Calls Try.prog 48 #[.agg #[.int .i64 n, v]] w (Ans w (.bool true)) := by
  have hn0 := hr.n0
  have hn1 := hr.n1
  have hrl := hr.len
  refine calls_hc (N := 28) (args := [.agg #[.int .i64 n, v]]) Try.func48 rfl rfl ?_
  refine hc_less _ (sub_cons (d := 0) rfl (sub_nil _)) (.refl _) ?_
  refine hc_seq ?_
  refine hc_region ?_
  refine hl_box rfl rfl rfl (rq_box rfl rfl) ?_
  intro b1
  refine hl_v rfl rfl rfl (rv_ev rfl) ?_
  refine hl_less (sub_cons (d := 0) rfl (sub_cons (d := 1) rfl (sub_cons (d := 2) rfl (sub_nil _)))) (.refl _) ?_
  refine hl_nil ?_
  refine hq_then ?_
  refine hc_seq ?_
  refine hc_seq ?_
  refine hc_region ?_
  refine hl_v rfl rfl rfl (rv_field (k0 := 0) rfl (by kernel_rfl) rfl) ?_
  refine hl_v rfl rfl rfl (rv_load rfl (by kernel_rfl) rfl (box_cell 0 rfl rfl)) ?_
  refine hl_callV rfl rfl rfl (rq_call (by kernel_rfl) rfl (fun w hm => ret_ans (inr_yes3 (by omega) (by omega) w))) ?_
  refine hl_v rfl rfl rfl (rv_ev rfl) ?_
  refine hl_v rfl rfl rfl (rv_ev rfl) ?_
  refine hl_v rfl rfl rfl (rv_field (k0 := 1) rfl (by kernel_rfl) rfl) ?_
  refine hl_v rfl rfl rfl (rv_load rfl (by kernel_rfl) rfl (box_cell 0 rfl rfl)) ?_
  refine hl_v rfl rfl rfl (rv_len rfl Try.underlying52 rfl (rd_old hv.row)) ?_
  refine hl_gtr rfl rfl rfl rfl rfl rfl (fun h2 => absurd h2 (by omega)) (fun h2 => ?_)
  refine hl_v rfl rfl rfl (rv_ev rfl) ?_
  refine hl_less (sub_cons (d := 0) rfl (sub_cons (d := 1) rfl (sub_cons (d := 2) rfl (sub_cons (d := 14) rfl (sub_nil _))))) (.refl _) ?_
  refine hl_nil ?_
  refine hq_then ?_
  refine hc_false rfl ?_
  refine hc_skip ?_
  refine hq_then ?_
  refine hc_seq ?_
  refine hc_seq ?_
  refine hc_region ?_
  refine hl_v rfl rfl rfl (rv_field (k0 := 1) rfl (by kernel_rfl) rfl) ?_
  refine hl_v rfl rfl rfl (rv_load rfl (by kernel_rfl) rfl (box_cell 0 rfl rfl)) ?_
  refine hl_v rfl rfl rfl (rv_len rfl Try.underlying52 rfl (rd_old hv.row)) ?_
  refine hl_v rfl rfl rfl (rv_ev rfl) ?_
  refine hl_less (sub_cons (d := 0) rfl (sub_cons (d := 1) rfl (sub_cons (d := 2) rfl (sub_cons (d := 14) rfl (sub_cons (d := 16) rfl (sub_cons (d := 17) rfl (sub_cons (d := 18) rfl (sub_nil _)))))))) (.refl _) ?_
  refine hl_nil ?_
  refine hq_then ?_
  refine hc_block ?_
  refine hc_loop1 (α := Nat) (fun k => [boxE b1 #[.int .i64 n, v] 54]) (fun k => [(0, .agg #[.int .i64 n, v]), (1, .pointer (some ⟨b1, 0, none⟩)), (2, .bool false), (14, .bool false), (16, v), (17, .int .i64 (rs.length : Int)), (18, .int .i64 (k : Int))]) (fun k => k ≤ rs.length) (fun k => rs.length - k) 0 (Nat.zero_le _) (sub_cons (d := 0) rfl (sub_cons (d := 1) rfl (sub_cons (d := 2) rfl (sub_cons (d := 14) rfl (sub_cons (d := 16) rfl (sub_cons (d := 17) rfl (sub_cons (d := 18) rfl (sub_nil _)))))))) ((.cons_cons _ .slnil)) ?_
  intro k hi3
  have hk := hi3
  refine hc_seq ?_
  refine hc_region ?_
  refine hl_lss rfl rfl rfl rfl rfl rfl (fun h4 => ?_) (fun h4 => ?_)
  ·
    refine hl_less (sub_cons (d := 0) rfl (sub_cons (d := 1) rfl (sub_cons (d := 2) rfl (sub_cons (d := 14) rfl (sub_cons (d := 16) rfl (sub_cons (d := 17) rfl (sub_cons (d := 18) rfl (sub_cons (d := 19) rfl (sub_nil _))))))))) (.refl _) ?_
    refine hl_nil ?_
    refine hq_then ?_
    refine hc_seq ?_
    refine hc_true rfl ?_
    refine hc_skip ?_
    refine hq_then ?_
    refine hc_seq ?_
    refine hc_block ?_
    refine hc_seq ?_
    refine hc_region ?_
    refine hl_v rfl rfl rfl (rv_index (s := 1) rfl Try.underlying52 (by kernel_rfl) rfl rfl (rd_old hv.row) (by omega) (by first | omega | (simp only [List.length_set]; omega))) ?_
    refine hl_v rfl rfl rfl (rv_loadEl (u := (rs.getD k crow0).v) rfl (by kernel_rfl) rfl (rd_old hv.row) (flat_one crowC (fun r => r.v) (fun _ => rfl) rs crow0 (show k < _ by first | omega | (simp only [List.length_set]; omega)))) ?_
    refine hl_v rfl rfl rfl (rv_ev rfl) ?_
    refine hl_less (sub_cons (d := 0) rfl (sub_cons (d := 1) rfl (sub_cons (d := 2) rfl (sub_cons (d := 4) rfl (sub_cons (d := 14) rfl (sub_cons (d := 16) rfl (sub_cons (d := 17) rfl (sub_cons (d := 18) rfl (sub_cons (d := 19) rfl (sub_nil _)))))))))) (.refl _) ?_
    refine hl_nil ?_
    refine hq_then ?_
    refine hc_seq ?_
    refine hc_region ?_
    refine hl_v rfl rfl rfl (rv_ev rfl) ?_
    refine hl_v rfl rfl rfl (rv_field (k0 := 0) rfl (by kernel_rfl) rfl) ?_
    refine hl_v rfl rfl rfl (rv_load rfl (by kernel_rfl) rfl (box_cell 0 rfl rfl)) ?_
    refine hl_callV rfl rfl rfl (rq_call (by kernel_rfl) rfl (fun w hm => ret_ans (clauseOk_yes n (rs.getD k crow0).xs _ w ((hv.at (by omega)).below hm.bel) (hr.ok k (by omega)) ⟨hn0, hn1⟩))) ?_
    refine hl_v rfl rfl rfl (rv_ev rfl) ?_
    refine hl_less (sub_cons (d := 0) rfl (sub_cons (d := 1) rfl (sub_cons (d := 2) rfl (sub_cons (d := 4) rfl (sub_cons (d := 14) rfl (sub_cons (d := 16) rfl (sub_cons (d := 17) rfl (sub_cons (d := 18) rfl (sub_cons (d := 19) rfl (sub_cons (d := 26) rfl (sub_nil _))))))))))) (.refl _) ?_
    refine hl_nil ?_
    refine hq_then ?_
    refine hc_false rfl ?_
    refine hc_skip ?_
    refine hq_block_normal ?_
    refine hq_then ?_
    refine hc_region ?_
    refine hl_v rfl rfl rfl (rv_add rfl rfl rfl (by constructor <;> omega)) ?_
    refine hl_v rfl rfl rfl (rv_ev rfl) ?_
    refine hl_less (sub_cons (d := 0) rfl (sub_cons (d := 1) rfl (sub_cons (d := 2) rfl (sub_cons (d := 4) rfl (sub_cons (d := 14) rfl (sub_cons (d := 16) rfl (sub_cons (d := 17) rfl (sub_cons (d := 18) rfl (sub_cons (d := 19) rfl (sub_cons (d := 26) rfl (sub_nil _))))))))))) (.refl _) ?_
    refine hl_nil ?_
    exact hq_round1 (k + 1) (by omega) (by omega) (sub_cons (d := 0) rfl (sub_cons (d := 1) rfl (sub_cons (d := 2) rfl (sub_cons (d := 14) rfl (sub_cons (d := 16) rfl (sub_cons (d := 17) rfl (sub_cons (d := 18) rfl (sub_nil _)))))))) ((.cons_cons _ .slnil))
  ·
    refine hl_less (sub_cons (d := 0) rfl (sub_cons (d := 1) rfl (sub_cons (d := 2) rfl (sub_cons (d := 14) rfl (sub_cons (d := 16) rfl (sub_cons (d := 17) rfl (sub_cons (d := 18) rfl (sub_cons (d := 19) rfl (sub_nil _))))))))) (.refl _) ?_
    refine hl_nil ?_
    refine hq_then ?_
    refine hc_seq ?_
    refine hc_false rfl ?_
    refine hc_exit ?_
    refine hq_then_exit ?_
    refine hq_then_exit ?_
    refine hq_block_exit ?_
    refine hq_then ?_
    refine hc_seq ?_
    refine hc_region ?_
    refine hl_v rfl rfl rfl (rv_ev rfl) ?_
    refine hl_less (sub_cons (d := 0) rfl (sub_cons (d := 1) rfl (sub_cons (d := 2) rfl (sub_cons (d := 14) rfl (sub_cons (d := 16) rfl (sub_cons (d := 17) rfl (sub_cons (d := 18) rfl (sub_cons (d := 19) rfl (sub_nil _))))))))) (.refl _) ?_
    refine hl_nil ?_
    refine hq_then ?_
    refine hc_ret ?_
    exact hq_ans rfl rfl rfl
end Go.Proofs.Yteccnnpcigkmhaa
