/- The law FnPropagates: the walk. -/
import Derived.Test.YteccnnpcigkmhaaCnf3
set_option linter.unusedVariables false
set_option linter.unusedSimpArgs false
namespace Go.Proofs.Yteccnnpcigkmhaa
open Go.RowKit

theorem take_snocP {α : Type} {l : List α} {k : Nat} (d : α) (h : k < l.length) : l.take (k + 1) = l.take k ++ [l.getD k d] := by
  rw [List.take_succ_eq_append_getElem h, List.getD_eq_getElem?_getD, List.getElem?_eq_getElem h]; rfl
theorem full_len (bs : List Bl) : (fullL bs).length = bs.length := by simp [fullL]
theorem full_step {bs : List Bl} {fs : List Int} {k : Nat} {x : Int} (hk : k < bs.length) (hf : fs = (fullL bs).take k) (hx : x = if (bs.getD k bl0).b = true then 1 else -1) : fs ++ [x] = (fullL bs).take (k + 1) := by
  rw [take_snocP 0 (by rw [full_len]; exact hk), full_at bs k hk, ← hx, hf]
structure Part (bs : List Bl) (pp : List Int) : Prop where
  each : ∀ i, i < pp.length → pp.getD i 0 = 0 ∨ pp.getD i 0 = (fullL bs).getD i 0
theorem part_app {bs : List Bl} {pp : List Int} {x : Int} (h : Part bs pp) (hx : x = 0 ∨ x = (fullL bs).getD pp.length 0) : Part bs (pp ++ [x]) := ⟨fun i hi => by
  rw [List.length_append, List.length_singleton] at hi
  by_cases hij : i = pp.length
  · subst hij; rw [List.getD_eq_getElem?_getD, List.getElem?_append_right (by omega), Nat.sub_self]; exact hx
  · rw [List.getD_eq_getElem?_getD, List.getElem?_append_left (by omega), ← List.getD_eq_getElem?_getD]; exact h.each i (by omega)⟩
theorem part_ok {n : Int} {bs : List Bl} {pp : List Int} (h : Part bs pp) (hb : (bs.length : Int) = n) (hl : pp.length = bs.length) : PsOk n pp ∧ Agree pp (fullL bs) := by
  have hf := full_ok hb
  refine ⟨⟨by omega, fun i hi => ?_⟩, fun k hk hne => ?_⟩
  · have := hf.1.2 i (by rw [full_len]; omega)
    rcases h.each i hi with e | e <;> rw [e] <;> omega
  · rcases h.each k hk with e | e
    · exact absurd e hne
    · exact e
theorem pok_full {n : Int} {rs : List CRow} {bs : List Bl} {out : List Int} {ok : Bool} (h : POk n rs (fullL bs) out ok) (hb : (bs.length : Int) = n) (hr : ClOk n rs) : ok = cnfB bs rs := by
  have h1 := h.full (fun k hk => (full_ok hb).2 k hk)
  rw [full_sat hb hr] at h1
  rw [Bool.eq_iff_iff]; exact h1
theorem prop_full (n : Int) (rs : List CRow) (v : Value) (bs : List Bl) (pv : Value) (w : World) (hr : ClOk n rs) (hv : RdsCl w v rs) (hb : (bs.length : Int) = n) (hpv : RdsW w pv 1 (fullL bs).length ((fullL bs).map (Value.int .i64))) :
    Calls Try.prog 24 #[.agg #[.int .i64 n, v], pv] w (Ret w (fun v' post => ∃ (u : Value) (out : List Int), v' = .tuple #[u, .bool (cnfB bs rs)] ∧ post = [rowE 3 1 u out.length (out.map (Value.int .i64))])) :=
  (Propagate_ret n rs v (fullL bs) pv w hr hv (full_ok hb).1 hpv).mono fun e w' ⟨x, p, he, ⟨u, out, ok, hx, hp, hk⟩, hm⟩ => ⟨x, p, he, ⟨u, out, by rw [hx, pok_full hk hb hr], hp⟩, hm⟩
set_option maxHeartbeats 4000000 in
set_option maxRecDepth 100000 in
theorem btoi_t  (w : World)  :
    Calls Try.prog 23 #[.bool true] w (Ans w (.int .i64 1)) := by
  refine calls_hc (N := 4) (args := [.bool true]) Try.func23 rfl rfl ?_
  refine hc_less _ (sub_cons (d := 0) rfl (sub_nil _)) (.refl _) ?_
  refine hc_seq ?_
  refine hc_region ?_
  refine hl_v rfl rfl rfl (rv_ev rfl) ?_
  refine hl_less (sub_cons (d := 0) rfl (sub_cons (d := 2) rfl (sub_nil _))) (.refl _) ?_
  refine hl_nil ?_
  refine hq_then ?_
  refine hc_seq ?_
  refine hc_seq ?_
  refine hc_region ?_
  refine hl_v rfl rfl rfl (rv_ev rfl) ?_
  refine hl_less (sub_cons (d := 0) rfl (sub_cons (d := 2) rfl (sub_cons (d := 3) rfl (sub_nil _)))) (.refl _) ?_
  refine hl_nil ?_
  refine hq_then ?_
  refine hc_true rfl ?_
  refine hc_seq ?_
  refine hc_region ?_
  refine hl_v rfl rfl rfl (rv_ev rfl) ?_
  refine hl_less (sub_cons (d := 0) rfl (sub_cons (d := 2) rfl (sub_cons (d := 3) rfl (sub_nil _)))) (.refl _) ?_
  refine hl_nil ?_
  refine hq_then ?_
  refine hc_ret ?_
  refine hq_then_ret ?_
  exact hq_ans rfl rfl rfl
set_option maxHeartbeats 4000000 in
set_option maxRecDepth 100000 in
theorem btoi_f  (w : World)  :
    Calls Try.prog 23 #[.bool false] w (Ans w (.int .i64 0)) := by
  refine calls_hc (N := 4) (args := [.bool false]) Try.func23 rfl rfl ?_
  refine hc_less _ (sub_cons (d := 0) rfl (sub_nil _)) (.refl _) ?_
  refine hc_seq ?_
  refine hc_region ?_
  refine hl_v rfl rfl rfl (rv_ev rfl) ?_
  refine hl_less (sub_cons (d := 0) rfl (sub_cons (d := 2) rfl (sub_nil _))) (.refl _) ?_
  refine hl_nil ?_
  refine hq_then ?_
  refine hc_seq ?_
  refine hc_seq ?_
  refine hc_region ?_
  refine hl_v rfl rfl rfl (rv_ev rfl) ?_
  refine hl_less (sub_cons (d := 0) rfl (sub_cons (d := 2) rfl (sub_cons (d := 3) rfl (sub_nil _)))) (.refl _) ?_
  refine hl_nil ?_
  refine hq_then ?_
  refine hc_false rfl ?_
  refine hc_skip ?_
  refine hq_then ?_
  refine hc_seq ?_
  refine hc_region ?_
  refine hl_v rfl rfl rfl (rv_ev rfl) ?_
  refine hl_less (sub_cons (d := 0) rfl (sub_cons (d := 2) rfl (sub_cons (d := 3) rfl (sub_nil _)))) (.refl _) ?_
  refine hl_nil ?_
  refine hq_then ?_
  refine hc_ret ?_
  exact hq_ans rfl rfl rfl
set_option maxHeartbeats 4000000 in
set_option maxRecDepth 100000 in
theorem lawsGet_ans (xs : List Int) (x : Int) (v : Value) (w : World) (hv : RdsW w v 1 xs.length (xs.map (Value.int .i64))) (hlen : xs.length ≤ 1000000000) :
    Calls Try.prog 18 #[v, .int .i64 x] w (Ans w (.int .i64 (getI xs x))) := by
  refine calls_hc (N := 17) (args := [v, .int .i64 x]) Try.func18 rfl rfl ?_
  refine hc_less _ (sub_cons (d := 0) rfl (sub_cons (d := 1) rfl (sub_nil _))) (.refl _) ?_
  refine hc_seq ?_
  refine hc_region ?_
  refine hl_v rfl rfl rfl (rv_ev rfl) ?_
  refine hl_less (sub_cons (d := 0) rfl (sub_cons (d := 1) rfl (sub_cons (d := 4) rfl (sub_nil _)))) (.refl _) ?_
  refine hl_nil ?_
  refine hq_then ?_
  refine hc_seq ?_
  refine hc_seq ?_
  refine hc_region ?_
  refine hl_v rfl rfl rfl (rv_ev rfl) ?_
  refine hl_lss rfl rfl rfl rfl rfl rfl (fun h1 => ?_) (fun h1 => ?_)
  ·
    refine hl_v rfl rfl rfl (rv_ev rfl) ?_
    refine hl_skip rfl rfl rfl ?_
    refine hl_skip rfl rfl rfl ?_
    refine hl_skip rfl rfl rfl ?_
    refine hl_skip rfl rfl rfl ?_
    refine hl_v rfl rfl rfl (rv_ev rfl) ?_
    refine hl_less (sub_cons (d := 0) rfl (sub_cons (d := 1) rfl (sub_cons (d := 4) rfl (sub_cons (d := 12) rfl (sub_nil _))))) (.refl _) ?_
    refine hl_nil ?_
    refine hq_then ?_
    refine hc_true rfl ?_
    refine hc_seq ?_
    refine hc_region ?_
    refine hl_v rfl rfl rfl (rv_ev rfl) ?_
    refine hl_less (sub_cons (d := 0) rfl (sub_cons (d := 1) rfl (sub_cons (d := 4) rfl (sub_cons (d := 12) rfl (sub_nil _))))) (.refl _) ?_
    refine hl_nil ?_
    refine hq_then ?_
    refine hc_ret ?_
    refine hq_then_ret ?_
    exact hq_ans rfl rfl (by unfold getI; rw [if_neg (by omega)])
  ·
    refine hl_v rfl rfl rfl (rv_ev rfl) ?_
    refine hl_v rfl rfl rfl (rv_ev rfl) ?_
    refine hl_v rfl rfl rfl (rv_ev rfl) ?_
    refine hl_v rfl rfl rfl (rv_len rfl Try.underlying43 rfl (rd_old hv)) ?_
    refine hl_geq rfl rfl rfl rfl rfl rfl (fun h2 => ?_) (fun h2 => ?_)
    ·
      refine hl_v rfl rfl rfl (rv_ev rfl) ?_
      refine hl_less (sub_cons (d := 0) rfl (sub_cons (d := 1) rfl (sub_cons (d := 4) rfl (sub_cons (d := 12) rfl (sub_nil _))))) (.refl _) ?_
      refine hl_nil ?_
      refine hq_then ?_
      refine hc_true rfl ?_
      refine hc_seq ?_
      refine hc_region ?_
      refine hl_v rfl rfl rfl (rv_ev rfl) ?_
      refine hl_less (sub_cons (d := 0) rfl (sub_cons (d := 1) rfl (sub_cons (d := 4) rfl (sub_cons (d := 12) rfl (sub_nil _))))) (.refl _) ?_
      refine hl_nil ?_
      refine hq_then ?_
      refine hc_ret ?_
      refine hq_then_ret ?_
      exact hq_ans rfl rfl (by unfold getI; rw [if_neg (by omega)])
    ·
      refine hl_v rfl rfl rfl (rv_ev rfl) ?_
      refine hl_less (sub_cons (d := 0) rfl (sub_cons (d := 1) rfl (sub_cons (d := 4) rfl (sub_cons (d := 12) rfl (sub_nil _))))) (.refl _) ?_
      refine hl_nil ?_
      refine hq_then ?_
      refine hc_false rfl ?_
      refine hc_skip ?_
      refine hq_then ?_
      refine hc_seq ?_
      refine hc_region ?_
      refine hl_v rfl rfl rfl (rv_ev rfl) ?_
      refine hl_v rfl rfl rfl (rv_ev rfl) ?_
      refine hl_v rfl rfl rfl (rv_index (s := 1) rfl Try.underlying43 (by kernel_rfl) rfl rfl (rd_old hv) (by omega) (by first | omega | (simp only [List.length_set]; omega))) ?_
      refine hl_v rfl rfl rfl (rv_loadEl (u := .int .i64 (xs.getD ((x).toNat) 0)) rfl (by kernel_rfl) rfl (rd_old hv) (ints_at1 (show _ < xs.length by first | omega | (simp only [List.length_set]; omega)))) ?_
      refine hl_v rfl rfl rfl (rv_ev rfl) ?_
      refine hl_less (sub_cons (d := 0) rfl (sub_cons (d := 1) rfl (sub_cons (d := 4) rfl (sub_cons (d := 12) rfl (sub_nil _))))) (.refl _) ?_
      refine hl_nil ?_
      refine hq_then ?_
      refine hc_ret ?_
      exact hq_ans rfl rfl (by unfold getI; rw [if_pos (by omega)])
end Go.Proofs.Yteccnnpcigkmhaa
