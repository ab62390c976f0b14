/- Configurations of tiles: marked and held, as wholes. -/
import Derived.Test.YtnnkbpcfjjijbaaEx2
set_option linter.unusedVariables false
set_option linter.unusedSimpArgs false
namespace Go.Proofs.Ytnnkbpcfjjijbaa
open Go.RowKit

theorem held_mx {k : Int} {t : Tc} (h : markT k t = t) : t.mx = seqL k t.mx.length ∧ markEs (k + t.mx.length) t.es = t.es := ⟨(congrArg Tc.mx h).symm, congrArg Tc.es h⟩
set_option maxHeartbeats 4000000 in
set_option maxRecDepth 100000 in
theorem markTileConfig_mut (t : Tc) (k : Int) (w0 : World) (l : List HP) (w : World) (hm0 : Mem w0 (tcE t :: l) w) (hk : -10000000000000 ≤ k ∧ k ≤ 10000000000000) (hnmx : t.mx.length ≤ 2000000) (hnes : t.es.length ≤ 2000000) (hes : ∀ e ∈ t.es, e.xs.length ≤ 2000000) :
    Calls Try.prog 29 #[.agg #[t.mv, t.lv, .int .i64 t.pad, .int .i64 t.ram], .int .i64 k] w (fun e_ w_ => ∃ v_ p_, e_ = .returned v_ ∧ (fun u_ p_ => u_ = .int .i64 (sumT k t) ∧ p_ = tcE (markT k t)) v_ p_ ∧ Mem w0 (p_ :: l) w_) := by
  refine calls_hcM (N := 14) (args := [.agg #[t.mv, t.lv, .int .i64 t.pad, .int .i64 t.ram], .int .i64 k]) Try.func29 rfl rfl (l := (rowE 3 1 t.mv t.mx.length (t.mx.map (Value.int .i64)) :: lesE t.lv t.es :: l)) hm0.unbig ?_
  refine hc_less _ (sub_cons (d := 0) rfl (sub_cons (d := 1) rfl (sub_nil _))) (.refl _) ?_
  refine hc_seq ?_
  refine hc_region ?_
  refine hl_box rfl rfl rfl (rq_box rfl rfl) ?_
  intro b1
  refine hl_v rfl rfl rfl (rv_ev rfl) ?_
  refine hl_less (sub_cons (d := 0) rfl (sub_cons (d := 1) rfl (sub_cons (d := 2) rfl (sub_cons (d := 4) rfl (sub_nil _))))) (.refl _) ?_
  refine hl_nil ?_
  refine hq_then ?_
  refine hc_seq ?_
  refine hc_region ?_
  refine hl_v rfl rfl rfl (rv_field (k0 := 0) rfl (by kernel_rfl) rfl) ?_
  refine hl_v rfl rfl rfl (rv_load rfl (by kernel_rfl) rfl (box_cell 0 rfl rfl)) ?_
  refine hl_v rfl rfl rfl (rv_ev rfl) ?_
  refine hl_callM (R := (fun u_ p_ => u_ = .int .i64 (k + t.mx.length) ∧ p_ = rowE 3 1 t.mv t.mx.length ((seqL k t.mx.length).map (Value.int .i64)))) 1 rfl rfl (by kernel_rfl) rfl rfl (fun l' w hm => markIntS_mut t.mx k t.mv _ _ w hm (by omega) (by omega)) ?_
  intro v2 p3 hR4
  obtain ⟨rfl, rfl⟩ := hR4
  refine hl_eqL (l' := (boxE b1 #[t.mv, t.lv, .int .i64 t.pad, .int .i64 t.ram] 39 :: rowE 3 1 t.mv t.mx.length ((seqL k t.mx.length).map (Value.int .i64)) :: lesE t.lv t.es :: l)) rfl ?_
  refine hl_v rfl rfl rfl (rv_ev rfl) ?_
  refine hl_less (sub_cons (d := 0) rfl (sub_cons (d := 1) rfl (sub_cons (d := 2) rfl (sub_cons (d := 4) rfl (sub_nil _))))) (.refl _) ?_
  refine hl_nil ?_
  refine hq_then ?_
  refine hc_seq ?_
  refine hc_region ?_
  refine hl_v rfl rfl rfl (rv_field (k0 := 1) rfl (by kernel_rfl) rfl) ?_
  refine hl_v rfl rfl rfl (rv_load rfl (by kernel_rfl) rfl (box_cell 0 rfl rfl)) ?_
  refine hl_v rfl rfl rfl (rv_ev rfl) ?_
  refine hl_callM (R := (fun u_ p_ => u_ = .int .i64 (sumK (k + t.mx.length) t.es) ∧ p_ = lesE t.lv (markEs (k + t.mx.length) t.es))) 2 rfl rfl (by kernel_rfl) rfl rfl (fun l' w hm => markLeConfigS_mut t.es (k + t.mx.length) t.lv _ _ w hm (by omega) hnes hes) ?_
  intro v5 p6 hR7
  obtain ⟨rfl, rfl⟩ := hR7
  refine hl_eqL (l' := (boxE b1 #[t.mv, t.lv, .int .i64 t.pad, .int .i64 t.ram] 39 :: rowE 3 1 t.mv t.mx.length ((seqL k t.mx.length).map (Value.int .i64)) :: lesE t.lv (markEs (k + t.mx.length) t.es) :: l)) rfl ?_
  refine hl_v rfl rfl rfl (rv_ev rfl) ?_
  refine hl_less (sub_cons (d := 0) rfl (sub_cons (d := 1) rfl (sub_cons (d := 2) rfl (sub_cons (d := 4) rfl (sub_nil _))))) (.refl _) ?_
  refine hl_nil ?_
  refine hq_then ?_
  refine hc_seq ?_
  refine hc_region ?_
  refine hl_v rfl rfl rfl (rv_ev rfl) ?_
  refine hl_v rfl rfl rfl (rv_ev rfl) ?_
  refine hl_less (sub_cons (d := 0) rfl (sub_cons (d := 1) rfl (sub_cons (d := 2) rfl (sub_cons (d := 4) rfl (sub_nil _))))) (.refl _) ?_
  refine hl_nil ?_
  refine hq_then ?_
  refine hc_ret ?_
  refine hq_conv (rowE 3 1 t.mv t.mx.length ((seqL k t.mx.length).map (Value.int .i64)) :: lesE t.lv (markEs (k + t.mx.length) t.es) :: l) (conv_pick (src := [boxE b1 #[t.mv, t.lv, .int .i64 t.pad, .int .i64 t.ram] 39, rowE 3 1 t.mv t.mx.length ((seqL k t.mx.length).map (Value.int .i64)), lesE t.lv (markEs (k + t.mx.length) t.es)]) (dst := [rowE 3 1 t.mv t.mx.length ((seqL k t.mx.length).map (Value.int .i64)), lesE t.lv (markEs (k + t.mx.length) t.es)]) (l := l) [1, 2] (by decide) rfl) ?_
  refine hq_conv (tcE (markT k t) :: l) (fun w hm => by have h2 := Mem.big (ps := [rowE 3 1 t.mv t.mx.length ((seqL k t.mx.length).map (Value.int .i64)), lesE t.lv (markEs (k + t.mx.length) t.es)]) hm; simpa only [tcE, markT, seqL_len] using h2) ?_
  exact hq_retMut (p' := tcE (markT k t)) rfl rfl (.refl _) ⟨rfl, rfl⟩
set_option maxHeartbeats 4000000 in
set_option maxRecDepth 100000 in
theorem heldLeConfigS_ans (es : List Le) (k : Int) (u : Value) (w : World) (hu : RdsW w u 4 es.length (es.flatMap Le.cells)) (hes : ∀ e ∈ es, e.Rd1 w) (hlen : es.length ≤ 2000000) (hk : 0 ≤ k ∧ k ≤ 10000000000000) (hh : markEs k es = es) :
    Calls Try.prog 84 #[u, .int .i64 k] w (Ans w (.int .i64 (sumK k es))) := by
  refine calls_hc (N := 49) (args := [u, .int .i64 k]) Try.func84 rfl rfl ?_
  refine hc_less _ (sub_cons (d := 0) rfl (sub_cons (d := 1) rfl (sub_nil _))) (.refl _) ?_
  refine hc_seq ?_
  refine hc_region ?_
  refine hl_v rfl rfl rfl (rv_ev rfl) ?_
  refine hl_less (sub_cons (d := 0) rfl (sub_cons (d := 1) rfl (sub_cons (d := 4) rfl (sub_nil _)))) (.refl _) ?_
  refine hl_nil ?_
  refine hq_then ?_
  refine hc_seq ?_
  refine hc_seq ?_
  refine hc_region ?_
  refine hl_v rfl rfl rfl (rv_ev rfl) ?_
  refine hl_less (sub_cons (d := 0) rfl (sub_cons (d := 1) rfl (sub_cons (d := 4) rfl (sub_cons (d := 5) rfl (sub_nil _))))) (.refl _) ?_
  refine hl_nil ?_
  refine hq_then ?_
  refine hc_block ?_
  refine hc_loop2 (α := Nat) (β := Int) (fun j q => []) (fun j q => [(0, u), (1, .int .i64 q), (4, .int .i64 0), (5, .int .i64 (j : Int))]) (fun j q => j ≤ es.length ∧ q = sumK k (es.take j) ∧ 0 ≤ q ∧ q ≤ 20000000000000) (fun j q => es.length - j) 0 k ⟨by omega, by simp [sumK], by omega, by omega⟩ (sub_cons (d := 0) rfl (sub_cons (d := 1) rfl (sub_cons (d := 4) rfl (sub_cons (d := 5) rfl (sub_nil _))))) (.slnil) ?_
  intro j q hi1
  obtain ⟨hj, hq, hq0, hq1⟩ := hi1
  refine hc_seq ?_
  refine hc_seq ?_
  refine hc_region ?_
  refine hl_v rfl rfl rfl (rv_ev rfl) ?_
  refine hl_v rfl rfl rfl (rv_ev rfl) ?_
  refine hl_v rfl rfl rfl (rv_len rfl Try.underlying37 rfl (rd_old hu)) ?_
  refine hl_lss rfl rfl rfl rfl rfl rfl (fun h2 => ?_) (fun h2 => ?_)
  ·
    refine hl_less (sub_cons (d := 0) rfl (sub_cons (d := 1) rfl (sub_cons (d := 4) rfl (sub_cons (d := 5) rfl (sub_cons (d := 9) rfl (sub_nil _)))))) (.refl _) ?_
    refine hl_nil ?_
    refine hq_then ?_
    refine hc_true rfl ?_
    refine hc_skip ?_
    refine hq_then ?_
    refine hc_seq ?_
    refine hc_block ?_
    refine hc_seq ?_
    refine hc_region ?_
    have hat := held_at es k j hh (by omega)
    rw [← hq] at hat
    have hxs : (es.getD j Le0).xs = seqL q (es.getD j Le0).xs.length := congrArg Le.xs hat
    have hxm : (es.getD j Le0).m = q + (es.getD j Le0).xs.length := congrArg Le.m hat
    have hxf : (es.getD j Le0).f = q + (es.getD j Le0).xs.length + 1 := congrArg Le.f hat
    have hxi : (es.getD j Le0).i = q + (es.getD j Le0).xs.length + 2 := congrArg Le.i hat
    have hej := hes _ (getD_mem' (es := es) (i := j) (d := Le0) (by omega))
    have hejl := hej.2
    have hrd : RdsW w (es.getD j Le0).v 1 (es.getD j Le0).xs.length ((seqL q (es.getD j Le0).xs.length).map (Value.int .i64)) := by have h := hej.1; rw [hxs, seqL_len] at h; exact h
    refine hl_v rfl rfl rfl (rv_ev rfl) ?_
    refine hl_v rfl rfl rfl (rv_ev rfl) ?_
    refine hl_v rfl rfl rfl (rv_index (s := 4) rfl Try.underlying37 (by kernel_rfl) rfl rfl (rd_old hu) (by omega) (by first | omega | (simp only [List.length_set]; omega))) ?_
    refine hl_v rfl rfl rfl (rv_fieldEl (k0 := 0) rfl (by kernel_rfl) rfl (rd_old hu) (by first | omega | (simp only [List.length_set]; omega))) ?_
    refine hl_v rfl rfl rfl (rv_loadEl (u := (es.getD j Le0).v) rfl (by kernel_rfl) rfl (rd_old hu) ((flat_at Le.cells 4 (fun _ => rfl) es Le0 (show j < _ by first | omega | (simp only [List.length_set]; omega)) (by decide)).trans rfl)) ?_
    refine hl_v rfl rfl rfl (rv_ev rfl) ?_
    refine hl_callV rfl rfl rfl (rq_call (by kernel_rfl) rfl (fun w hm => ret_ans (heldIntS_ans ((es.getD j Le0).xs.length) q _ w (hrd.below hm.bel) (by omega) (by omega)))) ?_
    refine hl_v rfl rfl rfl (rv_ev rfl) ?_
    refine hl_less (sub_cons (d := 0) rfl (sub_cons (d := 1) rfl (sub_cons (d := 4) rfl (sub_cons (d := 5) rfl (sub_cons (d := 9) rfl (sub_nil _)))))) (.refl _) ?_
    refine hl_nil ?_
    refine hq_then ?_
    refine hc_seq ?_
    refine hc_seq ?_
    refine hc_region ?_
    refine hl_v rfl rfl rfl (rv_ev rfl) ?_
    refine hl_lss rfl rfl rfl rfl rfl rfl (fun h3 => absurd h3 (by omega)) (fun h3 => ?_)
    refine hl_less (sub_cons (d := 0) rfl (sub_cons (d := 1) rfl (sub_cons (d := 4) rfl (sub_cons (d := 5) rfl (sub_cons (d := 9) rfl (sub_cons (d := 20) rfl (sub_nil _))))))) (.refl _) ?_
    refine hl_nil ?_
    refine hq_then ?_
    refine hc_false rfl ?_
    refine hc_skip ?_
    refine hq_then ?_
    refine hc_seq ?_
    refine hc_seq ?_
    refine hc_region ?_
    refine hl_v rfl rfl rfl (rv_ev rfl) ?_
    refine hl_v rfl rfl rfl (rv_ev rfl) ?_
    refine hl_v rfl rfl rfl (rv_index (s := 4) rfl Try.underlying37 (by kernel_rfl) rfl rfl (rd_old hu) (by omega) (by first | omega | (simp only [List.length_set]; omega))) ?_
    refine hl_v rfl rfl rfl (rv_fieldEl (k0 := 1) rfl (by kernel_rfl) rfl (rd_old hu) (by first | omega | (simp only [List.length_set]; omega))) ?_
    refine hl_v rfl rfl rfl (rv_loadEl (u := .int .i64 ((es.getD j Le0).m)) rfl (by kernel_rfl) rfl (rd_old hu) ((flat_at Le.cells 4 (fun _ => rfl) es Le0 (show j < _ by first | omega | (simp only [List.length_set]; omega)) (by decide)).trans rfl)) ?_
    refine hl_v rfl rfl rfl (rv_ev rfl) ?_
    refine hl_neq rfl rfl rfl rfl rfl rfl (fun h4 => absurd h4 (by omega)) (fun h4 => ?_)
    refine hl_less (sub_cons (d := 0) rfl (sub_cons (d := 1) rfl (sub_cons (d := 4) rfl (sub_cons (d := 5) rfl (sub_cons (d := 9) rfl (sub_cons (d := 20) rfl (sub_cons (d := 27) rfl (sub_nil _)))))))) (.refl _) ?_
    refine hl_nil ?_
    refine hq_then ?_
    refine hc_false rfl ?_
    refine hc_skip ?_
    refine hq_then ?_
    refine hc_seq ?_
    refine hc_region ?_
    refine hl_v rfl rfl rfl (rv_ev rfl) ?_
    refine hl_v rfl rfl rfl (rv_add rfl rfl rfl (by constructor <;> omega)) ?_
    refine hl_v rfl rfl rfl (rv_ev rfl) ?_
    refine hl_less (sub_cons (d := 0) rfl (sub_cons (d := 1) rfl (sub_cons (d := 4) rfl (sub_cons (d := 5) rfl (sub_cons (d := 9) rfl (sub_cons (d := 20) rfl (sub_cons (d := 27) rfl (sub_nil _)))))))) (.refl _) ?_
    refine hl_nil ?_
    refine hq_then ?_
    refine hc_seq ?_
    refine hc_seq ?_
    refine hc_region ?_
    refine hl_v rfl rfl rfl (rv_ev rfl) ?_
    refine hl_v rfl rfl rfl (rv_ev rfl) ?_
    refine hl_v rfl rfl rfl (rv_index (s := 4) rfl Try.underlying37 (by kernel_rfl) rfl rfl (rd_old hu) (by omega) (by first | omega | (simp only [List.length_set]; omega))) ?_
    refine hl_v rfl rfl rfl (rv_fieldEl (k0 := 2) rfl (by kernel_rfl) rfl (rd_old hu) (by first | omega | (simp only [List.length_set]; omega))) ?_
    refine hl_v rfl rfl rfl (rv_loadEl (u := .int .i64 ((es.getD j Le0).f)) rfl (by kernel_rfl) rfl (rd_old hu) ((flat_at Le.cells 4 (fun _ => rfl) es Le0 (show j < _ by first | omega | (simp only [List.length_set]; omega)) (by decide)).trans rfl)) ?_
    refine hl_v rfl rfl rfl (rv_ev rfl) ?_
    refine hl_neq rfl rfl rfl rfl rfl rfl (fun h5 => absurd h5 (by omega)) (fun h5 => ?_)
    refine hl_less (sub_cons (d := 0) rfl (sub_cons (d := 1) rfl (sub_cons (d := 4) rfl (sub_cons (d := 5) rfl (sub_cons (d := 9) rfl (sub_cons (d := 20) rfl (sub_cons (d := 27) rfl (sub_cons (d := 36) rfl (sub_nil _))))))))) (.refl _) ?_
    refine hl_nil ?_
    refine hq_then ?_
    refine hc_false rfl ?_
    refine hc_skip ?_
    refine hq_then ?_
    refine hc_seq ?_
    refine hc_region ?_
    refine hl_v rfl rfl rfl (rv_ev rfl) ?_
    refine hl_v rfl rfl rfl (rv_add rfl rfl rfl (by constructor <;> omega)) ?_
    refine hl_v rfl rfl rfl (rv_ev rfl) ?_
    refine hl_less (sub_cons (d := 0) rfl (sub_cons (d := 1) rfl (sub_cons (d := 4) rfl (sub_cons (d := 5) rfl (sub_cons (d := 9) rfl (sub_cons (d := 20) rfl (sub_cons (d := 27) rfl (sub_cons (d := 36) rfl (sub_nil _))))))))) (.refl _) ?_
    refine hl_nil ?_
    refine hq_then ?_
    refine hc_seq ?_
    refine hc_seq ?_
    refine hc_region ?_
    refine hl_v rfl rfl rfl (rv_ev rfl) ?_
    refine hl_v rfl rfl rfl (rv_ev rfl) ?_
    refine hl_v rfl rfl rfl (rv_index (s := 4) rfl Try.underlying37 (by kernel_rfl) rfl rfl (rd_old hu) (by omega) (by first | omega | (simp only [List.length_set]; omega))) ?_
    refine hl_v rfl rfl rfl (rv_fieldEl (k0 := 3) rfl (by kernel_rfl) rfl (rd_old hu) (by first | omega | (simp only [List.length_set]; omega))) ?_
    refine hl_v rfl rfl rfl (rv_loadEl (u := .int .i64 ((es.getD j Le0).i)) rfl (by kernel_rfl) rfl (rd_old hu) ((flat_at Le.cells 4 (fun _ => rfl) es Le0 (show j < _ by first | omega | (simp only [List.length_set]; omega)) (by decide)).trans rfl)) ?_
    refine hl_v rfl rfl rfl (rv_ev rfl) ?_
    refine hl_neq rfl rfl rfl rfl rfl rfl (fun h6 => absurd h6 (by omega)) (fun h6 => ?_)
    refine hl_less (sub_cons (d := 0) rfl (sub_cons (d := 1) rfl (sub_cons (d := 4) rfl (sub_cons (d := 5) rfl (sub_cons (d := 9) rfl (sub_cons (d := 20) rfl (sub_cons (d := 27) rfl (sub_cons (d := 36) rfl (sub_cons (d := 45) rfl (sub_nil _)))))))))) (.refl _) ?_
    refine hl_nil ?_
    refine hq_then ?_
    refine hc_false rfl ?_
    refine hc_skip ?_
    refine hq_then ?_
    refine hc_region ?_
    refine hl_v rfl rfl rfl (rv_ev rfl) ?_
    refine hl_v rfl rfl rfl (rv_add rfl rfl rfl (by constructor <;> omega)) ?_
    refine hl_v rfl rfl rfl (rv_ev rfl) ?_
    refine hl_less (sub_cons (d := 0) rfl (sub_cons (d := 1) rfl (sub_cons (d := 4) rfl (sub_cons (d := 5) rfl (sub_cons (d := 9) rfl (sub_cons (d := 20) rfl (sub_cons (d := 27) rfl (sub_cons (d := 36) rfl (sub_cons (d := 45) rfl (sub_nil _)))))))))) (.refl _) ?_
    refine hl_nil ?_
    refine hq_block_normal ?_
    refine hq_then ?_
    refine hc_region ?_
    refine hl_v rfl rfl rfl (rv_ev rfl) ?_
    refine hl_v rfl rfl rfl (rv_add rfl rfl rfl (by constructor <;> omega)) ?_
    refine hl_v rfl rfl rfl (rv_ev rfl) ?_
    refine hl_less (sub_cons (d := 0) rfl (sub_cons (d := 1) rfl (sub_cons (d := 4) rfl (sub_cons (d := 5) rfl (sub_cons (d := 9) rfl (sub_cons (d := 20) rfl (sub_cons (d := 27) rfl (sub_cons (d := 36) rfl (sub_cons (d := 45) rfl (sub_nil _)))))))))) (.refl _) ?_
    refine hl_nil ?_
    have hqn := sumK_succ k es j (by omega)
    have hqb := sumK_le (es.take (j + 1)) k (fun e he => (hes e (List.mem_of_mem_take he)).2)
    have htl : (es.take (j + 1)).length = j + 1 := by rw [List.length_take]; omega
    rw [htl] at hqb
    exact hq_round2 (j + 1) _ ⟨by omega, by omega, by omega, by omega⟩ (by omega) (sub_cons (d := 0) rfl (sub_cons (d := 1) rfl (sub_cons (d := 4) rfl (sub_cons (d := 5) rfl (sub_nil _))))) (.slnil)
  ·
    refine hl_less (sub_cons (d := 0) rfl (sub_cons (d := 1) rfl (sub_cons (d := 4) rfl (sub_cons (d := 5) rfl (sub_cons (d := 9) rfl (sub_nil _)))))) (.refl _) ?_
    refine hl_nil ?_
    refine hq_then ?_
    refine hc_false rfl ?_
    refine hc_exit ?_
    refine hq_then_exit ?_
    refine hq_then_exit ?_
    refine hq_block_exit ?_
    refine hq_then ?_
    refine hc_seq ?_
    refine hc_region ?_
    refine hl_v rfl rfl rfl (rv_ev rfl) ?_
    refine hl_v rfl rfl rfl (rv_ev rfl) ?_
    refine hl_less (sub_cons (d := 0) rfl (sub_cons (d := 1) rfl (sub_cons (d := 4) rfl (sub_cons (d := 5) rfl (sub_cons (d := 9) rfl (sub_nil _)))))) (.refl _) ?_
    refine hl_nil ?_
    refine hq_then ?_
    refine hc_ret ?_
    exact hq_ans rfl rfl (by rw [hq, show j = es.length by omega, List.take_length])
set_option maxHeartbeats 4000000 in
set_option maxRecDepth 100000 in
theorem heldTileConfig_ans (t : Tc) (k : Int) (w : World) (ht : t.Rds w) (hk : 0 ≤ k ∧ k ≤ 1000000000000) (hh : markT k t = t) :
    Calls Try.prog 30 #[.agg #[t.mv, t.lv, .int .i64 t.pad, .int .i64 t.ram], .int .i64 k] w (Ans w (.int .i64 (sumT k t))) := by
  obtain ⟨hh1, hh2⟩ := held_mx hh
  have hnm := ht.nmx
  have hqb := sumK_le t.es (k + t.mx.length) (fun e he => (ht.es e he).2)
  have hrd : RdsW w t.mv 1 t.mx.length ((seqL k t.mx.length).map (Value.int .i64)) := by rw [← hh1]; exact ht.mx
  refine calls_hc (N := 18) (args := [.agg #[t.mv, t.lv, .int .i64 t.pad, .int .i64 t.ram], .int .i64 k]) Try.func30 rfl rfl ?_
  refine hc_less _ (sub_cons (d := 0) rfl (sub_cons (d := 1) rfl (sub_nil _))) (.refl _) ?_
  refine hc_seq ?_
  refine hc_region ?_
  refine hl_box rfl rfl rfl (rq_box rfl rfl) ?_
  intro b1
  refine hl_v rfl rfl rfl (rv_ev rfl) ?_
  refine hl_less (sub_cons (d := 0) rfl (sub_cons (d := 1) rfl (sub_cons (d := 2) rfl (sub_cons (d := 4) rfl (sub_nil _))))) (.refl _) ?_
  refine hl_nil ?_
  refine hq_then ?_
  refine hc_seq ?_
  refine hc_region ?_
  refine hl_v rfl rfl rfl (rv_field (k0 := 0) rfl (by kernel_rfl) rfl) ?_
  refine hl_v rfl rfl rfl (rv_load rfl (by kernel_rfl) rfl (box_cell 0 rfl rfl)) ?_
  refine hl_v rfl rfl rfl (rv_ev rfl) ?_
  refine hl_callV rfl rfl rfl (rq_call (by kernel_rfl) rfl (fun w hm => ret_ans (heldIntS_ans t.mx.length k _ w (hrd.below hm.bel) (by omega) (by omega)))) ?_
  refine hl_v rfl rfl rfl (rv_ev rfl) ?_
  refine hl_less (sub_cons (d := 0) rfl (sub_cons (d := 1) rfl (sub_cons (d := 2) rfl (sub_cons (d := 4) rfl (sub_nil _))))) (.refl _) ?_
  refine hl_nil ?_
  refine hq_then ?_
  refine hc_seq ?_
  refine hc_seq ?_
  refine hc_region ?_
  refine hl_v rfl rfl rfl (rv_ev rfl) ?_
  refine hl_lss rfl rfl rfl rfl rfl rfl (fun h2 => absurd h2 (by omega)) (fun h2 => ?_)
  refine hl_less (sub_cons (d := 0) rfl (sub_cons (d := 1) rfl (sub_cons (d := 2) rfl (sub_cons (d := 4) rfl (sub_cons (d := 10) rfl (sub_nil _)))))) (.refl _) ?_
  refine hl_nil ?_
  refine hq_then ?_
  refine hc_false rfl ?_
  refine hc_skip ?_
  refine hq_then ?_
  refine hc_seq ?_
  refine hc_region ?_
  refine hl_v rfl rfl rfl (rv_field (k0 := 1) rfl (by kernel_rfl) rfl) ?_
  refine hl_v rfl rfl rfl (rv_load rfl (by kernel_rfl) rfl (box_cell 0 rfl rfl)) ?_
  refine hl_v rfl rfl rfl (rv_ev rfl) ?_
  refine hl_callV rfl rfl rfl (rq_call (by kernel_rfl) rfl (fun w hm => ret_ans (heldLeConfigS_ans t.es (k + t.mx.length) _ w (ht.lv.below hm.bel) (fun e he => (ht.es e he).below hm.bel) ht.nes (by omega) hh2))) ?_
  refine hl_v rfl rfl rfl (rv_ev rfl) ?_
  refine hl_less (sub_cons (d := 0) rfl (sub_cons (d := 1) rfl (sub_cons (d := 2) rfl (sub_cons (d := 4) rfl (sub_cons (d := 10) rfl (sub_nil _)))))) (.refl _) ?_
  refine hl_nil ?_
  refine hq_then ?_
  refine hc_seq ?_
  refine hc_seq ?_
  refine hc_region ?_
  refine hl_v rfl rfl rfl (rv_ev rfl) ?_
  refine hl_lss rfl rfl rfl rfl rfl rfl (fun h3 => absurd h3 (by omega)) (fun h3 => ?_)
  refine hl_less (sub_cons (d := 0) rfl (sub_cons (d := 1) rfl (sub_cons (d := 2) rfl (sub_cons (d := 4) rfl (sub_cons (d := 10) rfl (sub_cons (d := 16) rfl (sub_nil _))))))) (.refl _) ?_
  refine hl_nil ?_
  refine hq_then ?_
  refine hc_false rfl ?_
  refine hc_skip ?_
  refine hq_then ?_
  refine hc_seq ?_
  refine hc_region ?_
  refine hl_v rfl rfl rfl (rv_ev rfl) ?_
  refine hl_v rfl rfl rfl (rv_ev rfl) ?_
  refine hl_less (sub_cons (d := 0) rfl (sub_cons (d := 1) rfl (sub_cons (d := 2) rfl (sub_cons (d := 4) rfl (sub_cons (d := 10) rfl (sub_cons (d := 16) rfl (sub_nil _))))))) (.refl _) ?_
  refine hl_nil ?_
  refine hq_then ?_
  refine hc_ret ?_
  exact hq_ans rfl rfl rfl
end Go.Proofs.Ytnnkbpcfjjijbaa
