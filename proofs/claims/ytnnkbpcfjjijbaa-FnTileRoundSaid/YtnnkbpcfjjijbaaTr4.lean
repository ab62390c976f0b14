/- Texts of the law FnTileRound, part 4: what it uses. -/
import Derived.Test.YtnnkbpcfjjijbaaTr3
set_option linter.unusedVariables false
set_option linter.unusedSimpArgs false
namespace Go.Proofs.Ytnnkbpcfjjijbaa
open Go.RowKit Go.ChangeShapes
open Go.RowKit
set_option maxHeartbeats 4000000 in
theorem specMuxNode_any (d : Dev) (t m : Int) (w : World) :
    Calls Try.prog 41 #[.agg #[.int .i64 d.W, .int .i64 d.H, .int .i64 d.T, .int .i64 d.R], .int .i64 t, .int .i64 m] w fun e w' => e = .returned (.int .i64 (muxNodeI d t m)) ∧ Below w.heap.size w w' := by
  rcases Bool.eq_false_or_eq_true (tOk d t) with hd | hd
  rotate_left
  · have hf : Hid (muxNodeI d t m = -1) := if_neg (by simp [hd])
    have ke : Hid (tileKindI d t = -1) := if_neg (by simp [hd])
    have hS0 := devS_start w d
    have HS0 := Lib.hid hS0
    go_enter Try.func41, Try.ntmps41
    go_wp2_with fail
    refine (specTileKind_any d t _).mono ?_
    rintro e w1 ⟨rfl, hb1⟩
    have hS1 := devS_step HS0.out hb1
    have HS1 := Lib.hid hS1
    clear hS0
    obtain ⟨c0, c1, c2, c3, -⟩ := hS1
    clear hb1
    have hz1 : w.heap.size < w1.heap.size := World.block_lt_of_cell? _ _ c0
    rw [ke.out]
    go_wp2
    go_ret
    exact ⟨rt_int hf.out.symm, devS_end HS1.out⟩
  obtain ⟨hv, t0, t1⟩ := (tOk_iff d t).1 hd
  obtain ⟨-, -, ⟨l1, l2⟩, -⟩ := (devB_iff d).1 hv
  obtain ⟨a1, a2⟩ := area_le hv
  obtain ⟨h1, h2⟩ := per_rng hv
  have kc := kind_cases d t
  have kn : 0 ≤ kindI d t := by omega
  have ke := Lib.hid (tileKind_eq hd)
  clear kc
  by_cases hlo : m < 0
  · have hf : Hid (muxNodeI d t m = -1) := if_neg (by omega)
    have hS0 := devS_start w d
    have HS0 := Lib.hid hS0
    go_enter Try.func41, Try.ntmps41
    go_wp2_with fail
    refine (specTileKind_any d t _).mono ?_
    rintro e w1 ⟨rfl, hb1⟩
    have hS1 := devS_step HS0.out hb1
    have HS1 := Lib.hid hS1
    clear hS0
    obtain ⟨c0, c1, c2, c3, -⟩ := hS1
    clear hb1
    have hz1 : w.heap.size < w1.heap.size := World.block_lt_of_cell? _ _ c0
    rw [ke.out]
    go_wp2
    go_ret
    exact ⟨rt_int hf.out.symm, devS_end HS1.out⟩
  by_cases hhi : 5 + 4 * d.T ≤ m
  · have hf : Hid (muxNodeI d t m = -1) := if_neg (by omega)
    have hS0 := devS_start w d
    have HS0 := Lib.hid hS0
    go_enter Try.func41, Try.ntmps41
    go_wp2_with fail
    refine (specTileKind_any d t _).mono ?_
    rintro e w1 ⟨rfl, hb1⟩
    have hS1 := devS_step HS0.out hb1
    have HS1 := Lib.hid hS1
    clear hS0
    obtain ⟨c0, c1, c2, c3, -⟩ := hS1
    clear hb1
    have hz1 : w.heap.size < w1.heap.size := World.block_lt_of_cell? _ _ c0
    rw [ke.out]
    go_wp2_with fail
    refine (specMuxCount_yes d hv _).mono ?_
    rintro e w2 ⟨rfl, hb2⟩
    have hS2 := devS_step HS1.out hb2
    have HS2 := Lib.hid hS2
    clear c0 c1 c2 c3
    obtain ⟨c0, c1, c2, c3, -⟩ := hS2
    clear hb2
    have hz2 : w.heap.size < w2.heap.size := World.block_lt_of_cell? _ _ c0
    go_wp2
    go_ret
    exact ⟨rt_int hf.out.symm, devS_end HS2.out⟩
  have hf0 : muxNodeI d t m = if nodeOkI d (muxN d t m) = true then muxN d t m else -1 := if_pos ⟨hd, by omega, by omega⟩
  have e0 : 0 ≤ t * perI d ∧ t * perI d ≤ 35 * 23 := ⟨Int.mul_nonneg t0 (by omega), Int.mul_le_mul (by omega) h2 (by omega) (by omega)⟩
  have e1 : IntKind.i64.wrap (t * perI d) = t * perI d := IntWalk.i64_in _ (by omega)
  have e2 : IntKind.i64.wrap (t * perI d + m) = t * perI d + m := IntWalk.i64_in _ (by omega)
  by_cases h5 : 5 ≤ m
  · have hm : muxN d t m = t * perI d + m + 2 := by rw [muxN, if_pos h5]
    rw [hm] at hf0
    clear hm
    rcases Bool.eq_false_or_eq_true (nodeOkI d (t * perI d + m + 2)) with hn | hn
    · have hf : Hid (muxNodeI d t m = t * perI d + m + 2) := hf0.trans (if_pos hn)
      clear hf0
      have hS0 := devS_start w d
      have HS0 := Lib.hid hS0
      go_enter Try.func41, Try.ntmps41
      go_wp2_with fail
      refine (specTileKind_any d t _).mono ?_
      rintro e w1 ⟨rfl, hb1⟩
      have hS1 := devS_step HS0.out hb1
      have HS1 := Lib.hid hS1
      clear hS0
      obtain ⟨c0, c1, c2, c3, -⟩ := hS1
      clear hb1
      have hz1 : w.heap.size < w1.heap.size := World.block_lt_of_cell? _ _ c0
      rw [ke.out]
      go_wp2_with fail
      refine (specMuxCount_yes d hv _).mono ?_
      rintro e w2 ⟨rfl, hb2⟩
      have hS2 := devS_step HS1.out hb2
      have HS2 := Lib.hid hS2
      clear c0 c1 c2 c3
      obtain ⟨c0, c1, c2, c3, -⟩ := hS2
      clear hb2
      have hz2 : w.heap.size < w2.heap.size := World.block_lt_of_cell? _ _ c0
      go_wp2_with fail
      refine (specPer_any d hv _).mono ?_
      rintro e w3 ⟨rfl, hb3⟩
      have hS3 := devS_step HS2.out hb3
      have HS3 := Lib.hid hS3
      clear c0 c1 c2 c3
      obtain ⟨c0, c1, c2, c3, -⟩ := hS3
      clear hb3
      have hz3 : w.heap.size < w3.heap.size := World.block_lt_of_cell? _ _ c0
      go_wp2_with fail
      refine (specRouteNodeOk_any d _ _).mono ?_
      rintro e w4 ⟨rfl, hb4⟩
      have hS4 := devS_step HS3.out hb4
      have HS4 := Lib.hid hS4
      clear c0 c1 c2 c3
      obtain ⟨c0, c1, c2, c3, -⟩ := hS4
      clear hb4
      have hz4 : w.heap.size < w4.heap.size := World.block_lt_of_cell? _ _ c0
      go_wp2
      go_ret
      exact ⟨rt_int hf.out.symm, devS_end HS4.out⟩
    · have hf : Hid (muxNodeI d t m = -1) := hf0.trans (if_neg (by simp [hn]))
      clear hf0
      have hS0 := devS_start w d
      have HS0 := Lib.hid hS0
      go_enter Try.func41, Try.ntmps41
      go_wp2_with fail
      refine (specTileKind_any d t _).mono ?_
      rintro e w1 ⟨rfl, hb1⟩
      have hS1 := devS_step HS0.out hb1
      have HS1 := Lib.hid hS1
      clear hS0
      obtain ⟨c0, c1, c2, c3, -⟩ := hS1
      clear hb1
      have hz1 : w.heap.size < w1.heap.size := World.block_lt_of_cell? _ _ c0
      rw [ke.out]
      go_wp2_with fail
      refine (specMuxCount_yes d hv _).mono ?_
      rintro e w2 ⟨rfl, hb2⟩
      have hS2 := devS_step HS1.out hb2
      have HS2 := Lib.hid hS2
      clear c0 c1 c2 c3
      obtain ⟨c0, c1, c2, c3, -⟩ := hS2
      clear hb2
      have hz2 : w.heap.size < w2.heap.size := World.block_lt_of_cell? _ _ c0
      go_wp2_with fail
      refine (specPer_any d hv _).mono ?_
      rintro e w3 ⟨rfl, hb3⟩
      have hS3 := devS_step HS2.out hb3
      have HS3 := Lib.hid hS3
      clear c0 c1 c2 c3
      obtain ⟨c0, c1, c2, c3, -⟩ := hS3
      clear hb3
      have hz3 : w.heap.size < w3.heap.size := World.block_lt_of_cell? _ _ c0
      go_wp2_with fail
      refine (specRouteNodeOk_any d _ _).mono ?_
      rintro e w4 ⟨rfl, hb4⟩
      have hS4 := devS_step HS3.out hb4
      have HS4 := Lib.hid hS4
      clear c0 c1 c2 c3
      obtain ⟨c0, c1, c2, c3, -⟩ := hS4
      clear hb4
      have hz4 : w.heap.size < w4.heap.size := World.block_lt_of_cell? _ _ c0
      go_wp2
      go_ret
      exact ⟨rt_int hf.out.symm, devS_end HS4.out⟩
  · have hm : muxN d t m = t * perI d + m := by rw [muxN, if_neg h5, Int.add_zero]
    rw [hm] at hf0
    clear hm
    rcases Bool.eq_false_or_eq_true (nodeOkI d (t * perI d + m)) with hn | hn
    · have hf : Hid (muxNodeI d t m = t * perI d + m) := hf0.trans (if_pos hn)
      clear hf0
      have hS0 := devS_start w d
      have HS0 := Lib.hid hS0
      go_enter Try.func41, Try.ntmps41
      go_wp2_with fail
      refine (specTileKind_any d t _).mono ?_
      rintro e w1 ⟨rfl, hb1⟩
      have hS1 := devS_step HS0.out hb1
      have HS1 := Lib.hid hS1
      clear hS0
      obtain ⟨c0, c1, c2, c3, -⟩ := hS1
      clear hb1
      have hz1 : w.heap.size < w1.heap.size := World.block_lt_of_cell? _ _ c0
      rw [ke.out]
      go_wp2_with fail
      refine (specMuxCount_yes d hv _).mono ?_
      rintro e w2 ⟨rfl, hb2⟩
      have hS2 := devS_step HS1.out hb2
      have HS2 := Lib.hid hS2
      clear c0 c1 c2 c3
      obtain ⟨c0, c1, c2, c3, -⟩ := hS2
      clear hb2
      have hz2 : w.heap.size < w2.heap.size := World.block_lt_of_cell? _ _ c0
      go_wp2_with fail
      refine (specPer_any d hv _).mono ?_
      rintro e w3 ⟨rfl, hb3⟩
      have hS3 := devS_step HS2.out hb3
      have HS3 := Lib.hid hS3
      clear c0 c1 c2 c3
      obtain ⟨c0, c1, c2, c3, -⟩ := hS3
      clear hb3
      have hz3 : w.heap.size < w3.heap.size := World.block_lt_of_cell? _ _ c0
      go_wp2_with fail
      refine (specRouteNodeOk_any d _ _).mono ?_
      rintro e w4 ⟨rfl, hb4⟩
      have hS4 := devS_step HS3.out hb4
      have HS4 := Lib.hid hS4
      clear c0 c1 c2 c3
      obtain ⟨c0, c1, c2, c3, -⟩ := hS4
      clear hb4
      have hz4 : w.heap.size < w4.heap.size := World.block_lt_of_cell? _ _ c0
      go_wp2
      go_ret
      exact ⟨rt_int hf.out.symm, devS_end HS4.out⟩
    · have hf : Hid (muxNodeI d t m = -1) := hf0.trans (if_neg (by simp [hn]))
      clear hf0
      have hS0 := devS_start w d
      have HS0 := Lib.hid hS0
      go_enter Try.func41, Try.ntmps41
      go_wp2_with fail
      refine (specTileKind_any d t _).mono ?_
      rintro e w1 ⟨rfl, hb1⟩
      have hS1 := devS_step HS0.out hb1
      have HS1 := Lib.hid hS1
      clear hS0
      obtain ⟨c0, c1, c2, c3, -⟩ := hS1
      clear hb1
      have hz1 : w.heap.size < w1.heap.size := World.block_lt_of_cell? _ _ c0
      rw [ke.out]
      go_wp2_with fail
      refine (specMuxCount_yes d hv _).mono ?_
      rintro e w2 ⟨rfl, hb2⟩
      have hS2 := devS_step HS1.out hb2
      have HS2 := Lib.hid hS2
      clear c0 c1 c2 c3
      obtain ⟨c0, c1, c2, c3, -⟩ := hS2
      clear hb2
      have hz2 : w.heap.size < w2.heap.size := World.block_lt_of_cell? _ _ c0
      go_wp2_with fail
      refine (specPer_any d hv _).mono ?_
      rintro e w3 ⟨rfl, hb3⟩
      have hS3 := devS_step HS2.out hb3
      have HS3 := Lib.hid hS3
      clear c0 c1 c2 c3
      obtain ⟨c0, c1, c2, c3, -⟩ := hS3
      clear hb3
      have hz3 : w.heap.size < w3.heap.size := World.block_lt_of_cell? _ _ c0
      go_wp2_with fail
      refine (specRouteNodeOk_any d _ _).mono ?_
      rintro e w4 ⟨rfl, hb4⟩
      have hS4 := devS_step HS3.out hb4
      have HS4 := Lib.hid hS4
      clear c0 c1 c2 c3
      obtain ⟨c0, c1, c2, c3, -⟩ := hS4
      clear hb4
      have hz4 : w.heap.size < w4.heap.size := World.block_lt_of_cell? _ _ c0
      go_wp2
      go_ret
      exact ⟨rt_int hf.out.symm, devS_end HS4.out⟩
open Go.RowKit
theorem tk_pos {d : Dev} {t : Int} (h : 0 ≤ tileKindI d t) : devB d = true ∧ (0 ≤ t ∧ t ≤ d.W * d.H - 1) ∧ tOk d t = true := by
  unfold tileKindI at h
  split at h
  · rename_i ht; obtain ⟨a, b, c⟩ := (tOk_iff _ _).1 ht; exact ⟨a, ⟨b, c⟩, ht⟩
  · omega
theorem tk_neg {d : Dev} {t : Int} (h : tileKindI d t < 0) : tOk d t ≠ true := by
  intro ht
  unfold tileKindI at h
  rw [if_pos ht] at h
  rcases kind_cases d t with e | e | e <;> omega
def wireNodeS (d : Dev) (t dir k : Int) : Int := if tOk d t = true ∧ 0 ≤ k ∧ k < d.T ∧ 0 ≤ tileStepI d t dir (1 + k % 2) then wireN d t dir k else -1
theorem dirT_rng {d : Dev} {dir : Int} (hv : devB d = true) (r0 : 0 ≤ dir) (r1 : dir ≤ 3) : 0 ≤ dir * d.T ∧ dir * d.T ≤ 12 := by
  obtain ⟨-, -, ⟨l1, l2⟩, -⟩ := (devB_iff d).1 hv
  exact ⟨Int.mul_nonneg r0 (by omega), Int.le_trans (Int.mul_le_mul r1 l2 (by omega) (by omega)) (by omega)⟩
set_option maxHeartbeats 4000000 in
set_option maxRecDepth 100000 in
theorem specWireNode_ans (d : Dev) (t dir k : Int) (w : World) (r0 : 0 ≤ dir) (r1 : dir ≤ 3) (k0 : -1000 ≤ k) (k1_o : k ≤ 1000) :
  Calls Try.prog 124 #[.agg #[.int .i64 d.W, .int .i64 d.H, .int .i64 d.T, .int .i64 d.R], .int .i64 t, .int .i64 dir, .int .i64 k] w (Ans w (.int .i64 (wireNodeS d t dir k))) := by
 refine calls_hc (N := 45) (args := [.agg #[.int .i64 d.W, .int .i64 d.H, .int .i64 d.T, .int .i64 d.R], .int .i64 t, .int .i64 dir, .int .i64 k]) Try.func124 rfl rfl ?_
 refine hc_less _ (sx 0 rfl (sx 1 rfl (sx 2 rfl (sx 3 rfl (sub_nil _))))) (.refl _) ?_
 refine hc_seq ?_
 refine hc_region ?_
 refine hl_box rfl rfl rfl (rq_box rfl rfl) ?_
 intro b1
 refine hl_v rfl rfl rfl (rv_ev rfl) ?_
 refine hl_less (sx 0 rfl (sx 1 rfl (sx 2 rfl (sx 3 rfl (sx 4 rfl (sx 8 rfl (sub_nil _))))))) (.refl _) ?_
 refine hl_nil ?_
 refine hq_then ?_
 refine hc_seq ?_
 refine hc_seq ?_
 refine hc_region ?_
 refine hl_v rfl rfl rfl (rv_loadN (cs := [.int .i64 d.W, .int .i64 d.H, .int .i64 d.T, .int .i64 d.R]) rfl (by kernel_rfl) (by kernel_rfl) rfl rfl (box_part 0 rfl 0 rfl)) ?_
 refine hl_v rfl rfl rfl (rv_ev rfl) ?_
 refine hl_callV rfl rfl rfl (rq_call (by kernel_rfl) rfl (fun w hm => ret_ans (specTileKind_any d _ w))) ?_
 refine hl_lss rfl rfl rfl rfl rfl rfl (fun h2 => ?_) (fun h2 => ?_)
 ·
  refine hl_v rfl rfl rfl (rv_ev rfl) ?_
  refine hl_skip rfl rfl rfl ?_
  refine hl_skip rfl rfl rfl ?_
  refine hl_v rfl rfl rfl (rv_ev rfl) ?_
  refine hl_v rfl rfl rfl (rv_ev rfl) ?_
  refine hl_skip rfl rfl rfl ?_
  refine hl_skip rfl rfl rfl ?_
  refine hl_skip rfl rfl rfl ?_
  refine hl_skip rfl rfl rfl ?_
  refine hl_v rfl rfl rfl (rv_ev rfl) ?_
  refine hl_v rfl rfl rfl (rv_ev rfl) ?_
  refine hl_skip rfl rfl rfl ?_
  refine hl_skip rfl rfl rfl ?_
  refine hl_skip rfl rfl rfl ?_
  refine hl_skip rfl rfl rfl ?_
  refine hl_skip rfl rfl rfl ?_
  refine hl_skip rfl rfl rfl ?_
  refine hl_skip rfl rfl rfl ?_
  refine hl_skip rfl rfl rfl ?_
  refine hl_v rfl rfl rfl (rv_ev rfl) ?_
  refine hl_less (sx 0 rfl (sx 1 rfl (sx 2 rfl (sx 3 rfl (sx 4 rfl (sx 8 rfl (sx 32 rfl (sub_nil _)))))))) (.refl _) ?_
  refine hl_nil ?_
  refine hq_then ?_
  refine hc_true rfl ?_
  refine hc_seq ?_
  refine hc_region ?_
  refine hl_v rfl rfl rfl (rv_ev rfl) ?_
  refine hl_less (sx 0 rfl (sx 1 rfl (sx 2 rfl (sx 3 rfl (sx 4 rfl (sx 8 rfl (sx 32 rfl (sub_nil _)))))))) (.refl _) ?_
  refine hl_nil ?_
  refine hq_then ?_
  refine hc_ret ?_
  refine hq_then_ret ?_
  exact hq_ans rfl rfl (by unfold wireNodeS; rw [if_neg (by rintro ⟨q1, q2, q3, q4⟩; first | omega | exact tk_neg (by assumption) q1)])
 ·
  refine hl_v rfl rfl rfl (rv_ev rfl) ?_
  refine hl_v rfl rfl rfl (rv_ev rfl) ?_
  refine hl_lss rfl rfl rfl rfl rfl rfl (fun h3 => ?_) (fun h3 => ?_)
  ·
   refine hl_v rfl rfl rfl (rv_ev rfl) ?_
   refine hl_v rfl rfl rfl (rv_ev rfl) ?_
   refine hl_skip rfl rfl rfl ?_
   refine hl_skip rfl rfl rfl ?_
   refine hl_skip rfl rfl rfl ?_
   refine hl_skip rfl rfl rfl ?_
   refine hl_v rfl rfl rfl (rv_ev rfl) ?_
   refine hl_v rfl rfl rfl (rv_ev rfl) ?_
   refine hl_skip rfl rfl rfl ?_
   refine hl_skip rfl rfl rfl ?_
   refine hl_skip rfl rfl rfl ?_
   refine hl_skip rfl rfl rfl ?_
   refine hl_skip rfl rfl rfl ?_
   refine hl_skip rfl rfl rfl ?_
   refine hl_skip rfl rfl rfl ?_
   refine hl_skip rfl rfl rfl ?_
   refine hl_v rfl rfl rfl (rv_ev rfl) ?_
   refine hl_less (sx 0 rfl (sx 1 rfl (sx 2 rfl (sx 3 rfl (sx 4 rfl (sx 8 rfl (sx 32 rfl (sub_nil _)))))))) (.refl _) ?_
   refine hl_nil ?_
   refine hq_then ?_
   refine hc_true rfl ?_
   refine hc_seq ?_
   refine hc_region ?_
   refine hl_v rfl rfl rfl (rv_ev rfl) ?_
   refine hl_less (sx 0 rfl (sx 1 rfl (sx 2 rfl (sx 3 rfl (sx 4 rfl (sx 8 rfl (sx 32 rfl (sub_nil _)))))))) (.refl _) ?_
   refine hl_nil ?_
   refine hq_then ?_
   refine hc_ret ?_
   refine hq_then_ret ?_
   exact hq_ans rfl rfl (by unfold wireNodeS; rw [if_neg (by rintro ⟨q1, q2, q3, q4⟩; first | omega | exact tk_neg (by assumption) q1)])
  ·
   refine hl_v rfl rfl rfl (rv_ev rfl) ?_
   refine hl_v rfl rfl rfl (rv_ev rfl) ?_
   refine hl_v rfl rfl rfl (rv_ev rfl) ?_
   refine hl_v rfl rfl rfl (rv_field (k0 := 2) rfl (by kernel_rfl) rfl) ?_
   refine hl_v rfl rfl rfl (rv_load rfl (by kernel_rfl) rfl (box_cell 0 rfl rfl)) ?_
   refine hl_geq rfl rfl rfl rfl rfl rfl (fun h4 => ?_) (fun h4 => ?_)
   ·
    refine hl_v rfl rfl rfl (rv_ev rfl) ?_
    refine hl_v rfl rfl rfl (rv_ev rfl) ?_
    refine hl_skip rfl rfl rfl ?_
    refine hl_skip rfl rfl rfl ?_
    refine hl_skip rfl rfl rfl ?_
    refine hl_skip rfl rfl rfl ?_
    refine hl_skip rfl rfl rfl ?_
    refine hl_skip rfl rfl rfl ?_
    refine hl_skip rfl rfl rfl ?_
    refine hl_skip rfl rfl rfl ?_
    refine hl_v rfl rfl rfl (rv_ev rfl) ?_
    refine hl_less (sx 0 rfl (sx 1 rfl (sx 2 rfl (sx 3 rfl (sx 4 rfl (sx 8 rfl (sx 32 rfl (sub_nil _)))))))) (.refl _) ?_
    refine hl_nil ?_
    refine hq_then ?_
    refine hc_true rfl ?_
    refine hc_seq ?_
    refine hc_region ?_
    refine hl_v rfl rfl rfl (rv_ev rfl) ?_
    refine hl_less (sx 0 rfl (sx 1 rfl (sx 2 rfl (sx 3 rfl (sx 4 rfl (sx 8 rfl (sx 32 rfl (sub_nil _)))))))) (.refl _) ?_
    refine hl_nil ?_
    refine hq_then ?_
    refine hc_ret ?_
    refine hq_then_ret ?_
    exact hq_ans rfl rfl (by unfold wireNodeS; rw [if_neg (by rintro ⟨q1, q2, q3, q4⟩; first | omega | exact tk_neg (by assumption) q1)])
   ·
    refine hl_v rfl rfl rfl (rv_ev rfl) ?_
    refine hl_v rfl rfl rfl (rv_ev rfl) ?_
    refine hl_v rfl rfl rfl (rv_loadN (cs := [.int .i64 d.W, .int .i64 d.H, .int .i64 d.T, .int .i64 d.R]) rfl (by kernel_rfl) (by kernel_rfl) rfl rfl (box_part 0 rfl 0 rfl)) ?_
    refine hl_v rfl rfl rfl (rv_ev rfl) ?_
    refine hl_v rfl rfl rfl (rv_ev rfl) ?_
    refine hl_v rfl rfl rfl (rv_ev rfl) ?_
    refine hl_v rfl rfl rfl (rv_rem rfl rfl rfl (by constructor <;> omega)) ?_
    refine hl_v rfl rfl rfl (rv_add rfl rfl rfl (by constructor <;> omega)) ?_
    refine hl_callV rfl rfl rfl (rq_call (by kernel_rfl) rfl (fun w hm => ret_ans (specTileStep_any d _ _ _ w))) ?_
    refine hl_lss rfl rfl rfl rfl rfl rfl (fun h5 => ?_) (fun h5 => ?_)
    ·
     refine hl_v rfl rfl rfl (rv_ev rfl) ?_
     refine hl_less (sx 0 rfl (sx 1 rfl (sx 2 rfl (sx 3 rfl (sx 4 rfl (sx 8 rfl (sx 32 rfl (sub_nil _)))))))) (.refl _) ?_
     refine hl_nil ?_
     refine hq_then ?_
     refine hc_true rfl ?_
     refine hc_seq ?_
     refine hc_region ?_
     refine hl_v rfl rfl rfl (rv_ev rfl) ?_
     refine hl_less (sx 0 rfl (sx 1 rfl (sx 2 rfl (sx 3 rfl (sx 4 rfl (sx 8 rfl (sx 32 rfl (sub_nil _)))))))) (.refl _) ?_
     refine hl_nil ?_
     refine hq_then ?_
     refine hc_ret ?_
     refine hq_then_ret ?_
     exact hq_ans rfl rfl (by unfold wireNodeS; rw [if_neg (by rintro ⟨q1, q2, q3, q4⟩; first | omega | exact tk_neg (by assumption) q1)])
    ·
     refine hl_v rfl rfl rfl (rv_ev rfl) ?_
     refine hl_less (sx 0 rfl (sx 1 rfl (sx 2 rfl (sx 3 rfl (sx 4 rfl (sx 8 rfl (sx 32 rfl (sub_nil _)))))))) (.refl _) ?_
     refine hl_nil ?_
     refine hq_then ?_
     refine hc_false rfl ?_
     refine hc_skip ?_
     refine hq_then ?_
     refine hc_seq ?_
     obtain ⟨hv, ⟨ht0, ht1⟩, hto⟩ := tk_pos (by assumption)
     have hpm := per_mul hv ht0 ht1
     have hdm := dirT_rng hv r0 r1
     refine hc_draw (by kernel_rfl) 12 [0, 1, 2, 3, 4, 5, 6, 7, 8, 9, 10, 11] (List.take 12 _) (List.drop 12 _) [[], [], [1], [0, 2], [3], [], [], [6], [5, 7], [4, 8], [], [9, 10]] [33, 34, 35, 36, 37, 38, 39, 40, 41, 42, 43, 44] (fun i vs_ v_ p_ => match i with | 0 => v_ = .int .i64 t ∧ p_ = [] | 1 => v_ = .agg #[.int .i64 d.W, .int .i64 d.H, .int .i64 d.T, .int .i64 d.R] ∧ p_ = [] | 2 => v_ = .int .i64 (perI d) ∧ p_ = [] | 3 => v_ = .int .i64 (t * (perI d)) ∧ p_ = [] | 4 => v_ = .int .i64 ((t * (perI d)) + 7) ∧ p_ = [] | 5 => v_ = .int .i64 dir ∧ p_ = [] | 6 => v_ = .pointer (some ⟨b1, 0 + 2, none⟩) ∧ p_ = [] | 7 => v_ = .int .i64 d.T ∧ p_ = [] | 8 => v_ = .int .i64 (dir * d.T) ∧ p_ = [] | 9 => v_ = .int .i64 (((t * (perI d)) + 7) + (dir * d.T)) ∧ p_ = [] | 10 => v_ = .int .i64 k ∧ p_ = [] | 11 => v_ = .int .i64 ((((t * (perI d)) + 7) + (dir * d.T)) + k) ∧ p_ = [] | _ => True) (List.take_append_drop 12 _).symm (by kernel_rfl) (by kernel_rfl) rfl rfl ?_ ?_
     ·
      refine ⟨?_, ?_, ?_, ?_, ?_, ?_, ?_, ?_, ?_, ?_, ?_, ?_, trivial⟩
      ·
       intro vf pf hR
       refine Or.inl ⟨rfl, ?_⟩
       refine rq_less (sx 1 rfl (sub_nil _)) (List.sublist_append_right _ _) ?_
       exact rq_v (rv_ev rfl)
      ·
       intro vf pf hR
       refine Or.inl ⟨rfl, ?_⟩
       refine rq_less (sx 4 rfl (sub_nil _)) (List.sublist_append_right _ _) ?_
       exact rq_v (rv_loadN (cs := [.int .i64 d.W, .int .i64 d.H, .int .i64 d.T, .int .i64 d.R]) rfl (by kernel_rfl) (by kernel_rfl) rfl rfl (box_part 0 rfl 0 rfl))
      ·
       intro vf pf hR
       have e1 : (vf 1) = .agg #[.int .i64 d.W, .int .i64 d.H, .int .i64 d.T, .int .i64 d.R] ∧ (pf 1) = [] := hR 1 (by decide)
       refine Or.inl ⟨rfl, ?_⟩
       refine rq_less (sx 34 (congrArg some e1.1) (sub_nil _)) (List.sublist_append_right _ _) ?_
       exact (rq_call (by kernel_rfl) rfl (fun w hm => ret_ans (specPer_any d hv w)))
      ·
       intro vf pf hR
       have e0 : (vf 0) = .int .i64 t ∧ (pf 0) = [] := hR 0 (by decide)
       have e2 : (vf 2) = .int .i64 (perI d) ∧ (pf 2) = [] := hR 2 (by decide)
       refine Or.inl ⟨rfl, ?_⟩
       refine rq_less (sx 33 (congrArg some e0.1) (sx 35 (congrArg some e2.1) (sub_nil _))) (List.sublist_append_right _ _) ?_
       exact rq_v (rv_mul rfl rfl rfl (by constructor <;> omega))
      ·
       intro vf pf hR
       have e3 : (vf 3) = .int .i64 (t * (perI d)) ∧ (pf 3) = [] := hR 3 (by decide)
       refine Or.inl ⟨rfl, ?_⟩
       refine rq_less (sx 36 (congrArg some e3.1) (sub_nil _)) (List.sublist_append_right _ _) ?_
       exact rq_v (rv_add rfl rfl rfl (by constructor <;> omega))
      ·
       intro vf pf hR
       refine Or.inl ⟨rfl, ?_⟩
       refine rq_less (sx 2 rfl (sub_nil _)) (List.sublist_append_right _ _) ?_
       exact rq_v (rv_ev rfl)
      ·
       intro vf pf hR
       refine Or.inl ⟨rfl, ?_⟩
       refine rq_less (sx 4 rfl (sub_nil _)) (List.sublist_append_right _ _) ?_
       exact rq_v (rv_field (k0 := 2) rfl (by kernel_rfl) rfl)
      ·
       intro vf pf hR
       have e6 : (vf 6) = .pointer (some ⟨b1, 0 + 2, none⟩) ∧ (pf 6) = [] := hR 6 (by decide)
       refine Or.inl ⟨rfl, ?_⟩
       refine rq_less (sx 39 (congrArg some e6.1) (sub_nil _)) (List.sublist_append_right _ _) ?_
       exact rq_v (rv_load rfl (by kernel_rfl) rfl (box_cell 0 rfl rfl))
      ·
       intro vf pf hR
       have e5 : (vf 5) = .int .i64 dir ∧ (pf 5) = [] := hR 5 (by decide)
       have e7 : (vf 7) = .int .i64 d.T ∧ (pf 7) = [] := hR 7 (by decide)
       refine Or.inl ⟨rfl, ?_⟩
       refine rq_less (sx 38 (congrArg some e5.1) (sx 40 (congrArg some e7.1) (sub_nil _))) (List.sublist_append_right _ _) ?_
       exact rq_v (rv_mul rfl rfl rfl (by constructor <;> omega))
      ·
       intro vf pf hR
       have e4 : (vf 4) = .int .i64 ((t * (perI d)) + 7) ∧ (pf 4) = [] := hR 4 (by decide)
       have e8 : (vf 8) = .int .i64 (dir * d.T) ∧ (pf 8) = [] := hR 8 (by decide)
       refine Or.inl ⟨rfl, ?_⟩
       refine rq_less (sx 37 (congrArg some e4.1) (sx 41 (congrArg some e8.1) (sub_nil _))) (List.sublist_append_right _ _) ?_
       exact rq_v (rv_add rfl rfl rfl (by constructor <;> omega))
      ·
       intro vf pf hR
       refine Or.inl ⟨rfl, ?_⟩
       refine rq_less (sx 3 rfl (sub_nil _)) (List.sublist_append_right _ _) ?_
       exact rq_v (rv_ev rfl)
      ·
       intro vf pf hR
       have e9 : (vf 9) = .int .i64 (((t * (perI d)) + 7) + (dir * d.T)) ∧ (pf 9) = [] := hR 9 (by decide)
       have e10 : (vf 10) = .int .i64 k ∧ (pf 10) = [] := hR 10 (by decide)
       refine Or.inl ⟨rfl, ?_⟩
       refine rq_less (sx 42 (congrArg some e9.1) (sx 43 (congrArg some e10.1) (sub_nil _))) (List.sublist_append_right _ _) ?_
       exact rq_v (rv_add rfl rfl rfl (by constructor <;> omega))
     ·
      intro vf pf hR
      have e11 : (vf 11) = .int .i64 ((((t * (perI d)) + 7) + (dir * d.T)) + k) ∧ (pf 11) = [] := hR 11 (by decide)
      refine hl_less (l' := [boxE b1 #[.int .i64 d.W, .int .i64 d.H, .int .i64 d.T, .int .i64 d.R] 25]) (sx 0 rfl (sx 1 rfl (sx 2 rfl (sx 3 rfl (sx 4 rfl (sx 8 rfl (sx 32 rfl (sx 44 (congrArg some e11.1) (sub_nil _))))))))) (List.sublist_append_right _ _) ?_
      simp only [List.drop_succ_cons, List.drop_zero]
      refine hl_v rfl rfl rfl (rv_ev rfl) ?_
      refine hl_less (sx 0 rfl (sx 1 rfl (sx 2 rfl (sx 3 rfl (sx 4 rfl (sx 8 rfl (sx 32 rfl (sub_nil _)))))))) (.refl _) ?_
      refine hl_nil ?_
      refine hq_then ?_
      refine hc_ret ?_
      exact hq_ans rfl rfl (by unfold wireNodeS; rw [if_pos ⟨hto, by omega, by omega, by omega⟩]; unfold wireN; rfl)
set_option maxHeartbeats 4000000 in
set_option maxRecDepth 100000 in
theorem specOutPin_ans (d : Dev) (t p : Int) (w : World) (ht : tOk d t = true) (p0 : -1000 ≤ p) (p1 : p ≤ 1000) :
  Calls Try.prog 109 #[.agg #[.int .i64 d.W, .int .i64 d.H, .int .i64 d.T, .int .i64 d.R], .int .i64 t, .int .i64 p] w (Ans w (.int .i64 (outPinI d t p))) := by
 obtain ⟨hv, t0, t1⟩ := (tOk_iff _ _).1 ht
 have hpm := per_mul hv t0 t1
 have h35 := tile_35 hv t1
 refine calls_hc (N := 24) (args := [.agg #[.int .i64 d.W, .int .i64 d.H, .int .i64 d.T, .int .i64 d.R], .int .i64 t, .int .i64 p]) Try.func109 rfl rfl ?_
 refine hc_less _ (sx 0 rfl (sx 1 rfl (sx 2 rfl (sub_nil _)))) (.refl _) ?_
 refine hc_seq ?_
 refine hc_region ?_
 refine hl_box rfl rfl rfl (rq_box rfl rfl) ?_
 intro b1
 refine hl_v rfl rfl rfl (rv_ev rfl) ?_
 refine hl_less (sx 0 rfl (sx 1 rfl (sx 2 rfl (sx 3 rfl (sx 6 rfl (sub_nil _)))))) (.refl _) ?_
 refine hl_nil ?_
 refine hq_then ?_
 refine hc_seq ?_
 refine hc_seq ?_
 refine hc_region ?_
 refine hl_v rfl rfl rfl (rv_ev rfl) ?_
 refine hl_lss rfl rfl rfl rfl rfl rfl (fun h2 => ?_) (fun h2 => ?_)
 ·
  refine hl_v rfl rfl rfl (rv_ev rfl) ?_
  refine hl_skip rfl rfl rfl ?_
  refine hl_skip rfl rfl rfl ?_
  refine hl_skip rfl rfl rfl ?_
  refine hl_skip rfl rfl rfl ?_
  refine hl_skip rfl rfl rfl ?_
  refine hl_skip rfl rfl rfl ?_
  refine hl_v rfl rfl rfl (rv_ev rfl) ?_
  refine hl_less (sx 0 rfl (sx 1 rfl (sx 2 rfl (sx 3 rfl (sx 6 rfl (sx 16 rfl (sub_nil _))))))) (.refl _) ?_
  refine hl_nil ?_
  refine hq_then ?_
  refine hc_true rfl ?_
  refine hc_seq ?_
  refine hc_region ?_
  refine hl_v rfl rfl rfl (rv_ev rfl) ?_
  refine hl_less (sx 0 rfl (sx 1 rfl (sx 2 rfl (sx 3 rfl (sx 6 rfl (sx 16 rfl (sub_nil _))))))) (.refl _) ?_
  refine hl_nil ?_
  refine hq_then ?_
  refine hc_ret ?_
  refine hq_then_ret ?_
  exact hq_ans rfl rfl (by (try rw [tileKind_eq ht] at *); unfold outPinI; first | rw [if_pos ⟨ht, by omega, by omega⟩] | rw [if_neg (by rintro ⟨q1, q2, q3⟩; omega)])
 ·
  refine hl_v rfl rfl rfl (rv_ev rfl) ?_
  refine hl_v rfl rfl rfl (rv_ev rfl) ?_
  refine hl_v rfl rfl rfl (rv_loadN (cs := [.int .i64 d.W, .int .i64 d.H, .int .i64 d.T, .int .i64 d.R]) rfl (by kernel_rfl) (by kernel_rfl) rfl rfl (box_part 0 rfl 0 rfl)) ?_
  refine hl_v rfl rfl rfl (rv_ev rfl) ?_
  refine hl_callV rfl rfl rfl (rq_call (by kernel_rfl) rfl (fun w hm => ret_ans (specTileKind_any d _ w))) ?_
  refine hl_callV rfl rfl rfl (rq_call (by kernel_rfl) rfl (fun w hm => ret_ans (ans_of (specOutPins_any _ (by rw [tileKind_eq ht]; exact kind_cases d t) w)))) ?_
  refine hl_geq rfl rfl rfl rfl rfl rfl (fun h3 => ?_) (fun h3 => ?_)
  ·
   refine hl_v rfl rfl rfl (rv_ev rfl) ?_
   refine hl_less (sx 0 rfl (sx 1 rfl (sx 2 rfl (sx 3 rfl (sx 6 rfl (sx 16 rfl (sub_nil _))))))) (.refl _) ?_
   refine hl_nil ?_
   refine hq_then ?_
   refine hc_true rfl ?_
   refine hc_seq ?_
   refine hc_region ?_
   refine hl_v rfl rfl rfl (rv_ev rfl) ?_
   refine hl_less (sx 0 rfl (sx 1 rfl (sx 2 rfl (sx 3 rfl (sx 6 rfl (sx 16 rfl (sub_nil _))))))) (.refl _) ?_
   refine hl_nil ?_
   refine hq_then ?_
   refine hc_ret ?_
   refine hq_then_ret ?_
   exact hq_ans rfl rfl (by (try rw [tileKind_eq ht] at *); unfold outPinI; first | rw [if_pos ⟨ht, by omega, by omega⟩] | rw [if_neg (by rintro ⟨q1, q2, q3⟩; omega)])
  ·
   refine hl_v rfl rfl rfl (rv_ev rfl) ?_
   refine hl_less (sx 0 rfl (sx 1 rfl (sx 2 rfl (sx 3 rfl (sx 6 rfl (sx 16 rfl (sub_nil _))))))) (.refl _) ?_
   refine hl_nil ?_
   refine hq_then ?_
   refine hc_false rfl ?_
   refine hc_skip ?_
   refine hq_then ?_
   refine hc_seq ?_
   refine hc_region ?_
   refine hl_v rfl rfl rfl (rv_ev rfl) ?_
   refine hl_v rfl rfl rfl (rv_loadN (cs := [.int .i64 d.W, .int .i64 d.H, .int .i64 d.T, .int .i64 d.R]) rfl (by kernel_rfl) (by kernel_rfl) rfl rfl (box_part 0 rfl 0 rfl)) ?_
   refine hl_callV rfl rfl rfl (rq_call (by kernel_rfl) rfl (fun w hm => ret_ans (specPer_any d hv w))) ?_
   refine hl_v rfl rfl rfl (rv_mul rfl rfl rfl (by constructor <;> omega)) ?_
   refine hl_v rfl rfl rfl (rv_add rfl rfl rfl (by constructor <;> omega)) ?_
   refine hl_v rfl rfl rfl (rv_ev rfl) ?_
   refine hl_v rfl rfl rfl (rv_add rfl rfl rfl (by constructor <;> omega)) ?_
   refine hl_v rfl rfl rfl (rv_ev rfl) ?_
   refine hl_less (sx 0 rfl (sx 1 rfl (sx 2 rfl (sx 3 rfl (sx 6 rfl (sx 16 rfl (sub_nil _))))))) (.refl _) ?_
   refine hl_nil ?_
   refine hq_then ?_
   refine hc_ret ?_
   exact hq_ans rfl rfl (by (try rw [tileKind_eq ht] at *); unfold outPinI; first | rw [if_pos ⟨ht, by omega, by omega⟩] | rw [if_neg (by rintro ⟨q1, q2, q3⟩; omega)])
def dirI (d : Dev) (p : Int) : Int := if 7 ≤ p then (p - 7) / d.T else 0
def trackI (d : Dev) (p : Int) : Int := if 7 ≤ p then (p - 7) % d.T else 0
def baseS (d : Dev) (t p : Int) : List Int := if 7 ≤ p then (if 1 < outPinsI (kindI d t) then [outPinI d t 0, outPinI d t 1] else [outPinI d t 0]) else []
def sS (d : Dev) (t p r k : Int) (xs : List Int) (s : Nat) : List Int :=
  if 7 ≤ p ∧ (s : Int) + 1 < 1 + k % 2 then xs else if 0 ≤ wireNodeS d (tileStepI d t ((r + 2) % 4) ((s : Int) + 1)) r k then xs ++ [wireNodeS d (tileStepI d t ((r + 2) % 4) ((s : Int) + 1)) r k] else xs
def sK (d : Dev) (t p r k : Int) (xs : List Int) (j : Nat) : List Int := (List.range j).foldl (sS d t p r k) xs
theorem sK_succ (d : Dev) (t p r k : Int) (xs : List Int) (j : Nat) : sK d t p r k xs (j + 1) = sS d t p r k (sK d t p r k xs j) j := by unfold sK; rw [List.range_succ, List.foldl_append]; rfl
/-- (r, k) is passed over -/
def Skip (T p dir track r k : Int) : Prop := (7 ≤ p ∧ (r = (dir + 2) % 4 ∨ (k ≠ track ∧ k ≠ (track + 1) % T))) ∨ (p < 7 ∧ 1 < T ∧ (k + p) % 2 = 1)
instance (T p dir track r k : Int) : Decidable (Skip T p dir track r k) := by unfold Skip; exact inferInstance
def sR (d : Dev) (t p dir track r : Int) (xs : List Int) (j : Nat) : List Int := (List.range j).foldl (fun xs (k : Nat) => if Skip d.T p dir track r k then xs else sK d t p r k xs (1 + k % 2)) xs
theorem sR_succ (d : Dev) (t p dir track r : Int) (xs : List Int) (j : Nat) : sR d t p dir track r xs (j + 1) = if Skip d.T p dir track r j then sR d t p dir track r xs j else sK d t p r j (sR d t p dir track r xs j) (1 + j % 2) := by unfold sR; rw [List.range_succ, List.foldl_append]; rfl
def sO (d : Dev) (t p dir track : Int) (j : Nat) : List Int := (List.range j).foldl (fun xs (r : Nat) => sR d t p dir track r xs d.T.toNat) (baseS d t p)
theorem sO_succ (d : Dev) (t p dir track : Int) (j : Nat) : sO d t p dir track (j + 1) = sR d t p dir track j (sO d t p dir track j) d.T.toNat := by unfold sO; rw [List.range_succ, List.foldl_append]; rfl
def srcS (d : Dev) (n : Int) : List Int := if nodeOkI d n = true ∧ n % perI d ≠ 5 ∧ n % perI d ≠ 6 then sortR (sO d (n / perI d) (n % perI d) (dirI d (n % perI d)) (trackI d (n % perI d)) 4) else []
theorem dir_rng {d : Dev} {p : Int} (hv : devB d = true) (p0 : 0 ≤ p) (p1 : p ≤ perI d - 1) : 0 ≤ dirI d p ∧ dirI d p ≤ 3 ∧ 0 ≤ trackI d p ∧ trackI d p ≤ d.T - 1 := by
  obtain ⟨-, -, ⟨l1, l2⟩, -⟩ := (devB_iff d).1 hv
  unfold dirI trackI
  split
  · exact wire_rng hv (by assumption) p1
  · omega
set_option maxHeartbeats 4000000 in
set_option maxRecDepth 100000 in
theorem specSources_ret (d : Dev) (n : Int) (w : World)  :
  Calls Try.prog 68 #[.agg #[.int .i64 d.W, .int .i64 d.H, .int .i64 d.T, .int .i64 d.R], .int .i64 n] w (Ret w (fun v' post => post = [rowE 3 1 v' (srcS d n).length ((srcS d n).map (Value.int .i64))])) := by
 refine calls_hc (N := 144) (args := [.agg #[.int .i64 d.W, .int .i64 d.H, .int .i64 d.T, .int .i64 d.R], .int .i64 n]) Try.func68 rfl rfl ?_
 refine hc_less _ (sx 0 rfl (sx 1 rfl (sub_nil _))) (.refl _) ?_
 refine hc_seq ?_
 refine hc_region ?_
 refine hl_box rfl rfl rfl (rq_box rfl rfl) ?_
 intro b1
 refine hl_v rfl rfl rfl (rv_ev rfl) ?_
 refine hl_less (sx 0 rfl (sx 1 rfl (sx 2 rfl (sx 4 rfl (sub_nil _))))) (.refl _) ?_
 refine hl_nil ?_
 refine hq_then ?_
 refine hc_seq ?_
 refine hc_region ?_
 refine hl_row rfl rfl rfl (rq_slice0 (s := 1) rfl Try.underlying30 (by kernel_rfl)) ?_
 intro g2
 refine hl_v rfl rfl rfl (rv_ev rfl) ?_
 refine hl_less (sx 0 rfl (sx 1 rfl (sx 2 rfl (sx 4 rfl (sx 5 rfl (sub_nil _)))))) (.refl _) ?_
 refine hl_nil ?_
 refine hq_then ?_
 refine hc_seq ?_
 refine hc_seq ?_
 refine hc_region ?_
 refine hl_v rfl rfl rfl (rv_loadN (cs := [.int .i64 d.W, .int .i64 d.H, .int .i64 d.T, .int .i64 d.R]) rfl (by kernel_rfl) (by kernel_rfl) rfl rfl (box_part 1 rfl 0 rfl)) ?_
 refine hl_v rfl rfl rfl (rv_ev rfl) ?_
 refine hl_callV rfl rfl rfl (rq_call (by kernel_rfl) rfl (fun w hm => ret_ans (specRouteNodeOk_any d _ w))) ?_
 refine hl_bool (fun h3 => ?_) (fun h3 => ?_)
 ·
  obtain ⟨hv, n0, n1⟩ := nodeOk_rng h3
  obtain ⟨p0, p1, p2, p3, p4⟩ := place_rng hv n0 n1
  obtain ⟨m1, m2⟩ := all_rng hv
  obtain ⟨q1, q2⟩ := per_rng hv
  obtain ⟨-, -, ⟨l1, l2⟩, -⟩ := (devB_iff d).1 hv
  obtain ⟨dg0, dg1, dg2, dg3⟩ := dir_rng hv p2 p3
  have hto := outPins_rng d (n / perI d)
  refine hl_v rfl rfl rfl (rv_ev rfl) ?_
  refine hl_less (sx 0 rfl (sx 1 rfl (sx 2 rfl (sx 4 rfl (sx 5 rfl (sx 18 rfl (sub_nil _))))))) (.refl _) ?_
  refine hl_nil ?_
  refine hq_then ?_
  refine hc_false rfl ?_
  refine hc_skip ?_
  refine hq_then ?_
  refine hc_seq ?_
  refine hc_region ?_
  refine hl_v rfl rfl rfl (rv_ev rfl) ?_
  refine hl_v rfl rfl rfl (rv_loadN (cs := [.int .i64 d.W, .int .i64 d.H, .int .i64 d.T, .int .i64 d.R]) rfl (by kernel_rfl) (by kernel_rfl) rfl rfl (box_part 1 rfl 0 rfl)) ?_
  refine hl_callV rfl rfl rfl (rq_call (by kernel_rfl) rfl (fun w hm => ret_ans (specPer_any d hv w))) ?_
  refine hl_v rfl rfl rfl (rv_quo rfl rfl rfl (by refine ⟨?_, ?_, ?_⟩ <;> omega)) ?_
  refine hl_v rfl rfl rfl (rv_ev rfl) ?_
  refine hl_less (sx 0 rfl (sx 1 rfl (sx 2 rfl (sx 4 rfl (sx 5 rfl (sx 6 rfl (sx 18 rfl (sub_nil _)))))))) (.refl _) ?_
  refine hl_nil ?_
  refine hq_then ?_
  refine hc_seq ?_
  refine hc_region ?_
  refine hl_v rfl rfl rfl (rv_ev rfl) ?_
  refine hl_v rfl rfl rfl (rv_loadN (cs := [.int .i64 d.W, .int .i64 d.H, .int .i64 d.T, .int .i64 d.R]) rfl (by kernel_rfl) (by kernel_rfl) rfl rfl (box_part 1 rfl 0 rfl)) ?_
  refine hl_callV rfl rfl rfl (rq_call (by kernel_rfl) rfl (fun w hm => ret_ans (specPer_any d hv w))) ?_
  refine hl_v rfl rfl rfl (rv_rem rfl rfl rfl (by constructor <;> omega)) ?_
  refine hl_v rfl rfl rfl (rv_ev rfl) ?_
  refine hl_less (sx 0 rfl (sx 1 rfl (sx 2 rfl (sx 4 rfl (sx 5 rfl (sx 6 rfl (sx 7 rfl (sx 18 rfl (sub_nil _))))))))) (.refl _) ?_
  refine hl_nil ?_
  refine hq_then ?_
  refine hc_seq ?_
  refine hc_seq ?_
  refine hc_region ?_
  refine hl_v rfl rfl rfl (rv_ev rfl) ?_
  refine hl_eql rfl rfl rfl rfl rfl rfl (fun h4 => ?_) (fun h4 => ?_)
  ·
   refine hl_v rfl rfl rfl (rv_ev rfl) ?_
   refine hl_skip rfl rfl rfl ?_
   refine hl_skip rfl rfl rfl ?_
   refine hl_v rfl rfl rfl (rv_ev rfl) ?_
   refine hl_less (sx 0 rfl (sx 1 rfl (sx 2 rfl (sx 4 rfl (sx 5 rfl (sx 6 rfl (sx 7 rfl (sx 18 rfl (sx 33 rfl (sub_nil _)))))))))) (.refl _) ?_
   refine hl_nil ?_
   refine hq_then ?_
   refine hc_true rfl ?_
   refine hc_seq ?_
   refine hc_region ?_
   refine hl_v rfl rfl rfl (rv_ev rfl) ?_
   refine hl_v rfl rfl rfl (rv_ev rfl) ?_
   refine hl_less (sx 0 rfl (sx 1 rfl (sx 2 rfl (sx 4 rfl (sx 5 rfl (sx 6 rfl (sx 7 rfl (sx 18 rfl (sx 33 rfl (sub_nil _)))))))))) (.refl _) ?_
   refine hl_nil ?_
   refine hq_then ?_
   refine hc_ret ?_
   refine hq_then_ret ?_
   exact hq_retR (post := [rowE 3 1 (.slice (some ⟨g2, 0, none⟩) 0 0) 0 ([])]) rfl rfl ((.cons_cons _ (.cons _ .slnil))) (by unfold srcS; first | rw [if_pos ⟨by assumption, by omega, by omega⟩, hy, show r = 4 by omega, hd1, hd2] | (rw [if_neg (by rintro ⟨q1, q2, q3⟩; first | omega | simp_all)]; rfl))
  ·
   refine hl_v rfl rfl rfl (rv_ev rfl) ?_
   refine hl_v rfl rfl rfl (rv_ev rfl) ?_
   refine hl_eql rfl rfl rfl rfl rfl rfl (fun h5 => ?_) (fun h5 => ?_)
   ·
    refine hl_v rfl rfl rfl (rv_ev rfl) ?_
    refine hl_less (sx 0 rfl (sx 1 rfl (sx 2 rfl (sx 4 rfl (sx 5 rfl (sx 6 rfl (sx 7 rfl (sx 18 rfl (sx 33 rfl (sub_nil _)))))))))) (.refl _) ?_
    refine hl_nil ?_
    refine hq_then ?_
    refine hc_true rfl ?_
    refine hc_seq ?_
    refine hc_region ?_
    refine hl_v rfl rfl rfl (rv_ev rfl) ?_
    refine hl_v rfl rfl rfl (rv_ev rfl) ?_
    refine hl_less (sx 0 rfl (sx 1 rfl (sx 2 rfl (sx 4 rfl (sx 5 rfl (sx 6 rfl (sx 7 rfl (sx 18 rfl (sx 33 rfl (sub_nil _)))))))))) (.refl _) ?_
    refine hl_nil ?_
    refine hq_then ?_
    refine hc_ret ?_
    refine hq_then_ret ?_
    exact hq_retR (post := [rowE 3 1 (.slice (some ⟨g2, 0, none⟩) 0 0) 0 ([])]) rfl rfl ((.cons_cons _ (.cons _ .slnil))) (by unfold srcS; first | rw [if_pos ⟨by assumption, by omega, by omega⟩, hy, show r = 4 by omega, hd1, hd2] | (rw [if_neg (by rintro ⟨q1, q2, q3⟩; first | omega | simp_all)]; rfl))
   ·
    refine hl_v rfl rfl rfl (rv_ev rfl) ?_
    refine hl_less (sx 0 rfl (sx 1 rfl (sx 2 rfl (sx 4 rfl (sx 5 rfl (sx 6 rfl (sx 7 rfl (sx 18 rfl (sx 33 rfl (sub_nil _)))))))))) (.refl _) ?_
    refine hl_nil ?_
    refine hq_then ?_
    refine hc_false rfl ?_
    refine hc_skip ?_
    refine hq_then ?_
    refine hc_seq ?_
    refine hc_region ?_
    refine hl_v rfl rfl rfl (rv_ev rfl) ?_
    refine hl_less (sx 0 rfl (sx 1 rfl (sx 2 rfl (sx 4 rfl (sx 5 rfl (sx 6 rfl (sx 7 rfl (sx 8 rfl (sx 18 rfl (sx 33 rfl (sub_nil _))))))))))) (.refl _) ?_
    refine hl_nil ?_
    refine hq_then ?_
    refine hc_seq ?_
    refine hc_region ?_
    refine hl_v rfl rfl rfl (rv_ev rfl) ?_
    refine hl_less (sx 0 rfl (sx 1 rfl (sx 2 rfl (sx 4 rfl (sx 5 rfl (sx 6 rfl (sx 7 rfl (sx 8 rfl (sx 9 rfl (sx 18 rfl (sx 33 rfl (sub_nil _)))))))))))) (.refl _) ?_
    refine hl_nil ?_
    refine hq_then ?_
    refine hc_meet4 (α := Int) (β := Int) (γ := Value) (δ := List Int) (fun dir track v xs => [rowE 3 1 v xs.length (xs.map (Value.int .i64)), boxE b1 #[.int .i64 d.W, .int .i64 d.H, .int .i64 d.T, .int .i64 d.R] 25]) (fun dir track v xs => [(0, .agg #[.int .i64 d.W, .int .i64 d.H, .int .i64 d.T, .int .i64 d.R]), (1, .int .i64 n), (2, .pointer (some ⟨b1, 0, none⟩)), (4, .slice none 0 0), (5, v), (6, .int .i64 (n / (perI d))), (7, .int .i64 (n % (perI d))), (8, .int .i64 dir), (9, .int .i64 track), (18, .bool false), (33, .bool false)]) (fun dir track v xs => dir = dirI d (n % perI d) ∧ track = trackI d (n % perI d) ∧ xs = baseS d (n / perI d) (n % perI d) ∧ xs.length ≤ 2) ?_ ?_
    ·
     refine hc_seq ?_
     refine hc_region ?_
     refine hl_v rfl rfl rfl (rv_ev rfl) ?_
     refine hl_geq rfl rfl rfl rfl rfl rfl (fun h6 => ?_) (fun h6 => ?_)
     ·
      refine hl_less (sx 0 rfl (sx 1 rfl (sx 2 rfl (sx 4 rfl (sx 5 rfl (sx 6 rfl (sx 7 rfl (sx 8 rfl (sx 9 rfl (sx 18 rfl (sx 33 rfl (sx 36 rfl (sub_nil _))))))))))))) (.refl _) ?_
      refine hl_nil ?_
      refine hq_then ?_
      refine hc_true rfl ?_
      refine hc_seq ?_
      refine hc_region ?_
      refine hl_v rfl rfl rfl (rv_loadN (cs := [.int .i64 d.W, .int .i64 d.H, .int .i64 d.T, .int .i64 d.R]) rfl (by kernel_rfl) (by kernel_rfl) rfl rfl (box_part 1 rfl 0 rfl)) ?_
      refine hl_v rfl rfl rfl (rv_ev rfl) ?_
      refine hl_callV rfl rfl rfl (rq_call (by kernel_rfl) rfl (fun w hm => ret_ans (specWire_any d _ hv n0 n1 (by omega) w))) ?_
      refine hl_v rfl rfl rfl (rv_ev rfl) ?_
      refine hl_v rfl rfl rfl (rv_ev rfl) ?_
      refine hl_v rfl rfl rfl (rv_ev rfl) ?_
      refine hl_v rfl rfl rfl (rv_ev rfl) ?_
      refine hl_v rfl rfl rfl (rv_ev rfl) ?_
      refine hl_less (sx 0 rfl (sx 1 rfl (sx 2 rfl (sx 4 rfl (sx 5 rfl (sx 6 rfl (sx 7 rfl (sx 8 rfl (sx 9 rfl (sx 18 rfl (sx 33 rfl (sx 36 rfl (sub_nil _))))))))))))) (.refl _) ?_
      refine hl_nil ?_
      refine hq_then ?_
      refine hc_seq ?_
      refine hc_region ?_
      refine hl_v rfl rfl rfl (rv_ev rfl) ?_
      refine hl_v rfl rfl rfl (rv_loadN (cs := [.int .i64 d.W, .int .i64 d.H, .int .i64 d.T, .int .i64 d.R]) rfl (by kernel_rfl) (by kernel_rfl) rfl rfl (box_part 1 rfl 0 rfl)) ?_
      refine hl_v rfl rfl rfl (rv_ev rfl) ?_
      refine hl_callV rfl rfl rfl (rq_call (by kernel_rfl) rfl (fun w hm => ret_ans (specOutPin_ans d _ _ w p4 (by omega) (by omega)))) ?_
      refine hl_row rfl rfl rfl (rq_buildSlice (z := .int .i64 0) (s := 1) (cs := ([outPinI d (n / (perI d)) 0].map (Value.int .i64))) rfl Try.underlying30 (by kernel_rfl) (by decide) rfl (by kernel_rfl) rfl) ?_
      intro g7
      refine hl_append (i := 1) (z := .int .i64 0) (bytes := 8) (n' := ([outPinI d (n / (perI d)) 0]).length) (xs' := (([outPinI d (n / (perI d)) 0]).map (Value.int .i64))) (L := fun v8 => [rowE 3 1 (.slice (some ⟨g7, 0, none⟩) 1 1) 1 ([outPinI d (n / (perI d)) 0].map (Value.int .i64)), rowE 3 1 v8 (([outPinI d (n / (perI d)) 0]).length) (([outPinI d (n / (perI d)) 0]).map (Value.int .i64)), boxE b1 #[.int .i64 d.W, .int .i64 d.H, .int .i64 d.T, .int .i64 d.R] 25]) rfl rfl rfl rfl Try.underlying30 (by kernel_rfl) (by kernel_rfl) rfl rfl rfl (rd_row 0 rfl) (ints_one _) (by simp) ((Nat.zero_add _)) ((List.nil_append _)) (fun _ => rfl) ?_
      intro v8
      refine hl_v rfl rfl rfl (rv_ev rfl) ?_
      refine hl_less (sx 0 rfl (sx 1 rfl (sx 2 rfl (sx 4 rfl (sx 5 rfl (sx 6 rfl (sx 7 rfl (sx 8 rfl (sx 9 rfl (sx 18 rfl (sx 33 rfl (sx 36 rfl (sub_nil _))))))))))))) (.refl _) ?_
      refine hl_nil ?_
      refine hq_then ?_
      refine hc_seq ?_
      refine hc_region ?_
      refine hl_v rfl rfl rfl (rv_loadN (cs := [.int .i64 d.W, .int .i64 d.H, .int .i64 d.T, .int .i64 d.R]) rfl (by kernel_rfl) (by kernel_rfl) rfl rfl (box_part 2 rfl 0 rfl)) ?_
      refine hl_v rfl rfl rfl (rv_ev rfl) ?_
      refine hl_callV rfl rfl rfl (rq_call (by kernel_rfl) rfl (fun w hm => ret_ans (specTileKind_any d _ w))) ?_
      refine hl_callV rfl rfl rfl (rq_call (by kernel_rfl) rfl (fun w hm => ret_ans (ans_of (specOutPins_any _ (by rw [tileKind_eq p4]; exact kind_cases d _) w)))) ?_
      refine hl_gtr rfl rfl rfl rfl rfl rfl (fun h9 => ?_) (fun h9 => ?_)
      ·
       refine hl_less (sx 0 rfl (sx 1 rfl (sx 2 rfl (sx 4 rfl (sx 5 rfl (sx 6 rfl (sx 7 rfl (sx 8 rfl (sx 9 rfl (sx 18 rfl (sx 33 rfl (sx 36 rfl (sx 53 rfl (sub_nil _)))))))))))))) (.refl _) ?_
       refine hl_nil ?_
       refine hq_then ?_
       refine hc_true rfl ?_
       refine hc_region ?_
       refine hl_v rfl rfl rfl (rv_ev rfl) ?_
       refine hl_v rfl rfl rfl (rv_loadN (cs := [.int .i64 d.W, .int .i64 d.H, .int .i64 d.T, .int .i64 d.R]) rfl (by kernel_rfl) (by kernel_rfl) rfl rfl (box_part 2 rfl 0 rfl)) ?_
       refine hl_v rfl rfl rfl (rv_ev rfl) ?_
       refine hl_callV rfl rfl rfl (rq_call (by kernel_rfl) rfl (fun w hm => ret_ans (specOutPin_ans d _ _ w p4 (by omega) (by omega)))) ?_
       refine hl_row rfl rfl rfl (rq_buildSlice (z := .int .i64 0) (s := 1) (cs := ([outPinI d (n / (perI d)) 1].map (Value.int .i64))) rfl Try.underlying30 (by kernel_rfl) (by decide) rfl (by kernel_rfl) rfl) ?_
       intro g10
       refine hl_append (i := 2) (z := .int .i64 0) (bytes := 8) (n' := (([outPinI d (n / (perI d)) 0]) ++ ([outPinI d (n / (perI d)) 1])).length) (xs' := ((([outPinI d (n / (perI d)) 0]) ++ ([outPinI d (n / (perI d)) 1])).map (Value.int .i64))) (L := fun v11 => [rowE 3 1 (.slice (some ⟨g10, 0, none⟩) 1 1) 1 ([outPinI d (n / (perI d)) 1].map (Value.int .i64)), rowE 3 1 (.slice (some ⟨g7, 0, none⟩) 1 1) 1 ([outPinI d (n / (perI d)) 0].map (Value.int .i64)), rowE 3 1 v11 ((([outPinI d (n / (perI d)) 0]) ++ ([outPinI d (n / (perI d)) 1])).length) ((([outPinI d (n / (perI d)) 0]) ++ ([outPinI d (n / (perI d)) 1])).map (Value.int .i64)), boxE b1 #[.int .i64 d.W, .int .i64 d.H, .int .i64 d.T, .int .i64 d.R] 25]) rfl rfl rfl rfl Try.underlying30 (by kernel_rfl) (by kernel_rfl) rfl rfl rfl (rd_row 0 rfl) (ints_one _) (by simp) (len_app ([outPinI d (n / (perI d)) 0]) ([outPinI d (n / (perI d)) 1])) (ints_app ([outPinI d (n / (perI d)) 0]) ([outPinI d (n / (perI d)) 1])) (fun _ => rfl) ?_
       intro v11
       refine hl_v rfl rfl rfl (rv_ev rfl) ?_
       refine hl_less (sx 0 rfl (sx 1 rfl (sx 2 rfl (sx 4 rfl (sx 5 rfl (sx 6 rfl (sx 7 rfl (sx 8 rfl (sx 9 rfl (sx 18 rfl (sx 33 rfl (sx 36 rfl (sx 53 rfl (sub_nil _)))))))))))))) (.refl _) ?_
       refine hl_nil ?_
       exact hq_meet4 ((n % perI d - 7) / d.T) ((n % perI d - 7) % d.T) _ (([outPinI d (n / (perI d)) 0]) ++ ([outPinI d (n / (perI d)) 1])) ⟨by unfold dirI; rw [if_pos (by omega)], by unfold trackI; rw [if_pos (by omega)], by unfold baseS; rw [if_pos (by omega)]; rw [tileKind_eq p4] at *; (first | rw [if_pos (by omega)] | rw [if_neg (by omega)]) <;> rfl, by simp⟩ (sx 0 rfl (sx 1 rfl (sx 2 rfl (sx 4 rfl (sx 5 rfl (sx 6 rfl (sx 7 rfl (sx 8 rfl (sx 9 rfl (sx 18 rfl (sx 33 rfl (sub_nil _)))))))))))) ((.cons _ (.cons _ (.cons_cons _ (.cons_cons _ .slnil)))))
      ·
       refine hl_less (sx 0 rfl (sx 1 rfl (sx 2 rfl (sx 4 rfl (sx 5 rfl (sx 6 rfl (sx 7 rfl (sx 8 rfl (sx 9 rfl (sx 18 rfl (sx 33 rfl (sx 36 rfl (sx 53 rfl (sub_nil _)))))))))))))) (.refl _) ?_
       refine hl_nil ?_
       refine hq_then ?_
       refine hc_false rfl ?_
       refine hc_skip ?_
       exact hq_meet4 ((n % perI d - 7) / d.T) ((n % perI d - 7) % d.T) _ ([outPinI d (n / (perI d)) 0]) ⟨by unfold dirI; rw [if_pos (by omega)], by unfold trackI; rw [if_pos (by omega)], by unfold baseS; rw [if_pos (by omega)]; rw [tileKind_eq p4] at *; (first | rw [if_pos (by omega)] | rw [if_neg (by omega)]) <;> rfl, by simp⟩ (sx 0 rfl (sx 1 rfl (sx 2 rfl (sx 4 rfl (sx 5 rfl (sx 6 rfl (sx 7 rfl (sx 8 rfl (sx 9 rfl (sx 18 rfl (sx 33 rfl (sub_nil _)))))))))))) ((.cons _ (.cons_cons _ (.cons_cons _ .slnil))))
     ·
      refine hl_less (sx 0 rfl (sx 1 rfl (sx 2 rfl (sx 4 rfl (sx 5 rfl (sx 6 rfl (sx 7 rfl (sx 8 rfl (sx 9 rfl (sx 18 rfl (sx 33 rfl (sx 36 rfl (sub_nil _))))))))))))) (.refl _) ?_
      refine hl_nil ?_
      refine hq_then ?_
      refine hc_false rfl ?_
      refine hc_skip ?_
      exact hq_meet4 0 0 _ ([]) ⟨by unfold dirI; rw [if_neg (by omega)], by unfold trackI; rw [if_neg (by omega)], by unfold baseS; rw [if_neg (by omega)], by simp⟩ (sx 0 rfl (sx 1 rfl (sx 2 rfl (sx 4 rfl (sx 5 rfl (sx 6 rfl (sx 7 rfl (sx 8 rfl (sx 9 rfl (sx 18 rfl (sx 33 rfl (sub_nil _)))))))))))) ((.cons_cons _ (.cons_cons _ .slnil)))
    intro dir track v xs hm12
    obtain ⟨hd1, hd2, hx, hxl⟩ := hm12
    refine hc_seq ?_
    refine hc_seq ?_
    refine hc_region ?_
    refine hl_v rfl rfl rfl (rv_ev rfl) ?_
    refine hl_less (sx 0 rfl (sx 1 rfl (sx 2 rfl (sx 4 rfl (sx 5 rfl (sx 6 rfl (sx 7 rfl (sx 8 rfl (sx 9 rfl (sx 10 rfl (sx 18 rfl (sx 33 rfl (sub_nil _))))))))))))) (.refl _) ?_
    refine hl_nil ?_
    refine hq_then ?_
    refine hc_block ?_
    refine hc_loop3 (α := Nat) (β := Value) (γ := List Int) (fun r u ys => [rowE 3 1 u ys.length (ys.map (Value.int .i64)), boxE b1 #[.int .i64 d.W, .int .i64 d.H, .int .i64 d.T, .int .i64 d.R] 25]) (fun r u ys => [(0, .agg #[.int .i64 d.W, .int .i64 d.H, .int .i64 d.T, .int .i64 d.R]), (1, .int .i64 n), (2, .pointer (some ⟨b1, 0, none⟩)), (4, .slice none 0 0), (5, u), (6, .int .i64 (n / (perI d))), (7, .int .i64 (n % (perI d))), (8, .int .i64 dir), (9, .int .i64 track), (10, .int .i64 (r : Int)), (18, .bool false), (33, .bool false)]) (fun r u ys => r ≤ 4 ∧ ys = sO d (n / perI d) (n % perI d) dir track r ∧ ys.length ≤ 2 + 8 * r) (fun r u ys => 5 - r) 0 _ xs ⟨by omega, by rw [hx]; rfl, by omega⟩ (sx 0 rfl (sx 1 rfl (sx 2 rfl (sx 4 rfl (sx 5 rfl (sx 6 rfl (sx 7 rfl (sx 8 rfl (sx 9 rfl (sx 10 rfl (sx 18 rfl (sx 33 rfl (sub_nil _))))))))))))) ((.cons_cons _ (.cons_cons _ .slnil))) ?_
    intro r u ys hi13
    obtain ⟨hr, hy, hyl⟩ := hi13
    refine hc_seq ?_
    refine hc_seq ?_
    refine hc_region ?_
    refine hl_v rfl rfl rfl (rv_ev rfl) ?_
    refine hl_lss rfl rfl rfl rfl rfl rfl (fun h14 => ?_) (fun h14 => ?_)
    ·
     refine hl_less (sx 0 rfl (sx 1 rfl (sx 2 rfl (sx 4 rfl (sx 5 rfl (sx 6 rfl (sx 7 rfl (sx 8 rfl (sx 9 rfl (sx 10 rfl (sx 18 rfl (sx 33 rfl (sx 61 rfl (sub_nil _)))))))))))))) (.refl _) ?_
     refine hl_nil ?_
     refine hq_then ?_
     refine hc_true rfl ?_
     refine hc_skip ?_
     refine hq_then ?_
     refine hc_seq ?_
     refine hc_block ?_
     refine hc_seq ?_
     refine hc_region ?_
     refine hl_v rfl rfl rfl (rv_ev rfl) ?_
     refine hl_less (sx 0 rfl (sx 1 rfl (sx 2 rfl (sx 4 rfl (sx 5 rfl (sx 6 rfl (sx 7 rfl (sx 8 rfl (sx 9 rfl (sx 10 rfl (sx 11 rfl (sx 18 rfl (sx 33 rfl (sx 61 rfl (sub_nil _))))))))))))))) (.refl _) ?_
     refine hl_nil ?_
     refine hq_then ?_
     refine hc_block ?_
     refine hc_loop3 (α := Nat) (β := Value) (γ := List Int) (fun k q zs => [rowE 3 1 q zs.length (zs.map (Value.int .i64)), boxE b1 #[.int .i64 d.W, .int .i64 d.H, .int .i64 d.T, .int .i64 d.R] 25]) (fun k q zs => [(0, .agg #[.int .i64 d.W, .int .i64 d.H, .int .i64 d.T, .int .i64 d.R]), (1, .int .i64 n), (2, .pointer (some ⟨b1, 0, none⟩)), (4, .slice none 0 0), (5, q), (6, .int .i64 (n / (perI d))), (7, .int .i64 (n % (perI d))), (8, .int .i64 dir), (9, .int .i64 track), (10, .int .i64 (r : Int)), (11, .int .i64 (k : Int)), (18, .bool false), (33, .bool false), (61, .bool true)]) (fun k q zs => (k : Int) ≤ d.T ∧ zs = sR d (n / perI d) (n % perI d) dir track r ys k ∧ zs.length ≤ ys.length + 2 * k) (fun k q zs => 5 - k) 0 _ ys ⟨by omega, rfl, by simp⟩ (sx 0 rfl (sx 1 rfl (sx 2 rfl (sx 4 rfl (sx 5 rfl (sx 6 rfl (sx 7 rfl (sx 8 rfl (sx 9 rfl (sx 10 rfl (sx 11 rfl (sx 18 rfl (sx 33 rfl (sx 61 rfl (sub_nil _))))))))))))))) ((.cons_cons _ (.cons_cons _ .slnil))) ?_
     intro k q zs hi15
     obtain ⟨hk, hz, hzl⟩ := hi15
     refine hc_seq ?_
     refine hc_seq ?_
     refine hc_region ?_
     refine hl_v rfl rfl rfl (rv_ev rfl) ?_
     refine hl_v rfl rfl rfl (rv_field (k0 := 2) rfl (by kernel_rfl) rfl) ?_
     refine hl_v rfl rfl rfl (rv_load rfl (by kernel_rfl) rfl (box_cell 1 rfl rfl)) ?_
     refine hl_lss rfl rfl rfl rfl rfl rfl (fun h16 => ?_) (fun h16 => ?_)
     ·
      refine hl_less (sx 0 rfl (sx 1 rfl (sx 2 rfl (sx 4 rfl (sx 5 rfl (sx 6 rfl (sx 7 rfl (sx 8 rfl (sx 9 rfl (sx 10 rfl (sx 11 rfl (sx 18 rfl (sx 33 rfl (sx 61 rfl (sx 67 rfl (sub_nil _)))))))))))))))) (.refl _) ?_
      refine hl_nil ?_
      refine hq_then ?_
      refine hc_true rfl ?_
      refine hc_skip ?_
      refine hq_then ?_
      refine hc_seq ?_
      refine hc_block ?_
      refine hc_meet1 (α := Unit) (fun u0 => [rowE 3 1 q zs.length (zs.map (Value.int .i64)), boxE b1 #[.int .i64 d.W, .int .i64 d.H, .int .i64 d.T, .int .i64 d.R] 25]) (fun u0 => [(0, .agg #[.int .i64 d.W, .int .i64 d.H, .int .i64 d.T, .int .i64 d.R]), (1, .int .i64 n), (2, .pointer (some ⟨b1, 0, none⟩)), (4, .slice none 0 0), (5, q), (6, .int .i64 (n / (perI d))), (7, .int .i64 (n % (perI d))), (8, .int .i64 dir), (9, .int .i64 track), (10, .int .i64 (r : Int)), (11, .int .i64 (k : Int)), (18, .bool false), (33, .bool false), (61, .bool true), (67, .bool true)]) (fun u0 => ¬ Skip d.T (n % perI d) dir track r k) ?_ ?_
      ·
       refine hc_seq ?_
       refine hc_region ?_
       refine hl_v rfl rfl rfl (rv_ev rfl) ?_
       refine hl_geq rfl rfl rfl rfl rfl rfl (fun h17 => ?_) (fun h17 => ?_)
       ·
        refine hl_v rfl rfl rfl (rv_ev rfl) ?_
        refine hl_v rfl rfl rfl (rv_ev rfl) ?_
        refine hl_v rfl rfl rfl (rv_ev rfl) ?_
        refine hl_v rfl rfl rfl (rv_add rfl rfl rfl (by constructor <;> omega)) ?_
        refine hl_v rfl rfl rfl (rv_rem rfl rfl rfl (by constructor <;> omega)) ?_
        refine hl_eql rfl rfl rfl rfl rfl rfl (fun h18 => ?_) (fun h18 => ?_)
        ·
         refine hl_v rfl rfl rfl (rv_ev rfl) ?_
         refine hl_skip rfl rfl rfl ?_
         refine hl_skip rfl rfl rfl ?_
         refine hl_skip rfl rfl rfl ?_
         refine hl_skip rfl rfl rfl ?_
         refine hl_skip rfl rfl rfl ?_
         refine hl_skip rfl rfl rfl ?_
         refine hl_skip rfl rfl rfl ?_
         refine hl_skip rfl rfl rfl ?_
         refine hl_skip rfl rfl rfl ?_
         refine hl_skip rfl rfl rfl ?_
         refine hl_skip rfl rfl rfl ?_
         refine hl_skip rfl rfl rfl ?_
         refine hl_v rfl rfl rfl (rv_ev rfl) ?_
         refine hl_v rfl rfl rfl (rv_ev rfl) ?_
         refine hl_v rfl rfl rfl (rv_ev rfl) ?_
         refine hl_skip rfl rfl rfl ?_
         refine hl_skip rfl rfl rfl ?_
         refine hl_skip rfl rfl rfl ?_
         refine hl_skip rfl rfl rfl ?_
         refine hl_skip rfl rfl rfl ?_
         refine hl_skip rfl rfl rfl ?_
         refine hl_skip rfl rfl rfl ?_
         refine hl_skip rfl rfl rfl ?_
         refine hl_skip rfl rfl rfl ?_
         refine hl_skip rfl rfl rfl ?_
         refine hl_skip rfl rfl rfl ?_
         refine hl_skip rfl rfl rfl ?_
         refine hl_skip rfl rfl rfl ?_
         refine hl_skip rfl rfl rfl ?_
         refine hl_v rfl rfl rfl (rv_ev rfl) ?_
         refine hl_less (sx 0 rfl (sx 1 rfl (sx 2 rfl (sx 4 rfl (sx 5 rfl (sx 6 rfl (sx 7 rfl (sx 8 rfl (sx 9 rfl (sx 10 rfl (sx 11 rfl (sx 18 rfl (sx 33 rfl (sx 61 rfl (sx 67 rfl (sx 108 rfl (sub_nil _))))))))))))))))) (.refl _) ?_
         refine hl_nil ?_
         refine hq_then ?_
         refine hc_true rfl ?_
         refine hc_exit ?_
         refine hq_then_exit ?_
         refine hq_block_exit ?_
         refine hq_then ?_
         refine hc_region ?_
         refine hl_v rfl rfl rfl (rv_ev rfl) ?_
         refine hl_v rfl rfl rfl (rv_add rfl rfl rfl (by constructor <;> omega)) ?_
         refine hl_v rfl rfl rfl (rv_ev rfl) ?_
         refine hl_less (sx 0 rfl (sx 1 rfl (sx 2 rfl (sx 4 rfl (sx 5 rfl (sx 6 rfl (sx 7 rfl (sx 8 rfl (sx 9 rfl (sx 10 rfl (sx 11 rfl (sx 18 rfl (sx 33 rfl (sx 61 rfl (sx 67 rfl (sx 108 rfl (sub_nil _))))))))))))))))) (.refl _) ?_
         refine hl_nil ?_
         exact hq_round3 (k + 1) _ _ ⟨by omega, by rw [sR_succ]; rw [if_pos (by unfold Skip; omega)]; exact hz, by omega⟩ (by omega) (sx 0 rfl (sx 1 rfl (sx 2 rfl (sx 4 rfl (sx 5 rfl (sx 6 rfl (sx 7 rfl (sx 8 rfl (sx 9 rfl (sx 10 rfl (sx 11 rfl (sx 18 rfl (sx 33 rfl (sx 61 rfl (sub_nil _))))))))))))))) ((.cons_cons _ (.cons_cons _ .slnil)))
        ·
         refine hl_v rfl rfl rfl (rv_ev rfl) ?_
         refine hl_v rfl rfl rfl (rv_ev rfl) ?_
         refine hl_v rfl rfl rfl (rv_ev rfl) ?_
         refine hl_neq rfl rfl rfl rfl rfl rfl (fun h19 => ?_) (fun h19 => ?_)
         ·
          refine hl_v rfl rfl rfl (rv_ev rfl) ?_
          refine hl_v rfl rfl rfl (rv_ev rfl) ?_
          refine hl_v rfl rfl rfl (rv_ev rfl) ?_
          refine hl_v rfl rfl rfl (rv_add rfl rfl rfl (by constructor <;> omega)) ?_
          refine hl_v rfl rfl rfl (rv_field (k0 := 2) rfl (by kernel_rfl) rfl) ?_
          refine hl_v rfl rfl rfl (rv_load rfl (by kernel_rfl) rfl (box_cell 1 rfl rfl)) ?_
          refine hl_v rfl rfl rfl (rv_rem rfl rfl rfl (by constructor <;> omega)) ?_
          refine hl_neq rfl rfl rfl rfl rfl rfl (fun h20 => ?_) (fun h20 => ?_)
          ·
           refine hl_v rfl rfl rfl (rv_ev rfl) ?_
           refine hl_v rfl rfl rfl (rv_ev rfl) ?_
           refine hl_v rfl rfl rfl (rv_ev rfl) ?_
           refine hl_v rfl rfl rfl (rv_ev rfl) ?_
           refine hl_skip rfl rfl rfl ?_
           refine hl_skip rfl rfl rfl ?_
           refine hl_skip rfl rfl rfl ?_
           refine hl_skip rfl rfl rfl ?_
           refine hl_skip rfl rfl rfl ?_
           refine hl_skip rfl rfl rfl ?_
           refine hl_skip rfl rfl rfl ?_
           refine hl_skip rfl rfl rfl ?_
           refine hl_skip rfl rfl rfl ?_
           refine hl_skip rfl rfl rfl ?_
           refine hl_skip rfl rfl rfl ?_
           refine hl_skip rfl rfl rfl ?_
           refine hl_skip rfl rfl rfl ?_
           refine hl_skip rfl rfl rfl ?_
           refine hl_v rfl rfl rfl (rv_ev rfl) ?_
           refine hl_less (sx 0 rfl (sx 1 rfl (sx 2 rfl (sx 4 rfl (sx 5 rfl (sx 6 rfl (sx 7 rfl (sx 8 rfl (sx 9 rfl (sx 10 rfl (sx 11 rfl (sx 18 rfl (sx 33 rfl (sx 61 rfl (sx 67 rfl (sx 108 rfl (sub_nil _))))))))))))))))) (.refl _) ?_
           refine hl_nil ?_
           refine hq_then ?_
           refine hc_true rfl ?_
           refine hc_exit ?_
           refine hq_then_exit ?_
           refine hq_block_exit ?_
           refine hq_then ?_
           refine hc_region ?_
           refine hl_v rfl rfl rfl (rv_ev rfl) ?_
           refine hl_v rfl rfl rfl (rv_add rfl rfl rfl (by constructor <;> omega)) ?_
           refine hl_v rfl rfl rfl (rv_ev rfl) ?_
           refine hl_less (sx 0 rfl (sx 1 rfl (sx 2 rfl (sx 4 rfl (sx 5 rfl (sx 6 rfl (sx 7 rfl (sx 8 rfl (sx 9 rfl (sx 10 rfl (sx 11 rfl (sx 18 rfl (sx 33 rfl (sx 61 rfl (sx 67 rfl (sx 108 rfl (sub_nil _))))))))))))))))) (.refl _) ?_
           refine hl_nil ?_
           exact hq_round3 (k + 1) _ _ ⟨by omega, by rw [sR_succ]; rw [if_pos (by unfold Skip; omega)]; exact hz, by omega⟩ (by omega) (sx 0 rfl (sx 1 rfl (sx 2 rfl (sx 4 rfl (sx 5 rfl (sx 6 rfl (sx 7 rfl (sx 8 rfl (sx 9 rfl (sx 10 rfl (sx 11 rfl (sx 18 rfl (sx 33 rfl (sx 61 rfl (sub_nil _))))))))))))))) ((.cons_cons _ (.cons_cons _ .slnil)))
          ·
           refine hl_v rfl rfl rfl (rv_ev rfl) ?_
           refine hl_v rfl rfl rfl (rv_ev rfl) ?_
           refine hl_v rfl rfl rfl (rv_ev rfl) ?_
           refine hl_v rfl rfl rfl (rv_ev rfl) ?_
           refine hl_v rfl rfl rfl (rv_ev rfl) ?_
           refine hl_lss rfl rfl rfl rfl rfl rfl (fun h21 => ?_) (fun h21 => ?_)
           ·
            refine hl_v rfl rfl rfl (rv_ev rfl) ?_
            refine hl_v rfl rfl rfl (rv_field (k0 := 2) rfl (by kernel_rfl) rfl) ?_
            refine hl_v rfl rfl rfl (rv_load rfl (by kernel_rfl) rfl (box_cell 1 rfl rfl)) ?_
            refine hl_gtr rfl rfl rfl rfl rfl rfl (fun h22 => ?_) (fun h22 => ?_)
            ·
             refine hl_v rfl rfl rfl (rv_ev rfl) ?_
             refine hl_v rfl rfl rfl (rv_ev rfl) ?_
             refine hl_v rfl rfl rfl (rv_ev rfl) ?_
             refine hl_v rfl rfl rfl (rv_ev rfl) ?_
             refine hl_v rfl rfl rfl (rv_add rfl rfl rfl (by constructor <;> omega)) ?_
             refine hl_v rfl rfl rfl (rv_rem rfl rfl rfl (by constructor <;> omega)) ?_
             refine hl_eql rfl rfl rfl rfl rfl rfl (fun h23 => ?_) (fun h23 => ?_)
             ·
              refine hl_v rfl rfl rfl (rv_ev rfl) ?_
              refine hl_v rfl rfl rfl (rv_ev rfl) ?_
              refine hl_less (sx 0 rfl (sx 1 rfl (sx 2 rfl (sx 4 rfl (sx 5 rfl (sx 6 rfl (sx 7 rfl (sx 8 rfl (sx 9 rfl (sx 10 rfl (sx 11 rfl (sx 18 rfl (sx 33 rfl (sx 61 rfl (sx 67 rfl (sx 108 rfl (sub_nil _))))))))))))))))) (.refl _) ?_
              refine hl_nil ?_
              refine hq_then ?_
              refine hc_true rfl ?_
              refine hc_exit ?_
              refine hq_then_exit ?_
              refine hq_block_exit ?_
              refine hq_then ?_
              refine hc_region ?_
              refine hl_v rfl rfl rfl (rv_ev rfl) ?_
              refine hl_v rfl rfl rfl (rv_add rfl rfl rfl (by constructor <;> omega)) ?_
              refine hl_v rfl rfl rfl (rv_ev rfl) ?_
              refine hl_less (sx 0 rfl (sx 1 rfl (sx 2 rfl (sx 4 rfl (sx 5 rfl (sx 6 rfl (sx 7 rfl (sx 8 rfl (sx 9 rfl (sx 10 rfl (sx 11 rfl (sx 18 rfl (sx 33 rfl (sx 61 rfl (sx 67 rfl (sx 108 rfl (sub_nil _))))))))))))))))) (.refl _) ?_
              refine hl_nil ?_
              exact hq_round3 (k + 1) _ _ ⟨by omega, by rw [sR_succ]; rw [if_pos (by unfold Skip; omega)]; exact hz, by omega⟩ (by omega) (sx 0 rfl (sx 1 rfl (sx 2 rfl (sx 4 rfl (sx 5 rfl (sx 6 rfl (sx 7 rfl (sx 8 rfl (sx 9 rfl (sx 10 rfl (sx 11 rfl (sx 18 rfl (sx 33 rfl (sx 61 rfl (sub_nil _))))))))))))))) ((.cons_cons _ (.cons_cons _ .slnil)))
             ·
              refine hl_v rfl rfl rfl (rv_ev rfl) ?_
              refine hl_v rfl rfl rfl (rv_ev rfl) ?_
              refine hl_less (sx 0 rfl (sx 1 rfl (sx 2 rfl (sx 4 rfl (sx 5 rfl (sx 6 rfl (sx 7 rfl (sx 8 rfl (sx 9 rfl (sx 10 rfl (sx 11 rfl (sx 18 rfl (sx 33 rfl (sx 61 rfl (sx 67 rfl (sx 108 rfl (sub_nil _))))))))))))))))) (.refl _) ?_
              refine hl_nil ?_
              refine hq_then ?_
              refine hc_false rfl ?_
              refine hc_skip ?_
              exact hq_meet1 () (by unfold Skip; omega) (sx 0 rfl (sx 1 rfl (sx 2 rfl (sx 4 rfl (sx 5 rfl (sx 6 rfl (sx 7 rfl (sx 8 rfl (sx 9 rfl (sx 10 rfl (sx 11 rfl (sx 18 rfl (sx 33 rfl (sx 61 rfl (sx 67 rfl (sub_nil _)))))))))))))))) ((.cons_cons _ (.cons_cons _ .slnil)))
            ·
             refine hl_v rfl rfl rfl (rv_ev rfl) ?_
             refine hl_v rfl rfl rfl (rv_ev rfl) ?_
             refine hl_skip rfl rfl rfl ?_
             refine hl_skip rfl rfl rfl ?_
             refine hl_skip rfl rfl rfl ?_
             refine hl_skip rfl rfl rfl ?_
             refine hl_skip rfl rfl rfl ?_
             refine hl_v rfl rfl rfl (rv_ev rfl) ?_
             refine hl_v rfl rfl rfl (rv_ev rfl) ?_
             refine hl_less (sx 0 rfl (sx 1 rfl (sx 2 rfl (sx 4 rfl (sx 5 rfl (sx 6 rfl (sx 7 rfl (sx 8 rfl (sx 9 rfl (sx 10 rfl (sx 11 rfl (sx 18 rfl (sx 33 rfl (sx 61 rfl (sx 67 rfl (sx 108 rfl (sub_nil _))))))))))))))))) (.refl _) ?_
             refine hl_nil ?_
             refine hq_then ?_
             refine hc_false rfl ?_
             refine hc_skip ?_
             exact hq_meet1 () (by unfold Skip; omega) (sx 0 rfl (sx 1 rfl (sx 2 rfl (sx 4 rfl (sx 5 rfl (sx 6 rfl (sx 7 rfl (sx 8 rfl (sx 9 rfl (sx 10 rfl (sx 11 rfl (sx 18 rfl (sx 33 rfl (sx 61 rfl (sx 67 rfl (sub_nil _)))))))))))))))) ((.cons_cons _ (.cons_cons _ .slnil)))
           ·
            refine hl_v rfl rfl rfl (rv_ev rfl) ?_
            refine hl_skip rfl rfl rfl ?_
            refine hl_skip rfl rfl rfl ?_
            refine hl_skip rfl rfl rfl ?_
            refine hl_v rfl rfl rfl (rv_ev rfl) ?_
            refine hl_v rfl rfl rfl (rv_ev rfl) ?_
            refine hl_skip rfl rfl rfl ?_
            refine hl_skip rfl rfl rfl ?_
            refine hl_skip rfl rfl rfl ?_
            refine hl_skip rfl rfl rfl ?_
            refine hl_skip rfl rfl rfl ?_
            refine hl_v rfl rfl rfl (rv_ev rfl) ?_
            refine hl_v rfl rfl rfl (rv_ev rfl) ?_
            refine hl_less (sx 0 rfl (sx 1 rfl (sx 2 rfl (sx 4 rfl (sx 5 rfl (sx 6 rfl (sx 7 rfl (sx 8 rfl (sx 9 rfl (sx 10 rfl (sx 11 rfl (sx 18 rfl (sx 33 rfl (sx 61 rfl (sx 67 rfl (sx 108 rfl (sub_nil _))))))))))))))))) (.refl _) ?_
            refine hl_nil ?_
            refine hq_then ?_
            refine hc_false rfl ?_
            refine hc_skip ?_
            exact hq_meet1 () (by unfold Skip; omega) (sx 0 rfl (sx 1 rfl (sx 2 rfl (sx 4 rfl (sx 5 rfl (sx 6 rfl (sx 7 rfl (sx 8 rfl (sx 9 rfl (sx 10 rfl (sx 11 rfl (sx 18 rfl (sx 33 rfl (sx 61 rfl (sx 67 rfl (sub_nil _)))))))))))))))) ((.cons_cons _ (.cons_cons _ .slnil)))
         ·
          refine hl_v rfl rfl rfl (rv_ev rfl) ?_
          refine hl_skip rfl rfl rfl ?_
          refine hl_skip rfl rfl rfl ?_
          refine hl_skip rfl rfl rfl ?_
          refine hl_skip rfl rfl rfl ?_
          refine hl_skip rfl rfl rfl ?_
          refine hl_skip rfl rfl rfl ?_
          refine hl_skip rfl rfl rfl ?_
          refine hl_v rfl rfl rfl (rv_ev rfl) ?_
          refine hl_v rfl rfl rfl (rv_ev rfl) ?_
          refine hl_v rfl rfl rfl (rv_ev rfl) ?_
          refine hl_v rfl rfl rfl (rv_ev rfl) ?_
          refine hl_v rfl rfl rfl (rv_ev rfl) ?_
          refine hl_lss rfl rfl rfl rfl rfl rfl (fun h24 => ?_) (fun h24 => ?_)
          ·
           refine hl_v rfl rfl rfl (rv_ev rfl) ?_
           refine hl_v rfl rfl rfl (rv_field (k0 := 2) rfl (by kernel_rfl) rfl) ?_
           refine hl_v rfl rfl rfl (rv_load rfl (by kernel_rfl) rfl (box_cell 1 rfl rfl)) ?_
           refine hl_gtr rfl rfl rfl rfl rfl rfl (fun h25 => ?_) (fun h25 => ?_)
           ·
            refine hl_v rfl rfl rfl (rv_ev rfl) ?_
            refine hl_v rfl rfl rfl (rv_ev rfl) ?_
            refine hl_v rfl rfl rfl (rv_ev rfl) ?_
            refine hl_v rfl rfl rfl (rv_ev rfl) ?_
            refine hl_v rfl rfl rfl (rv_add rfl rfl rfl (by constructor <;> omega)) ?_
            refine hl_v rfl rfl rfl (rv_rem rfl rfl rfl (by constructor <;> omega)) ?_
            refine hl_eql rfl rfl rfl rfl rfl rfl (fun h26 => ?_) (fun h26 => ?_)
            ·
             refine hl_v rfl rfl rfl (rv_ev rfl) ?_
             refine hl_v rfl rfl rfl (rv_ev rfl) ?_
             refine hl_less (sx 0 rfl (sx 1 rfl (sx 2 rfl (sx 4 rfl (sx 5 rfl (sx 6 rfl (sx 7 rfl (sx 8 rfl (sx 9 rfl (sx 10 rfl (sx 11 rfl (sx 18 rfl (sx 33 rfl (sx 61 rfl (sx 67 rfl (sx 108 rfl (sub_nil _))))))))))))))))) (.refl _) ?_
             refine hl_nil ?_
             refine hq_then ?_
             refine hc_true rfl ?_
             refine hc_exit ?_
             refine hq_then_exit ?_
             refine hq_block_exit ?_
             refine hq_then ?_
             refine hc_region ?_
             refine hl_v rfl rfl rfl (rv_ev rfl) ?_
             refine hl_v rfl rfl rfl (rv_add rfl rfl rfl (by constructor <;> omega)) ?_
             refine hl_v rfl rfl rfl (rv_ev rfl) ?_
             refine hl_less (sx 0 rfl (sx 1 rfl (sx 2 rfl (sx 4 rfl (sx 5 rfl (sx 6 rfl (sx 7 rfl (sx 8 rfl (sx 9 rfl (sx 10 rfl (sx 11 rfl (sx 18 rfl (sx 33 rfl (sx 61 rfl (sx 67 rfl (sx 108 rfl (sub_nil _))))))))))))))))) (.refl _) ?_
             refine hl_nil ?_
             exact hq_round3 (k + 1) _ _ ⟨by omega, by rw [sR_succ]; rw [if_pos (by unfold Skip; omega)]; exact hz, by omega⟩ (by omega) (sx 0 rfl (sx 1 rfl (sx 2 rfl (sx 4 rfl (sx 5 rfl (sx 6 rfl (sx 7 rfl (sx 8 rfl (sx 9 rfl (sx 10 rfl (sx 11 rfl (sx 18 rfl (sx 33 rfl (sx 61 rfl (sub_nil _))))))))))))))) ((.cons_cons _ (.cons_cons _ .slnil)))
            ·
             refine hl_v rfl rfl rfl (rv_ev rfl) ?_
             refine hl_v rfl rfl rfl (rv_ev rfl) ?_
             refine hl_less (sx 0 rfl (sx 1 rfl (sx 2 rfl (sx 4 rfl (sx 5 rfl (sx 6 rfl (sx 7 rfl (sx 8 rfl (sx 9 rfl (sx 10 rfl (sx 11 rfl (sx 18 rfl (sx 33 rfl (sx 61 rfl (sx 67 rfl (sx 108 rfl (sub_nil _))))))))))))))))) (.refl _) ?_
             refine hl_nil ?_
             refine hq_then ?_
             refine hc_false rfl ?_
             refine hc_skip ?_
             exact hq_meet1 () (by unfold Skip; omega) (sx 0 rfl (sx 1 rfl (sx 2 rfl (sx 4 rfl (sx 5 rfl (sx 6 rfl (sx 7 rfl (sx 8 rfl (sx 9 rfl (sx 10 rfl (sx 11 rfl (sx 18 rfl (sx 33 rfl (sx 61 rfl (sx 67 rfl (sub_nil _)))))))))))))))) ((.cons_cons _ (.cons_cons _ .slnil)))
           ·
            refine hl_v rfl rfl rfl (rv_ev rfl) ?_
            refine hl_v rfl rfl rfl (rv_ev rfl) ?_
            refine hl_skip rfl rfl rfl ?_
            refine hl_skip rfl rfl rfl ?_
            refine hl_skip rfl rfl rfl ?_
            refine hl_skip rfl rfl rfl ?_
            refine hl_skip rfl rfl rfl ?_
            refine hl_v rfl rfl rfl (rv_ev rfl) ?_
            refine hl_v rfl rfl rfl (rv_ev rfl) ?_
            refine hl_less (sx 0 rfl (sx 1 rfl (sx 2 rfl (sx 4 rfl (sx 5 rfl (sx 6 rfl (sx 7 rfl (sx 8 rfl (sx 9 rfl (sx 10 rfl (sx 11 rfl (sx 18 rfl (sx 33 rfl (sx 61 rfl (sx 67 rfl (sx 108 rfl (sub_nil _))))))))))))))))) (.refl _) ?_
            refine hl_nil ?_
            refine hq_then ?_
            refine hc_false rfl ?_
            refine hc_skip ?_
            exact hq_meet1 () (by unfold Skip; omega) (sx 0 rfl (sx 1 rfl (sx 2 rfl (sx 4 rfl (sx 5 rfl (sx 6 rfl (sx 7 rfl (sx 8 rfl (sx 9 rfl (sx 10 rfl (sx 11 rfl (sx 18 rfl (sx 33 rfl (sx 61 rfl (sx 67 rfl (sub_nil _)))))))))))))))) ((.cons_cons _ (.cons_cons _ .slnil)))
          ·
           refine hl_v rfl rfl rfl (rv_ev rfl) ?_
           refine hl_skip rfl rfl rfl ?_
           refine hl_skip rfl rfl rfl ?_
           refine hl_skip rfl rfl rfl ?_
           refine hl_v rfl rfl rfl (rv_ev rfl) ?_
           refine hl_v rfl rfl rfl (rv_ev rfl) ?_
           refine hl_skip rfl rfl rfl ?_
           refine hl_skip rfl rfl rfl ?_
           refine hl_skip rfl rfl rfl ?_
           refine hl_skip rfl rfl rfl ?_
           refine hl_skip rfl rfl rfl ?_
           refine hl_v rfl rfl rfl (rv_ev rfl) ?_
           refine hl_v rfl rfl rfl (rv_ev rfl) ?_
           refine hl_less (sx 0 rfl (sx 1 rfl (sx 2 rfl (sx 4 rfl (sx 5 rfl (sx 6 rfl (sx 7 rfl (sx 8 rfl (sx 9 rfl (sx 10 rfl (sx 11 rfl (sx 18 rfl (sx 33 rfl (sx 61 rfl (sx 67 rfl (sx 108 rfl (sub_nil _))))))))))))))))) (.refl _) ?_
           refine hl_nil ?_
           refine hq_then ?_
           refine hc_false rfl ?_
           refine hc_skip ?_
           exact hq_meet1 () (by unfold Skip; omega) (sx 0 rfl (sx 1 rfl (sx 2 rfl (sx 4 rfl (sx 5 rfl (sx 6 rfl (sx 7 rfl (sx 8 rfl (sx 9 rfl (sx 10 rfl (sx 11 rfl (sx 18 rfl (sx 33 rfl (sx 61 rfl (sx 67 rfl (sub_nil _)))))))))))))))) ((.cons_cons _ (.cons_cons _ .slnil)))
       ·
        refine hl_v rfl rfl rfl (rv_ev rfl) ?_
        refine hl_skip rfl rfl rfl ?_
        refine hl_skip rfl rfl rfl ?_
        refine hl_skip rfl rfl rfl ?_
        refine hl_skip rfl rfl rfl ?_
        refine hl_skip rfl rfl rfl ?_
        refine hl_skip rfl rfl rfl ?_
        refine hl_skip rfl rfl rfl ?_
        refine hl_skip rfl rfl rfl ?_
        refine hl_skip rfl rfl rfl ?_
        refine hl_skip rfl rfl rfl ?_
        refine hl_skip rfl rfl rfl ?_
        refine hl_skip rfl rfl rfl ?_
        refine hl_skip rfl rfl rfl ?_
        refine hl_skip rfl rfl rfl ?_
        refine hl_skip rfl rfl rfl ?_
        refine hl_skip rfl rfl rfl ?_
        refine hl_skip rfl rfl rfl ?_
        refine hl_skip rfl rfl rfl ?_
        refine hl_skip rfl rfl rfl ?_
        refine hl_v rfl rfl rfl (rv_ev rfl) ?_
        refine hl_v rfl rfl rfl (rv_ev rfl) ?_
        refine hl_v rfl rfl rfl (rv_ev rfl) ?_
        refine hl_lss rfl rfl rfl rfl rfl rfl (fun h27 => ?_) (fun h27 => ?_)
        ·
         refine hl_v rfl rfl rfl (rv_ev rfl) ?_
         refine hl_v rfl rfl rfl (rv_field (k0 := 2) rfl (by kernel_rfl) rfl) ?_
         refine hl_v rfl rfl rfl (rv_load rfl (by kernel_rfl) rfl (box_cell 1 rfl rfl)) ?_
         refine hl_gtr rfl rfl rfl rfl rfl rfl (fun h28 => ?_) (fun h28 => ?_)
         ·
          refine hl_v rfl rfl rfl (rv_ev rfl) ?_
          refine hl_v rfl rfl rfl (rv_ev rfl) ?_
          refine hl_v rfl rfl rfl (rv_ev rfl) ?_
          refine hl_v rfl rfl rfl (rv_ev rfl) ?_
          refine hl_v rfl rfl rfl (rv_add rfl rfl rfl (by constructor <;> omega)) ?_
          refine hl_v rfl rfl rfl (rv_rem rfl rfl rfl (by constructor <;> omega)) ?_
          refine hl_eql rfl rfl rfl rfl rfl rfl (fun h29 => ?_) (fun h29 => ?_)
          ·
           refine hl_v rfl rfl rfl (rv_ev rfl) ?_
           refine hl_v rfl rfl rfl (rv_ev rfl) ?_
           refine hl_less (sx 0 rfl (sx 1 rfl (sx 2 rfl (sx 4 rfl (sx 5 rfl (sx 6 rfl (sx 7 rfl (sx 8 rfl (sx 9 rfl (sx 10 rfl (sx 11 rfl (sx 18 rfl (sx 33 rfl (sx 61 rfl (sx 67 rfl (sx 108 rfl (sub_nil _))))))))))))))))) (.refl _) ?_
           refine hl_nil ?_
           refine hq_then ?_
           refine hc_true rfl ?_
           refine hc_exit ?_
           refine hq_then_exit ?_
           refine hq_block_exit ?_
           refine hq_then ?_
           refine hc_region ?_
           refine hl_v rfl rfl rfl (rv_ev rfl) ?_
           refine hl_v rfl rfl rfl (rv_add rfl rfl rfl (by constructor <;> omega)) ?_
           refine hl_v rfl rfl rfl (rv_ev rfl) ?_
           refine hl_less (sx 0 rfl (sx 1 rfl (sx 2 rfl (sx 4 rfl (sx 5 rfl (sx 6 rfl (sx 7 rfl (sx 8 rfl (sx 9 rfl (sx 10 rfl (sx 11 rfl (sx 18 rfl (sx 33 rfl (sx 61 rfl (sx 67 rfl (sx 108 rfl (sub_nil _))))))))))))))))) (.refl _) ?_
           refine hl_nil ?_
           exact hq_round3 (k + 1) _ _ ⟨by omega, by rw [sR_succ]; rw [if_pos (by unfold Skip; omega)]; exact hz, by omega⟩ (by omega) (sx 0 rfl (sx 1 rfl (sx 2 rfl (sx 4 rfl (sx 5 rfl (sx 6 rfl (sx 7 rfl (sx 8 rfl (sx 9 rfl (sx 10 rfl (sx 11 rfl (sx 18 rfl (sx 33 rfl (sx 61 rfl (sub_nil _))))))))))))))) ((.cons_cons _ (.cons_cons _ .slnil)))
          ·
           refine hl_v rfl rfl rfl (rv_ev rfl) ?_
           refine hl_v rfl rfl rfl (rv_ev rfl) ?_
           refine hl_less (sx 0 rfl (sx 1 rfl (sx 2 rfl (sx 4 rfl (sx 5 rfl (sx 6 rfl (sx 7 rfl (sx 8 rfl (sx 9 rfl (sx 10 rfl (sx 11 rfl (sx 18 rfl (sx 33 rfl (sx 61 rfl (sx 67 rfl (sx 108 rfl (sub_nil _))))))))))))))))) (.refl _) ?_
           refine hl_nil ?_
           refine hq_then ?_
           refine hc_false rfl ?_
           refine hc_skip ?_
           exact hq_meet1 () (by unfold Skip; omega) (sx 0 rfl (sx 1 rfl (sx 2 rfl (sx 4 rfl (sx 5 rfl (sx 6 rfl (sx 7 rfl (sx 8 rfl (sx 9 rfl (sx 10 rfl (sx 11 rfl (sx 18 rfl (sx 33 rfl (sx 61 rfl (sx 67 rfl (sub_nil _)))))))))))))))) ((.cons_cons _ (.cons_cons _ .slnil)))
         ·
          refine hl_v rfl rfl rfl (rv_ev rfl) ?_
          refine hl_v rfl rfl rfl (rv_ev rfl) ?_
          refine hl_skip rfl rfl rfl ?_
          refine hl_skip rfl rfl rfl ?_
          refine hl_skip rfl rfl rfl ?_
          refine hl_skip rfl rfl rfl ?_
          refine hl_skip rfl rfl rfl ?_
          refine hl_v rfl rfl rfl (rv_ev rfl) ?_
          refine hl_v rfl rfl rfl (rv_ev rfl) ?_
          refine hl_less (sx 0 rfl (sx 1 rfl (sx 2 rfl (sx 4 rfl (sx 5 rfl (sx 6 rfl (sx 7 rfl (sx 8 rfl (sx 9 rfl (sx 10 rfl (sx 11 rfl (sx 18 rfl (sx 33 rfl (sx 61 rfl (sx 67 rfl (sx 108 rfl (sub_nil _))))))))))))))))) (.refl _) ?_
          refine hl_nil ?_
          refine hq_then ?_
          refine hc_false rfl ?_
          refine hc_skip ?_
          exact hq_meet1 () (by unfold Skip; omega) (sx 0 rfl (sx 1 rfl (sx 2 rfl (sx 4 rfl (sx 5 rfl (sx 6 rfl (sx 7 rfl (sx 8 rfl (sx 9 rfl (sx 10 rfl (sx 11 rfl (sx 18 rfl (sx 33 rfl (sx 61 rfl (sx 67 rfl (sub_nil _)))))))))))))))) ((.cons_cons _ (.cons_cons _ .slnil)))
        ·
         refine hl_v rfl rfl rfl (rv_ev rfl) ?_
         refine hl_skip rfl rfl rfl ?_
         refine hl_skip rfl rfl rfl ?_
         refine hl_skip rfl rfl rfl ?_
         refine hl_v rfl rfl rfl (rv_ev rfl) ?_
         refine hl_v rfl rfl rfl (rv_ev rfl) ?_
         refine hl_skip rfl rfl rfl ?_
         refine hl_skip rfl rfl rfl ?_
         refine hl_skip rfl rfl rfl ?_
         refine hl_skip rfl rfl rfl ?_
         refine hl_skip rfl rfl rfl ?_
         refine hl_v rfl rfl rfl (rv_ev rfl) ?_
         refine hl_v rfl rfl rfl (rv_ev rfl) ?_
         refine hl_less (sx 0 rfl (sx 1 rfl (sx 2 rfl (sx 4 rfl (sx 5 rfl (sx 6 rfl (sx 7 rfl (sx 8 rfl (sx 9 rfl (sx 10 rfl (sx 11 rfl (sx 18 rfl (sx 33 rfl (sx 61 rfl (sx 67 rfl (sx 108 rfl (sub_nil _))))))))))))))))) (.refl _) ?_
         refine hl_nil ?_
         refine hq_then ?_
         refine hc_false rfl ?_
         refine hc_skip ?_
         exact hq_meet1 () (by unfold Skip; omega) (sx 0 rfl (sx 1 rfl (sx 2 rfl (sx 4 rfl (sx 5 rfl (sx 6 rfl (sx 7 rfl (sx 8 rfl (sx 9 rfl (sx 10 rfl (sx 11 rfl (sx 18 rfl (sx 33 rfl (sx 61 rfl (sx 67 rfl (sub_nil _)))))))))))))))) ((.cons_cons _ (.cons_cons _ .slnil)))
      intro u0 hm30
      have hskip := hm30
      refine hc_seq ?_
      refine hc_region ?_
      refine hl_v rfl rfl rfl (rv_ev rfl) ?_
      refine hl_less (sx 0 rfl (sx 1 rfl (sx 2 rfl (sx 4 rfl (sx 5 rfl (sx 6 rfl (sx 7 rfl (sx 8 rfl (sx 9 rfl (sx 10 rfl (sx 11 rfl (sx 12 rfl (sx 18 rfl (sx 33 rfl (sx 61 rfl (sx 67 rfl (sub_nil _))))))))))))))))) (.refl _) ?_
      refine hl_nil ?_
      refine hq_then ?_
      refine hc_block ?_
      refine hc_loop3 (α := Nat) (β := Value) (γ := List Int) (fun j b cs => [rowE 3 1 b cs.length (cs.map (Value.int .i64)), boxE b1 #[.int .i64 d.W, .int .i64 d.H, .int .i64 d.T, .int .i64 d.R] 25]) (fun j b cs => [(0, .agg #[.int .i64 d.W, .int .i64 d.H, .int .i64 d.T, .int .i64 d.R]), (1, .int .i64 n), (2, .pointer (some ⟨b1, 0, none⟩)), (4, .slice none 0 0), (5, b), (6, .int .i64 (n / (perI d))), (7, .int .i64 (n % (perI d))), (8, .int .i64 dir), (9, .int .i64 track), (10, .int .i64 (r : Int)), (11, .int .i64 (k : Int)), (12, .int .i64 ((j : Int) + 1)), (18, .bool false), (33, .bool false), (61, .bool true), (67, .bool true)]) (fun j b cs => j ≤ 1 + k % 2 ∧ cs = sK d (n / perI d) (n % perI d) r k zs j ∧ cs.length ≤ zs.length + j) (fun j b cs => 3 - j) 0 _ zs ⟨by omega, rfl, by simp⟩ (sx 0 rfl (sx 1 rfl (sx 2 rfl (sx 4 rfl (sx 5 rfl (sx 6 rfl (sx 7 rfl (sx 8 rfl (sx 9 rfl (sx 10 rfl (sx 11 rfl (sx 12 rfl (sx 18 rfl (sx 33 rfl (sx 61 rfl (sx 67 rfl (sub_nil _))))))))))))))))) ((.cons_cons _ (.cons_cons _ .slnil))) ?_
      intro j b cs hi31
      obtain ⟨hj, ha, hal⟩ := hi31
      refine hc_seq ?_
      refine hc_seq ?_
      refine hc_region ?_
      refine hl_v rfl rfl rfl (rv_ev rfl) ?_
      refine hl_v rfl rfl rfl (rv_ev rfl) ?_
      refine hl_v rfl rfl rfl (rv_rem rfl rfl rfl (by constructor <;> omega)) ?_
      refine hl_v rfl rfl rfl (rv_add rfl rfl rfl (by constructor <;> omega)) ?_
      refine hl_leq rfl rfl rfl rfl rfl rfl (fun h32 => ?_) (fun h32 => ?_)
      ·
       refine hl_less (sx 0 rfl (sx 1 rfl (sx 2 rfl (sx 4 rfl (sx 5 rfl (sx 6 rfl (sx 7 rfl (sx 8 rfl (sx 9 rfl (sx 10 rfl (sx 11 rfl (sx 12 rfl (sx 18 rfl (sx 33 rfl (sx 61 rfl (sx 67 rfl (sx 113 rfl (sub_nil _)))))))))))))))))) (.refl _) ?_
       refine hl_nil ?_
       refine hq_then ?_
       refine hc_true rfl ?_
       refine hc_skip ?_
       refine hq_then ?_
       refine hc_seq ?_
       refine hc_block ?_
       refine hc_seq ?_
       refine hc_seq ?_
       refine hc_region ?_
       refine hl_v rfl rfl rfl (rv_ev rfl) ?_
       refine hl_geq rfl rfl rfl rfl rfl rfl (fun h33 => ?_) (fun h33 => ?_)
       ·
        refine hl_v rfl rfl rfl (rv_ev rfl) ?_
        refine hl_v rfl rfl rfl (rv_ev rfl) ?_
        refine hl_v rfl rfl rfl (rv_ev rfl) ?_
        refine hl_v rfl rfl rfl (rv_rem rfl rfl rfl (by constructor <;> omega)) ?_
        refine hl_v rfl rfl rfl (rv_add rfl rfl rfl (by constructor <;> omega)) ?_
        refine hl_lss rfl rfl rfl rfl rfl rfl (fun h34 => ?_) (fun h34 => ?_)
        ·
         refine hl_v rfl rfl rfl (rv_ev rfl) ?_
         refine hl_less (sx 0 rfl (sx 1 rfl (sx 2 rfl (sx 4 rfl (sx 5 rfl (sx 6 rfl (sx 7 rfl (sx 8 rfl (sx 9 rfl (sx 10 rfl (sx 11 rfl (sx 12 rfl (sx 18 rfl (sx 33 rfl (sx 61 rfl (sx 67 rfl (sx 113 rfl (sx 124 rfl (sub_nil _))))))))))))))))))) (.refl _) ?_
         refine hl_nil ?_
         refine hq_then ?_
         refine hc_true rfl ?_
         refine hc_exit ?_
         refine hq_then_exit ?_
         refine hq_block_exit ?_
         refine hq_then ?_
         refine hc_region ?_
         refine hl_v rfl rfl rfl (rv_ev rfl) ?_
         refine hl_v rfl rfl rfl (rv_add rfl rfl rfl (by constructor <;> omega)) ?_
         refine hl_v rfl rfl rfl (rv_ev rfl) ?_
         refine hl_less (sx 0 rfl (sx 1 rfl (sx 2 rfl (sx 4 rfl (sx 5 rfl (sx 6 rfl (sx 7 rfl (sx 8 rfl (sx 9 rfl (sx 10 rfl (sx 11 rfl (sx 12 rfl (sx 18 rfl (sx 33 rfl (sx 61 rfl (sx 67 rfl (sx 113 rfl (sx 124 rfl (sub_nil _))))))))))))))))))) (.refl _) ?_
         refine hl_nil ?_
         exact hq_round3 (j + 1) _ _ ⟨by omega, by rw [sK_succ, ← ha]; unfold sS; first | rw [if_pos (by omega)] | rw [if_neg (by omega), if_pos (by assumption)] | rw [if_neg (by omega), if_neg (by omega)], by first | omega | (simp; omega)⟩ (by omega) (sx 0 rfl (sx 1 rfl (sx 2 rfl (sx 4 rfl (sx 5 rfl (sx 6 rfl (sx 7 rfl (sx 8 rfl (sx 9 rfl (sx 10 rfl (sx 11 rfl (sx 12 rfl (sx 18 rfl (sx 33 rfl (sx 61 rfl (sx 67 rfl (sub_nil _))))))))))))))))) ((.cons_cons _ (.cons_cons _ .slnil)))
        ·
         refine hl_v rfl rfl rfl (rv_ev rfl) ?_
         refine hl_less (sx 0 rfl (sx 1 rfl (sx 2 rfl (sx 4 rfl (sx 5 rfl (sx 6 rfl (sx 7 rfl (sx 8 rfl (sx 9 rfl (sx 10 rfl (sx 11 rfl (sx 12 rfl (sx 18 rfl (sx 33 rfl (sx 61 rfl (sx 67 rfl (sx 113 rfl (sx 124 rfl (sub_nil _))))))))))))))))))) (.refl _) ?_
         refine hl_nil ?_
         refine hq_then ?_
         refine hc_false rfl ?_
         refine hc_skip ?_
         refine hq_then ?_
         refine hc_seq ?_
         refine hc_draw (by kernel_rfl) 11 [0, 1, 2, 3, 4, 5, 6, 7, 8, 9, 10] (List.take 11 _) (List.drop 11 _) [[], [], [], [], [3], [4], [], [1, 2, 5, 6], [], [], [0, 7, 8, 9]] [125, 126, 127, 128, 129, 130, 131, 132, 133, 134, 135] (fun i vs_ v_ p_ => match i with | 0 => v_ = .agg #[.int .i64 d.W, .int .i64 d.H, .int .i64 d.T, .int .i64 d.R] ∧ p_ = [] | 1 => v_ = .agg #[.int .i64 d.W, .int .i64 d.H, .int .i64 d.T, .int .i64 d.R] ∧ p_ = [] | 2 => v_ = .int .i64 (n / (perI d)) ∧ p_ = [] | 3 => v_ = .int .i64 (r : Int) ∧ p_ = [] | 4 => v_ = .int .i64 ((r : Int) + 2) ∧ p_ = [] | 5 => v_ = .int .i64 (((r : Int) + 2) % 4) ∧ p_ = [] | 6 => v_ = .int .i64 ((j : Int) + 1) ∧ p_ = [] | 7 => v_ = .int .i64 (tileStepI d (n / (perI d)) (((r : Int) + 2) % 4) ((j : Int) + 1)) ∧ p_ = [] | 8 => v_ = .int .i64 (r : Int) ∧ p_ = [] | 9 => v_ = .int .i64 (k : Int) ∧ p_ = [] | 10 => v_ = .int .i64 (wireNodeS d (tileStepI d (n / (perI d)) (((r : Int) + 2) % 4) ((j : Int) + 1)) (r : Int) (k : Int)) ∧ p_ = [] | _ => True) (List.take_append_drop 11 _).symm (by kernel_rfl) (by kernel_rfl) rfl rfl ?_ ?_
         ·
          refine ⟨?_, ?_, ?_, ?_, ?_, ?_, ?_, ?_, ?_, ?_, ?_, trivial⟩
          ·
           intro vf pf hR
           refine Or.inl ⟨rfl, ?_⟩
           refine rq_less (sx 2 rfl (sub_nil _)) (List.sublist_append_right _ _) ?_
           exact rq_v (rv_loadN (cs := [.int .i64 d.W, .int .i64 d.H, .int .i64 d.T, .int .i64 d.R]) rfl (by kernel_rfl) (by kernel_rfl) rfl rfl (box_part 1 rfl 0 rfl))
          ·
           intro vf pf hR
           refine Or.inl ⟨rfl, ?_⟩
           refine rq_less (sx 2 rfl (sub_nil _)) (List.sublist_append_right _ _) ?_
           exact rq_v (rv_loadN (cs := [.int .i64 d.W, .int .i64 d.H, .int .i64 d.T, .int .i64 d.R]) rfl (by kernel_rfl) (by kernel_rfl) rfl rfl (box_part 1 rfl 0 rfl))
          ·
           intro vf pf hR
           refine Or.inl ⟨rfl, ?_⟩
           refine rq_less (sx 6 rfl (sub_nil _)) (List.sublist_append_right _ _) ?_
           exact rq_v (rv_ev rfl)
          ·
           intro vf pf hR
           refine Or.inl ⟨rfl, ?_⟩
           refine rq_less (sx 10 rfl (sub_nil _)) (List.sublist_append_right _ _) ?_
           exact rq_v (rv_ev rfl)
          ·
           intro vf pf hR
           have e3 : (vf 3) = .int .i64 (r : Int) ∧ (pf 3) = [] := hR 3 (by decide)
           refine Or.inl ⟨rfl, ?_⟩
           refine rq_less (sx 128 (congrArg some e3.1) (sub_nil _)) (List.sublist_append_right _ _) ?_
           exact rq_v (rv_add rfl rfl rfl (by constructor <;> omega))
          ·
           intro vf pf hR
           have e4 : (vf 4) = .int .i64 ((r : Int) + 2) ∧ (pf 4) = [] := hR 4 (by decide)
           refine Or.inl ⟨rfl, ?_⟩
           refine rq_less (sx 129 (congrArg some e4.1) (sub_nil _)) (List.sublist_append_right _ _) ?_
           exact rq_v (rv_rem rfl rfl rfl (by constructor <;> omega))
          ·
           intro vf pf hR
           refine Or.inl ⟨rfl, ?_⟩
           refine rq_less (sx 12 rfl (sub_nil _)) (List.sublist_append_right _ _) ?_
           exact rq_v (rv_ev rfl)
          ·
           intro vf pf hR
           have e1 : (vf 1) = .agg #[.int .i64 d.W, .int .i64 d.H, .int .i64 d.T, .int .i64 d.R] ∧ (pf 1) = [] := hR 1 (by decide)
           have e2 : (vf 2) = .int .i64 (n / (perI d)) ∧ (pf 2) = [] := hR 2 (by decide)
           have e5 : (vf 5) = .int .i64 (((r : Int) + 2) % 4) ∧ (pf 5) = [] := hR 5 (by decide)
           have e6 : (vf 6) = .int .i64 ((j : Int) + 1) ∧ (pf 6) = [] := hR 6 (by decide)
           refine Or.inl ⟨rfl, ?_⟩
           refine rq_less (sx 126 (congrArg some e1.1) (sx 127 (congrArg some e2.1) (sx 130 (congrArg some e5.1) (sx 131 (congrArg some e6.1) (sub_nil _))))) (List.sublist_append_right _ _) ?_
           exact (rq_call (by kernel_rfl) rfl (fun w hm => ret_ans (specTileStep_any d _ _ _ w)))
          ·
           intro vf pf hR
           refine Or.inl ⟨rfl, ?_⟩
           refine rq_less (sx 10 rfl (sub_nil _)) (List.sublist_append_right _ _) ?_
           exact rq_v (rv_ev rfl)
          ·
           intro vf pf hR
           refine Or.inl ⟨rfl, ?_⟩
           refine rq_less (sx 11 rfl (sub_nil _)) (List.sublist_append_right _ _) ?_
           exact rq_v (rv_ev rfl)
          ·
           intro vf pf hR
           have e0 : (vf 0) = .agg #[.int .i64 d.W, .int .i64 d.H, .int .i64 d.T, .int .i64 d.R] ∧ (pf 0) = [] := hR 0 (by decide)
           have e7 : (vf 7) = .int .i64 (tileStepI d (n / (perI d)) (((r : Int) + 2) % 4) ((j : Int) + 1)) ∧ (pf 7) = [] := hR 7 (by decide)
           have e8 : (vf 8) = .int .i64 (r : Int) ∧ (pf 8) = [] := hR 8 (by decide)
           have e9 : (vf 9) = .int .i64 (k : Int) ∧ (pf 9) = [] := hR 9 (by decide)
           refine Or.inl ⟨rfl, ?_⟩
           refine rq_less (sx 125 (congrArg some e0.1) (sx 132 (congrArg some e7.1) (sx 133 (congrArg some e8.1) (sx 134 (congrArg some e9.1) (sub_nil _))))) (List.sublist_append_right _ _) ?_
           exact (rq_call (by kernel_rfl) rfl (fun w hm => ret_ans (specWireNode_ans d _ _ _ w (by omega) (by omega) (by omega) (by omega))))
         ·
          intro vf pf hR
          have e10 : (vf 10) = .int .i64 (wireNodeS d (tileStepI d (n / (perI d)) (((r : Int) + 2) % 4) ((j : Int) + 1)) (r : Int) (k : Int)) ∧ (pf 10) = [] := hR 10 (by decide)
          refine hl_less (l' := [rowE 3 1 b cs.length (cs.map (Value.int .i64)), boxE b1 #[.int .i64 d.W, .int .i64 d.H, .int .i64 d.T, .int .i64 d.R] 25]) (sx 0 rfl (sx 1 rfl (sx 2 rfl (sx 4 rfl (sx 5 rfl (sx 6 rfl (sx 7 rfl (sx 8 rfl (sx 9 rfl (sx 10 rfl (sx 11 rfl (sx 12 rfl (sx 18 rfl (sx 33 rfl (sx 61 rfl (sx 67 rfl (sx 113 rfl (sx 124 rfl (sx 135 (congrArg some e10.1) (sub_nil _)))))))))))))))))))) (List.sublist_append_right _ _) ?_
          simp only [List.drop_succ_cons, List.drop_zero]
          refine hl_v rfl rfl rfl (rv_ev rfl) ?_
          refine hl_less (sx 0 rfl (sx 1 rfl (sx 2 rfl (sx 4 rfl (sx 5 rfl (sx 6 rfl (sx 7 rfl (sx 8 rfl (sx 9 rfl (sx 10 rfl (sx 11 rfl (sx 12 rfl (sx 13 rfl (sx 18 rfl (sx 33 rfl (sx 61 rfl (sx 67 rfl (sx 113 rfl (sx 124 rfl (sub_nil _)))))))))))))))))))) (.refl _) ?_
          refine hl_nil ?_
          refine hq_then ?_
          refine hc_seq ?_
          refine hc_region ?_
          refine hl_v rfl rfl rfl (rv_ev rfl) ?_
          refine hl_geq rfl rfl rfl rfl rfl rfl (fun h35 => ?_) (fun h35 => ?_)
          ·
           refine hl_less (sx 0 rfl (sx 1 rfl (sx 2 rfl (sx 4 rfl (sx 5 rfl (sx 6 rfl (sx 7 rfl (sx 8 rfl (sx 9 rfl (sx 10 rfl (sx 11 rfl (sx 12 rfl (sx 13 rfl (sx 18 rfl (sx 33 rfl (sx 61 rfl (sx 67 rfl (sx 113 rfl (sx 124 rfl (sx 137 rfl (sub_nil _))))))))))))))))))))) (.refl _) ?_
           refine hl_nil ?_
           refine hq_then ?_
           refine hc_true rfl ?_
           refine hc_region ?_
           refine hl_v rfl rfl rfl (rv_ev rfl) ?_
           refine hl_v rfl rfl rfl (rv_ev rfl) ?_
           refine hl_row rfl rfl rfl (rq_buildSlice (z := .int .i64 0) (s := 1) (cs := ([wireNodeS d (tileStepI d (n / (perI d)) (((r : Int) + 2) % 4) ((j : Int) + 1)) (r : Int) (k : Int)].map (Value.int .i64))) rfl Try.underlying30 (by kernel_rfl) (by decide) rfl (by kernel_rfl) rfl) ?_
           intro g36
           refine hl_append (i := 1) (z := .int .i64 0) (bytes := 8) (n' := (cs ++ ([wireNodeS d (tileStepI d (n / (perI d)) (((r : Int) + 2) % 4) ((j : Int) + 1)) (r : Int) (k : Int)])).length) (xs' := ((cs ++ ([wireNodeS d (tileStepI d (n / (perI d)) (((r : Int) + 2) % 4) ((j : Int) + 1)) (r : Int) (k : Int)])).map (Value.int .i64))) (L := fun v37 => [rowE 3 1 (.slice (some ⟨g36, 0, none⟩) 1 1) 1 ([wireNodeS d (tileStepI d (n / (perI d)) (((r : Int) + 2) % 4) ((j : Int) + 1)) (r : Int) (k : Int)].map (Value.int .i64)), rowE 3 1 v37 ((cs ++ ([wireNodeS d (tileStepI d (n / (perI d)) (((r : Int) + 2) % 4) ((j : Int) + 1)) (r : Int) (k : Int)])).length) ((cs ++ ([wireNodeS d (tileStepI d (n / (perI d)) (((r : Int) + 2) % 4) ((j : Int) + 1)) (r : Int) (k : Int)])).map (Value.int .i64)), boxE b1 #[.int .i64 d.W, .int .i64 d.H, .int .i64 d.T, .int .i64 d.R] 25]) rfl rfl rfl rfl Try.underlying30 (by kernel_rfl) (by kernel_rfl) rfl rfl rfl (rd_row 0 rfl) (ints_one _) (by simp; omega) (len_app cs ([wireNodeS d (tileStepI d (n / (perI d)) (((r : Int) + 2) % 4) ((j : Int) + 1)) (r : Int) (k : Int)])) (ints_app cs ([wireNodeS d (tileStepI d (n / (perI d)) (((r : Int) + 2) % 4) ((j : Int) + 1)) (r : Int) (k : Int)])) (fun _ => rfl) ?_
           intro v37
           refine hl_v rfl rfl rfl (rv_ev rfl) ?_
           refine hl_less (sx 0 rfl (sx 1 rfl (sx 2 rfl (sx 4 rfl (sx 5 rfl (sx 6 rfl (sx 7 rfl (sx 8 rfl (sx 9 rfl (sx 10 rfl (sx 11 rfl (sx 12 rfl (sx 13 rfl (sx 18 rfl (sx 33 rfl (sx 61 rfl (sx 67 rfl (sx 113 rfl (sx 124 rfl (sx 137 rfl (sub_nil _))))))))))))))))))))) (.refl _) ?_
           refine hl_nil ?_
           refine hq_block_normal ?_
           refine hq_then ?_
           refine hc_region ?_
           refine hl_v rfl rfl rfl (rv_ev rfl) ?_
           refine hl_v rfl rfl rfl (rv_add rfl rfl rfl (by constructor <;> omega)) ?_
           refine hl_v rfl rfl rfl (rv_ev rfl) ?_
           refine hl_less (sx 0 rfl (sx 1 rfl (sx 2 rfl (sx 4 rfl (sx 5 rfl (sx 6 rfl (sx 7 rfl (sx 8 rfl (sx 9 rfl (sx 10 rfl (sx 11 rfl (sx 12 rfl (sx 13 rfl (sx 18 rfl (sx 33 rfl (sx 61 rfl (sx 67 rfl (sx 113 rfl (sx 124 rfl (sx 137 rfl (sub_nil _))))))))))))))))))))) (.refl _) ?_
           refine hl_nil ?_
           exact hq_round3 (j + 1) _ _ ⟨by omega, by rw [sK_succ, ← ha]; unfold sS; first | rw [if_pos (by omega)] | rw [if_neg (by omega), if_pos (by assumption)] | rw [if_neg (by omega), if_neg (by omega)], by first | omega | (simp; omega)⟩ (by omega) (sx 0 rfl (sx 1 rfl (sx 2 rfl (sx 4 rfl (sx 5 rfl (sx 6 rfl (sx 7 rfl (sx 8 rfl (sx 9 rfl (sx 10 rfl (sx 11 rfl (sx 12 rfl (sx 18 rfl (sx 33 rfl (sx 61 rfl (sx 67 rfl (sub_nil _))))))))))))))))) ((.cons _ (.cons_cons _ (.cons_cons _ .slnil))))
          ·
           refine hl_less (sx 0 rfl (sx 1 rfl (sx 2 rfl (sx 4 rfl (sx 5 rfl (sx 6 rfl (sx 7 rfl (sx 8 rfl (sx 9 rfl (sx 10 rfl (sx 11 rfl (sx 12 rfl (sx 13 rfl (sx 18 rfl (sx 33 rfl (sx 61 rfl (sx 67 rfl (sx 113 rfl (sx 124 rfl (sx 137 rfl (sub_nil _))))))))))))))))))))) (.refl _) ?_
           refine hl_nil ?_
           refine hq_then ?_
           refine hc_false rfl ?_
           refine hc_skip ?_
           refine hq_block_normal ?_
           refine hq_then ?_
           refine hc_region ?_
           refine hl_v rfl rfl rfl (rv_ev rfl) ?_
           refine hl_v rfl rfl rfl (rv_add rfl rfl rfl (by constructor <;> omega)) ?_
           refine hl_v rfl rfl rfl (rv_ev rfl) ?_
           refine hl_less (sx 0 rfl (sx 1 rfl (sx 2 rfl (sx 4 rfl (sx 5 rfl (sx 6 rfl (sx 7 rfl (sx 8 rfl (sx 9 rfl (sx 10 rfl (sx 11 rfl (sx 12 rfl (sx 13 rfl (sx 18 rfl (sx 33 rfl (sx 61 rfl (sx 67 rfl (sx 113 rfl (sx 124 rfl (sx 137 rfl (sub_nil _))))))))))))))))))))) (.refl _) ?_
           refine hl_nil ?_
           exact hq_round3 (j + 1) _ _ ⟨by omega, by rw [sK_succ, ← ha]; unfold sS; first | rw [if_pos (by omega)] | rw [if_neg (by omega), if_pos (by assumption)] | rw [if_neg (by omega), if_neg (by omega)], by first | omega | (simp; omega)⟩ (by omega) (sx 0 rfl (sx 1 rfl (sx 2 rfl (sx 4 rfl (sx 5 rfl (sx 6 rfl (sx 7 rfl (sx 8 rfl (sx 9 rfl (sx 10 rfl (sx 11 rfl (sx 12 rfl (sx 18 rfl (sx 33 rfl (sx 61 rfl (sx 67 rfl (sub_nil _))))))))))))))))) ((.cons_cons _ (.cons_cons _ .slnil)))
       ·
        refine hl_v rfl rfl rfl (rv_ev rfl) ?_
        refine hl_skip rfl rfl rfl ?_
        refine hl_skip rfl rfl rfl ?_
        refine hl_skip rfl rfl rfl ?_
        refine hl_skip rfl rfl rfl ?_
        refine hl_skip rfl rfl rfl ?_
        refine hl_v rfl rfl rfl (rv_ev rfl) ?_
        refine hl_less (sx 0 rfl (sx 1 rfl (sx 2 rfl (sx 4 rfl (sx 5 rfl (sx 6 rfl (sx 7 rfl (sx 8 rfl (sx 9 rfl (sx 10 rfl (sx 11 rfl (sx 12 rfl (sx 18 rfl (sx 33 rfl (sx 61 rfl (sx 67 rfl (sx 113 rfl (sx 124 rfl (sub_nil _))))))))))))))))))) (.refl _) ?_
        refine hl_nil ?_
        refine hq_then ?_
        refine hc_false rfl ?_
        refine hc_skip ?_
        refine hq_then ?_
        refine hc_seq ?_
        refine hc_draw (by kernel_rfl) 11 [0, 1, 2, 3, 4, 5, 6, 7, 8, 9, 10] (List.take 11 _) (List.drop 11 _) [[], [], [], [], [3], [4], [], [1, 2, 5, 6], [], [], [0, 7, 8, 9]] [125, 126, 127, 128, 129, 130, 131, 132, 133, 134, 135] (fun i vs_ v_ p_ => match i with | 0 => v_ = .agg #[.int .i64 d.W, .int .i64 d.H, .int .i64 d.T, .int .i64 d.R] ∧ p_ = [] | 1 => v_ = .agg #[.int .i64 d.W, .int .i64 d.H, .int .i64 d.T, .int .i64 d.R] ∧ p_ = [] | 2 => v_ = .int .i64 (n / (perI d)) ∧ p_ = [] | 3 => v_ = .int .i64 (r : Int) ∧ p_ = [] | 4 => v_ = .int .i64 ((r : Int) + 2) ∧ p_ = [] | 5 => v_ = .int .i64 (((r : Int) + 2) % 4) ∧ p_ = [] | 6 => v_ = .int .i64 ((j : Int) + 1) ∧ p_ = [] | 7 => v_ = .int .i64 (tileStepI d (n / (perI d)) (((r : Int) + 2) % 4) ((j : Int) + 1)) ∧ p_ = [] | 8 => v_ = .int .i64 (r : Int) ∧ p_ = [] | 9 => v_ = .int .i64 (k : Int) ∧ p_ = [] | 10 => v_ = .int .i64 (wireNodeS d (tileStepI d (n / (perI d)) (((r : Int) + 2) % 4) ((j : Int) + 1)) (r : Int) (k : Int)) ∧ p_ = [] | _ => True) (List.take_append_drop 11 _).symm (by kernel_rfl) (by kernel_rfl) rfl rfl ?_ ?_
        ·
         refine ⟨?_, ?_, ?_, ?_, ?_, ?_, ?_, ?_, ?_, ?_, ?_, trivial⟩
         ·
          intro vf pf hR
          refine Or.inl ⟨rfl, ?_⟩
          refine rq_less (sx 2 rfl (sub_nil _)) (List.sublist_append_right _ _) ?_
          exact rq_v (rv_loadN (cs := [.int .i64 d.W, .int .i64 d.H, .int .i64 d.T, .int .i64 d.R]) rfl (by kernel_rfl) (by kernel_rfl) rfl rfl (box_part 1 rfl 0 rfl))
         ·
          intro vf pf hR
          refine Or.inl ⟨rfl, ?_⟩
          refine rq_less (sx 2 rfl (sub_nil _)) (List.sublist_append_right _ _) ?_
          exact rq_v (rv_loadN (cs := [.int .i64 d.W, .int .i64 d.H, .int .i64 d.T, .int .i64 d.R]) rfl (by kernel_rfl) (by kernel_rfl) rfl rfl (box_part 1 rfl 0 rfl))
         ·
          intro vf pf hR
          refine Or.inl ⟨rfl, ?_⟩
          refine rq_less (sx 6 rfl (sub_nil _)) (List.sublist_append_right _ _) ?_
          exact rq_v (rv_ev rfl)
         ·
          intro vf pf hR
          refine Or.inl ⟨rfl, ?_⟩
          refine rq_less (sx 10 rfl (sub_nil _)) (List.sublist_append_right _ _) ?_
          exact rq_v (rv_ev rfl)
         ·
          intro vf pf hR
          have e3 : (vf 3) = .int .i64 (r : Int) ∧ (pf 3) = [] := hR 3 (by decide)
          refine Or.inl ⟨rfl, ?_⟩
          refine rq_less (sx 128 (congrArg some e3.1) (sub_nil _)) (List.sublist_append_right _ _) ?_
          exact rq_v (rv_add rfl rfl rfl (by constructor <;> omega))
         ·
          intro vf pf hR
          have e4 : (vf 4) = .int .i64 ((r : Int) + 2) ∧ (pf 4) = [] := hR 4 (by decide)
          refine Or.inl ⟨rfl, ?_⟩
          refine rq_less (sx 129 (congrArg some e4.1) (sub_nil _)) (List.sublist_append_right _ _) ?_
          exact rq_v (rv_rem rfl rfl rfl (by constructor <;> omega))
         ·
          intro vf pf hR
          refine Or.inl ⟨rfl, ?_⟩
          refine rq_less (sx 12 rfl (sub_nil _)) (List.sublist_append_right _ _) ?_
          exact rq_v (rv_ev rfl)
         ·
          intro vf pf hR
          have e1 : (vf 1) = .agg #[.int .i64 d.W, .int .i64 d.H, .int .i64 d.T, .int .i64 d.R] ∧ (pf 1) = [] := hR 1 (by decide)
          have e2 : (vf 2) = .int .i64 (n / (perI d)) ∧ (pf 2) = [] := hR 2 (by decide)
          have e5 : (vf 5) = .int .i64 (((r : Int) + 2) % 4) ∧ (pf 5) = [] := hR 5 (by decide)
          have e6 : (vf 6) = .int .i64 ((j : Int) + 1) ∧ (pf 6) = [] := hR 6 (by decide)
          refine Or.inl ⟨rfl, ?_⟩
          refine rq_less (sx 126 (congrArg some e1.1) (sx 127 (congrArg some e2.1) (sx 130 (congrArg some e5.1) (sx 131 (congrArg some e6.1) (sub_nil _))))) (List.sublist_append_right _ _) ?_
          exact (rq_call (by kernel_rfl) rfl (fun w hm => ret_ans (specTileStep_any d _ _ _ w)))
         ·
          intro vf pf hR
          refine Or.inl ⟨rfl, ?_⟩
          refine rq_less (sx 10 rfl (sub_nil _)) (List.sublist_append_right _ _) ?_
          exact rq_v (rv_ev rfl)
         ·
          intro vf pf hR
          refine Or.inl ⟨rfl, ?_⟩
          refine rq_less (sx 11 rfl (sub_nil _)) (List.sublist_append_right _ _) ?_
          exact rq_v (rv_ev rfl)
         ·
          intro vf pf hR
          have e0 : (vf 0) = .agg #[.int .i64 d.W, .int .i64 d.H, .int .i64 d.T, .int .i64 d.R] ∧ (pf 0) = [] := hR 0 (by decide)
          have e7 : (vf 7) = .int .i64 (tileStepI d (n / (perI d)) (((r : Int) + 2) % 4) ((j : Int) + 1)) ∧ (pf 7) = [] := hR 7 (by decide)
          have e8 : (vf 8) = .int .i64 (r : Int) ∧ (pf 8) = [] := hR 8 (by decide)
          have e9 : (vf 9) = .int .i64 (k : Int) ∧ (pf 9) = [] := hR 9 (by decide)
          refine Or.inl ⟨rfl, ?_⟩
          refine rq_less (sx 125 (congrArg some e0.1) (sx 132 (congrArg some e7.1) (sx 133 (congrArg some e8.1) (sx 134 (congrArg some e9.1) (sub_nil _))))) (List.sublist_append_right _ _) ?_
          exact (rq_call (by kernel_rfl) rfl (fun w hm => ret_ans (specWireNode_ans d _ _ _ w (by omega) (by omega) (by omega) (by omega))))
        ·
         intro vf pf hR
         have e10 : (vf 10) = .int .i64 (wireNodeS d (tileStepI d (n / (perI d)) (((r : Int) + 2) % 4) ((j : Int) + 1)) (r : Int) (k : Int)) ∧ (pf 10) = [] := hR 10 (by decide)
         refine hl_less (l' := [rowE 3 1 b cs.length (cs.map (Value.int .i64)), boxE b1 #[.int .i64 d.W, .int .i64 d.H, .int .i64 d.T, .int .i64 d.R] 25]) (sx 0 rfl (sx 1 rfl (sx 2 rfl (sx 4 rfl (sx 5 rfl (sx 6 rfl (sx 7 rfl (sx 8 rfl (sx 9 rfl (sx 10 rfl (sx 11 rfl (sx 12 rfl (sx 18 rfl (sx 33 rfl (sx 61 rfl (sx 67 rfl (sx 113 rfl (sx 124 rfl (sx 135 (congrArg some e10.1) (sub_nil _)))))))))))))))))))) (List.sublist_append_right _ _) ?_
         simp only [List.drop_succ_cons, List.drop_zero]
         refine hl_v rfl rfl rfl (rv_ev rfl) ?_
         refine hl_less (sx 0 rfl (sx 1 rfl (sx 2 rfl (sx 4 rfl (sx 5 rfl (sx 6 rfl (sx 7 rfl (sx 8 rfl (sx 9 rfl (sx 10 rfl (sx 11 rfl (sx 12 rfl (sx 13 rfl (sx 18 rfl (sx 33 rfl (sx 61 rfl (sx 67 rfl (sx 113 rfl (sx 124 rfl (sub_nil _)))))))))))))))))))) (.refl _) ?_
         refine hl_nil ?_
         refine hq_then ?_
         refine hc_seq ?_
         refine hc_region ?_
         refine hl_v rfl rfl rfl (rv_ev rfl) ?_
         refine hl_geq rfl rfl rfl rfl rfl rfl (fun h38 => ?_) (fun h38 => ?_)
         ·
          refine hl_less (sx 0 rfl (sx 1 rfl (sx 2 rfl (sx 4 rfl (sx 5 rfl (sx 6 rfl (sx 7 rfl (sx 8 rfl (sx 9 rfl (sx 10 rfl (sx 11 rfl (sx 12 rfl (sx 13 rfl (sx 18 rfl (sx 33 rfl (sx 61 rfl (sx 67 rfl (sx 113 rfl (sx 124 rfl (sx 137 rfl (sub_nil _))))))))))))))))))))) (.refl _) ?_
          refine hl_nil ?_
          refine hq_then ?_
          refine hc_true rfl ?_
          refine hc_region ?_
          refine hl_v rfl rfl rfl (rv_ev rfl) ?_
          refine hl_v rfl rfl rfl (rv_ev rfl) ?_
          refine hl_row rfl rfl rfl (rq_buildSlice (z := .int .i64 0) (s := 1) (cs := ([wireNodeS d (tileStepI d (n / (perI d)) (((r : Int) + 2) % 4) ((j : Int) + 1)) (r : Int) (k : Int)].map (Value.int .i64))) rfl Try.underlying30 (by kernel_rfl) (by decide) rfl (by kernel_rfl) rfl) ?_
          intro g39
          refine hl_append (i := 1) (z := .int .i64 0) (bytes := 8) (n' := (cs ++ ([wireNodeS d (tileStepI d (n / (perI d)) (((r : Int) + 2) % 4) ((j : Int) + 1)) (r : Int) (k : Int)])).length) (xs' := ((cs ++ ([wireNodeS d (tileStepI d (n / (perI d)) (((r : Int) + 2) % 4) ((j : Int) + 1)) (r : Int) (k : Int)])).map (Value.int .i64))) (L := fun v40 => [rowE 3 1 (.slice (some ⟨g39, 0, none⟩) 1 1) 1 ([wireNodeS d (tileStepI d (n / (perI d)) (((r : Int) + 2) % 4) ((j : Int) + 1)) (r : Int) (k : Int)].map (Value.int .i64)), rowE 3 1 v40 ((cs ++ ([wireNodeS d (tileStepI d (n / (perI d)) (((r : Int) + 2) % 4) ((j : Int) + 1)) (r : Int) (k : Int)])).length) ((cs ++ ([wireNodeS d (tileStepI d (n / (perI d)) (((r : Int) + 2) % 4) ((j : Int) + 1)) (r : Int) (k : Int)])).map (Value.int .i64)), boxE b1 #[.int .i64 d.W, .int .i64 d.H, .int .i64 d.T, .int .i64 d.R] 25]) rfl rfl rfl rfl Try.underlying30 (by kernel_rfl) (by kernel_rfl) rfl rfl rfl (rd_row 0 rfl) (ints_one _) (by simp; omega) (len_app cs ([wireNodeS d (tileStepI d (n / (perI d)) (((r : Int) + 2) % 4) ((j : Int) + 1)) (r : Int) (k : Int)])) (ints_app cs ([wireNodeS d (tileStepI d (n / (perI d)) (((r : Int) + 2) % 4) ((j : Int) + 1)) (r : Int) (k : Int)])) (fun _ => rfl) ?_
          intro v40
          refine hl_v rfl rfl rfl (rv_ev rfl) ?_
          refine hl_less (sx 0 rfl (sx 1 rfl (sx 2 rfl (sx 4 rfl (sx 5 rfl (sx 6 rfl (sx 7 rfl (sx 8 rfl (sx 9 rfl (sx 10 rfl (sx 11 rfl (sx 12 rfl (sx 13 rfl (sx 18 rfl (sx 33 rfl (sx 61 rfl (sx 67 rfl (sx 113 rfl (sx 124 rfl (sx 137 rfl (sub_nil _))))))))))))))))))))) (.refl _) ?_
          refine hl_nil ?_
          refine hq_block_normal ?_
          refine hq_then ?_
          refine hc_region ?_
          refine hl_v rfl rfl rfl (rv_ev rfl) ?_
          refine hl_v rfl rfl rfl (rv_add rfl rfl rfl (by constructor <;> omega)) ?_
          refine hl_v rfl rfl rfl (rv_ev rfl) ?_
          refine hl_less (sx 0 rfl (sx 1 rfl (sx 2 rfl (sx 4 rfl (sx 5 rfl (sx 6 rfl (sx 7 rfl (sx 8 rfl (sx 9 rfl (sx 10 rfl (sx 11 rfl (sx 12 rfl (sx 13 rfl (sx 18 rfl (sx 33 rfl (sx 61 rfl (sx 67 rfl (sx 113 rfl (sx 124 rfl (sx 137 rfl (sub_nil _))))))))))))))))))))) (.refl _) ?_
          refine hl_nil ?_
          exact hq_round3 (j + 1) _ _ ⟨by omega, by rw [sK_succ, ← ha]; unfold sS; first | rw [if_pos (by omega)] | rw [if_neg (by omega), if_pos (by assumption)] | rw [if_neg (by omega), if_neg (by omega)], by first | omega | (simp; omega)⟩ (by omega) (sx 0 rfl (sx 1 rfl (sx 2 rfl (sx 4 rfl (sx 5 rfl (sx 6 rfl (sx 7 rfl (sx 8 rfl (sx 9 rfl (sx 10 rfl (sx 11 rfl (sx 12 rfl (sx 18 rfl (sx 33 rfl (sx 61 rfl (sx 67 rfl (sub_nil _))))))))))))))))) ((.cons _ (.cons_cons _ (.cons_cons _ .slnil))))
         ·
          refine hl_less (sx 0 rfl (sx 1 rfl (sx 2 rfl (sx 4 rfl (sx 5 rfl (sx 6 rfl (sx 7 rfl (sx 8 rfl (sx 9 rfl (sx 10 rfl (sx 11 rfl (sx 12 rfl (sx 13 rfl (sx 18 rfl (sx 33 rfl (sx 61 rfl (sx 67 rfl (sx 113 rfl (sx 124 rfl (sx 137 rfl (sub_nil _))))))))))))))))))))) (.refl _) ?_
          refine hl_nil ?_
          refine hq_then ?_
          refine hc_false rfl ?_
          refine hc_skip ?_
          refine hq_block_normal ?_
          refine hq_then ?_
          refine hc_region ?_
          refine hl_v rfl rfl rfl (rv_ev rfl) ?_
          refine hl_v rfl rfl rfl (rv_add rfl rfl rfl (by constructor <;> omega)) ?_
          refine hl_v rfl rfl rfl (rv_ev rfl) ?_
          refine hl_less (sx 0 rfl (sx 1 rfl (sx 2 rfl (sx 4 rfl (sx 5 rfl (sx 6 rfl (sx 7 rfl (sx 8 rfl (sx 9 rfl (sx 10 rfl (sx 11 rfl (sx 12 rfl (sx 13 rfl (sx 18 rfl (sx 33 rfl (sx 61 rfl (sx 67 rfl (sx 113 rfl (sx 124 rfl (sx 137 rfl (sub_nil _))))))))))))))))))))) (.refl _) ?_
          refine hl_nil ?_
          exact hq_round3 (j + 1) _ _ ⟨by omega, by rw [sK_succ, ← ha]; unfold sS; first | rw [if_pos (by omega)] | rw [if_neg (by omega), if_pos (by assumption)] | rw [if_neg (by omega), if_neg (by omega)], by first | omega | (simp; omega)⟩ (by omega) (sx 0 rfl (sx 1 rfl (sx 2 rfl (sx 4 rfl (sx 5 rfl (sx 6 rfl (sx 7 rfl (sx 8 rfl (sx 9 rfl (sx 10 rfl (sx 11 rfl (sx 12 rfl (sx 18 rfl (sx 33 rfl (sx 61 rfl (sx 67 rfl (sub_nil _))))))))))))))))) ((.cons_cons _ (.cons_cons _ .slnil)))
      ·
       refine hl_less (sx 0 rfl (sx 1 rfl (sx 2 rfl (sx 4 rfl (sx 5 rfl (sx 6 rfl (sx 7 rfl (sx 8 rfl (sx 9 rfl (sx 10 rfl (sx 11 rfl (sx 12 rfl (sx 18 rfl (sx 33 rfl (sx 61 rfl (sx 67 rfl (sx 113 rfl (sub_nil _)))))))))))))))))) (.refl _) ?_
       refine hl_nil ?_
       refine hq_then ?_
       refine hc_false rfl ?_
       refine hc_exit ?_
       refine hq_then_exit ?_
       refine hq_then_exit ?_
       refine hq_block_exit ?_
       refine hq_block_normal ?_
       refine hq_then ?_
       refine hc_region ?_
       refine hl_v rfl rfl rfl (rv_ev rfl) ?_
       refine hl_v rfl rfl rfl (rv_add rfl rfl rfl (by constructor <;> omega)) ?_
       refine hl_v rfl rfl rfl (rv_ev rfl) ?_
       refine hl_less (sx 0 rfl (sx 1 rfl (sx 2 rfl (sx 4 rfl (sx 5 rfl (sx 6 rfl (sx 7 rfl (sx 8 rfl (sx 9 rfl (sx 10 rfl (sx 11 rfl (sx 12 rfl (sx 18 rfl (sx 33 rfl (sx 61 rfl (sx 67 rfl (sx 113 rfl (sub_nil _)))))))))))))))))) (.refl _) ?_
       refine hl_nil ?_
       exact hq_round3 (k + 1) _ _ ⟨by omega, by rw [sR_succ]; rw [if_neg hskip, ← hz, ha]; congr 1; omega, by omega⟩ (by omega) (sx 0 rfl (sx 1 rfl (sx 2 rfl (sx 4 rfl (sx 5 rfl (sx 6 rfl (sx 7 rfl (sx 8 rfl (sx 9 rfl (sx 10 rfl (sx 11 rfl (sx 18 rfl (sx 33 rfl (sx 61 rfl (sub_nil _))))))))))))))) ((.cons_cons _ (.cons_cons _ .slnil)))
     ·
      refine hl_less (sx 0 rfl (sx 1 rfl (sx 2 rfl (sx 4 rfl (sx 5 rfl (sx 6 rfl (sx 7 rfl (sx 8 rfl (sx 9 rfl (sx 10 rfl (sx 11 rfl (sx 18 rfl (sx 33 rfl (sx 61 rfl (sx 67 rfl (sub_nil _)))))))))))))))) (.refl _) ?_
      refine hl_nil ?_
      refine hq_then ?_
      refine hc_false rfl ?_
      refine hc_exit ?_
      refine hq_then_exit ?_
      refine hq_then_exit ?_
      refine hq_block_exit ?_
      refine hq_block_normal ?_
      refine hq_then ?_
      refine hc_region ?_
      refine hl_v rfl rfl rfl (rv_ev rfl) ?_
      refine hl_v rfl rfl rfl (rv_add rfl rfl rfl (by constructor <;> omega)) ?_
      refine hl_v rfl rfl rfl (rv_ev rfl) ?_
      refine hl_less (sx 0 rfl (sx 1 rfl (sx 2 rfl (sx 4 rfl (sx 5 rfl (sx 6 rfl (sx 7 rfl (sx 8 rfl (sx 9 rfl (sx 10 rfl (sx 11 rfl (sx 18 rfl (sx 33 rfl (sx 61 rfl (sx 67 rfl (sub_nil _)))))))))))))))) (.refl _) ?_
      refine hl_nil ?_
      exact hq_round3 (r + 1) _ _ ⟨by omega, by rw [sO_succ, ← hy, hz]; congr 1; omega, by omega⟩ (by omega) (sx 0 rfl (sx 1 rfl (sx 2 rfl (sx 4 rfl (sx 5 rfl (sx 6 rfl (sx 7 rfl (sx 8 rfl (sx 9 rfl (sx 10 rfl (sx 18 rfl (sx 33 rfl (sub_nil _))))))))))))) ((.cons_cons _ (.cons_cons _ .slnil)))
    ·
     refine hl_less (sx 0 rfl (sx 1 rfl (sx 2 rfl (sx 4 rfl (sx 5 rfl (sx 6 rfl (sx 7 rfl (sx 8 rfl (sx 9 rfl (sx 10 rfl (sx 18 rfl (sx 33 rfl (sx 61 rfl (sub_nil _)))))))))))))) (.refl _) ?_
     refine hl_nil ?_
     refine hq_then ?_
     refine hc_false rfl ?_
     refine hc_exit ?_
     refine hq_then_exit ?_
     refine hq_then_exit ?_
     refine hq_block_exit ?_
     refine hq_then ?_
     refine hc_seq ?_
     refine hc_region ?_
     refine hl_v rfl rfl rfl (rv_ev rfl) ?_
     refine hl_q rfl rfl rfl (rq_call (by kernel_rfl) rfl (fun w hm => l27Sort_ret _ ys w (rdsW_own (hm.holds _ (mem_at (i := 0) rfl))) (by omega))) ?_
     intro v41 p42 hR43
     subst hR43
     refine hl_v rfl rfl rfl (rv_ev rfl) ?_
     refine hl_less (sx 0 rfl (sx 1 rfl (sx 2 rfl (sx 4 rfl (sx 5 rfl (sx 6 rfl (sx 7 rfl (sx 8 rfl (sx 9 rfl (sx 10 rfl (sx 18 rfl (sx 33 rfl (sx 61 rfl (sub_nil _)))))))))))))) (.refl _) ?_
     refine hl_nil ?_
     refine hq_then ?_
     refine hc_ret ?_
     exact hq_retR (post := [rowE 3 1 v41 ((sortR ys).length) ((sortR ys).map (Value.int .i64))]) rfl rfl ((.cons_cons _ (.cons _ (.cons _ .slnil)))) (by unfold srcS; first | rw [if_pos ⟨by assumption, by omega, by omega⟩, hy, show r = 4 by omega, hd1, hd2] | (rw [if_neg (by rintro ⟨q1, q2, q3⟩; first | omega | simp_all)]; rfl))
 ·
  refine hl_v rfl rfl rfl (rv_ev rfl) ?_
  refine hl_less (sx 0 rfl (sx 1 rfl (sx 2 rfl (sx 4 rfl (sx 5 rfl (sx 18 rfl (sub_nil _))))))) (.refl _) ?_
  refine hl_nil ?_
  refine hq_then ?_
  refine hc_true rfl ?_
  refine hc_seq ?_
  refine hc_region ?_
  refine hl_v rfl rfl rfl (rv_ev rfl) ?_
  refine hl_v rfl rfl rfl (rv_ev rfl) ?_
  refine hl_less (sx 0 rfl (sx 1 rfl (sx 2 rfl (sx 4 rfl (sx 5 rfl (sx 18 rfl (sub_nil _))))))) (.refl _) ?_
  refine hl_nil ?_
  refine hq_then ?_
  refine hc_ret ?_
  refine hq_then_ret ?_
  exact hq_retR (post := [rowE 3 1 (.slice (some ⟨g2, 0, none⟩) 0 0) 0 ([])]) rfl rfl ((.cons_cons _ (.cons _ .slnil))) (by unfold srcS; first | rw [if_pos ⟨by assumption, by omega, by omega⟩, hy, show r = 4 by omega, hd1, hd2] | (rw [if_neg (by rintro ⟨q1, q2, q3⟩; first | omega | simp_all)]; rfl))
theorem insI_mem (xs : List Int) (x y : Int) : y ∈ insI xs x ↔ y = x ∨ y ∈ xs := by
  induction xs with
  | nil => simp [insI]
  | cons z zs ih =>
    simp only [insI]
    split
    · rw [List.mem_cons, ih, List.mem_cons]
      constructor
      · rintro (h | h | h)
        · exact .inr (.inl h)
        · exact .inl h
        · exact .inr (.inr h)
      · rintro (h | h | h)
        · exact .inr (.inl h)
        · exact .inl h
        · exact .inr (.inr h)
    · split
      · rename_i h; subst h; simp
      · simp
theorem insI_sorted (xs : List Int) (x : Int) (h : xs.Pairwise (· < ·)) : (insI xs x).Pairwise (· < ·) := by
  induction xs with
  | nil => simp [insI]
  | cons z zs ih =>
    rw [List.pairwise_cons] at h
    simp only [insI]
    split
    · rw [List.pairwise_cons]
      refine ⟨fun y hy => ?_, ih h.2⟩
      rcases (insI_mem _ _ _).1 hy with rfl | hy
      · assumption
      · exact h.1 y hy
    · split
      · exact List.pairwise_cons.2 h
      · rw [List.pairwise_cons]
        refine ⟨fun y hy => ?_, List.pairwise_cons.2 h⟩
        rcases List.mem_cons.1 hy with rfl | hy
        · omega
        · have := h.1 y hy; omega
theorem sorted_ext : ∀ (a b : List Int), a.Pairwise (· < ·) → b.Pairwise (· < ·) → (∀ x, x ∈ a ↔ x ∈ b) → a = b
  | [], [], _, _, _ => rfl
  | [], y :: b, _, _, h => by have := (h y).2 (by simp); simp at this
  | x :: a, [], _, _, h => by have := (h x).1 (by simp); simp at this
  | x :: a, y :: b, ha, hb, h => by
    rw [List.pairwise_cons] at ha hb
    have hxy : x = y := by
      rcases List.mem_cons.1 ((h x).1 (by simp)) with e | e
      · exact e
      · rcases List.mem_cons.1 ((h y).2 (by simp)) with e2 | e2
        · exact e2.symm
        · have h1 := hb.1 x e
          have h2 := ha.1 y e2
          omega
    subst hxy
    congr 1
    refine sorted_ext a b ha.2 hb.2 fun z => ?_
    constructor
    · intro hz
      have h1 := ha.1 z hz
      rcases List.mem_cons.1 ((h z).1 (by simp [hz])) with e | e
      · omega
      · exact e
    · intro hz
      have h1 := hb.1 z hz
      rcases List.mem_cons.1 ((h z).2 (by simp [hz])) with e | e
      · omega
      · exact e
theorem insR_perm (P : List Int) (x : Int) : (insR P x).Perm (x :: P) := by
  unfold insR
  refine (List.perm_middle).trans ?_
  rw [List.take_append_drop]
theorem sortR_perm (xs : List Int) : (sortR xs).Perm xs := by
  have : ∀ (xs acc : List Int), (xs.foldl insR acc).Perm (xs ++ acc) := by
    intro xs
    induction xs with
    | nil => intro acc; exact .refl _
    | cons x xs ih =>
      intro acc
      rw [List.foldl_cons]
      exact (ih _).trans (((insR_perm acc x).append_left xs).trans List.perm_middle)
  simpa [sortR] using this xs []
theorem insR_sorted (P : List Int) (x : Int) (h : P.Pairwise (· ≤ ·)) : (insR P x).Pairwise (· ≤ ·) := by
  have hc : ∃ k, k ≤ P.length ∧ (∀ j, k ≤ j → j < P.length → x < P.getD j 0) ∧ (k = 0 ∨ P.getD (k - 1) 0 ≤ x) := by
    have : ∀ n, n ≤ P.length → (∀ j, n ≤ j → j < P.length → x < P.getD j 0) → ∃ k, k ≤ P.length ∧ (∀ j, k ≤ j → j < P.length → x < P.getD j 0) ∧ (k = 0 ∨ P.getD (k - 1) 0 ≤ x) := by
      intro n
      induction n with
      | zero => intro hn h1; exact ⟨0, hn, h1, .inl rfl⟩
      | succ n ih =>
        intro hn h1
        by_cases hx : P.getD n 0 ≤ x
        · exact ⟨n + 1, hn, h1, .inr hx⟩
        · refine ih (by omega) fun j hj hl => ?_
          by_cases e : j = n
          · subst e; omega
          · exact h1 j (by omega) hl
    exact this P.length (Nat.le_refl _) (fun j h1 h2 => by omega)
  obtain ⟨k, hk, h1, h2⟩ := hc
  rw [insR_at P x k hk h1 h2]
  have hlt : ∀ i j, i < j → j < P.length → P.getD i 0 ≤ P.getD j 0 := by
    intro i j hij hj
    have := List.pairwise_iff_getElem.1 h i j (by omega) hj hij
    rw [List.getD_eq_getElem?_getD, List.getElem?_eq_getElem (by omega), List.getD_eq_getElem?_getD, List.getElem?_eq_getElem hj]; exact this
  rw [List.pairwise_append]
  refine ⟨h.sublist (List.take_sublist _ _), List.pairwise_cons.2 ⟨fun y hy => ?_, h.sublist (List.drop_sublist _ _)⟩, fun y hy z hz => ?_⟩
  · obtain ⟨j, hj, rfl⟩ := List.mem_iff_getElem.1 hy
    rw [List.length_drop] at hj
    have := h1 (k + j) (by omega) (by omega)
    rw [List.getD_eq_getElem?_getD, List.getElem?_eq_getElem (by omega)] at this
    have e : (P.drop k)[j]'(by simpa using hj) = P[k + j]'(by omega) := by simp
    rw [e]; simp at this; omega
  · obtain ⟨j, hj, rfl⟩ := List.mem_iff_getElem.1 hy
    have hj' : j < k ∧ j < P.length := by rw [List.length_take] at hj; omega
    have ey : (P.take k)[j] = P.getD j 0 := by rw [List.getElem_take, List.getD_eq_getElem?_getD, List.getElem?_eq_getElem hj'.2]; rfl
    have hyx : P.getD j 0 ≤ x := by
      rcases h2 with rfl | h2
      · omega
      · by_cases e : j = k - 1
        · subst e; exact h2
        · have := hlt j (k - 1) (by omega) (by omega); omega
    rw [ey]
    rcases List.mem_cons.1 hz with rfl | hz
    · exact hyx
    · obtain ⟨i, hi, rfl⟩ := List.mem_iff_getElem.1 hz
      rw [List.length_drop] at hi
      have := h1 (k + i) (by omega) (by omega)
      rw [List.getD_eq_getElem?_getD, List.getElem?_eq_getElem (by omega)] at this
      have e : (P.drop k)[i]'(by simpa using hi) = P[k + i]'(by omega) := by simp
      rw [e]; simp at this; omega
theorem sortR_sorted (xs : List Int) : (sortR xs).Pairwise (· ≤ ·) := by
  have : ∀ (xs acc : List Int), acc.Pairwise (· ≤ ·) → (xs.foldl insR acc).Pairwise (· ≤ ·) := by
    intro xs
    induction xs with
    | nil => intro acc h; exact h
    | cons x xs ih => intro acc h; exact ih _ (insR_sorted acc x h)
  exact this xs [] .nil
theorem sortR_strict (xs : List Int) (h : xs.Nodup) : (sortR xs).Pairwise (· < ·) := by
  have h1 := sortR_sorted xs
  have h2 : (sortR xs).Pairwise (· ≠ ·) := (sortR_perm xs).nodup_iff.2 h
  exact (h1.and h2).imp fun ⟨a, b⟩ => by omega
theorem fold_ins {α : Type} (f : List Int → α → List Int) (P : α → Int → Prop) (hf : ∀ xs i y, y ∈ f xs i ↔ y ∈ xs ∨ P i y) : ∀ (l : List α) (xs : List Int) (y : Int), y ∈ l.foldl f xs ↔ y ∈ xs ∨ ∃ i ∈ l, P i y
  | [], xs, y => by simp
  | i :: l, xs, y => by
    rw [List.foldl_cons, fold_ins f P hf l, hf]
    constructor
    · rintro ((h | h) | ⟨j, hj, h⟩)
      · exact .inl h
      · exact .inr ⟨i, by simp, h⟩
      · exact .inr ⟨j, by simp [hj], h⟩
    · rintro (h | ⟨j, hj, h⟩)
      · exact .inl (.inl h)
      · rcases List.mem_cons.1 hj with rfl | hj
        · exact .inl (.inr h)
        · exact .inr ⟨j, hj, h⟩
theorem fold_sorted {α : Type} (f : List Int → α → List Int) (hf : ∀ xs i, xs.Pairwise (· < ·) → (f xs i).Pairwise (· < ·)) : ∀ (l : List α) (xs : List Int), xs.Pairwise (· < ·) → (l.foldl f xs).Pairwise (· < ·)
  | [], xs, h => h
  | i :: l, xs, h => fold_sorted f hf l _ (hf xs i h)
theorem fold_app {α : Type} (f : List Int → α → List Int) (g : α → List Int) (hf : ∀ xs i, f xs i = xs ++ g i) : ∀ (l : List α) (xs : List Int), l.foldl f xs = xs ++ l.flatMap g
  | [], xs => by simp
  | i :: l, xs => by rw [List.foldl_cons, fold_app f g hf l, hf]; simp
/-- y is the wire that begins s steps back from t in direction r, on track k -/
def Cand (d : Dev) (t r k s y : Int) : Prop := 0 ≤ stepI d t ((r + 2) % 4) s ∧ 0 ≤ wireNodeI d (stepI d t ((r + 2) % 4) s) r k ∧ y = wireNodeI d (stepI d t ((r + 2) % 4) s) r k
theorem pinS_mem (d : Dev) (t r k : Int) (xs : List Int) (s : Nat) (y : Int) : y ∈ pinS d t r k xs s ↔ y ∈ xs ∨ Cand d t r k ((s : Int) + 1) y := by
  unfold pinS Cand
  split
  · constructor
    · exact .inl
    · rintro (h | ⟨h, _⟩)
      · exact h
      · omega
  · split
    · rw [insI_mem]
      constructor
      · rintro (h | h)
        · exact .inr ⟨by omega, by assumption, h⟩
        · exact .inl h
      · rintro (h | ⟨_, _, h⟩)
        · exact .inr h
        · exact .inl h
    · constructor
      · exact .inl
      · rintro (h | ⟨_, h, _⟩)
        · exact h
        · omega
theorem pinS_sorted (d : Dev) (t r k : Int) (xs : List Int) (s : Nat) (h : xs.Pairwise (· < ·)) : (pinS d t r k xs s).Pairwise (· < ·) := by
  unfold pinS
  split
  · exact h
  · split
    · exact insI_sorted _ _ h
    · exact h
theorem pinO_sorted (d : Dev) (t p : Int) (j : Nat) : (pinO d t p j).Pairwise (· < ·) := by
  refine fold_sorted _ (fun xs r h => fold_sorted _ (fun xs k h => ?_) _ _ h) _ _ .nil
  split
  · exact h
  · exact fold_sorted _ (fun xs s h => pinS_sorted d t _ _ xs s h) _ _ h
theorem pinO_mem (d : Dev) (t p : Int) (j : Nat) (y : Int) : y ∈ pinO d t p j ↔ ∃ r ∈ List.range j, ∃ k ∈ List.range d.T.toNat, ¬ (1 < d.T ∧ ((k : Int) + p) % 2 ≠ 0) ∧ ∃ s ∈ List.range (1 + k % 2), Cand d t r k ((s : Int) + 1) y := by
  unfold pinO
  rw [fold_ins (P := fun (r : Nat) y => ∃ k ∈ List.range d.T.toNat, ¬ (1 < d.T ∧ ((k : Int) + p) % 2 ≠ 0) ∧ ∃ s ∈ List.range (1 + k % 2), Cand d t r k ((s : Int) + 1) y)]
  · simp
  · intro xs r y
    unfold pinR
    rw [fold_ins (P := fun (k : Nat) y => ¬ (1 < d.T ∧ ((k : Int) + p) % 2 ≠ 0) ∧ ∃ s ∈ List.range (1 + k % 2), Cand d t r k ((s : Int) + 1) y)]
    intro xs k y
    split
    · rename_i h; simp [h]
    · rename_i h
      unfold pinK
      rw [fold_ins (P := fun (s : Nat) y => Cand d t r k ((s : Int) + 1) y) _ (fun xs s y => pinS_mem d t r k xs s y)]
      simp only [h, not_false_eq_true, true_and]
theorem wireN_inj {d : Dev} (hv : devB d = true) {f r k f' r' k' : Int} (r0 : 0 ≤ r) (r1 : r ≤ 3) (k0 : 0 ≤ k) (k1_o : k ≤ d.T - 1) (r0' : 0 ≤ r') (r1' : r' ≤ 3) (k0' : 0 ≤ k') (k1' : k' ≤ d.T - 1) (h : wireN d f r k = wireN d f' r' k') : f = f' ∧ r = r' ∧ k = k' := by
  obtain ⟨-, -, ⟨l1, l2⟩, -⟩ := (devB_iff d).1 hv
  have a1 := dirT_rng hv r0 r1
  have a2 := dirT_rng hv r0' r1'
  unfold wireN perI at h
  have b1 : r * d.T ≤ 3 * d.T := Int.mul_le_mul_of_nonneg_right r1 (by omega)
  have b2 : r' * d.T ≤ 3 * d.T := Int.mul_le_mul_of_nonneg_right r1' (by omega)
  have hf : f = f' := by
    have e1 : (f * (7 + 4 * d.T) + (7 + r * d.T + k)) / (7 + 4 * d.T) = f := by
      rw [Int.add_comm, Int.add_mul_ediv_right _ _ (by omega), Int.ediv_eq_zero_of_lt (by omega) (by omega)]; omega
    have e2 : (f' * (7 + 4 * d.T) + (7 + r' * d.T + k')) / (7 + 4 * d.T) = f' := by
      rw [Int.add_comm, Int.add_mul_ediv_right _ _ (by omega), Int.ediv_eq_zero_of_lt (by omega) (by omega)]; omega
    rw [← e1, ← e2]; congr 1; omega
  subst hf
  have h2 : r * d.T + k = r' * d.T + k' := by omega
  have hr : r = r' := by
    have e1 : (r * d.T + k) / d.T = r := by rw [Int.add_comm, Int.add_mul_ediv_right _ _ (by omega), Int.ediv_eq_zero_of_lt (by omega) (by omega)]; omega
    have e2 : (r' * d.T + k') / d.T = r' := by rw [Int.add_comm, Int.add_mul_ediv_right _ _ (by omega), Int.ediv_eq_zero_of_lt (by omega) (by omega)]; omega
    rw [← e1, ← e2, h2]
  subst hr
  exact ⟨rfl, rfl, by omega⟩
theorem wireNodeI_nonneg {d : Dev} {f r k : Int} (h : 0 ≤ wireNodeI d f r k) : wireNodeI d f r k = wireN d f r k := by
  unfold wireNodeI at *
  split
  · rfl
  · rename_i hh; rw [if_neg hh] at h; omega
theorem wS_eq {d : Dev} {t r k s : Int} (ht : tOk d t = true) (r0 : 0 ≤ r) (r1 : r ≤ 3) (k0 : 0 ≤ k) (k1_o : k ≤ d.T - 1) (s0 : 0 ≤ s) (s1 : s ≤ 2) :
    wireNodeS d (tileStepI d t ((r + 2) % 4) s) r k = if 0 ≤ stepI d t ((r + 2) % 4) s then wireNodeI d (stepI d t ((r + 2) % 4) s) r k else -1 := by
  obtain ⟨hv, _, _⟩ := (tOk_iff d t).1 ht
  rw [tileStep_eq ht (by omega) (by omega) s0 (by omega)]
  split
  · rename_i h
    have hto := step_tOk hv (show ¬ stepI d t ((r + 2) % 4) s < 0 by omega)
    unfold wireNodeS wireNodeI
    rw [tileStep_eq hto r0 r1 (by omega) (by omega)]
    by_cases h2 : 0 ≤ stepI d (stepI d t ((r + 2) % 4) s) r (1 + k % 2)
    · rw [if_pos h2, if_pos ⟨hto, k0, by omega, h2⟩]
    · rw [if_neg h2, if_neg (fun hh => h2 hh.2.2.2)]
  · rename_i h
    unfold wireNodeS
    rw [if_neg]
    rintro ⟨h1, _⟩
    have := (tOk_iff _ _).1 h1
    omega
def gS (d : Dev) (t p r k : Int) (s : Nat) : List Int := if 7 ≤ p ∧ (s : Int) + 1 < 1 + k % 2 then [] else if 0 ≤ wireNodeS d (tileStepI d t ((r + 2) % 4) ((s : Int) + 1)) r k then [wireNodeS d (tileStepI d t ((r + 2) % 4) ((s : Int) + 1)) r k] else []
theorem sS_app (d : Dev) (t p r k : Int) (xs : List Int) (s : Nat) : sS d t p r k xs s = xs ++ gS d t p r k s := by
  unfold sS gS; split
  · simp
  · split <;> simp
def gK (d : Dev) (t p dir track r : Int) (k : Nat) : List Int := if Skip d.T p dir track r k then [] else (List.range (1 + k % 2)).flatMap (gS d t p r k)
theorem sO_app (d : Dev) (t p dir track : Int) (j : Nat) : sO d t p dir track j = baseS d t p ++ (List.range j).flatMap (fun (r : Nat) => (List.range d.T.toNat).flatMap (gK d t p dir track r)) := by
  unfold sO
  rw [fold_app _ (fun (r : Nat) => (List.range d.T.toNat).flatMap (gK d t p dir track r))]
  intro xs r
  unfold sR
  rw [fold_app _ (gK d t p dir track r)]
  intro xs k
  unfold gK
  split
  · simp
  · unfold sK; rw [fold_app _ (gS d t p r k) (fun xs s => sS_app d t p r k xs s)]
theorem gS_mem {d : Dev} {t p r k : Int} {s : Nat} {y : Int} (ht : tOk d t = true) (r0 : 0 ≤ r) (r1 : r ≤ 3) (k0 : 0 ≤ k) (k1_o : k ≤ d.T - 1) (s1 : s ≤ 1) : y ∈ gS d t p r k s ↔ ¬ (7 ≤ p ∧ (s : Int) + 1 < 1 + k % 2) ∧ Cand d t r k ((s : Int) + 1) y := by
  unfold gS Cand
  rw [wS_eq ht r0 r1 k0 k1_o (by omega) (by omega)]
  by_cases h1 : 7 ≤ p ∧ (s : Int) + 1 < 1 + k % 2
  · simp [h1]
  · rw [if_neg h1]
    by_cases h2 : 0 ≤ stepI d t ((r + 2) % 4) ((s : Int) + 1)
    · rw [if_pos h2]
      by_cases h3 : 0 ≤ wireNodeI d (stepI d t ((r + 2) % 4) ((s : Int) + 1)) r k
      · rw [if_pos h3]; simp [h1, h2, h3]
      · rw [if_neg h3]; simp [h3]
    · rw [if_neg h2, if_neg (by omega)]; simp [h2]
theorem sO_mem {d : Dev} {t p dir track : Int} {y : Int} (ht : tOk d t = true) : y ∈ sO d t p dir track 4 ↔ y ∈ baseS d t p ∨ ∃ r ∈ List.range 4, ∃ k ∈ List.range d.T.toNat, ¬ Skip d.T p dir track r k ∧ ∃ s ∈ List.range (1 + k % 2), ¬ (7 ≤ p ∧ (s : Int) + 1 < 1 + (k : Int) % 2) ∧ Cand d t r k ((s : Int) + 1) y := by
  rw [sO_app, List.mem_append]
  have key : ∀ r ∈ List.range 4, ∀ k ∈ List.range d.T.toNat, (y ∈ gK d t p dir track (r : Int) k ↔ ¬ Skip d.T p dir track r k ∧ ∃ s ∈ List.range (1 + k % 2), ¬ (7 ≤ p ∧ (s : Int) + 1 < 1 + (k : Int) % 2) ∧ Cand d t r k ((s : Int) + 1) y) := by
    intro r hr k hk
    rw [List.mem_range] at hr hk
    unfold gK
    split
    · rename_i h; simp [h]
    · rename_i h
      simp only [h, not_false_eq_true, true_and]
      rw [List.mem_flatMap]
      constructor
      · rintro ⟨s, hs, hy⟩
        have := List.mem_range.1 hs
        exact ⟨s, hs, (gS_mem ht (by omega) (by omega) (by omega) (by omega) (by omega)).1 hy⟩
      · rintro ⟨s, hs, hy⟩
        have := List.mem_range.1 hs
        exact ⟨s, hs, (gS_mem ht (by omega) (by omega) (by omega) (by omega) (by omega)).2 hy⟩
  constructor
  · rintro (h | h)
    · exact .inl h
    · obtain ⟨r, hr, h⟩ := List.mem_flatMap.1 h
      obtain ⟨k, hk, h⟩ := List.mem_flatMap.1 h
      exact .inr ⟨r, hr, k, hk, (key r hr k hk).1 h⟩
  · rintro (h | ⟨r, hr, k, hk, h⟩)
    · exact .inl h
    · exact .inr (List.mem_flatMap.2 ⟨r, hr, List.mem_flatMap.2 ⟨k, hk, (key r hr k hk).2 h⟩⟩)
theorem wireN_mod {d : Dev} (hv : devB d = true) {f r k : Int} (r0 : 0 ≤ r) (r1 : r ≤ 3) (k0 : 0 ≤ k) (k1_o : k ≤ d.T - 1) : 7 ≤ wireN d f r k % perI d := by
  obtain ⟨-, -, ⟨l1, l2⟩, -⟩ := (devB_iff d).1 hv
  have a1 := dirT_rng hv r0 r1
  have b1 : r * d.T ≤ 3 * d.T := Int.mul_le_mul_of_nonneg_right r1 (by omega)
  unfold wireN perI
  rw [show f * (7 + 4 * d.T) + 7 + r * d.T + k = (7 + r * d.T + k) + f * (7 + 4 * d.T) by omega, Int.add_mul_emod_self_right, Int.emod_eq_of_lt (by omega) (by omega)]
  omega
theorem out_mod {d : Dev} (hv : devB d = true) {t p : Int} (p0 : 0 ≤ p) (p1 : p ≤ 1) : (t * perI d + 5 + p) % perI d = 5 + p := by
  obtain ⟨h1, h2⟩ := per_rng hv
  rw [show t * perI d + 5 + p = (5 + p) + t * perI d by omega, Int.add_mul_emod_self_right, Int.emod_eq_of_lt (by omega) (by omega)]
theorem base_mem {d : Dev} {t p y : Int} (ht : tOk d t = true) (h : y ∈ baseS d t p) : ∃ q, 0 ≤ q ∧ q ≤ 1 ∧ y = t * perI d + 5 + q := by
  have ho := outPins_rng d t
  unfold baseS at h
  split at h
  · split at h
    · simp only [List.mem_cons, List.not_mem_nil, or_false] at h
      rcases h with rfl | rfl
      · exact ⟨0, by omega, by omega, by unfold outPinI; rw [if_pos ⟨ht, by omega, by omega⟩]⟩
      · exact ⟨1, by omega, by omega, by unfold outPinI; rw [if_pos ⟨ht, by omega, by omega⟩]⟩
    · simp only [List.mem_cons, List.not_mem_nil, or_false] at h
      subst h
      exact ⟨0, by omega, by omega, by unfold outPinI; rw [if_pos ⟨ht, by omega, by omega⟩]⟩
  · simp at h
theorem base_nodup {d : Dev} {t p : Int} (ht : tOk d t = true) : (baseS d t p).Nodup := by
  have ho := outPins_rng d t
  unfold baseS
  split
  · split
    · rename_i h
      have e0 : outPinI d t 0 = t * perI d + 5 + 0 := by unfold outPinI; rw [if_pos ⟨ht, by omega, by omega⟩]
      have e1 : outPinI d t 1 = t * perI d + 5 + 1 := by unfold outPinI; rw [if_pos ⟨ht, by omega, by omega⟩]
      rw [e0, e1, List.nodup_cons]
      exact ⟨by simp; omega, by simp⟩
    · simp
  · exact List.nodup_nil
theorem step_inj {d : Dev} {t r s s' : Int} (ht : tOk d t = true) (r0 : 0 ≤ r) (r1 : r ≤ 3) (s0 : 0 ≤ s) (s1 : s ≤ 6) (s0' : 0 ≤ s') (s1' : s' ≤ 6) (h : 0 ≤ stepI d t r s) (e : stepI d t r s = stepI d t r s') : s = s' := by
  have e1 := tileStep_eq ht r0 r1 s0 s1
  have e2 := tileStep_eq ht r0 r1 s0' s1'
  have h1 := (step_back d t r s ht r0 r1 s0 s1 (by omega)).2.1
  have h2 := (step_back d t r s' ht r0 r1 s0' s1' (by omega)).2.1
  rw [e1] at h1
  rw [e2] at h2
  rw [← h1, ← h2, e]
theorem sO_nodup {d : Dev} {t p dir track : Int} (ht : tOk d t = true) : (sO d t p dir track 4).Nodup := by
  obtain ⟨hv, _, _⟩ := (tOk_iff d t).1 ht
  have memK : ∀ (r : Nat), r < 4 → ∀ (k : Nat), k < d.T.toNat → ∀ y, y ∈ gK d t p dir track r k → ∃ s : Nat, s < 1 + k % 2 ∧ y ∈ gS d t p r k s := by
    intro r hr k hk y hy
    unfold gK at hy
    split at hy
    · simp at hy
    · obtain ⟨s, hs, h⟩ := List.mem_flatMap.1 hy
      exact ⟨s, List.mem_range.1 hs, h⟩
  have val : ∀ (r : Nat), r < 4 → ∀ (k : Nat), k < d.T.toNat → ∀ (s : Nat), s < 1 + k % 2 → ∀ y, y ∈ gS d t p r k s → y = wireN d (stepI d t (((r : Int) + 2) % 4) ((s : Int) + 1)) r k ∧ 0 ≤ stepI d t (((r : Int) + 2) % 4) ((s : Int) + 1) := by
    intro r hr k hk s hs y hy
    obtain ⟨_, c1, c2, c3⟩ := (gS_mem ht (by omega) (by omega) (by omega) (by omega) (by omega)).1 hy
    exact ⟨c3.trans (wireNodeI_nonneg c2), c1⟩
  rw [sO_app]
  refine List.nodup_append.2 ⟨base_nodup ht, ?_, ?_⟩
  · refine List.pairwise_flatMap.2 ⟨fun r hr => ?_, ?_⟩
    · rw [List.mem_range] at hr
      refine List.pairwise_flatMap.2 ⟨fun k hk => ?_, ?_⟩
      · rw [List.mem_range] at hk
        unfold gK
        split
        · exact .nil
        · refine List.pairwise_flatMap.2 ⟨fun s hs => ?_, ?_⟩
          · unfold gS; split
            · exact .nil
            · split
              · simp
              · exact .nil
          · refine (List.pairwise_lt_range).imp_of_mem fun {s s'} hs hs' hlt x hx y hy hxy => ?_
            rw [List.mem_range] at hs hs'
            obtain ⟨a1, a2⟩ := val r hr k hk s hs x hx
            obtain ⟨b1, b2⟩ := val r hr k hk s' hs' y hy
            obtain ⟨c1, _, _⟩ := wireN_inj hv (by omega) (by omega) (by omega) (by omega) (by omega) (by omega) (by omega) (by omega) (a1.symm.trans (hxy.trans b1))
            have := step_inj ht (by omega) (by omega) (by omega) (by omega) (by omega) (by omega) a2 c1
            omega
      · refine (List.pairwise_lt_range).imp_of_mem fun {k k'} hk hk' hlt x hx y hy hxy => ?_
        rw [List.mem_range] at hk hk'
        obtain ⟨s, hs, hx⟩ := memK r hr k hk x hx
        obtain ⟨s', hs', hy⟩ := memK r hr k' hk' y hy
        obtain ⟨a1, a2⟩ := val r hr k hk s hs x hx
        obtain ⟨b1, b2⟩ := val r hr k' hk' s' hs' y hy
        obtain ⟨_, _, c1⟩ := wireN_inj hv (by omega) (by omega) (by omega) (by omega) (by omega) (by omega) (by omega) (by omega) (a1.symm.trans (hxy.trans b1))
        omega
    · refine (List.pairwise_lt_range).imp_of_mem fun {r r'} hr hr' hlt x hx y hy hxy => ?_
      rw [List.mem_range] at hr hr'
      obtain ⟨k, hk, hx⟩ := List.mem_flatMap.1 hx
      obtain ⟨k', hk', hy⟩ := List.mem_flatMap.1 hy
      rw [List.mem_range] at hk hk'
      obtain ⟨s, hs, hx⟩ := memK r hr k hk x hx
      obtain ⟨s', hs', hy⟩ := memK r' hr' k' hk' y hy
      obtain ⟨a1, a2⟩ := val r hr k hk s hs x hx
      obtain ⟨b1, b2⟩ := val r' hr' k' hk' s' hs' y hy
      obtain ⟨_, c1, _⟩ := wireN_inj hv (by omega) (by omega) (by omega) (by omega) (by omega) (by omega) (by omega) (by omega) (a1.symm.trans (hxy.trans b1))
      omega
  · intro x hx y hy hxy
    obtain ⟨q, q0, q1, rfl⟩ := base_mem ht hx
    obtain ⟨r, hr, hy⟩ := List.mem_flatMap.1 hy
    obtain ⟨k, hk, hy⟩ := List.mem_flatMap.1 hy
    rw [List.mem_range] at hr hk
    obtain ⟨s, hs, hy⟩ := memK r hr k hk y hy
    obtain ⟨a1, _⟩ := val r hr k hk s hs y hy
    have e1 := out_mod hv (t := t) q0 q1
    have e2 := wireN_mod hv (f := stepI d t (((r : Int) + 2) % 4) ((s : Int) + 1)) (r := (r : Int)) (k := (k : Int)) (by omega) (by omega) (by omega) (by omega)
    rw [← a1, ← hxy, e1] at e2
    omega
theorem wireO_sorted (d : Dev) (t dir track : Int) (j : Nat) : (wireO d t dir track j).Pairwise (· < ·) := by
  refine fold_sorted _ (fun xs r h => ?_) _ _ (fold_sorted _ (fun xs p h => ?_) _ _ .nil)
  · unfold wireR
    split
    · exact h
    · refine fold_sorted _ (fun xs k h => ?_) _ _ h
      unfold wireW
      split
      · exact insI_sorted _ _ h
      · exact h
  · unfold outS
    split
    · exact insI_sorted _ _ h
    · exact h
theorem wireO_mem (d : Dev) (t dir track : Int) (y : Int) : y ∈ wireO d t dir track 4 ↔ (∃ p ∈ List.range 2, 0 ≤ outPinI d t (p : Nat) ∧ y = outPinI d t (p : Nat)) ∨ ∃ r ∈ List.range 4, ¬ ((r : Nat) : Int) = (dir + 2) % 4 ∧ ∃ k ∈ [track, (track + 1) % d.T], 0 ≤ stepI d t (((r : Nat) + 2) % 4) (1 + k % 2) ∧ y = wireNodeI d (stepI d t (((r : Nat) + 2) % 4) (1 + k % 2)) (r : Nat) k := by
  unfold wireO
  rw [fold_ins (P := fun (r : Nat) y => ¬ ((r : Nat) : Int) = (dir + 2) % 4 ∧ ∃ k ∈ [track, (track + 1) % d.T], 0 ≤ stepI d t (((r : Nat) + 2) % 4) (1 + k % 2) ∧ y = wireNodeI d (stepI d t (((r : Nat) + 2) % 4) (1 + k % 2)) (r : Nat) k)]
  · unfold outO
    rw [fold_ins (P := fun (p : Nat) y => 0 ≤ outPinI d t (p : Nat) ∧ y = outPinI d t (p : Nat))]
    · simp
    · intro xs p y
      unfold outS
      split
      · rename_i h; rw [insI_mem]; simp only [h, true_and]; exact Or.comm
      · rename_i h; simp [h]
  · intro xs r y
    unfold wireR
    split
    · rename_i h; simp [h]
    · rename_i h
      unfold wireK
      rw [fold_ins (P := fun (k : Int) y => 0 ≤ stepI d t (((r : Nat) + 2) % 4) (1 + k % 2) ∧ y = wireNodeI d (stepI d t (((r : Nat) + 2) % 4) (1 + k % 2)) (r : Nat) k)]
      · simp only [h, not_false_eq_true, true_and]; rfl
      · intro xs k y
        unfold wireW
        split
        · rename_i h; rw [insI_mem]; simp only [h, true_and]; exact Or.comm
        · rename_i h; simp [h]
theorem src_eq (d : Dev) (n : Int) : srcS d n = srcI d n := by
  unfold srcS srcI
  cases hn : nodeOkI d n with
  | false => simp
  | true =>
    obtain ⟨hv, n0, n1⟩ := nodeOk_rng hn
    obtain ⟨p0, p1, p2, p3, ht⟩ := place_rng hv n0 n1
    obtain ⟨-, -, ⟨l1, l2⟩, -⟩ := (devB_iff d).1 hv
    obtain ⟨dg0, dg1, dg2, dg3⟩ := dir_rng hv p2 p3
    generalize n % perI d = p at *
    generalize n / perI d = t at *
    simp only [true_and, if_true]
    by_cases h5 : p < 5
    · rw [if_pos ⟨by omega, by omega⟩, if_pos h5]
      refine sorted_ext _ _ (sortR_strict _ (sO_nodup ht)) (pinO_sorted d t p 4) fun y => ?_
      rw [(sortR_perm _).mem_iff, sO_mem ht, pinO_mem]
      have hb : baseS d t p = [] := if_neg (by omega)
      rw [hb]
      constructor
      · rintro (h | ⟨r, hr, k, hk, hs, s, hs2, _, hc⟩)
        · simp at h
        · rw [List.mem_range] at hk
          exact ⟨r, hr, k, by simpa using hk, fun hh => hs (.inr ⟨by omega, hh.1, by omega⟩), s, hs2, hc⟩
      · rintro ⟨r, hr, k, hk, hs, s, hs2, hc⟩
        refine .inr ⟨r, hr, k, hk, fun hh => ?_, s, hs2, by omega, hc⟩
        rcases hh with hh | hh
        · omega
        · exact hs ⟨hh.2.1, by omega⟩
    · by_cases h7 : p < 7
      · rw [if_neg (by omega), if_neg h5, if_pos h7]
      · rw [if_pos ⟨by omega, by omega⟩, if_neg h5, if_neg h7]
        have hd : dirI d p = (p - 7) / d.T := if_pos (by omega)
        have hk : trackI d p = (p - 7) % d.T := if_pos (by omega)
        rw [hd] at dg0 dg1 ⊢
        rw [hk] at dg2 dg3 ⊢
        generalize (p - 7) / d.T = dir at *
        generalize (p - 7) % d.T = track at *
        have hmr := mod_rng (a := track + 1) l1
        have ho := outPins_rng d t
        refine sorted_ext _ _ (sortR_strict _ (sO_nodup ht)) (wireO_sorted d t dir track 4) fun y => ?_
        rw [(sortR_perm _).mem_iff, sO_mem ht, wireO_mem]
        have e0 : outPinI d t 0 = t * perI d + 5 + 0 := by unfold outPinI; rw [if_pos ⟨ht, by omega, by omega⟩]
        have hpm := per_mul hv (by omega) p1
        have hbase : y ∈ baseS d t p ↔ ∃ q ∈ List.range 2, 0 ≤ outPinI d t ((q : Nat) : Int) ∧ y = outPinI d t ((q : Nat) : Int) := by
          unfold baseS
          rw [if_pos (by omega)]
          have e2 : List.range 2 = [0, 1] := rfl
          rw [e2]
          by_cases h1 : 1 < outPinsI (kindI d t)
          · have e1 : outPinI d t 1 = t * perI d + 5 + 1 := by unfold outPinI; rw [if_pos ⟨ht, by omega, by omega⟩]
            rw [if_pos h1]
            simp only [List.mem_cons, List.not_mem_nil, or_false, exists_eq_or_imp, exists_eq_left, Int.natCast_zero, Int.natCast_one]
            constructor
            · rintro (h | h)
              · exact .inl ⟨by omega, h⟩
              · exact .inr ⟨by omega, h⟩
            · rintro (h | h)
              · exact .inl h.2
              · exact .inr h.2
          · have e1 : outPinI d t 1 = -1 := by unfold outPinI; rw [if_neg (by rintro ⟨_, _, _⟩; omega)]
            rw [if_neg h1]
            simp only [List.mem_cons, List.not_mem_nil, or_false, exists_eq_or_imp, exists_eq_left, Int.natCast_zero, Int.natCast_one]
            constructor
            · intro h; exact .inl ⟨by omega, h⟩
            · rintro (h | h)
              · exact h.2
              · omega
        rw [hbase]
        constructor
        · rintro (h | ⟨r, hr, k, hk, hs, s, hs2, hs3, hc⟩)
          · exact .inl h
          · rw [List.mem_range] at hk hs2
            refine .inr ⟨r, hr, fun e => hs (.inl ⟨by omega, .inl e⟩), (k : Int), ?_, ?_⟩
            · have : (k : Int) = track ∨ (k : Int) = (track + 1) % d.T := by
                by_cases e : (k : Int) = track
                · exact .inl e
                · by_cases e2 : (k : Int) = (track + 1) % d.T
                  · exact .inr e2
                  · exact absurd (.inl ⟨by omega, .inr ⟨e, e2⟩⟩) hs
              rcases this with e | e <;> simp [← e]
            · have es : (s : Int) + 1 = 1 + (k : Int) % 2 := by omega
              rw [es] at hc
              exact ⟨hc.1, hc.2.2⟩
        · rintro (h | ⟨r, hr, hne, k, hk, h1, h2⟩)
          · exact .inl h
          · rw [List.mem_range] at hr
            have hkr : (k = track ∨ k = (track + 1) % d.T) := by simpa using hk
            have hk0 : 0 ≤ k ∧ k ≤ d.T - 1 := by rcases hkr with e | e <;> omega
            obtain ⟨m, rfl⟩ := Int.eq_ofNat_of_zero_le hk0.1
            refine .inr ⟨r, List.mem_range.2 hr, m, List.mem_range.2 (by omega), ?_, m % 2, List.mem_range.2 (by omega), by omega, ?_⟩
            · rintro (⟨_, hh | hh⟩ | hh)
              · exact hne hh
              · rcases hkr with e | e
                · exact hh.1 e
                · exact hh.2 e
              · omega
            · have es : ((m % 2 : Nat) : Int) + 1 = 1 + (m : Int) % 2 := by omega
              unfold Cand
              rw [es]
              refine ⟨h1, ?_, h2⟩
              have e1 := tileStep_eq ht (dir := ((r : Int) + 2) % 4) (s := 1 + (m : Int) % 2) (by omega) (by omega) (by omega) (by omega)
              have hb := step_back d t (((r : Int) + 2) % 4) (1 + (m : Int) % 2) ht (by omega) (by omega) (by omega) (by omega) (by omega)
              rw [e1] at hb
              have hto := hb.2.2
              have e2 := tileStep_eq hto (dir := ((((r : Int) + 2) % 4) + 2) % 4) (s := 1 + (m : Int) % 2) (by omega) (by omega) (by omega) (by omega)
              have er : ((((r : Int) + 2) % 4) + 2) % 4 = (r : Int) := by omega
              rw [e2, er] at hb
              unfold wireNodeI
              rw [if_pos (by rw [hb.1]; omega)]
              obtain ⟨hv2, f0, f1⟩ := (tOk_iff _ _).1 hto
              have g1 := per_mul hv2 f0 f1
              have g2 := dirT_rng hv (dir := (r : Int)) (by omega) (by omega)
              unfold wireN
              omega
open Go.RowKit
theorem fold_bound {α : Type} (f : List Int → α → List Int) (c : Nat) (hf : ∀ xs a, (f xs a).length ≤ xs.length + c) : ∀ (l : List α) (xs : List Int), (l.foldl f xs).length ≤ xs.length + l.length * c
  | [], xs => by simp
  | a :: l, xs => by
    have h1 := fold_bound f c hf l (f xs a)
    have h2 := hf xs a
    have h3 : (l.length + 1) * c = l.length * c + c := by rw [Nat.add_mul, Nat.one_mul]
    simp only [List.foldl_cons, List.length_cons]
    omega
theorem BRow.drew {k : IntKind} {w : World} {a : Option Addr} {len cap : Nat} {zs : List Int} (h : BRow k w a len cap zs) : BRow k w.drew a len cap zs := h.below (bel_drew (Below.refl _ _))
theorem fold_sum {α : Type} (f : List Int → α → List Int) (c : α → Nat) (hf : ∀ xs a, (f xs a).length ≤ xs.length + c a) : ∀ (l : List α) (xs : List Int), (l.foldl f xs).length ≤ xs.length + (l.map c).sum
  | [], xs => by simp
  | a :: l, xs => by
    have h1 := fold_sum f c hf l (f xs a)
    have h2 := hf xs a
    simp only [List.foldl_cons, List.map_cons, List.sum_cons]
    omega
theorem pinR_len (d : Dev) (t p r : Int) (xs : List Int) (l1 : 1 ≤ d.T) (l2 : d.T ≤ 4) : (pinR d t p r xs d.T.toNat).length ≤ xs.length + 4 := by
  have h := fold_sum (fun xs (k : Nat) => if 1 < d.T ∧ ((k : Int) + p) % 2 ≠ 0 then xs else pinK d t r k xs (1 + k % 2)) (fun k => if 1 < d.T ∧ ((k : Int) + p) % 2 ≠ 0 then 0 else 1 + k % 2) (fun xs k => by
    split
    · omega
    · have := fold_bound (pinS d t r k) 1 (fun xs s => by
        unfold pinS
        split
        · omega
        · split
          · exact insI_len _ _
          · omega) (List.range (1 + k % 2)) xs
      rw [List.length_range] at this
      unfold pinK; omega) (List.range d.T.toNat) xs
  have h2 : ((List.range d.T.toNat).map (fun (k : Nat) => if 1 < d.T ∧ ((k : Int) + p) % 2 ≠ 0 then 0 else 1 + k % 2)).sum ≤ 4 := by
    obtain e | e | e | e : d.T = 1 ∨ d.T = 2 ∨ d.T = 3 ∨ d.T = 4 := by omega
    · rw [show List.range d.T.toNat = [0] by rw [e]; rfl]
      simp only [List.map_cons, List.map_nil, List.sum_cons, List.sum_nil]
      (repeat' split) <;> omega
    · rw [show List.range d.T.toNat = [0, 1] by rw [e]; rfl]
      simp only [List.map_cons, List.map_nil, List.sum_cons, List.sum_nil]
      (repeat' split) <;> omega
    · rw [show List.range d.T.toNat = [0, 1, 2] by rw [e]; rfl]
      simp only [List.map_cons, List.map_nil, List.sum_cons, List.sum_nil]
      (repeat' split) <;> omega
    · rw [show List.range d.T.toNat = [0, 1, 2, 3] by rw [e]; rfl]
      simp only [List.map_cons, List.map_nil, List.sum_cons, List.sum_nil]
      (repeat' split) <;> omega
  exact Nat.le_trans h (by omega)
theorem src_len16 (d : Dev) (k : Int) : (srcI d k).length ≤ 16 := by
  unfold srcI
  split
  · rename_i h
    obtain ⟨hv, -, -⟩ := nodeOk_rng h
    obtain ⟨-, -, ⟨l1, l2⟩, -⟩ := (devB_iff d).1 hv
    split
    · have := fold_bound (fun xs (r : Nat) => pinR d (k / perI d) (k % perI d) r xs d.T.toNat) 4 (fun xs r => pinR_len d _ _ _ xs l1 l2) (List.range 4) []
      simpa [pinO] using this
    · split
      · simp
      · have h1 := fold_bound (wireR d (k / perI d) ((k % perI d - 7) / d.T) ((k % perI d - 7) % d.T)) 2 (fun xs r => by
          unfold wireR
          split
          · omega
          · have := fold_bound (wireW d (k / perI d) r) 1 (fun xs q => by
              unfold wireW
              split
              · exact insI_len _ _
              · omega) ([(k % perI d - 7) % d.T, ((k % perI d - 7) % d.T + 1) % d.T].take 2) xs
            unfold wireK
            simpa using this) (List.range 4) (outO d (k / perI d) 2)
        have h2 := fold_bound (outS d (k / perI d)) 1 (fun xs q => by
          unfold outS
          split
          · exact insI_len _ _
          · omega) (List.range 2) []
        have h2' : (outO d (k / perI d) 2).length ≤ 2 := by simpa [outO] using h2
        have h1' : (wireO d (k / perI d) ((k % perI d - 7) / d.T) ((k % perI d - 7) % d.T) 4).length ≤ (outO d (k / perI d) 2).length + 8 := by simpa [wireO] using h1
        omega
  · simp
theorem src_sorted (d : Dev) (k : Int) : (srcI d k).Pairwise (· < ·) := by
  unfold srcI
  split
  · split
    · exact pinO_sorted _ _ _ _
    · split
      · exact .nil
      · exact wireO_sorted _ _ _ _ _
  · exact .nil
open Go.RowKit
theorem pow2_pos (n : Nat) : (0 : Int) < 2 ^ n := by
  have : 0 < (2 : Nat) ^ n := Nat.two_pow_pos n
  have h3 : ((2 ^ n : Nat) : Int) = (2 : Int) ^ n := by simp
  omega
/-- the bits that are written are the bits that are read -/
theorem bit_low {old b : Int} {r s : Nat} (h : r < s) (hb : 0 ≤ b) : (old + b * 2 ^ s) / 2 ^ r % 2 = old / 2 ^ r % 2 := by
  obtain ⟨e, rfl⟩ : ∃ e, s = r + 1 + e := ⟨s - (r + 1), by omega⟩
  have hp := pow2_pos r
  have e1 : b * 2 ^ (r + 1 + e) = (b * 2 ^ e * 2) * 2 ^ r := by
    rw [Int.pow_add, Int.pow_succ]
    ac_rfl
  rw [e1, Int.add_mul_ediv_right _ _ (by omega), Int.add_mul_emod_self_right]
theorem bit_new {old b : Int} {s : Nat} (h0 : 0 ≤ old) (h1 : old < 2 ^ s) (hb : 0 ≤ b ∧ b ≤ 1) : (old + b * 2 ^ s) / 2 ^ s % 2 = b := by
  have hp := pow2_pos s
  rw [Int.add_mul_ediv_right _ _ (by omega), Int.ediv_eq_zero_of_lt h0 h1]
  omega
theorem bitAt_pack (N : Nat) (bs : List Int) (hb : Bits bs) : ∀ j, j ≤ 16 * N → ∀ i : Nat, i < j → bitAt (packJ N bs j) (i : Int) = bs.getD i 0
  | 0, _, i, hi => by omega
  | j + 1, hj, i, hi => by
    have hl := packJ_len N bs j
    have hbj := hb j
    have e1 : ((i : Int) / 16).toNat = i / 16 := by omega
    have e2 : ((i : Int) % 16).toNat = i % 16 := by omega
    have ih : i < j → bitAt (packJ N bs j) (i : Int) = bs.getD i 0 := fun h => bitAt_pack N bs hb j (by omega) i h
    unfold bitAt at ih ⊢
    rw [e1, e2] at ih ⊢
    have hlow := (packJ_low N bs hb j (by omega) (j / 16) (by omega)).2.1 rfl
    by_cases hw : i / 16 = j / 16
    · rw [packJ, hw, getD_set_self' (by omega)]
      by_cases hij : i = j
      · subst hij
        exact bit_new hlow.1 hlow.2 hbj
      · rw [bit_low (by omega) hbj.1]
        have := ih (by omega)
        rwa [hw] at this
    · rw [packJ, getD_set_ne' (fun h => hw h.symm)]
      exact ih (by omega)
def Seg (bs : List Int) (p : Nat) (ys : List Int) : Prop := ∃ us cs, bs = us ++ (ys ++ cs) ∧ us.length = p
theorem Seg.self (bs : List Int) : Seg bs 0 bs := ⟨[], [], by simp, rfl⟩
theorem Seg.left {bs ys zs : List Int} {p : Nat} (h : Seg bs p (ys ++ zs)) : Seg bs p ys := by
  obtain ⟨us, cs, h, hl⟩ := h; exact ⟨us, zs ++ cs, by rw [h, List.append_assoc], hl⟩
theorem Seg.right {bs ys zs : List Int} {p q : Nat} (h : Seg bs p (ys ++ zs)) (hq : q = p + ys.length) : Seg bs q zs := by
  obtain ⟨us, cs, h, hl⟩ := h; exact ⟨us ++ ys, cs, by rw [h, List.append_assoc, List.append_assoc], by rw [List.length_append, hl, hq]⟩
theorem Seg.at {bs ys : List Int} {p : Nat} (h : Seg bs p ys) (i : Nat) (hi : i < ys.length) : bs.getD (p + i) 0 = ys.getD i 0 := by
  obtain ⟨us, cs, rfl, rfl⟩ := h
  rw [List.getD_eq_getElem?_getD, List.getElem?_append_right (by omega), Nat.add_sub_cancel_left, List.getElem?_append_left hi, ← List.getD_eq_getElem?_getD]
theorem Seg.len {bs ys : List Int} {p : Nat} (h : Seg bs p ys) : p + ys.length ≤ bs.length := by
  obtain ⟨us, cs, rfl, rfl⟩ := h
  simp only [List.length_append]; omega
theorem Seg.flat {α : Type} {f : α → List Int} {k : Nat} {d : α} {bs : List Int} : ∀ (l : List α) (p j : Nat), (∀ x ∈ l, (f x).length = k) → Seg bs p (l.flatMap f) → j < l.length → Seg bs (p + k * j) (f (l.getD j d))
  | [], p, j, _, h, hj => by simp at hj
  | a :: l, p, 0, hf, h, _ => by rw [List.flatMap_cons] at h; simpa using h.left
  | a :: l, p, j + 1, hf, h, hj => by
    rw [List.flatMap_cons] at h
    have h2 := Seg.flat (f := f) (d := d) l (p + k) j (fun x hx => hf x (List.mem_cons_of_mem _ hx)) (h.right (by rw [hf a List.mem_cons_self])) (by simpa using hj)
    rw [show p + k * (j + 1) = p + k + k * j by rw [Nat.mul_add]; omega]
    simpa using h2
theorem getN_bits (xs : List Int) (p : Int) (x : Nat) : ∀ n : Nat, (∀ i : Nat, i < n → bitAt xs (p + i) = ((x : Int)) / 2 ^ i % 2) → getN xs p n = ((x % 2 ^ n : Nat) : Int)
  | 0, _ => by simp [getN, Nat.mod_one]
  | n + 1, h => by
    rw [getN, getN_bits xs p x n (fun i hi => h i (by omega)), h n (by omega), Nat.mod_pow_succ]
    simp [Int.mul_comm]
theorem getN_pack (N : Nat) (bs : List Int) (hb : Bits bs) (hN : bs.length ≤ 16 * N) (p n : Nat) (q x : Int) (hs : Seg bs p (bitsOf x n)) (hq : q = (p : Int)) (h0 : 0 ≤ x) (h1 : x < 2 ^ n) : getN (packJ N bs bs.length) q n = x := by
  obtain ⟨y, rfl⟩ := Int.eq_ofNat_of_zero_le h0
  have hl := hs.len
  rw [bitsOf_len] at hl
  rw [hq, getN_bits _ _ y n (fun i hi => ?_)]
  · have : y < 2 ^ n := by exact_mod_cast h1
    rw [Nat.mod_eq_of_lt this]
  · have h2 := hs.at i (by rw [bitsOf_len]; exact hi)
    rw [bitsOf_at _ _ _ hi] at h2
    rw [← h2, ← bitAt_pack N bs hb bs.length hN (p + i) (by omega)]
    simp
theorem leBits_len {e : List Int × Int × Int × Int} (h : e.1.length = 4) : (leBits e).length = 30 := by
  unfold leBits
  simp only [List.length_append, bitsOf_len, List.length_flatMap]
  match e.1, h with
  | [a, b, c, f], _ => simp
theorem flat5 (l : List Int) (k : Nat) : (l.flatMap (fun x => bitsOf x k)).length = k * l.length := by
  induction l with
  | nil => simp
  | cons a l ih => rw [List.flatMap_cons, List.length_append, bitsOf_len, ih, List.length_cons, Nat.mul_add]; omega
abbrev TV := List Int × List (List Int × Int × Int × Int) × Int × Int
theorem tcOkV_all (d : Dev) (v : TV) (h : tcOkV d v = true) : devB d = true ∧ (v.1.length : Int) = 5 + 4 * d.T ∧ v.2.1.length = 2 ∧ (0 ≤ v.2.2.1 ∧ v.2.2.1 ≤ 3) ∧ (0 ≤ v.2.2.2 ∧ v.2.2.2 ≤ 31) ∧ (∀ i, i < v.1.length → 0 ≤ v.1.getD i 0 ∧ v.1.getD i 0 ≤ 31) ∧ ∀ e ∈ v.2.1, leOkV e = true := by
  unfold tcOkV at h
  simp only [Bool.and_eq_true, decide_eq_true_eq, inR_iff, all_getD (d := (0 : Int)), and_assoc] at h
  obtain ⟨a1, a2, a3, a4, a5, a6, a7, a8, a9⟩ := h
  refine ⟨a1, a2, a3, ⟨a4, a5⟩, ⟨a6, a7⟩, a8, ?_⟩
  intro e he
  obtain ⟨i, hi, rfl⟩ := List.mem_iff_getElem.1 he
  have := (all_getD (d := (([], 0, 0, 0) : List Int × Int × Int × Int))).1 (List.all_eq_true.2 fun x hx => List.all_eq_true.1 (by simpa using a9) x hx) i hi
  rwa [List.getD_eq_getElem?_getD, List.getElem?_eq_getElem hi] at this
theorem leOkV_all (e : List Int × Int × Int × Int) (h : leOkV e = true) : e.1.length = 4 ∧ (0 ≤ e.2.1 ∧ e.2.1 ≤ 65535) ∧ (0 ≤ e.2.2.1 ∧ e.2.2.1 ≤ 1) ∧ (0 ≤ e.2.2.2 ∧ e.2.2.2 ≤ 1) ∧ ∀ i, i < e.1.length → 0 ≤ e.1.getD i 0 ∧ e.1.getD i 0 ≤ 7 := by
  unfold leOkV at h
  simp only [Bool.and_eq_true, decide_eq_true_eq, inR_iff, all_getD (d := (0 : Int)), and_assoc] at h
  obtain ⟨a1, a2, a3, a4, a5, a6, a7, a8⟩ := h
  exact ⟨a1, ⟨a2, a3⟩, ⟨a4, a5⟩, ⟨a6, a7⟩, a8⟩
theorem decLe_pack (N : Nat) (bs : List Int) (hb : Bits bs) (hN : bs.length ≤ 16 * N) (p : Nat) (q : Int) (e : List Int × Int × Int × Int) (he : leOkV e = true) (hs : Seg bs p (leBits e)) (hq : q = (p : Int)) : decLe (packJ N bs bs.length) q = e := by
  obtain ⟨h1, ⟨m0, m1⟩, ⟨f0, f1⟩, ⟨i0, i1⟩, hx⟩ := leOkV_all e he
  obtain ⟨xs, m, f, i⟩ := e
  simp only at h1 m0 m1 f0 f1 i0 i1 hx
  unfold leBits at hs
  simp only at hs
  have s1 := hs.right (q := p + 29) (by simp only [List.length_append, bitsOf_len, flat5, h1])
  have s2 := hs.left.right (q := p + 28) (by simp only [List.length_append, bitsOf_len, flat5, h1])
  have s3 := hs.left.left.right (q := p + 12) (by simp only [flat5, h1])
  have s4 := hs.left.left.left
  have g : ∀ j : Nat, j < 4 → getN (packJ N bs bs.length) (q + 3 * (j : Int)) 3 = xs.getD j 0 := fun j hj =>
    getN_pack N bs hb hN (p + 3 * j) 3 _ _ (s4.flat (f := fun x => bitsOf x 3) (d := 0) xs p j (fun x _ => bitsOf_len x 3) (by omega)) (by rw [hq]; omega) (hx j (by omega)).1 (by have := (hx j (by omega)).2; omega)
  have g0 := g 0 (by omega)
  have g1 := g 1 (by omega)
  have g2 := g 2 (by omega)
  have g3 := g 3 (by omega)
  unfold decLe
  rw [getN_pack N bs hb hN (p + 12) 16 _ m s3 (by rw [hq]; omega) m0 (by omega), getN_pack N bs hb hN (p + 28) 1 _ f s2 (by rw [hq]; omega) f0 (by omega), getN_pack N bs hb hN (p + 29) 1 _ i s1 (by rw [hq]; omega) i0 (by omega)]
  have e4 : xs = [xs.getD 0 0, xs.getD 1 0, xs.getD 2 0, xs.getD 3 0] := by
    match xs, h1 with
    | [a, b, c, f], _ => rfl
  rw [e4]
  simp only [Prod.mk.injEq, List.cons.injEq, and_true]
  refine ⟨?_, ?_, ?_, ?_⟩
  · rw [← g0]; simp
  · rw [← g1]; simp
  · rw [← g2]; simp
  · rw [← g3]; simp
theorem tcBits_len (d : Dev) (v : TV) (h : tcOkV d v = true) : ((tcBits v).length : Int) = 5 * (5 + 4 * d.T) + 67 := by
  obtain ⟨-, h1, h2, -, -, -, hes⟩ := tcOkV_all d v h
  obtain ⟨mx, es, pad, ram⟩ := v
  simp only at h1 h2 hes
  have : (es.flatMap leBits).length = 60 := by
    match es, h2 with
    | [a, b], _ =>
      have ha := leBits_len (leOkV_all a (hes a (by simp))).1
      have hb := leBits_len (leOkV_all b (hes b (by simp))).1
      simp only [List.flatMap_cons, List.flatMap_nil, List.length_append, ha, hb]
      rfl
  unfold tcBits
  simp only [List.length_append, bitsOf_len, flat5, this]
  omega
/-- what was written is read -/
theorem dec_enc (d : Dev) (v : TV) (h : tcOkV d v = true) : decV2 d (encV d v) = v ∧ decOk d (encV d v) = true ∧ ((encV d v).length : Int) = frW d := by
  have hlen := tcBits_len d v h
  have hb := tc_bits v
  obtain ⟨hd, h1, h2, ⟨p0, p1⟩, ⟨r0, r1⟩, hmx, hes⟩ := tcOkV_all d v h
  obtain ⟨-, -, ⟨l1, l2⟩, -⟩ := (devB_iff d).1 hd
  have hfr : frW d = (5 * (5 + 4 * d.T) + 67 + 15) / 16 := rfl
  have hN : ((frW d).toNat : Int) = frW d := by omega
  have hNN : (tcBits v).length ≤ 16 * (frW d).toNat := by omega
  have he : encV d v = packJ (frW d).toNat (tcBits v) (tcBits v).length := by unfold encV; rw [if_pos h]
  have hl : (encV d v).length = (frW d).toNat := by rw [he, packJ_len]
  have hok : decOk d (encV d v) = true := by
    unfold decOk
    rw [hd, Bool.true_and, wordsB_iff]
    refine ⟨by omega, fun i hi => ?_⟩
    rw [hl] at hi
    have hk := packJ_low _ _ hb (tcBits v).length hNN i hi
    rw [he]
    rcases Nat.lt_trichotomy i ((tcBits v).length / 16) with c | c | c
    · exact hk.1 c
    · have k2_o := hk.2.1 c
      have k3_o := pow_16 ((tcBits v).length % 16) (by omega)
      omega
    · rw [hk.2.2 c]; omega
  refine ⟨?_, hok, by omega⟩
  unfold decV2
  rw [if_pos hok, he]
  have hs := Seg.self (tcBits v)
  obtain ⟨mx, es, pad, ram⟩ := v
  simp only at h1 h2 p0 p1 r0 r1 hmx hes hlen hb hNN hs ⊢
  have hs' := hs
  unfold tcBits at hs'
  have s1 := hs'.left.left.left
  have hm : (muxs d).toNat = mx.length := by unfold muxs; omega
  have hm2 : muxs d = (mx.length : Int) := by unfold muxs; omega
  have hel : (es.flatMap leBits).length = 60 := by
    have : (tcBits (mx, es, pad, ram)).length = 5 * mx.length + (es.flatMap leBits).length + 7 := by
      unfold tcBits; simp only [List.length_append, bitsOf_len, flat5]
    omega
  have s2 := hs'.left.left.right (q := 5 * mx.length) (by simp only [flat5]; omega)
  have s3 := hs'.left.right (q := 5 * mx.length + 60) (by simp only [List.length_append, flat5, hel]; omega)
  have s4 := hs'.right (q := 5 * mx.length + 62) (by simp only [List.length_append, flat5, hel, bitsOf_len]; omega)
  have lelen : ∀ x ∈ es, (leBits x).length = 30 := fun x hx => leBits_len (leOkV_all x (hes x hx)).1
  unfold decV
  rw [hm]
  simp only [Prod.mk.injEq]
  refine ⟨?_, ?_, ?_, ?_⟩
  · apply List.ext_getElem?
    intro k
    rw [List.getElem?_map]
    by_cases hk : k < mx.length
    · have := getN_pack _ _ hb hNN (0 + 5 * k) 5 (5 * (k : Int)) (mx.getD k 0) (s1.flat (f := fun x => bitsOf x 5) (d := 0) mx 0 k (fun x _ => bitsOf_len x 5) hk) (by omega) (hmx k hk).1 (by have := (hmx k hk).2; omega)
      rw [List.getElem?_eq_getElem (by simpa using hk), List.getElem?_eq_getElem hk]
      simp only [List.getElem_range, Option.map_some, this]
      rw [List.getD_eq_getElem?_getD, List.getElem?_eq_getElem hk]; rfl
    · rw [List.getElem?_eq_none (by simpa using hk), List.getElem?_eq_none (by omega)]; rfl
  · match es, h2 with
    | [a, b], _ =>
      have t0 := s2.flat (f := leBits) (d := a) [a, b] _ 0 lelen (by simp)
      have t1 := s2.flat (f := leBits) (d := a) [a, b] _ 1 lelen (by simp)
      rw [decLe_pack _ _ hb hNN _ _ a (hes a (by simp)) t0 (by omega), decLe_pack _ _ hb hNN _ _ b (hes b (by simp)) t1 (by omega)]
  · exact getN_pack _ _ hb hNN _ 2 _ pad s3 (by omega) p0 (by omega)
  · exact getN_pack _ _ hb hNN _ 5 _ ram s4 (by omega) r0 (by omega)
theorem enc_inj (d : Dev) (v u : TV) (h : tcOkV d v = true) (g : tcOkV d u = true) : encV d v = encV d u ↔ v = u := by
  constructor
  · intro e; rw [← (dec_enc d v h).1, e, (dec_enc d u g).1]
  · rintro rfl; rfl
theorem empty_ok (d : Dev) (h : devB d = true) : tcOkV d (emptyT d) = true := by
  obtain ⟨-, -, ⟨l1, l2⟩, -⟩ := (devB_iff d).1 h
  unfold emptyT
  rw [if_pos h]
  unfold tcOkV
  simp only [h, Bool.true_and, List.length_replicate, Bool.and_eq_true, decide_eq_true_eq, and_assoc]
  refine ⟨by omega, rfl, by decide, by decide, ?_, by decide⟩
  rw [List.all_eq_true]; intro x hx; rw [(List.mem_replicate.1 hx).2]; decide
theorem sel_src (d : Dev) (n : Int) (i : Nat) (h : i < (srcI d n).length) : selI (srcI d n) ((srcI d n).getD i 0) = 1 + (i : Int) := by
  refine selI_at _ _ i h (fun j hj => ?_) rfl
  have hs := List.pairwise_iff_getElem.1 (src_sorted d n) j i (by omega) h hj
  rw [List.getD_eq_getElem?_getD, List.getElem?_eq_getElem (by omega), List.getD_eq_getElem?_getD, List.getElem?_eq_getElem h]
  simp only [Option.getD_some]
  omega
/-- block g is a cursor -/
def curE (g : Nat) (a : Option Addr) (len cap : Nat) : HP := ⟨fun k => k = g, fun w => (∃ i : Nat, i ≤ len ∧ w.cell? ⟨g, 1, none⟩ = some (.int .i64 (i : Int))) ∧ (∃ h : Int, w.cell? ⟨g, 2, none⟩ = some (.int .i64 h)) ∧
  w.cell? ⟨g, 0, none⟩ = some (.slice a len cap) ∧ w.frozen? ⟨g, 1, none⟩ = false ∧ w.frozen? ⟨g, 2, none⟩ = false⟩
theorem cell_heap {w w' : World} {g o : Nat} (h : w'.heap[g]? = w.heap[g]?) : w'.cell? ⟨g, o, none⟩ = w.cell? ⟨g, o, none⟩ := by simp [World.cell?, h]
theorem frozen_heap {w w' : World} {g o : Nat} (h : w'.heap[g]? = w.heap[g]?) : w'.frozen? ⟨g, o, none⟩ = w.frozen? ⟨g, o, none⟩ := by simp [World.frozen?, h]
theorem curE_ok (g : Nat) (a : Option Addr) (len cap : Nat) : (curE g a len cap).Ok := fun w w' _ hb h => by
  have e := hb g rfl
  have c := fun o => cell_heap (o := o) e
  have f := fun o => frozen_heap (o := o) e
  simp only [curE] at h ⊢
  rw [c 0, c 1, c 2, f 1, f 2]; exact h
theorem cur_of {w0 w : World} {l : List HP} {g : Nat} {a : Option Addr} {len cap : Nat} {z : List Int} (hm : Mem w0 (curE g a len cap :: l) w) (hb : BRow .u8 w0 a len cap z) : Cur w w0.heap.size g a len cap z := by
  obtain ⟨h1, h2, h3, h4, h5⟩ := hm.holds _ List.mem_cons_self
  exact ⟨h1, h2, h3, h4, h5, hb.below hm.bel, (hm.new _ List.mem_cons_self g rfl).1, hb.old⟩
theorem cur_turn {w0 w w' : World} {l : List HP} {B g : Nat} {a : Option Addr} {len cap : Nat} {z : List Int} (hm : Mem w0 (curE g a len cap :: l) w) (hc : Cur w' B g a len cap z) (hg : w.grownBy w' (some g)) : Mem w0 (curE g a len cap :: l) w' :=
  hm.turn hg.os hg.tape hg.output hg.size (fun b hb hf => hg.block b hb (fun e => hf (by cases e; rfl))) (curE_ok g a len cap) (fun b hb => .inl hb) (fun b hb => by cases hb; exact hc.lt) ⟨hc.1, hc.2.1, hc.2.2.1, hc.2.2.2.1, hc.2.2.2.2.1⟩
/-- an old contract over a cursor, as one that turns the caller's memory -/
theorem cur_mut {f : FuncId} {vs : Array Value} {R : Ending → Prop} {R' : Value → Prop} {w0 : World} {l : List HP} {w : World} {g : Nat} {a : Option Addr} {len cap : Nat} {z : List Int} (hm : Mem w0 (curE g a len cap :: l) w) (hb : BRow .u8 w0 a len cap z)
    (h : ∀ w B, Cur w B g a len cap z → Calls Try.prog f vs w fun e w' => R e ∧ Cur w' B g a len cap z ∧ w.grownBy w' (some g)) (hR : ∀ e, R e → ∃ v, e = .returned v ∧ R' v) :
    Calls Try.prog f vs w (fun e_ w_ => ∃ v_ p_, e_ = .returned v_ ∧ (R' v_ ∧ p_ = curE g a len cap) ∧ Mem w0 (p_ :: l) w_) :=
  (h w _ (cur_of hm hb)).mono fun e w' ⟨he, hc, hg⟩ => by
    obtain ⟨v, hv, hr⟩ := hR e he
    exact ⟨v, _, hv, ⟨hr, rfl⟩, cur_turn hm hc hg⟩
theorem once_mut {w0 : World} {l : List HP} {w : World} {g : Nat} {a : Option Addr} {len cap : Nat} {z : List Int} (hm : Mem w0 (curE g a len cap :: l) w) (hb : BRow .u8 w0 a len cap z) (n : Int) (h1 : 1 ≤ n) (h2 : n ≤ 256) :
    Calls Try.prog 127 #[.pointer (some ⟨g, 0, none⟩), .int .i64 n] w (fun e_ w_ => ∃ v_ p_, e_ = .returned v_ ∧ ((∃ b : Bool, v_ = .bool b) ∧ p_ = curE g a len cap) ∧ Mem w0 (p_ :: l) w_) :=
  cur_mut (R' := fun v => ∃ b : Bool, v = .bool b) hm hb (fun w B hc => l01Once_any B g a len cap z n h1 h2 w hc) (fun e ⟨b, he⟩ => ⟨_, he, b, rfl⟩)
theorem device_mut {w0 : World} {l : List HP} {w : World} {g : Nat} {a : Option Addr} {len cap : Nat} {z : List Int} (hm : Mem w0 (curE g a len cap :: l) w) (hb : BRow .u8 w0 a len cap z) :
    Calls Try.prog 72 #[.pointer (some ⟨g, 0, none⟩)] w (fun e_ w_ => ∃ v_ p_, e_ = .returned v_ ∧ ((∃ d : Dev, Drawn d ∧ v_ = .agg #[.int .i64 d.W, .int .i64 d.H, .int .i64 d.T, .int .i64 d.R]) ∧ p_ = curE g a len cap) ∧ Mem w0 (p_ :: l) w_) :=
  cur_mut (R' := fun v => ∃ d : Dev, Drawn d ∧ v = .agg #[.int .i64 d.W, .int .i64 d.H, .int .i64 d.T, .int .i64 d.R]) hm hb (fun w B hc => l26Device_any B g a len cap z w hc) (fun e ⟨d, hd, he⟩ => ⟨_, he, d, hd, rfl⟩)
/-- a new cursor -/
theorem new_ret {w : World} {a : Option Addr} {len cap : Nat} {z : List Int} (hb : BRow .u8 w a len cap z) (hlen : len ≤ 1048576) :
    Calls Try.prog 73 #[.slice a len cap] w (Ret w (fun v post => ∃ g, v = .pointer (some ⟨g, 0, none⟩) ∧ post = [curE g a len cap])) :=
  (l01New_any a len cap z w hlen hb).mono fun e w' ⟨g, he, hc, hbel⟩ => by
    refine ⟨_, [curE g a len cap], he, ⟨g, rfl, rfl⟩, hbel, ?_, ?_, ?_, by simp⟩
    · intro p hp; rw [List.mem_singleton] at hp; subst hp; exact ⟨hc.1, hc.2.1, hc.2.2.1, hc.2.2.2.1, hc.2.2.2.2.1⟩
    · intro p hp; rw [List.mem_singleton] at hp; subst hp; exact curE_ok g a len cap
    · intro p hp b hf; rw [List.mem_singleton] at hp; subst hp; cases hf; exact ⟨hc.base, hc.lt⟩
open Go.RowKit
theorem byte_mut {w0 : World} {l : List HP} {w : World} {g : Nat} {a : Option Addr} {len cap : Nat} {z : List Int} (hm : Mem w0 (curE g a len cap :: l) w) (hb : BRow .u8 w0 a len cap z) :
    Calls Try.prog 134 #[.pointer (some ⟨g, 0, none⟩)] w (fun e_ w_ => ∃ v_ p_, e_ = .returned v_ ∧ ((∃ x : Int, v_ = .int .i64 x ∧ 0 ≤ x ∧ x < 256) ∧ p_ = curE g a len cap) ∧ Mem w0 (p_ :: l) w_) :=
  cur_mut (R' := fun v => ∃ x : Int, v = .int .i64 x ∧ 0 ≤ x ∧ x < 256) hm hb (fun w B hc => l01Byte_any B g a len cap z w hc) (fun e ⟨x, hx, he⟩ => ⟨_, he, (x : Int), rfl, by omega, by omega⟩)
set_option maxHeartbeats 4000000 in
set_option maxRecDepth 100000 in
theorem belowN_mut (g : Nat) (a : Option Addr) (len cap : Nat) (z : List Int) (n : Int) (w0 : World) (l : List HP) (w : World) (hm0 : Mem w0 (curE g a len cap :: l) w) (hb : BRow .u8 w0 a len cap z) (hn : 1 ≤ n ∧ n ≤ 4294967296) :
  Calls Try.prog 110 #[.pointer (some ⟨g, 0, none⟩), .int .i64 n] w (fun e_ w_ => ∃ v_ p_, e_ = .returned v_ ∧ (fun u_ p_ => (∃ x : Int, u_ = .int .i64 x ∧ 0 ≤ x ∧ x < n) ∧ p_ = curE g a len cap) v_ p_ ∧ Mem w0 (p_ :: l) w_) := by
 refine calls_hcM (N := 37) (args := [.pointer (some ⟨g, 0, none⟩), .int .i64 n]) Try.func110 rfl rfl hm0 ?_
 refine hc_less _ (sx 0 rfl (sx 1 rfl (sub_nil _))) (.refl _) ?_
 refine hc_seq ?_
 refine hc_region ?_
 refine hl_v rfl rfl rfl (rv_ev rfl) ?_
 refine hl_less (sx 0 rfl (sx 1 rfl (sx 4 rfl (sub_nil _)))) (.refl _) ?_
 refine hl_nil ?_
 refine hq_then ?_
 refine hc_seq ?_
 refine hc_seq ?_
 refine hc_region ?_
 refine hl_v rfl rfl rfl (rv_ev rfl) ?_
 refine hl_leq rfl rfl rfl rfl rfl rfl (fun h1 => absurd h1 (by omega)) (fun h1 => ?_)
 refine hl_less (sx 0 rfl (sx 1 rfl (sx 4 rfl (sx 10 rfl (sub_nil _))))) (.refl _) ?_
 refine hl_nil ?_
 refine hq_then ?_
 refine hc_false rfl ?_
 refine hc_skip ?_
 refine hq_then ?_
 refine hc_seq ?_
 refine hc_seq ?_
 refine hc_region ?_
 refine hl_v rfl rfl rfl (rv_ev rfl) ?_
 refine hl_leq rfl rfl rfl rfl rfl rfl (fun h2 => ?_) (fun h2 => ?_)
 ·
  refine hl_less (sx 0 rfl (sx 1 rfl (sx 4 rfl (sx 10 rfl (sx 12 rfl (sub_nil _)))))) (.refl _) ?_
  refine hl_nil ?_
  refine hq_then ?_
  refine hc_true rfl ?_
  refine hc_seq ?_
  refine hc_region ?_
  refine hl_v rfl rfl rfl (rv_ev rfl) ?_
  refine hl_callM (R := (fun u_ p_ => (∃ x : Int, u_ = .int .i64 x ∧ 0 ≤ x ∧ x < 256) ∧ p_ = curE g a len cap)) 0 rfl rfl (by kernel_rfl) rfl rfl (fun l' w hm => byte_mut hm hb) ?_
  intro v3 p4 hR5
  obtain ⟨⟨xhR5, rfl, xhR50, xhR51⟩, rfl⟩ := hR5
  refine hl_eqL (l' := (curE g a len cap :: l)) rfl ?_
  refine hl_v rfl rfl rfl (rv_ev rfl) ?_
  refine hl_v rfl rfl rfl (rv_rem rfl rfl rfl (by constructor <;> omega)) ?_
  refine hl_v rfl rfl rfl (rv_ev rfl) ?_
  refine hl_less (sx 0 rfl (sx 1 rfl (sx 4 rfl (sx 10 rfl (sx 12 rfl (sub_nil _)))))) (.refl _) ?_
  refine hl_nil ?_
  refine hq_then ?_
  refine hc_ret ?_
  refine hq_then_ret ?_
  exact hq_retMut (p' := curE g a len cap) rfl rfl (.refl _) ⟨⟨_, rfl, Int.emod_nonneg _ (by omega), Int.emod_lt_of_pos _ (by omega)⟩, rfl⟩
 ·
  refine hl_less (sx 0 rfl (sx 1 rfl (sx 4 rfl (sx 10 rfl (sx 12 rfl (sub_nil _)))))) (.refl _) ?_
  refine hl_nil ?_
  refine hq_then ?_
  refine hc_false rfl ?_
  refine hc_skip ?_
  refine hq_then ?_
  refine hc_seq ?_
  refine hc_region ?_
  refine hl_v rfl rfl rfl (rv_ev rfl) ?_
  refine hl_callM (R := (fun u_ p_ => (∃ x : Int, u_ = .int .i64 x ∧ 0 ≤ x ∧ x < 256) ∧ p_ = curE g a len cap)) 0 rfl rfl (by kernel_rfl) rfl rfl (fun l' w hm => byte_mut hm hb) ?_
  intro v6 p7 hR8
  obtain ⟨⟨xhR8, rfl, xhR80, xhR81⟩, rfl⟩ := hR8
  refine hl_eqL (l' := (curE g a len cap :: l)) rfl ?_
  refine hl_v rfl rfl rfl (rv_ev rfl) ?_
  refine hl_less (sx 0 rfl (sx 1 rfl (sx 4 rfl (sx 5 rfl (sx 10 rfl (sx 12 rfl (sub_nil _))))))) (.refl _) ?_
  refine hl_nil ?_
  refine hq_then ?_
  refine hc_seq ?_
  refine hc_region ?_
  refine hl_v rfl rfl rfl (rv_ev rfl) ?_
  refine hl_callM (R := (fun u_ p_ => (∃ x : Int, u_ = .int .i64 x ∧ 0 ≤ x ∧ x < 256) ∧ p_ = curE g a len cap)) 0 rfl rfl (by kernel_rfl) rfl rfl (fun l' w hm => byte_mut hm hb) ?_
  intro v9 p10 hR11
  obtain ⟨⟨xhR11, rfl, xhR110, xhR111⟩, rfl⟩ := hR11
  refine hl_eqL (l' := (curE g a len cap :: l)) rfl ?_
  refine hl_v rfl rfl rfl (rv_ev rfl) ?_
  refine hl_less (sx 0 rfl (sx 1 rfl (sx 4 rfl (sx 5 rfl (sx 6 rfl (sx 10 rfl (sx 12 rfl (sub_nil _)))))))) (.refl _) ?_
  refine hl_nil ?_
  refine hq_then ?_
  refine hc_seq ?_
  refine hc_region ?_
  refine hl_v rfl rfl rfl (rv_ev rfl) ?_
  refine hl_callM (R := (fun u_ p_ => (∃ x : Int, u_ = .int .i64 x ∧ 0 ≤ x ∧ x < 256) ∧ p_ = curE g a len cap)) 0 rfl rfl (by kernel_rfl) rfl rfl (fun l' w hm => byte_mut hm hb) ?_
  intro v12 p13 hR14
  obtain ⟨⟨xhR14, rfl, xhR140, xhR141⟩, rfl⟩ := hR14
  refine hl_eqL (l' := (curE g a len cap :: l)) rfl ?_
  refine hl_v rfl rfl rfl (rv_ev rfl) ?_
  refine hl_less (sx 0 rfl (sx 1 rfl (sx 4 rfl (sx 5 rfl (sx 6 rfl (sx 7 rfl (sx 10 rfl (sx 12 rfl (sub_nil _))))))))) (.refl _) ?_
  refine hl_nil ?_
  refine hq_then ?_
  refine hc_seq ?_
  refine hc_region ?_
  refine hl_v rfl rfl rfl (rv_ev rfl) ?_
  refine hl_callM (R := (fun u_ p_ => (∃ x : Int, u_ = .int .i64 x ∧ 0 ≤ x ∧ x < 256) ∧ p_ = curE g a len cap)) 0 rfl rfl (by kernel_rfl) rfl rfl (fun l' w hm => byte_mut hm hb) ?_
  intro v15 p16 hR17
  obtain ⟨⟨xhR17, rfl, xhR170, xhR171⟩, rfl⟩ := hR17
  refine hl_eqL (l' := (curE g a len cap :: l)) rfl ?_
  refine hl_v rfl rfl rfl (rv_ev rfl) ?_
  refine hl_less (sx 0 rfl (sx 1 rfl (sx 4 rfl (sx 5 rfl (sx 6 rfl (sx 7 rfl (sx 8 rfl (sx 10 rfl (sx 12 rfl (sub_nil _)))))))))) (.refl _) ?_
  refine hl_nil ?_
  refine hq_then ?_
  refine hc_seq ?_
  refine hc_region ?_
  refine hl_v rfl rfl rfl (rv_ev rfl) ?_
  refine hl_v rfl rfl rfl (rv_mul rfl rfl rfl (by constructor <;> omega)) ?_
  refine hl_v rfl rfl rfl (rv_ev rfl) ?_
  refine hl_v rfl rfl rfl (rv_mul rfl rfl rfl (by constructor <;> omega)) ?_
  refine hl_v rfl rfl rfl (rv_add rfl rfl rfl (by constructor <;> omega)) ?_
  refine hl_v rfl rfl rfl (rv_ev rfl) ?_
  refine hl_v rfl rfl rfl (rv_mul rfl rfl rfl (by constructor <;> omega)) ?_
  refine hl_v rfl rfl rfl (rv_add rfl rfl rfl (by constructor <;> omega)) ?_
  refine hl_v rfl rfl rfl (rv_ev rfl) ?_
  refine hl_v rfl rfl rfl (rv_add rfl rfl rfl (by constructor <;> omega)) ?_
  refine hl_v rfl rfl rfl (rv_ev rfl) ?_
  refine hl_v rfl rfl rfl (rv_rem rfl rfl rfl (by constructor <;> omega)) ?_
  refine hl_v rfl rfl rfl (rv_ev rfl) ?_
  refine hl_less (sx 0 rfl (sx 1 rfl (sx 4 rfl (sx 5 rfl (sx 6 rfl (sx 7 rfl (sx 8 rfl (sx 10 rfl (sx 12 rfl (sub_nil _)))))))))) (.refl _) ?_
  refine hl_nil ?_
  refine hq_then ?_
  refine hc_ret ?_
  exact hq_retMut (p' := curE g a len cap) rfl rfl (.refl _) ⟨⟨_, rfl, Int.emod_nonneg _ (by omega), Int.emod_lt_of_pos _ (by omega)⟩, rfl⟩
set_option maxHeartbeats 4000000 in
set_option maxRecDepth 100000 in
theorem sameInts_ans (xs ys : List Int) (u v : Value) (w : World) (hu : RdsW w u 1 xs.length (xs.map (Value.int .i64))) (hv : RdsW w v 1 ys.length (ys.map (Value.int .i64))) (hlen : xs.length ≤ 1000000000000) :
  Calls Try.prog 71 #[u, v] w (Ans w (.bool (decide (xs = ys)))) := by
 refine calls_hc (N := 26) (args := [u, v]) Try.func71 rfl rfl ?_
 refine hc_less _ (sx 0 rfl (sx 1 rfl (sub_nil _))) (.refl _) ?_
 refine hc_seq ?_
 refine hc_region ?_
 refine hl_v rfl rfl rfl (rv_ev rfl) ?_
 refine hl_less (sx 0 rfl (sx 1 rfl (sx 4 rfl (sub_nil _)))) (.refl _) ?_
 refine hl_nil ?_
 refine hq_then ?_
 refine hc_seq ?_
 refine hc_seq ?_
 refine hc_region ?_
 refine hl_v rfl rfl rfl (rv_ev rfl) ?_
 refine hl_v rfl rfl rfl (rv_len rfl Try.underlying30 rfl (rd_old hu)) ?_
 refine hl_v rfl rfl rfl (rv_ev rfl) ?_
 refine hl_v rfl rfl rfl (rv_len rfl Try.underlying30 rfl (rd_old hv)) ?_
 refine hl_neq rfl rfl rfl rfl rfl rfl (fun h1 => ?_) (fun h1 => ?_)
 ·
  refine hl_less (sx 0 rfl (sx 1 rfl (sx 4 rfl (sx 10 rfl (sub_nil _))))) (.refl _) ?_
  refine hl_nil ?_
  refine hq_then ?_
  refine hc_true rfl ?_
  refine hc_seq ?_
  refine hc_region ?_
  refine hl_v rfl rfl rfl (rv_ev rfl) ?_
  refine hl_less (sx 0 rfl (sx 1 rfl (sx 4 rfl (sx 10 rfl (sub_nil _))))) (.refl _) ?_
  refine hl_nil ?_
  refine hq_then ?_
  refine hc_ret ?_
  refine hq_then_ret ?_
  exact hq_ans rfl rfl (congrArg _ (decide_eq_false (fun he => by subst he; first | omega | contradiction | simp_all)).symm)
 ·
  refine hl_less (sx 0 rfl (sx 1 rfl (sx 4 rfl (sx 10 rfl (sub_nil _))))) (.refl _) ?_
  refine hl_nil ?_
  refine hq_then ?_
  refine hc_false rfl ?_
  refine hc_skip ?_
  refine hq_then ?_
  refine hc_seq ?_
  refine hc_seq ?_
  refine hc_region ?_
  refine hl_v rfl rfl rfl (rv_ev rfl) ?_
  refine hl_less (sx 0 rfl (sx 1 rfl (sx 4 rfl (sx 5 rfl (sx 10 rfl (sub_nil _)))))) (.refl _) ?_
  refine hl_nil ?_
  refine hq_then ?_
  refine hc_block ?_
  refine hc_loop1 (α := Nat) (fun j => []) (fun j => [(0, u), (1, v), (4, .bool false), (5, .int .i64 (j : Int)), (10, .bool false)]) (fun j => j ≤ xs.length ∧ ∀ i, i < j → xs.getD i 0 = ys.getD i 0) (fun j => xs.length - j) 0 ⟨by omega, fun i hi => absurd hi (by omega)⟩ (sx 0 rfl (sx 1 rfl (sx 4 rfl (sx 5 rfl (sx 10 rfl (sub_nil _)))))) (.slnil) ?_
  intro j hi2
  obtain ⟨hk1, hk2⟩ := hi2
  refine hc_seq ?_
  refine hc_seq ?_
  refine hc_region ?_
  refine hl_v rfl rfl rfl (rv_ev rfl) ?_
  refine hl_v rfl rfl rfl (rv_ev rfl) ?_
  refine hl_v rfl rfl rfl (rv_len rfl Try.underlying30 rfl (rd_old hu)) ?_
  refine hl_lss rfl rfl rfl rfl rfl rfl (fun h3 => ?_) (fun h3 => ?_)
  ·
   refine hl_less (sx 0 rfl (sx 1 rfl (sx 4 rfl (sx 5 rfl (sx 10 rfl (sx 14 rfl (sub_nil _))))))) (.refl _) ?_
   refine hl_nil ?_
   refine hq_then ?_
   refine hc_true rfl ?_
   refine hc_skip ?_
   refine hq_then ?_
   refine hc_seq ?_
   refine hc_block ?_
   refine hc_seq ?_
   rcases Bool.eq_false_or_eq_true ((xs.getD j 0) != (ys.getD j 0)) with hb4 | hb4
   ·
    have hb4p : xs.getD j 0 ≠ ys.getD j 0 := bne_iff_ne.1 hb4
    refine hc_draw (by kernel_rfl) 9 [0, 1, 2, 3, 4, 5, 6, 7, 8] (List.take 9 _) (List.drop 9 _) [[], [], [0, 1], [2], [], [], [4, 5], [6], [3, 7]] [17, 18, 19, 20, 21, 22, 23, 24, 25] (fun i vs_ v_ p_ => match i with | 0 => v_ = u ∧ p_ = [] | 1 => v_ = .int .i64 (j : Int) ∧ p_ = [] | 2 => v_ = elP u (((j : Int)).toNat * 1) ∧ p_ = [] | 3 => v_ = .int .i64 (xs.getD j 0) ∧ p_ = [] | 4 => v_ = v ∧ p_ = [] | 5 => v_ = .int .i64 (j : Int) ∧ p_ = [] | 6 => v_ = elP v (((j : Int)).toNat * 1) ∧ p_ = [] | 7 => v_ = .int .i64 (ys.getD j 0) ∧ p_ = [] | 8 => v_ = .bool true ∧ p_ = [] | _ => True) (List.take_append_drop 9 _).symm (by kernel_rfl) (by kernel_rfl) rfl rfl ?_ ?_
    ·
     refine ⟨?_, ?_, ?_, ?_, ?_, ?_, ?_, ?_, ?_, trivial⟩
     ·
      intro vf pf hR
      refine Or.inl ⟨rfl, ?_⟩
      refine rq_less (sx 0 rfl (sub_nil _)) (List.sublist_append_right _ _) ?_
      exact rq_v (rv_ev rfl)
     ·
      intro vf pf hR
      refine Or.inl ⟨rfl, ?_⟩
      refine rq_less (sx 5 rfl (sub_nil _)) (List.sublist_append_right _ _) ?_
      exact rq_v (rv_ev rfl)
     ·
      intro vf pf hR
      have e0 : (vf 0) = u ∧ (pf 0) = [] := hR 0 (by decide)
      have e1 : (vf 1) = .int .i64 (j : Int) ∧ (pf 1) = [] := hR 1 (by decide)
      refine Or.inl ⟨rfl, ?_⟩
      refine rq_less (sx 17 (congrArg some e0.1) (sx 18 (congrArg some e1.1) (sub_nil _))) (List.sublist_append_right _ _) ?_
      exact rq_v (rv_index (s := 1) rfl Try.underlying30 (by kernel_rfl) rfl rfl (rd_old hu) (by omega) (by first | omega | (simp only [List.length_set]; omega)))
     ·
      intro vf pf hR
      have e2 : (vf 2) = elP u (((j : Int)).toNat * 1) ∧ (pf 2) = [] := hR 2 (by decide)
      refine Or.inl ⟨rfl, ?_⟩
      refine rq_less (sx 19 (congrArg some e2.1) (sub_nil _)) (List.sublist_append_right _ _) ?_
      exact rq_v (rv_loadEl (u := .int .i64 (xs.getD j 0)) rfl (by kernel_rfl) rfl (rd_old hu) (ints_at1 (show _ < xs.length by first | omega | (simp only [List.length_set]; omega))))
     ·
      intro vf pf hR
      refine Or.inl ⟨rfl, ?_⟩
      refine rq_less (sx 1 rfl (sub_nil _)) (List.sublist_append_right _ _) ?_
      exact rq_v (rv_ev rfl)
     ·
      intro vf pf hR
      refine Or.inl ⟨rfl, ?_⟩
      refine rq_less (sx 5 rfl (sub_nil _)) (List.sublist_append_right _ _) ?_
      exact rq_v (rv_ev rfl)
     ·
      intro vf pf hR
      have e4 : (vf 4) = v ∧ (pf 4) = [] := hR 4 (by decide)
      have e5 : (vf 5) = .int .i64 (j : Int) ∧ (pf 5) = [] := hR 5 (by decide)
      refine Or.inl ⟨rfl, ?_⟩
      refine rq_less (sx 21 (congrArg some e4.1) (sx 22 (congrArg some e5.1) (sub_nil _))) (List.sublist_append_right _ _) ?_
      exact rq_v (rv_index (s := 1) rfl Try.underlying30 (by kernel_rfl) rfl rfl (rd_old hv) (by omega) (by first | omega | (simp only [List.length_set]; omega)))
     ·
      intro vf pf hR
      have e6 : (vf 6) = elP v (((j : Int)).toNat * 1) ∧ (pf 6) = [] := hR 6 (by decide)
      refine Or.inl ⟨rfl, ?_⟩
      refine rq_less (sx 23 (congrArg some e6.1) (sub_nil _)) (List.sublist_append_right _ _) ?_
      exact rq_v (rv_loadEl (u := .int .i64 (ys.getD j 0)) rfl (by kernel_rfl) rfl (rd_old hv) (ints_at1 (show _ < ys.length by first | omega | (simp only [List.length_set]; omega))))
     ·
      intro vf pf hR
      have e3 : (vf 3) = .int .i64 (xs.getD j 0) ∧ (pf 3) = [] := hR 3 (by decide)
      have e7 : (vf 7) = .int .i64 (ys.getD j 0) ∧ (pf 7) = [] := hR 7 (by decide)
      refine Or.inl ⟨rfl, ?_⟩
      refine rq_less (sx 20 (congrArg some e3.1) (sx 24 (congrArg some e7.1) (sub_nil _))) (List.sublist_append_right _ _) ?_
      exact rq_mono (rq_v (rv_cmp rfl rfl rfl rfl)) (fun _ _ h => ⟨h.1.trans (congrArg Value.bool hb4), h.2⟩)
    ·
     intro vf pf hR
     have e8 : (vf 8) = .bool true ∧ (pf 8) = [] := hR 8 (by decide)
     refine hl_less (l' := []) (sx 0 rfl (sx 1 rfl (sx 4 rfl (sx 5 rfl (sx 10 rfl (sx 14 rfl (sx 25 (congrArg some e8.1) (sub_nil _)))))))) (List.sublist_append_right _ _) ?_
     simp only [List.drop_succ_cons, List.drop_zero]
     refine hl_less (sx 0 rfl (sx 1 rfl (sx 4 rfl (sx 5 rfl (sx 10 rfl (sx 14 rfl (sx 25 rfl (sub_nil _)))))))) (.refl _) ?_
     refine hl_nil ?_
     refine hq_then ?_
     refine hc_true rfl ?_
     refine hc_seq ?_
     refine hc_region ?_
     refine hl_v rfl rfl rfl (rv_ev rfl) ?_
     refine hl_less (sx 0 rfl (sx 1 rfl (sx 4 rfl (sx 5 rfl (sx 10 rfl (sx 14 rfl (sx 25 rfl (sub_nil _)))))))) (.refl _) ?_
     refine hl_nil ?_
     refine hq_then ?_
     refine hc_ret ?_
     refine hq_block_ret ?_
     refine hq_then_ret ?_
     refine hq_then_ret ?_
     refine hq_block_ret ?_
     refine hq_then_ret ?_
     exact hq_ans rfl rfl (congrArg _ (decide_eq_false (fun he => by subst he; first | omega | contradiction | simp_all)).symm)
   ·
    have hb4p : xs.getD j 0 = ys.getD j 0 := by simpa using hb4
    refine hc_draw (by kernel_rfl) 9 [0, 1, 2, 3, 4, 5, 6, 7, 8] (List.take 9 _) (List.drop 9 _) [[], [], [0, 1], [2], [], [], [4, 5], [6], [3, 7]] [17, 18, 19, 20, 21, 22, 23, 24, 25] (fun i vs_ v_ p_ => match i with | 0 => v_ = u ∧ p_ = [] | 1 => v_ = .int .i64 (j : Int) ∧ p_ = [] | 2 => v_ = elP u (((j : Int)).toNat * 1) ∧ p_ = [] | 3 => v_ = .int .i64 (xs.getD j 0) ∧ p_ = [] | 4 => v_ = v ∧ p_ = [] | 5 => v_ = .int .i64 (j : Int) ∧ p_ = [] | 6 => v_ = elP v (((j : Int)).toNat * 1) ∧ p_ = [] | 7 => v_ = .int .i64 (ys.getD j 0) ∧ p_ = [] | 8 => v_ = .bool false ∧ p_ = [] | _ => True) (List.take_append_drop 9 _).symm (by kernel_rfl) (by kernel_rfl) rfl rfl ?_ ?_
    ·
     refine ⟨?_, ?_, ?_, ?_, ?_, ?_, ?_, ?_, ?_, trivial⟩
     ·
      intro vf pf hR
      refine Or.inl ⟨rfl, ?_⟩
      refine rq_less (sx 0 rfl (sub_nil _)) (List.sublist_append_right _ _) ?_
      exact rq_v (rv_ev rfl)
     ·
      intro vf pf hR
      refine Or.inl ⟨rfl, ?_⟩
      refine rq_less (sx 5 rfl (sub_nil _)) (List.sublist_append_right _ _) ?_
      exact rq_v (rv_ev rfl)
     ·
      intro vf pf hR
      have e0 : (vf 0) = u ∧ (pf 0) = [] := hR 0 (by decide)
      have e1 : (vf 1) = .int .i64 (j : Int) ∧ (pf 1) = [] := hR 1 (by decide)
      refine Or.inl ⟨rfl, ?_⟩
      refine rq_less (sx 17 (congrArg some e0.1) (sx 18 (congrArg some e1.1) (sub_nil _))) (List.sublist_append_right _ _) ?_
      exact rq_v (rv_index (s := 1) rfl Try.underlying30 (by kernel_rfl) rfl rfl (rd_old hu) (by omega) (by first | omega | (simp only [List.length_set]; omega)))
     ·
      intro vf pf hR
      have e2 : (vf 2) = elP u (((j : Int)).toNat * 1) ∧ (pf 2) = [] := hR 2 (by decide)
      refine Or.inl ⟨rfl, ?_⟩
      refine rq_less (sx 19 (congrArg some e2.1) (sub_nil _)) (List.sublist_append_right _ _) ?_
      exact rq_v (rv_loadEl (u := .int .i64 (xs.getD j 0)) rfl (by kernel_rfl) rfl (rd_old hu) (ints_at1 (show _ < xs.length by first | omega | (simp only [List.length_set]; omega))))
     ·
      intro vf pf hR
      refine Or.inl ⟨rfl, ?_⟩
      refine rq_less (sx 1 rfl (sub_nil _)) (List.sublist_append_right _ _) ?_
      exact rq_v (rv_ev rfl)
     ·
      intro vf pf hR
      refine Or.inl ⟨rfl, ?_⟩
      refine rq_less (sx 5 rfl (sub_nil _)) (List.sublist_append_right _ _) ?_
      exact rq_v (rv_ev rfl)
     ·
      intro vf pf hR
      have e4 : (vf 4) = v ∧ (pf 4) = [] := hR 4 (by decide)
      have e5 : (vf 5) = .int .i64 (j : Int) ∧ (pf 5) = [] := hR 5 (by decide)
      refine Or.inl ⟨rfl, ?_⟩
      refine rq_less (sx 21 (congrArg some e4.1) (sx 22 (congrArg some e5.1) (sub_nil _))) (List.sublist_append_right _ _) ?_
      exact rq_v (rv_index (s := 1) rfl Try.underlying30 (by kernel_rfl) rfl rfl (rd_old hv) (by omega) (by first | omega | (simp only [List.length_set]; omega)))
     ·
      intro vf pf hR
      have e6 : (vf 6) = elP v (((j : Int)).toNat * 1) ∧ (pf 6) = [] := hR 6 (by decide)
      refine Or.inl ⟨rfl, ?_⟩
      refine rq_less (sx 23 (congrArg some e6.1) (sub_nil _)) (List.sublist_append_right _ _) ?_
      exact rq_v (rv_loadEl (u := .int .i64 (ys.getD j 0)) rfl (by kernel_rfl) rfl (rd_old hv) (ints_at1 (show _ < ys.length by first | omega | (simp only [List.length_set]; omega))))
     ·
      intro vf pf hR
      have e3 : (vf 3) = .int .i64 (xs.getD j 0) ∧ (pf 3) = [] := hR 3 (by decide)
      have e7 : (vf 7) = .int .i64 (ys.getD j 0) ∧ (pf 7) = [] := hR 7 (by decide)
      refine Or.inl ⟨rfl, ?_⟩
      refine rq_less (sx 20 (congrArg some e3.1) (sx 24 (congrArg some e7.1) (sub_nil _))) (List.sublist_append_right _ _) ?_
      exact rq_mono (rq_v (rv_cmp rfl rfl rfl rfl)) (fun _ _ h => ⟨h.1.trans (congrArg Value.bool hb4), h.2⟩)
    ·
     intro vf pf hR
     have e8 : (vf 8) = .bool false ∧ (pf 8) = [] := hR 8 (by decide)
     refine hl_less (l' := []) (sx 0 rfl (sx 1 rfl (sx 4 rfl (sx 5 rfl (sx 10 rfl (sx 14 rfl (sx 25 (congrArg some e8.1) (sub_nil _)))))))) (List.sublist_append_right _ _) ?_
     simp only [List.drop_succ_cons, List.drop_zero]
     refine hl_less (sx 0 rfl (sx 1 rfl (sx 4 rfl (sx 5 rfl (sx 10 rfl (sx 14 rfl (sx 25 rfl (sub_nil _)))))))) (.refl _) ?_
     refine hl_nil ?_
     refine hq_then ?_
     refine hc_false rfl ?_
     refine hc_skip ?_
     refine hq_block_normal ?_
     refine hq_then ?_
     refine hc_region ?_
     refine hl_v rfl rfl rfl (rv_ev rfl) ?_
     refine hl_v rfl rfl rfl (rv_add rfl rfl rfl (by constructor <;> omega)) ?_
     refine hl_v rfl rfl rfl (rv_ev rfl) ?_
     refine hl_less (sx 0 rfl (sx 1 rfl (sx 4 rfl (sx 5 rfl (sx 10 rfl (sx 14 rfl (sx 25 rfl (sub_nil _)))))))) (.refl _) ?_
     refine hl_nil ?_
     exact hq_round1 (j + 1) ⟨by omega, fun i hi => by by_cases hij : i = j; (subst hij; simpa using (by assumption)); exact hk2 i (by omega)⟩ (by omega) (sx 0 rfl (sx 1 rfl (sx 4 rfl (sx 5 rfl (sx 10 rfl (sub_nil _)))))) (.slnil)
  ·
   refine hl_less (sx 0 rfl (sx 1 rfl (sx 4 rfl (sx 5 rfl (sx 10 rfl (sx 14 rfl (sub_nil _))))))) (.refl _) ?_
   refine hl_nil ?_
   refine hq_then ?_
   refine hc_false rfl ?_
   refine hc_exit ?_
   refine hq_then_exit ?_
   refine hq_then_exit ?_
   refine hq_block_exit ?_
   refine hq_then ?_
   refine hc_seq ?_
   refine hc_region ?_
   refine hl_v rfl rfl rfl (rv_ev rfl) ?_
   refine hl_less (sx 0 rfl (sx 1 rfl (sx 4 rfl (sx 5 rfl (sx 10 rfl (sx 14 rfl (sub_nil _))))))) (.refl _) ?_
   refine hl_nil ?_
   refine hq_then ?_
   refine hc_ret ?_
   exact hq_ans rfl rfl (congrArg _ (decide_eq_true (ext_getD (d := 0) (by omega) (fun i hi => hk2 i (by omega)))).symm)
end Go.Proofs.Ytnnkbpcfjjijbaa
